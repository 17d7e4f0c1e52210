/- The law InvoicePlays: for every argument it returns true, and each argument reads afterwards as it read before (the book of invoices and the reference's, walked side by side). -/
import Derived.Test.YtfiaobhkhedpiaaRB9
import Derived.Test.YtfiaobhkhedpiaaInv11
import Derived.Test.YtfiaobhkhedpiaaSe8
import Derived.Test.YtfiaobhkhedpiaaLISum0
import Derived.Test.YtfiaobhkhedpiaaLOpen
import Derived.ProofKit
import Derived.OpenShut
import Derived.ShutString
import Derived.ChangeOld
import Derived.Below
import Derived.SizedLaws
import Derived.Lib.SmallJoins
namespace Go.Proofs.Ytfiaobhkhedpiaa
open Go.RowKit

set_option maxRecDepth 100000 in
theorem xLSame_P (b1 b2 c1 c2 : Nat) (l : List RLine) (hlen : l.length ≤ 1000000) (w0 : World) (h1 : RowAt b1 0 4 (l.map encL) w0) (k1 : b1 < w0.heap.size) (h2 : RowAt b2 0 4 (l.map encL) w0) (k2 : b2 < w0.heap.size) (hd : b1 ≠ b2) :
    PureC Try.prog 107 [.slice (some ⟨b1, 0, none⟩) l.length c1, .slice (some ⟨b2, 0, none⟩) l.length c2] w0 (.bool true) := by
  refine c_enter [(0, .slice (some ⟨b1, 0, none⟩) l.length c1), (1, .slice (some ⟨b2, 0, none⟩) l.length c2)] [rowA b1 0 4 (l.map encL), rowA b2 0 4 (l.map encL)] noB Try.func107 rfl Try.ntmps107 ⟨rfl, rfl, trivial⟩ rfl (okC (ok_row h1 k1) (okC (ok_row h2 k2) okN)) (disC (sepC (fun b e1 e2 => hd (Eq.trans (Eq.symm e1) e2)) sepN) dis1) (mineC (by rfl) (mineC (by rfl) mineN)) ?_
  intro a hS
  refine c_seq ?_
  refine c_region ?_
  refine L_op (s_e hS (e_assign rfl) rfl ?_); clear hS a; intro a hS
  refine L_nil ?_
  refine n_then ?_
  refine c_seq ?_
  refine c_seq ?_
  refine c_region ?_
  refine L_op (s_e hS (e_move rfl) rfl ?_); clear hS a; intro a hS
  refine L_op (s_e hS (e_len rfl rfl ty_sl22) rfl ?_); clear hS a; intro a hS
  refine L_op (s_e hS (e_move rfl) rfl ?_); clear hS a; intro a hS
  refine L_op (s_e hS (e_len rfl rfl ty_sl112) rfl ?_); clear hS a; intro a hS
  refine L_op (s_e hS (e_bin rfl rfl rfl) rfl ?_); clear hS a; intro a hS
  refine L_nil ?_
  refine n_then ?_
  replace hS := hS.is (t := 10) (c := false) rfl ((decide_eq_false (fun h => h rfl)))
  refine c_if_f hS rfl ?_
  refine wp_skip ?_
  refine n_then ?_
  refine c_seq ?_
  refine c_seq ?_
  refine c_region ?_
  refine L_op (s_e hS (e_assign rfl) rfl ?_); clear hS a; intro a hS
  refine L_nil ?_
  refine n_then ?_
  refine wp_block ?_
  skip
  refine c_loop (γ := Nat) (fun k a w => St 67 noB w0 a w [(5, .int .i64 (k : Int)), (0, .slice (some ⟨b1, 0, none⟩) l.length c1), (1, .slice (some ⟨b2, 0, none⟩) l.length c2)] [rowA b1 0 4 (l.map encL), rowA b2 0 4 (l.map encL)] ∧ k ≤ l.length) (fun k => l.length - k) 0 ⟨hS.slots (by repeat (first | exact trivial | refine ⟨rfl, ?_⟩)), Nat.zero_le _⟩ ?_
  clear hS a; (try clear w); intro k a w hI
  obtain ⟨hS, hk⟩ := hI
  refine c_seq ?_
  refine c_seq ?_
  refine c_region ?_
  refine L_op (s_e hS (e_move rfl) rfl ?_); clear hS a; intro a hS
  refine L_op (s_e hS (e_move rfl) rfl ?_); clear hS a; intro a hS
  refine L_op (s_e hS (e_len rfl rfl ty_sl22) rfl ?_); clear hS a; intro a hS
  refine L_op (s_e hS (e_bin rfl rfl rfl) rfl ?_); clear hS a; intro a hS
  refine L_nil ?_
  refine n_then ?_
  first | refine c_ifD hS rfl (fun hc14 => ?_) (fun hc14 => ?_) | refine c_if hS rfl (fun hc14 => ?_) (fun hc14 => ?_)
  ·
    obtain ⟨x, hx⟩ : ∃ x, l[k]? = some x := ⟨l[k]'(by omega), List.getElem?_eq_getElem (by omega)⟩
    have hx' : (l.map encL)[k]? = some (encL x) := by simp [hx]
    refine wp_skip ?_
    refine n_then ?_
    refine c_seq ?_
    refine wp_block ?_
    refine c_seq ?_
    refine c_drawS [] (by kernel_rfl) hS (sub_cons (X := rowA b1 0 4 (l.map encL)) (by repeat constructor) (sub_cons (X := rowA b2 0 4 (l.map encL)) (by repeat constructor) sub_nil)) ?_; clear hS; (try clear w); intro w hS
    simp only [List.length_cons, List.length_nil, Nat.zero_add, Nat.reduceAdd, List.replicate]
    refine Z_take0 (i := 0) hS rfl want_none (e_move rfl) (listed' := [true, false, false, false, false, false, false, false, false, false, false, false, false, false, false, false, false, false, false, false, false, false, false, false, false, false, false, false, false, false, false, false, false, false, false, false, false, false, false, false, false, false, false, false, false, false, false, false, false, false]) rfl (by kernel_rfl) (by kernel_rfl) (by kernel_rfl) (fun _ _ _ h => h) rfl ?_; clear hS a; intro a hS
    refine Z_take0 (i := 1) hS rfl want_none (e_move rfl) (listed' := [true, true, false, false, false, false, false, false, false, false, false, false, false, false, false, false, false, false, false, false, false, false, false, false, false, false, false, false, false, false, false, false, false, false, false, false, false, false, false, false, false, false, false, false, false, false, false, false, false, false]) rfl (by kernel_rfl) (by kernel_rfl) (by kernel_rfl) (fun _ _ _ h => h) rfl ?_; clear hS a; intro a hS
    refine Z_take0 (i := 2) hS rfl want_none (e_ixN rfl rfl ty_sl22 ty_sz26 (by omega)) (listed' := [true, true, true, false, false, false, false, false, false, false, false, false, false, false, false, false, false, false, false, false, false, false, false, false, false, false, false, false, false, false, false, false, false, false, false, false, false, false, false, false, false, false, false, false, false, false, false, false, false, false]) rfl (by kernel_rfl) (by kernel_rfl) (by kernel_rfl) (fun _ _ _ h => h) rfl ?_; clear hS a; intro a hS
    first | (refine Z_take0 (i := 3) hS rfl want_none (e_fa0 rfl ty_fo26_0) (listed' := [true, true, true, true, false, false, false, false, false, false, false, false, false, false, false, false, false, false, false, false, false, false, false, false, false, false, false, false, false, false, false, false, false, false, false, false, false, false, false, false, false, false, false, false, false, false, false, false, false, false]) rfl (by kernel_rfl) (by kernel_rfl) (by kernel_rfl) (fun _ _ _ h => h) rfl ?_; clear hS a; intro a hS) | (refine Z_take0 (i := 3) hS rfl want_none (e_faK rfl ty_fo26_0) (listed' := [true, true, true, true, false, false, false, false, false, false, false, false, false, false, false, false, false, false, false, false, false, false, false, false, false, false, false, false, false, false, false, false, false, false, false, false, false, false, false, false, false, false, false, false, false, false, false, false, false, false]) rfl (by kernel_rfl) (by kernel_rfl) (by kernel_rfl) (fun _ _ _ h => h) rfl ?_; clear hS a; intro a hS)
    refine Z_take (i := 4) hS rfl want_none (e_loadC rfl ty_sc9 (fun w hh => row_get (b := b1) (by repeat constructor) hx' w hh 0 (.string x.meter) rfl)) (listed' := [true, true, true, true, true, false, false, false, false, false, false, false, false, false, false, false, false, false, false, false, false, false, false, false, false, false, false, false, false, false, false, false, false, false, false, false, false, false, false, false, false, false, false, false, false, false, false, false, false, false]) rfl (by kernel_rfl) (by kernel_rfl) (by kernel_rfl) (by kernel_rfl) (by kernel_rfl) (sub_cons (by repeat constructor) (sub_cons (by repeat constructor) sub_nil)) (fun _ _ _ h => h) rfl ?_; clear hS a; intro a hS
    refine Z_take0 (i := 5) hS rfl want_none (e_move rfl) (listed' := [true, true, true, true, true, true, false, false, false, false, false, false, false, false, false, false, false, false, false, false, false, false, false, false, false, false, false, false, false, false, false, false, false, false, false, false, false, false, false, false, false, false, false, false, false, false, false, false, false, false]) rfl (by kernel_rfl) (by kernel_rfl) (by kernel_rfl) (fun _ _ _ h => h) rfl ?_; clear hS a; intro a hS
    refine Z_take0 (i := 6) hS rfl want_none (e_move rfl) (listed' := [true, true, true, true, true, true, true, false, false, false, false, false, false, false, false, false, false, false, false, false, false, false, false, false, false, false, false, false, false, false, false, false, false, false, false, false, false, false, false, false, false, false, false, false, false, false, false, false, false, false]) rfl (by kernel_rfl) (by kernel_rfl) (by kernel_rfl) (fun _ _ _ h => h) rfl ?_; clear hS a; intro a hS
    refine Z_take0 (i := 7) hS rfl want_none (e_ixN rfl rfl ty_sl112 ty_sz148 (by omega)) (listed' := [true, true, true, true, true, true, true, true, false, false, false, false, false, false, false, false, false, false, false, false, false, false, false, false, false, false, false, false, false, false, false, false, false, false, false, false, false, false, false, false, false, false, false, false, false, false, false, false, false, false]) rfl (by kernel_rfl) (by kernel_rfl) (by kernel_rfl) (fun _ _ _ h => h) rfl ?_; clear hS a; intro a hS
    first | (refine Z_take0 (i := 8) hS rfl want_none (e_fa0 rfl ty_fo148_0) (listed' := [true, true, true, true, true, true, true, true, true, false, false, false, false, false, false, false, false, false, false, false, false, false, false, false, false, false, false, false, false, false, false, false, false, false, false, false, false, false, false, false, false, false, false, false, false, false, false, false, false, false]) rfl (by kernel_rfl) (by kernel_rfl) (by kernel_rfl) (fun _ _ _ h => h) rfl ?_; clear hS a; intro a hS) | (refine Z_take0 (i := 8) hS rfl want_none (e_faK rfl ty_fo148_0) (listed' := [true, true, true, true, true, true, true, true, true, false, false, false, false, false, false, false, false, false, false, false, false, false, false, false, false, false, false, false, false, false, false, false, false, false, false, false, false, false, false, false, false, false, false, false, false, false, false, false, false, false]) rfl (by kernel_rfl) (by kernel_rfl) (by kernel_rfl) (fun _ _ _ h => h) rfl ?_; clear hS a; intro a hS)
    refine Z_take (i := 9) hS rfl want_none (e_loadC rfl ty_sc9 (fun w hh => row_get (b := b2) (by repeat constructor) hx' w hh 0 (.string x.meter) rfl)) (listed' := [true, true, true, true, true, true, true, true, true, true, false, false, false, false, false, false, false, false, false, false, false, false, false, false, false, false, false, false, false, false, false, false, false, false, false, false, false, false, false, false, false, false, false, false, false, false, false, false, false, false]) rfl (by kernel_rfl) (by kernel_rfl) (by kernel_rfl) (by kernel_rfl) (by kernel_rfl) (sub_cons (by repeat constructor) (sub_cons (by repeat constructor) sub_nil)) (fun _ _ _ h => h) rfl ?_; clear hS a; intro a hS
    refine Z_take0 (i := 10) hS rfl want_none (e_binS rfl rfl rfl) (listed' := [true, true, true, true, true, true, true, true, true, true, true, false, false, false, false, false, false, false, false, false, false, false, false, false, false, false, false, false, false, false, false, false, false, false, false, false, false, false, false, false, false, false, false, false, false, false, false, false, false, false]) rfl (by kernel_rfl) (by kernel_rfl) (by kernel_rfl) (fun _ _ _ h => h) rfl ?_; clear hS a; intro a hS
    refine Z_take0 (i := 11) hS rfl want_none (e_move rfl) (listed' := [true, true, true, true, true, true, true, true, true, true, true, true, false, false, false, false, false, false, false, false, false, false, false, false, false, false, false, false, false, false, false, false, false, false, false, false, false, false, false, false, false, false, false, false, false, false, false, false, false, false]) rfl (by kernel_rfl) (by kernel_rfl) (by kernel_rfl) (fun _ _ _ h => h) rfl ?_; clear hS a; intro a hS
    replace hS := hS.is (t := 28) (c := false) rfl ((decide_eq_false (fun h => h rfl)))
    refine Z_take0 (i := 12) hS rfl (want_go rfl rfl) (e_move rfl) (listed' := [true, true, true, true, true, true, true, true, true, true, true, true, true, false, false, false, false, false, false, false, false, false, false, false, false, false, false, false, false, false, false, false, false, false, false, false, false, false, false, false, false, false, false, false, false, false, false, false, false, false]) rfl (by kernel_rfl) (by kernel_rfl) (by kernel_rfl) (fun _ _ _ h => h) rfl ?_; clear hS a; intro a hS
    refine Z_take0 (i := 13) hS rfl (want_go rfl rfl) (e_move rfl) (listed' := [true, true, true, true, true, true, true, true, true, true, true, true, true, true, false, false, false, false, false, false, false, false, false, false, false, false, false, false, false, false, false, false, false, false, false, false, false, false, false, false, false, false, false, false, false, false, false, false, false, false]) rfl (by kernel_rfl) (by kernel_rfl) (by kernel_rfl) (fun _ _ _ h => h) rfl ?_; clear hS a; intro a hS
    refine Z_take0 (i := 14) hS rfl (want_go rfl rfl) (e_ixN rfl rfl ty_sl22 ty_sz26 (by omega)) (listed' := [true, true, true, true, true, true, true, true, true, true, true, true, true, true, true, false, false, false, false, false, false, false, false, false, false, false, false, false, false, false, false, false, false, false, false, false, false, false, false, false, false, false, false, false, false, false, false, false, false, false]) rfl (by kernel_rfl) (by kernel_rfl) (by kernel_rfl) (fun _ _ _ h => h) rfl ?_; clear hS a; intro a hS
    first | (refine Z_take0 (i := 15) hS rfl (want_go rfl rfl) (e_fa0 rfl ty_fo26_1) (listed' := [true, true, true, true, true, true, true, true, true, true, true, true, true, true, true, true, false, false, false, false, false, false, false, false, false, false, false, false, false, false, false, false, false, false, false, false, false, false, false, false, false, false, false, false, false, false, false, false, false, false]) rfl (by kernel_rfl) (by kernel_rfl) (by kernel_rfl) (fun _ _ _ h => h) rfl ?_; clear hS a; intro a hS) | (refine Z_take0 (i := 15) hS rfl (want_go rfl rfl) (e_faK rfl ty_fo26_1) (listed' := [true, true, true, true, true, true, true, true, true, true, true, true, true, true, true, true, false, false, false, false, false, false, false, false, false, false, false, false, false, false, false, false, false, false, false, false, false, false, false, false, false, false, false, false, false, false, false, false, false, false]) rfl (by kernel_rfl) (by kernel_rfl) (by kernel_rfl) (fun _ _ _ h => h) rfl ?_; clear hS a; intro a hS)
    refine Z_take (i := 16) hS rfl (want_go rfl rfl) (e_loadC rfl ty_sc3 (fun w hh => row_get (b := b1) (by repeat constructor) hx' w hh 1 (.int .i64 x.qty) rfl)) (listed' := [true, true, true, true, true, true, true, true, true, true, true, true, true, true, true, true, true, false, false, false, false, false, false, false, false, false, false, false, false, false, false, false, false, false, false, false, false, false, false, false, false, false, false, false, false, false, false, false, false, false]) rfl (by kernel_rfl) (by kernel_rfl) (by kernel_rfl) (by kernel_rfl) (by kernel_rfl) (sub_cons (by repeat constructor) (sub_cons (by repeat constructor) sub_nil)) (fun _ _ _ h => h) rfl ?_; clear hS a; intro a hS
    refine Z_take0 (i := 17) hS rfl (want_go rfl rfl) (e_move rfl) (listed' := [true, true, true, true, true, true, true, true, true, true, true, true, true, true, true, true, true, true, false, false, false, false, false, false, false, false, false, false, false, false, false, false, false, false, false, false, false, false, false, false, false, false, false, false, false, false, false, false, false, false]) rfl (by kernel_rfl) (by kernel_rfl) (by kernel_rfl) (fun _ _ _ h => h) rfl ?_; clear hS a; intro a hS
    refine Z_take0 (i := 18) hS rfl (want_go rfl rfl) (e_move rfl) (listed' := [true, true, true, true, true, true, true, true, true, true, true, true, true, true, true, true, true, true, true, false, false, false, false, false, false, false, false, false, false, false, false, false, false, false, false, false, false, false, false, false, false, false, false, false, false, false, false, false, false, false]) rfl (by kernel_rfl) (by kernel_rfl) (by kernel_rfl) (fun _ _ _ h => h) rfl ?_; clear hS a; intro a hS
    refine Z_take0 (i := 19) hS rfl (want_go rfl rfl) (e_ixN rfl rfl ty_sl112 ty_sz148 (by omega)) (listed' := [true, true, true, true, true, true, true, true, true, true, true, true, true, true, true, true, true, true, true, true, false, false, false, false, false, false, false, false, false, false, false, false, false, false, false, false, false, false, false, false, false, false, false, false, false, false, false, false, false, false]) rfl (by kernel_rfl) (by kernel_rfl) (by kernel_rfl) (fun _ _ _ h => h) rfl ?_; clear hS a; intro a hS
    first | (refine Z_take0 (i := 20) hS rfl (want_go rfl rfl) (e_fa0 rfl ty_fo148_1) (listed' := [true, true, true, true, true, true, true, true, true, true, true, true, true, true, true, true, true, true, true, true, true, false, false, false, false, false, false, false, false, false, false, false, false, false, false, false, false, false, false, false, false, false, false, false, false, false, false, false, false, false]) rfl (by kernel_rfl) (by kernel_rfl) (by kernel_rfl) (fun _ _ _ h => h) rfl ?_; clear hS a; intro a hS) | (refine Z_take0 (i := 20) hS rfl (want_go rfl rfl) (e_faK rfl ty_fo148_1) (listed' := [true, true, true, true, true, true, true, true, true, true, true, true, true, true, true, true, true, true, true, true, true, false, false, false, false, false, false, false, false, false, false, false, false, false, false, false, false, false, false, false, false, false, false, false, false, false, false, false, false, false]) rfl (by kernel_rfl) (by kernel_rfl) (by kernel_rfl) (fun _ _ _ h => h) rfl ?_; clear hS a; intro a hS)
    refine Z_take (i := 21) hS rfl (want_go rfl rfl) (e_loadC rfl ty_sc3 (fun w hh => row_get (b := b2) (by repeat constructor) hx' w hh 1 (.int .i64 x.qty) rfl)) (listed' := [true, true, true, true, true, true, true, true, true, true, true, true, true, true, true, true, true, true, true, true, true, true, false, false, false, false, false, false, false, false, false, false, false, false, false, false, false, false, false, false, false, false, false, false, false, false, false, false, false, false]) rfl (by kernel_rfl) (by kernel_rfl) (by kernel_rfl) (by kernel_rfl) (by kernel_rfl) (sub_cons (by repeat constructor) (sub_cons (by repeat constructor) sub_nil)) (fun _ _ _ h => h) rfl ?_; clear hS a; intro a hS
    refine Z_take0 (i := 22) hS rfl (want_go rfl rfl) (e_bin rfl rfl rfl) (listed' := [true, true, true, true, true, true, true, true, true, true, true, true, true, true, true, true, true, true, true, true, true, true, true, false, false, false, false, false, false, false, false, false, false, false, false, false, false, false, false, false, false, false, false, false, false, false, false, false, false, false]) rfl (by kernel_rfl) (by kernel_rfl) (by kernel_rfl) (fun _ _ _ h => h) rfl ?_; clear hS a; intro a hS
    first | (refine Z_take0 (i := 23) hS rfl want_none (e_pick_t rfl rfl) (listed' := [true, true, true, true, true, true, true, true, true, true, true, true, true, true, true, true, true, true, true, true, true, true, true, true, false, false, false, false, false, false, false, false, false, false, false, false, false, false, false, false, false, false, false, false, false, false, false, false, false, false]) rfl (by kernel_rfl) (by kernel_rfl) (by kernel_rfl) (fun _ _ _ h => h) rfl ?_; clear hS a; intro a hS) | (refine Z_take0 (i := 23) hS rfl want_none (e_pick_f rfl rfl) (listed' := [true, true, true, true, true, true, true, true, true, true, true, true, true, true, true, true, true, true, true, true, true, true, true, true, false, false, false, false, false, false, false, false, false, false, false, false, false, false, false, false, false, false, false, false, false, false, false, false, false, false]) rfl (by kernel_rfl) (by kernel_rfl) (by kernel_rfl) (fun _ _ _ h => h) rfl ?_; clear hS a; intro a hS)
    refine Z_take0 (i := 24) hS rfl want_none (e_move rfl) (listed' := [true, true, true, true, true, true, true, true, true, true, true, true, true, true, true, true, true, true, true, true, true, true, true, true, true, false, false, false, false, false, false, false, false, false, false, false, false, false, false, false, false, false, false, false, false, false, false, false, false, false]) rfl (by kernel_rfl) (by kernel_rfl) (by kernel_rfl) (fun _ _ _ h => h) rfl ?_; clear hS a; intro a hS
    replace hS := hS.is (t := 41) (c := false) rfl ((decide_eq_false (fun h => h rfl)))
    refine Z_take0 (i := 25) hS rfl (want_go rfl rfl) (e_move rfl) (listed' := [true, true, true, true, true, true, true, true, true, true, true, true, true, true, true, true, true, true, true, true, true, true, true, true, true, true, false, false, false, false, false, false, false, false, false, false, false, false, false, false, false, false, false, false, false, false, false, false, false, false]) rfl (by kernel_rfl) (by kernel_rfl) (by kernel_rfl) (fun _ _ _ h => h) rfl ?_; clear hS a; intro a hS
    refine Z_take0 (i := 26) hS rfl (want_go rfl rfl) (e_move rfl) (listed' := [true, true, true, true, true, true, true, true, true, true, true, true, true, true, true, true, true, true, true, true, true, true, true, true, true, true, true, false, false, false, false, false, false, false, false, false, false, false, false, false, false, false, false, false, false, false, false, false, false, false]) rfl (by kernel_rfl) (by kernel_rfl) (by kernel_rfl) (fun _ _ _ h => h) rfl ?_; clear hS a; intro a hS
    refine Z_take0 (i := 27) hS rfl (want_go rfl rfl) (e_ixN rfl rfl ty_sl22 ty_sz26 (by omega)) (listed' := [true, true, true, true, true, true, true, true, true, true, true, true, true, true, true, true, true, true, true, true, true, true, true, true, true, true, true, true, false, false, false, false, false, false, false, false, false, false, false, false, false, false, false, false, false, false, false, false, false, false]) rfl (by kernel_rfl) (by kernel_rfl) (by kernel_rfl) (fun _ _ _ h => h) rfl ?_; clear hS a; intro a hS
    first | (refine Z_take0 (i := 28) hS rfl (want_go rfl rfl) (e_fa0 rfl ty_fo26_2) (listed' := [true, true, true, true, true, true, true, true, true, true, true, true, true, true, true, true, true, true, true, true, true, true, true, true, true, true, true, true, true, false, false, false, false, false, false, false, false, false, false, false, false, false, false, false, false, false, false, false, false, false]) rfl (by kernel_rfl) (by kernel_rfl) (by kernel_rfl) (fun _ _ _ h => h) rfl ?_; clear hS a; intro a hS) | (refine Z_take0 (i := 28) hS rfl (want_go rfl rfl) (e_faK rfl ty_fo26_2) (listed' := [true, true, true, true, true, true, true, true, true, true, true, true, true, true, true, true, true, true, true, true, true, true, true, true, true, true, true, true, true, false, false, false, false, false, false, false, false, false, false, false, false, false, false, false, false, false, false, false, false, false]) rfl (by kernel_rfl) (by kernel_rfl) (by kernel_rfl) (fun _ _ _ h => h) rfl ?_; clear hS a; intro a hS)
    refine Z_take (i := 29) hS rfl (want_go rfl rfl) (e_loadC rfl ty_sc3 (fun w hh => row_get (b := b1) (by repeat constructor) hx' w hh 2 (.int .i64 x.net) rfl)) (listed' := [true, true, true, true, true, true, true, true, true, true, true, true, true, true, true, true, true, true, true, true, true, true, true, true, true, true, true, true, true, true, false, false, false, false, false, false, false, false, false, false, false, false, false, false, false, false, false, false, false, false]) rfl (by kernel_rfl) (by kernel_rfl) (by kernel_rfl) (by kernel_rfl) (by kernel_rfl) (sub_cons (by repeat constructor) (sub_cons (by repeat constructor) sub_nil)) (fun _ _ _ h => h) rfl ?_; clear hS a; intro a hS
    refine Z_take0 (i := 30) hS rfl (want_go rfl rfl) (e_move rfl) (listed' := [true, true, true, true, true, true, true, true, true, true, true, true, true, true, true, true, true, true, true, true, true, true, true, true, true, true, true, true, true, true, true, false, false, false, false, false, false, false, false, false, false, false, false, false, false, false, false, false, false, false]) rfl (by kernel_rfl) (by kernel_rfl) (by kernel_rfl) (fun _ _ _ h => h) rfl ?_; clear hS a; intro a hS
    refine Z_take0 (i := 31) hS rfl (want_go rfl rfl) (e_move rfl) (listed' := [true, true, true, true, true, true, true, true, true, true, true, true, true, true, true, true, true, true, true, true, true, true, true, true, true, true, true, true, true, true, true, true, false, false, false, false, false, false, false, false, false, false, false, false, false, false, false, false, false, false]) rfl (by kernel_rfl) (by kernel_rfl) (by kernel_rfl) (fun _ _ _ h => h) rfl ?_; clear hS a; intro a hS
    refine Z_take0 (i := 32) hS rfl (want_go rfl rfl) (e_ixN rfl rfl ty_sl112 ty_sz148 (by omega)) (listed' := [true, true, true, true, true, true, true, true, true, true, true, true, true, true, true, true, true, true, true, true, true, true, true, true, true, true, true, true, true, true, true, true, true, false, false, false, false, false, false, false, false, false, false, false, false, false, false, false, false, false]) rfl (by kernel_rfl) (by kernel_rfl) (by kernel_rfl) (fun _ _ _ h => h) rfl ?_; clear hS a; intro a hS
    first | (refine Z_take0 (i := 33) hS rfl (want_go rfl rfl) (e_fa0 rfl ty_fo148_2) (listed' := [true, true, true, true, true, true, true, true, true, true, true, true, true, true, true, true, true, true, true, true, true, true, true, true, true, true, true, true, true, true, true, true, true, true, false, false, false, false, false, false, false, false, false, false, false, false, false, false, false, false]) rfl (by kernel_rfl) (by kernel_rfl) (by kernel_rfl) (fun _ _ _ h => h) rfl ?_; clear hS a; intro a hS) | (refine Z_take0 (i := 33) hS rfl (want_go rfl rfl) (e_faK rfl ty_fo148_2) (listed' := [true, true, true, true, true, true, true, true, true, true, true, true, true, true, true, true, true, true, true, true, true, true, true, true, true, true, true, true, true, true, true, true, true, true, false, false, false, false, false, false, false, false, false, false, false, false, false, false, false, false]) rfl (by kernel_rfl) (by kernel_rfl) (by kernel_rfl) (fun _ _ _ h => h) rfl ?_; clear hS a; intro a hS)
    refine Z_take (i := 34) hS rfl (want_go rfl rfl) (e_loadC rfl ty_sc3 (fun w hh => row_get (b := b2) (by repeat constructor) hx' w hh 2 (.int .i64 x.net) rfl)) (listed' := [true, true, true, true, true, true, true, true, true, true, true, true, true, true, true, true, true, true, true, true, true, true, true, true, true, true, true, true, true, true, true, true, true, true, true, false, false, false, false, false, false, false, false, false, false, false, false, false, false, false]) rfl (by kernel_rfl) (by kernel_rfl) (by kernel_rfl) (by kernel_rfl) (by kernel_rfl) (sub_cons (by repeat constructor) (sub_cons (by repeat constructor) sub_nil)) (fun _ _ _ h => h) rfl ?_; clear hS a; intro a hS
    refine Z_take0 (i := 35) hS rfl (want_go rfl rfl) (e_bin rfl rfl rfl) (listed' := [true, true, true, true, true, true, true, true, true, true, true, true, true, true, true, true, true, true, true, true, true, true, true, true, true, true, true, true, true, true, true, true, true, true, true, true, false, false, false, false, false, false, false, false, false, false, false, false, false, false]) rfl (by kernel_rfl) (by kernel_rfl) (by kernel_rfl) (fun _ _ _ h => h) rfl ?_; clear hS a; intro a hS
    first | (refine Z_take0 (i := 36) hS rfl want_none (e_pick_t rfl rfl) (listed' := [true, true, true, true, true, true, true, true, true, true, true, true, true, true, true, true, true, true, true, true, true, true, true, true, true, true, true, true, true, true, true, true, true, true, true, true, true, false, false, false, false, false, false, false, false, false, false, false, false, false]) rfl (by kernel_rfl) (by kernel_rfl) (by kernel_rfl) (fun _ _ _ h => h) rfl ?_; clear hS a; intro a hS) | (refine Z_take0 (i := 36) hS rfl want_none (e_pick_f rfl rfl) (listed' := [true, true, true, true, true, true, true, true, true, true, true, true, true, true, true, true, true, true, true, true, true, true, true, true, true, true, true, true, true, true, true, true, true, true, true, true, true, false, false, false, false, false, false, false, false, false, false, false, false, false]) rfl (by kernel_rfl) (by kernel_rfl) (by kernel_rfl) (fun _ _ _ h => h) rfl ?_; clear hS a; intro a hS)
    refine Z_take0 (i := 37) hS rfl want_none (e_move rfl) (listed' := [true, true, true, true, true, true, true, true, true, true, true, true, true, true, true, true, true, true, true, true, true, true, true, true, true, true, true, true, true, true, true, true, true, true, true, true, true, true, false, false, false, false, false, false, false, false, false, false, false, false]) rfl (by kernel_rfl) (by kernel_rfl) (by kernel_rfl) (fun _ _ _ h => h) rfl ?_; clear hS a; intro a hS
    replace hS := hS.is (t := 54) (c := false) rfl ((decide_eq_false (fun h => h rfl)))
    refine Z_take0 (i := 38) hS rfl (want_go rfl rfl) (e_move rfl) (listed' := [true, true, true, true, true, true, true, true, true, true, true, true, true, true, true, true, true, true, true, true, true, true, true, true, true, true, true, true, true, true, true, true, true, true, true, true, true, true, true, false, false, false, false, false, false, false, false, false, false, false]) rfl (by kernel_rfl) (by kernel_rfl) (by kernel_rfl) (fun _ _ _ h => h) rfl ?_; clear hS a; intro a hS
    refine Z_take0 (i := 39) hS rfl (want_go rfl rfl) (e_move rfl) (listed' := [true, true, true, true, true, true, true, true, true, true, true, true, true, true, true, true, true, true, true, true, true, true, true, true, true, true, true, true, true, true, true, true, true, true, true, true, true, true, true, true, false, false, false, false, false, false, false, false, false, false]) rfl (by kernel_rfl) (by kernel_rfl) (by kernel_rfl) (fun _ _ _ h => h) rfl ?_; clear hS a; intro a hS
    refine Z_take0 (i := 40) hS rfl (want_go rfl rfl) (e_ixN rfl rfl ty_sl22 ty_sz26 (by omega)) (listed' := [true, true, true, true, true, true, true, true, true, true, true, true, true, true, true, true, true, true, true, true, true, true, true, true, true, true, true, true, true, true, true, true, true, true, true, true, true, true, true, true, true, false, false, false, false, false, false, false, false, false]) rfl (by kernel_rfl) (by kernel_rfl) (by kernel_rfl) (fun _ _ _ h => h) rfl ?_; clear hS a; intro a hS
    first | (refine Z_take0 (i := 41) hS rfl (want_go rfl rfl) (e_fa0 rfl ty_fo26_3) (listed' := [true, true, true, true, true, true, true, true, true, true, true, true, true, true, true, true, true, true, true, true, true, true, true, true, true, true, true, true, true, true, true, true, true, true, true, true, true, true, true, true, true, true, false, false, false, false, false, false, false, false]) rfl (by kernel_rfl) (by kernel_rfl) (by kernel_rfl) (fun _ _ _ h => h) rfl ?_; clear hS a; intro a hS) | (refine Z_take0 (i := 41) hS rfl (want_go rfl rfl) (e_faK rfl ty_fo26_3) (listed' := [true, true, true, true, true, true, true, true, true, true, true, true, true, true, true, true, true, true, true, true, true, true, true, true, true, true, true, true, true, true, true, true, true, true, true, true, true, true, true, true, true, true, false, false, false, false, false, false, false, false]) rfl (by kernel_rfl) (by kernel_rfl) (by kernel_rfl) (fun _ _ _ h => h) rfl ?_; clear hS a; intro a hS)
    refine Z_take (i := 42) hS rfl (want_go rfl rfl) (e_loadC rfl ty_sc3 (fun w hh => row_get (b := b1) (by repeat constructor) hx' w hh 3 (.int .i64 x.tax) rfl)) (listed' := [true, true, true, true, true, true, true, true, true, true, true, true, true, true, true, true, true, true, true, true, true, true, true, true, true, true, true, true, true, true, true, true, true, true, true, true, true, true, true, true, true, true, true, false, false, false, false, false, false, false]) rfl (by kernel_rfl) (by kernel_rfl) (by kernel_rfl) (by kernel_rfl) (by kernel_rfl) (sub_cons (by repeat constructor) (sub_cons (by repeat constructor) sub_nil)) (fun _ _ _ h => h) rfl ?_; clear hS a; intro a hS
    refine Z_take0 (i := 43) hS rfl (want_go rfl rfl) (e_move rfl) (listed' := [true, true, true, true, true, true, true, true, true, true, true, true, true, true, true, true, true, true, true, true, true, true, true, true, true, true, true, true, true, true, true, true, true, true, true, true, true, true, true, true, true, true, true, true, false, false, false, false, false, false]) rfl (by kernel_rfl) (by kernel_rfl) (by kernel_rfl) (fun _ _ _ h => h) rfl ?_; clear hS a; intro a hS
    refine Z_take0 (i := 44) hS rfl (want_go rfl rfl) (e_move rfl) (listed' := [true, true, true, true, true, true, true, true, true, true, true, true, true, true, true, true, true, true, true, true, true, true, true, true, true, true, true, true, true, true, true, true, true, true, true, true, true, true, true, true, true, true, true, true, true, false, false, false, false, false]) rfl (by kernel_rfl) (by kernel_rfl) (by kernel_rfl) (fun _ _ _ h => h) rfl ?_; clear hS a; intro a hS
    refine Z_take0 (i := 45) hS rfl (want_go rfl rfl) (e_ixN rfl rfl ty_sl112 ty_sz148 (by omega)) (listed' := [true, true, true, true, true, true, true, true, true, true, true, true, true, true, true, true, true, true, true, true, true, true, true, true, true, true, true, true, true, true, true, true, true, true, true, true, true, true, true, true, true, true, true, true, true, true, false, false, false, false]) rfl (by kernel_rfl) (by kernel_rfl) (by kernel_rfl) (fun _ _ _ h => h) rfl ?_; clear hS a; intro a hS
    first | (refine Z_take0 (i := 46) hS rfl (want_go rfl rfl) (e_fa0 rfl ty_fo148_3) (listed' := [true, true, true, true, true, true, true, true, true, true, true, true, true, true, true, true, true, true, true, true, true, true, true, true, true, true, true, true, true, true, true, true, true, true, true, true, true, true, true, true, true, true, true, true, true, true, true, false, false, false]) rfl (by kernel_rfl) (by kernel_rfl) (by kernel_rfl) (fun _ _ _ h => h) rfl ?_; clear hS a; intro a hS) | (refine Z_take0 (i := 46) hS rfl (want_go rfl rfl) (e_faK rfl ty_fo148_3) (listed' := [true, true, true, true, true, true, true, true, true, true, true, true, true, true, true, true, true, true, true, true, true, true, true, true, true, true, true, true, true, true, true, true, true, true, true, true, true, true, true, true, true, true, true, true, true, true, true, false, false, false]) rfl (by kernel_rfl) (by kernel_rfl) (by kernel_rfl) (fun _ _ _ h => h) rfl ?_; clear hS a; intro a hS)
    refine Z_take (i := 47) hS rfl (want_go rfl rfl) (e_loadC rfl ty_sc3 (fun w hh => row_get (b := b2) (by repeat constructor) hx' w hh 3 (.int .i64 x.tax) rfl)) (listed' := [true, true, true, true, true, true, true, true, true, true, true, true, true, true, true, true, true, true, true, true, true, true, true, true, true, true, true, true, true, true, true, true, true, true, true, true, true, true, true, true, true, true, true, true, true, true, true, true, false, false]) rfl (by kernel_rfl) (by kernel_rfl) (by kernel_rfl) (by kernel_rfl) (by kernel_rfl) (sub_cons (by repeat constructor) (sub_cons (by repeat constructor) sub_nil)) (fun _ _ _ h => h) rfl ?_; clear hS a; intro a hS
    refine Z_take0 (i := 48) hS rfl (want_go rfl rfl) (e_bin rfl rfl rfl) (listed' := [true, true, true, true, true, true, true, true, true, true, true, true, true, true, true, true, true, true, true, true, true, true, true, true, true, true, true, true, true, true, true, true, true, true, true, true, true, true, true, true, true, true, true, true, true, true, true, true, true, false]) rfl (by kernel_rfl) (by kernel_rfl) (by kernel_rfl) (fun _ _ _ h => h) rfl ?_; clear hS a; intro a hS
    first | (refine Z_take0 (i := 49) hS rfl want_none (e_pick_t rfl rfl) (listed' := [true, true, true, true, true, true, true, true, true, true, true, true, true, true, true, true, true, true, true, true, true, true, true, true, true, true, true, true, true, true, true, true, true, true, true, true, true, true, true, true, true, true, true, true, true, true, true, true, true, true]) rfl (by kernel_rfl) (by kernel_rfl) (by kernel_rfl) (fun _ _ _ h => h) rfl ?_; clear hS a; intro a hS) | (refine Z_take0 (i := 49) hS rfl want_none (e_pick_f rfl rfl) (listed' := [true, true, true, true, true, true, true, true, true, true, true, true, true, true, true, true, true, true, true, true, true, true, true, true, true, true, true, true, true, true, true, true, true, true, true, true, true, true, true, true, true, true, true, true, true, true, true, true, true, true]) rfl (by kernel_rfl) (by kernel_rfl) (by kernel_rfl) (fun _ _ _ h => h) rfl ?_; clear hS a; intro a hS)
    refine Z_done (by kernel_rfl) ?_
    refine n_then ?_
    replace hS := hS.is (t := 66) (c := false) rfl ((decide_eq_false (fun h => h rfl)))
    refine c_if_f hS rfl ?_
    refine wp_skip ?_
    refine n_block ?_
    refine n_then ?_
    refine c_region ?_
    refine L_op (s_e hS (e_move rfl) rfl ?_); clear hS a; intro a hS
    first | (refine L_op (s_e hS (e_binN rfl rfl rfl (by omega)) rfl ?_); clear hS a; intro a hS) | (refine L_op (s_e hS (e_bin rfl rfl rfl) rfl ?_); clear hS a; intro a hS)
    refine L_op (s_e hS (e_assign rfl) rfl ?_); clear hS a; intro a hS
    refine L_nil ?_
    exact ⟨k + 1, by omega, hS.slots (by repeat (first | exact trivial | refine ⟨rfl, ?_⟩)), by omega⟩
  ·
    refine wp_exit ?_
    refine x_then (x_then (x_hit ?_))
    refine n_then ?_
    refine c_seq ?_
    refine c_region ?_
    refine L_op (s_e hS (e_assign rfl) rfl ?_); clear hS a; intro a hS
    refine L_nil ?_
    refine n_then ?_
    refine wp_ret ?_
    refine c_ret1 hS Try.results107 (.tmp rfl) ?_
    exact ⟨rfl, hS.chg⟩
set_option maxRecDepth 100000 in
/-- an operation's lines, as the reference has them. -/
theorem xLines_P (v : Value) (l : List RLine) (hlen : l.length ≤ 1000000) (w0 : World) (h : LnAt v l w0) :
    NewC Try.prog 73 [v] w0 (fun y : Value => y) (fun y => ownA 148 4 y l.length (l.flatMap encL)) := by
  obtain ⟨ad, c, hv⟩ := LnAt.shape h
  have hok : (Asn.any (fun k => l ≠ [] ∧ v.ownBlock = some k) (fun w => LnAt v l w) false).ok w0 := ⟨fun b hb => by
    obtain ⟨b2, off, c2, e, _, hlt⟩ := LnAt.some h hb.1
    have := hb.2; rw [e] at this; simp [sliceV, Value.ownBlock] at this; omega, fun w' hw => h.keep' (fun k h1 h2 => hw k ⟨h1, h2⟩)⟩
  rw [show ([v] : List Value) = [.slice ad l.length c] by rw [hv]]
  refine c_enter [(0, .slice ad l.length c)] [.any (fun k => l ≠ [] ∧ v.ownBlock = some k) (fun w => LnAt v l w) false] noB Try.func73 rfl Try.ntmps73 ⟨rfl, trivial⟩ rfl (okC (hok) okN) dis1 (mineC (by rfl) mineN) ?_
  intro a hS
  refine c_seq ?_
  refine c_region ?_
  refine L_op (s_e hS (e_assign rfl) rfl ?_); clear hS a; intro a hS
  refine L_nil ?_
  refine n_then ?_
  refine c_seq ?_
  refine c_region ?_
  refine L_op (s_e hS (e_assign rfl) rfl ?_); clear hS a; intro a hS
  refine L_nil ?_
  refine n_then ?_
  refine c_seq ?_
  refine c_seq ?_
  replace hS := hS.fresh (Y := ownA 148 4 (.slice none 0 0) 0 ((l.take 0).flatMap encL)) (Chg.refl _ _) (ok_own (World.ownsRow_nil _ _ _ _)) (fun b hb => by cases hb)
  refine c_region ?_
  refine L_op (s_e hS (e_assign rfl) rfl ?_); clear hS a; intro a hS
  refine L_nil ?_
  refine n_then ?_
  refine wp_block ?_
  skip
  refine c_loop (γ := Nat × Value) (fun s a w => St 36 noB w0 a w [(4, .int .i64 (s.1 : Int)), (3, s.2), (0, .slice ad l.length c)] [ownA 148 4 s.2 s.1 ((l.take s.1).flatMap encL), .any (fun k => l ≠ [] ∧ v.ownBlock = some k) (fun w => LnAt v l w) false] ∧ s.1 ≤ l.length) (fun s => l.length - s.1) (0, .slice none 0 0) ⟨hS.slots (by repeat (first | exact trivial | refine ⟨rfl, ?_⟩)), Nat.zero_le _⟩ ?_
  clear hS a; (try clear w); intro s a w hI
  obtain ⟨hS, hk⟩ := hI
  obtain ⟨k, sv⟩ := s
  simp only at hS hk ⊢
  refine c_seq ?_
  refine c_seq ?_
  refine c_region ?_
  refine L_op (s_e hS (e_move rfl) rfl ?_); clear hS a; intro a hS
  refine L_op (s_e hS (e_move rfl) rfl ?_); clear hS a; intro a hS
  refine L_op (s_e hS (e_len rfl rfl ty_sl22) rfl ?_); clear hS a; intro a hS
  refine L_op (s_e hS (e_bin rfl rfl rfl) rfl ?_); clear hS a; intro a hS
  refine L_nil ?_
  refine n_then ?_
  first | refine c_ifD hS rfl (fun hc8 => ?_) (fun hc8 => ?_) | refine c_if hS rfl (fun hc8 => ?_) (fun hc8 => ?_)
  ·
    obtain ⟨x, hx⟩ : ∃ x, l[k]? = some x := ⟨l[k]'(by omega), List.getElem?_eq_getElem (by omega)⟩
    have hx' : (l.map encL)[k]? = some (encL x) := by simp [hx]
    have hne : l ≠ [] := fun e => by rw [e] at hx; simp at hx
    have ht : (l.take (k + 1)).flatMap encL = (l.take k).flatMap encL ++ encL x := by rw [List.take_add_one, hx]; simp
    obtain ⟨br, off, c2, hv2, _, _⟩ := LnAt.some h hne
    have hrd : ∀ w, LnAt v l w → ∀ j u, (encL x)[j]? = some u → w.cell? ⟨br, off + k * 4 + j, none⟩ = some u := fun w hw j u hu => by
      obtain ⟨b3, o3, c3, e3, hr3, _⟩ := LnAt.some hw hne
      rw [hv2] at e3; simp [sliceV] at e3
      obtain ⟨⟨rfl, rfl⟩, _⟩ := e3
      exact hr3 k _ hx' j u hu
    obtain rfl : ad = some ⟨br, off, none⟩ := by rw [hv2] at hv; simp [sliceV] at hv; exact hv.1.symm
    refine wp_skip ?_
    refine n_then ?_
    refine c_seq ?_
    refine wp_block ?_
    refine c_drawS [] (by kernel_rfl) hS (sub_cons (X := .any (fun k => l ≠ [] ∧ v.ownBlock = some k) (fun w => LnAt v l w) false) (by repeat constructor) sub_nil) ?_; clear hS; (try clear w); intro w hS
    simp only [List.length_cons, List.length_nil, Nat.zero_add, Nat.reduceAdd, List.replicate]
    refine Z_take0 (i := 0) hS rfl want_none (e_move rfl) (listed' := [true, false, false, false, false, false, false, false, false, false, false, false, false, false, false, false, false, false, false, false, false, false, false, false, false]) rfl (by kernel_rfl) (by kernel_rfl) (by kernel_rfl) (fun _ _ _ h => h) rfl ?_; clear hS a; intro a hS
    refine Z_take0 (i := 1) hS rfl want_none (e_move rfl) (listed' := [true, true, false, false, false, false, false, false, false, false, false, false, false, false, false, false, false, false, false, false, false, false, false, false, false]) rfl (by kernel_rfl) (by kernel_rfl) (by kernel_rfl) (fun _ _ _ h => h) rfl ?_; clear hS a; intro a hS
    refine Z_take0 (i := 2) hS rfl want_none (e_move rfl) (listed' := [true, true, true, false, false, false, false, false, false, false, false, false, false, false, false, false, false, false, false, false, false, false, false, false, false]) rfl (by kernel_rfl) (by kernel_rfl) (by kernel_rfl) (fun _ _ _ h => h) rfl ?_; clear hS a; intro a hS
    refine Z_take0 (i := 3) hS rfl want_none (e_ixN rfl rfl ty_sl22 ty_sz26 (by omega)) (listed' := [true, true, true, true, false, false, false, false, false, false, false, false, false, false, false, false, false, false, false, false, false, false, false, false, false]) rfl (by kernel_rfl) (by kernel_rfl) (by kernel_rfl) (fun _ _ _ h => h) rfl ?_; clear hS a; intro a hS
    first | (refine Z_take0 (i := 4) hS rfl want_none (e_fa0 rfl ty_fo26_0) (listed' := [true, true, true, true, true, false, false, false, false, false, false, false, false, false, false, false, false, false, false, false, false, false, false, false, false]) rfl (by kernel_rfl) (by kernel_rfl) (by kernel_rfl) (fun _ _ _ h => h) rfl ?_; clear hS a; intro a hS) | (refine Z_take0 (i := 4) hS rfl want_none (e_faK rfl ty_fo26_0) (listed' := [true, true, true, true, true, false, false, false, false, false, false, false, false, false, false, false, false, false, false, false, false, false, false, false, false]) rfl (by kernel_rfl) (by kernel_rfl) (by kernel_rfl) (fun _ _ _ h => h) rfl ?_; clear hS a; intro a hS)
    refine Z_take (i := 5) hS rfl want_none (e_loadC rfl ty_sc9 (fun w hh => hrd w (hh (.any (fun k => l ≠ [] ∧ v.ownBlock = some k) (fun w => LnAt v l w) false) (by repeat constructor)) 0 (.string x.meter) rfl)) (listed' := [true, true, true, true, true, true, false, false, false, false, false, false, false, false, false, false, false, false, false, false, false, false, false, false, false]) rfl (by kernel_rfl) (by kernel_rfl) (by kernel_rfl) (by kernel_rfl) (by kernel_rfl) (sub_cons (by repeat constructor) sub_nil) (fun _ _ _ h => h) rfl ?_; clear hS a; intro a hS
    refine Z_take0 (i := 6) hS rfl want_none (e_move rfl) (listed' := [true, true, true, true, true, true, true, false, false, false, false, false, false, false, false, false, false, false, false, false, false, false, false, false, false]) rfl (by kernel_rfl) (by kernel_rfl) (by kernel_rfl) (fun _ _ _ h => h) rfl ?_; clear hS a; intro a hS
    refine Z_take0 (i := 7) hS rfl want_none (e_move rfl) (listed' := [true, true, true, true, true, true, true, true, false, false, false, false, false, false, false, false, false, false, false, false, false, false, false, false, false]) rfl (by kernel_rfl) (by kernel_rfl) (by kernel_rfl) (fun _ _ _ h => h) rfl ?_; clear hS a; intro a hS
    refine Z_take0 (i := 8) hS rfl want_none (e_ixN rfl rfl ty_sl22 ty_sz26 (by omega)) (listed' := [true, true, true, true, true, true, true, true, true, false, false, false, false, false, false, false, false, false, false, false, false, false, false, false, false]) rfl (by kernel_rfl) (by kernel_rfl) (by kernel_rfl) (fun _ _ _ h => h) rfl ?_; clear hS a; intro a hS
    first | (refine Z_take0 (i := 9) hS rfl want_none (e_fa0 rfl ty_fo26_1) (listed' := [true, true, true, true, true, true, true, true, true, true, false, false, false, false, false, false, false, false, false, false, false, false, false, false, false]) rfl (by kernel_rfl) (by kernel_rfl) (by kernel_rfl) (fun _ _ _ h => h) rfl ?_; clear hS a; intro a hS) | (refine Z_take0 (i := 9) hS rfl want_none (e_faK rfl ty_fo26_1) (listed' := [true, true, true, true, true, true, true, true, true, true, false, false, false, false, false, false, false, false, false, false, false, false, false, false, false]) rfl (by kernel_rfl) (by kernel_rfl) (by kernel_rfl) (fun _ _ _ h => h) rfl ?_; clear hS a; intro a hS)
    refine Z_take (i := 10) hS rfl want_none (e_loadC rfl ty_sc3 (fun w hh => hrd w (hh (.any (fun k => l ≠ [] ∧ v.ownBlock = some k) (fun w => LnAt v l w) false) (by repeat constructor)) 1 (.int .i64 x.qty) rfl)) (listed' := [true, true, true, true, true, true, true, true, true, true, true, false, false, false, false, false, false, false, false, false, false, false, false, false, false]) rfl (by kernel_rfl) (by kernel_rfl) (by kernel_rfl) (by kernel_rfl) (by kernel_rfl) (sub_cons (by repeat constructor) sub_nil) (fun _ _ _ h => h) rfl ?_; clear hS a; intro a hS
    refine Z_take0 (i := 11) hS rfl want_none (e_move rfl) (listed' := [true, true, true, true, true, true, true, true, true, true, true, true, false, false, false, false, false, false, false, false, false, false, false, false, false]) rfl (by kernel_rfl) (by kernel_rfl) (by kernel_rfl) (fun _ _ _ h => h) rfl ?_; clear hS a; intro a hS
    refine Z_take0 (i := 12) hS rfl want_none (e_move rfl) (listed' := [true, true, true, true, true, true, true, true, true, true, true, true, true, false, false, false, false, false, false, false, false, false, false, false, false]) rfl (by kernel_rfl) (by kernel_rfl) (by kernel_rfl) (fun _ _ _ h => h) rfl ?_; clear hS a; intro a hS
    refine Z_take0 (i := 13) hS rfl want_none (e_ixN rfl rfl ty_sl22 ty_sz26 (by omega)) (listed' := [true, true, true, true, true, true, true, true, true, true, true, true, true, true, false, false, false, false, false, false, false, false, false, false, false]) rfl (by kernel_rfl) (by kernel_rfl) (by kernel_rfl) (fun _ _ _ h => h) rfl ?_; clear hS a; intro a hS
    first | (refine Z_take0 (i := 14) hS rfl want_none (e_fa0 rfl ty_fo26_2) (listed' := [true, true, true, true, true, true, true, true, true, true, true, true, true, true, true, false, false, false, false, false, false, false, false, false, false]) rfl (by kernel_rfl) (by kernel_rfl) (by kernel_rfl) (fun _ _ _ h => h) rfl ?_; clear hS a; intro a hS) | (refine Z_take0 (i := 14) hS rfl want_none (e_faK rfl ty_fo26_2) (listed' := [true, true, true, true, true, true, true, true, true, true, true, true, true, true, true, false, false, false, false, false, false, false, false, false, false]) rfl (by kernel_rfl) (by kernel_rfl) (by kernel_rfl) (fun _ _ _ h => h) rfl ?_; clear hS a; intro a hS)
    refine Z_take (i := 15) hS rfl want_none (e_loadC rfl ty_sc3 (fun w hh => hrd w (hh (.any (fun k => l ≠ [] ∧ v.ownBlock = some k) (fun w => LnAt v l w) false) (by repeat constructor)) 2 (.int .i64 x.net) rfl)) (listed' := [true, true, true, true, true, true, true, true, true, true, true, true, true, true, true, true, false, false, false, false, false, false, false, false, false]) rfl (by kernel_rfl) (by kernel_rfl) (by kernel_rfl) (by kernel_rfl) (by kernel_rfl) (sub_cons (by repeat constructor) sub_nil) (fun _ _ _ h => h) rfl ?_; clear hS a; intro a hS
    refine Z_take0 (i := 16) hS rfl want_none (e_move rfl) (listed' := [true, true, true, true, true, true, true, true, true, true, true, true, true, true, true, true, true, false, false, false, false, false, false, false, false]) rfl (by kernel_rfl) (by kernel_rfl) (by kernel_rfl) (fun _ _ _ h => h) rfl ?_; clear hS a; intro a hS
    refine Z_take0 (i := 17) hS rfl want_none (e_move rfl) (listed' := [true, true, true, true, true, true, true, true, true, true, true, true, true, true, true, true, true, true, false, false, false, false, false, false, false]) rfl (by kernel_rfl) (by kernel_rfl) (by kernel_rfl) (fun _ _ _ h => h) rfl ?_; clear hS a; intro a hS
    refine Z_take0 (i := 18) hS rfl want_none (e_ixN rfl rfl ty_sl22 ty_sz26 (by omega)) (listed' := [true, true, true, true, true, true, true, true, true, true, true, true, true, true, true, true, true, true, true, false, false, false, false, false, false]) rfl (by kernel_rfl) (by kernel_rfl) (by kernel_rfl) (fun _ _ _ h => h) rfl ?_; clear hS a; intro a hS
    first | (refine Z_take0 (i := 19) hS rfl want_none (e_fa0 rfl ty_fo26_3) (listed' := [true, true, true, true, true, true, true, true, true, true, true, true, true, true, true, true, true, true, true, true, false, false, false, false, false]) rfl (by kernel_rfl) (by kernel_rfl) (by kernel_rfl) (fun _ _ _ h => h) rfl ?_; clear hS a; intro a hS) | (refine Z_take0 (i := 19) hS rfl want_none (e_faK rfl ty_fo26_3) (listed' := [true, true, true, true, true, true, true, true, true, true, true, true, true, true, true, true, true, true, true, true, false, false, false, false, false]) rfl (by kernel_rfl) (by kernel_rfl) (by kernel_rfl) (fun _ _ _ h => h) rfl ?_; clear hS a; intro a hS)
    refine Z_take (i := 20) hS rfl want_none (e_loadC rfl ty_sc3 (fun w hh => hrd w (hh (.any (fun k => l ≠ [] ∧ v.ownBlock = some k) (fun w => LnAt v l w) false) (by repeat constructor)) 3 (.int .i64 x.tax) rfl)) (listed' := [true, true, true, true, true, true, true, true, true, true, true, true, true, true, true, true, true, true, true, true, true, false, false, false, false]) rfl (by kernel_rfl) (by kernel_rfl) (by kernel_rfl) (by kernel_rfl) (by kernel_rfl) (sub_cons (by repeat constructor) sub_nil) (fun _ _ _ h => h) rfl ?_; clear hS a; intro a hS
    refine Z_take0 (i := 21) hS rfl want_none (e_build ty_z148 ty_pl148 (.one rfl rfl rfl (by repeat constructor) (.one rfl rfl rfl (by repeat constructor) (.one rfl rfl rfl (by repeat constructor) (.one rfl rfl rfl (by repeat constructor) .nil))))) (listed' := [true, true, true, true, true, true, true, true, true, true, true, true, true, true, true, true, true, true, true, true, true, true, false, false, false]) rfl (by kernel_rfl) (by kernel_rfl) (by kernel_rfl) (fun _ _ _ h => h) rfl ?_; clear hS a; intro a hS
    refine Z_one (i := 22) rfl (want_none a hS.sl) (listed' := [true, true, true, true, true, true, true, true, true, true, true, true, true, true, true, true, true, true, true, true, true, true, true, false, false]) rfl (by kernel_rfl) (s_bslice hS ty_sl112 ty_sz148 ty_z148 rfl rfl rfl rfl (.agg rfl rfl .nil) rfl ?_); clear hS a; (try clear w); intro a w b33 hS
    refine Z_and hS (sub_cons (by repeat constructor) sub_nil) ?_
    refine Z_one (i := 23) rfl (want_none a hS.sl) (listed' := [true, true, true, true, true, true, true, true, true, true, true, true, true, true, true, true, true, true, true, true, true, true, true, true, false]) rfl (by kernel_rfl) (s_append1 hS rfl rfl ty_sl112 ty_sz148 ty_by148 ty_z148 rfl rfl rfl (by repeat constructor) (by repeat constructor) (by rfl) (by rfl) (fun _ => (by repeat constructor)) (by omega) ?_); clear hS a; (try clear w); intro v34 a w hv34 hS
    refine Z_and hS (sub_cons (by repeat constructor) sub_nil) ?_
    refine Z_take0 (i := 24) hS rfl want_none (e_assign rfl) (listed' := [true, true, true, true, true, true, true, true, true, true, true, true, true, true, true, true, true, true, true, true, true, true, true, true, true]) rfl (by kernel_rfl) (by kernel_rfl) (by kernel_rfl) (fun _ _ _ h => h) rfl ?_; clear hS a; intro a hS
    refine Z_done (by kernel_rfl) ?_
    refine n_block ?_
    refine n_then ?_
    refine c_region ?_
    refine L_op (s_e hS (e_move rfl) rfl ?_); clear hS a; intro a hS
    first | (refine L_op (s_e hS (e_binN rfl rfl rfl (by omega)) rfl ?_); clear hS a; intro a hS) | (refine L_op (s_e hS (e_bin rfl rfl rfl) rfl ?_); clear hS a; intro a hS)
    refine L_op (s_e hS (e_assign rfl) rfl ?_); clear hS a; intro a hS
    refine L_nil ?_
    rw [show (l.take k).flatMap encL ++ ([.string x.meter, .int .i64 x.qty, .int .i64 x.net, .int .i64 x.tax] ++ []) = (l.take (k + 1)).flatMap encL by rw [ht]; rfl] at hS
    exact ⟨(k + 1, v34), by simp only; omega, (hS.slots (by repeat (first | exact trivial | refine ⟨rfl, ?_⟩))).pick (by repeat (first | exact Pick.nil | (refine Pick.cons (by repeat (first | exact Rem.head | apply Rem.tail)) ?_))), by simp only; omega⟩
  ·
    refine wp_exit ?_
    refine x_then (x_then (x_hit ?_))
    refine n_then ?_
    refine c_seq ?_
    refine c_region ?_
    refine L_op (s_e hS (e_move rfl) rfl ?_); clear hS a; intro a hS
    refine L_op (s_e hS (e_assign rfl) rfl ?_); clear hS a; intro a hS
    refine L_nil ?_
    refine n_then ?_
    refine wp_ret ?_
    refine c_ret1 hS Try.results73 (.tmp rfl) ?_
    obtain rfl : k = l.length := by omega
    rw [List.take_length] at hS
    exact ⟨sv, rfl, hS.chg, hS.new (X := ownA 148 4 sv l.length (l.flatMap encL)) (by repeat constructor) rfl⟩
end Go.Proofs.Ytfiaobhkhedpiaa

namespace Go.Proofs.Ytfiaobhkhedpiaa
open Go.RowKit

set_option maxRecDepth 100000 in
theorem iSame_P (v : Inv) (g1 g2 c1 c2 : Nat) (hlen : v.lines.length ≤ 1000000) (w0 : World) (h1 : RowAt g1 0 4 (v.lines.map encL) w0) (k1 : g1 < w0.heap.size) (h2 : RowAt g2 0 4 (v.lines.map encL) w0) (k2 : g2 < w0.heap.size) (hd : g1 ≠ g2) :
    PureC Try.prog 79 [.agg (encI v (lnV v g1 c1)).toArray, .agg (encI v (lnV v g2 c2)).toArray] w0 (.bool true) := by
  refine c_enter [(0, .agg (encI v (lnV v g1 c1)).toArray), (1, .agg (encI v (lnV v g2 c2)).toArray)] [rowA g1 0 4 (v.lines.map encL), rowA g2 0 4 (v.lines.map encL)] noB Try.func79 rfl Try.ntmps79 ⟨rfl, rfl, trivial⟩ rfl (okC (ok_row h1 k1) (okC (ok_row h2 k2) okN)) (disC (sepC (fun b e1 e2 => hd (Eq.trans (Eq.symm e1) e2)) sepN) dis1) (mineC (by rfl) (mineC (by rfl) mineN)) ?_
  intro a hS
  refine c_seq ?_
  refine c_region ?_
  refine L_op (s_boxA hS rfl rfl ?_); clear hS a; (try clear w); intro a w b2 hS
  refine L_op (s_boxA hS rfl rfl ?_); clear hS a; (try clear w); intro a w b3 hS
  refine L_op (s_e hS (e_assign rfl) rfl ?_); clear hS a; intro a hS
  refine L_nil ?_
  refine n_then ?_
  refine c_seq ?_
  refine c_region ?_
  first | (refine L_op (s_e hS (e_fa0 rfl ty_fo34_4) rfl ?_); clear hS a; intro a hS) | (refine L_op (s_e hS (e_faK rfl ty_fo34_4) rfl ?_); clear hS a; intro a hS)
  refine L_op (s_e hS (e_load rfl (by repeat constructor) ty_sc9 (by rfl)) rfl ?_); clear hS a; intro a hS
  first | (refine L_op (s_e hS (e_fa0 rfl ty_fo119_4) rfl ?_); clear hS a; intro a hS) | (refine L_op (s_e hS (e_faK rfl ty_fo119_4) rfl ?_); clear hS a; intro a hS)
  refine L_op (s_e hS (e_load rfl (by repeat constructor) ty_sc9 (by rfl)) rfl ?_); clear hS a; intro a hS
  refine L_op (s_e hS (e_binS rfl rfl rfl) rfl ?_); clear hS a; intro a hS
  refine L_op (s_e hS (e_move rfl) rfl ?_); clear hS a; intro a hS
  replace hS := hS.is (t := 11) (c := true) rfl ((decide_eq_true rfl))
  first | (refine L_go hS rfl rfl (s_e hS (e_fa0 rfl ty_fo34_5) rfl ?_); clear hS a; intro a hS) | (refine L_go hS rfl rfl (s_e hS (e_faK rfl ty_fo34_5) rfl ?_); clear hS a; intro a hS)
  refine L_go hS rfl rfl (s_e hS (e_load rfl (by repeat constructor) ty_sc9 (by rfl)) rfl ?_); clear hS a; intro a hS
  first | (refine L_go hS rfl rfl (s_e hS (e_fa0 rfl ty_fo119_5) rfl ?_); clear hS a; intro a hS) | (refine L_go hS rfl rfl (s_e hS (e_faK rfl ty_fo119_5) rfl ?_); clear hS a; intro a hS)
  refine L_go hS rfl rfl (s_e hS (e_load rfl (by repeat constructor) ty_sc9 (by rfl)) rfl ?_); clear hS a; intro a hS
  refine L_go hS rfl rfl (s_e hS (e_binS rfl rfl rfl) rfl ?_); clear hS a; intro a hS
  first | (refine L_op (s_e hS (e_pick_t rfl rfl) rfl ?_); clear hS a; intro a hS) | (refine L_op (s_e hS (e_pick_f rfl rfl) rfl ?_); clear hS a; intro a hS)
  refine L_op (s_e hS (e_move rfl) rfl ?_); clear hS a; intro a hS
  replace hS := hS.is (t := 18) (c := true) rfl ((decide_eq_true rfl))
  first | (refine L_go hS rfl rfl (s_e hS (e_fa0 rfl ty_fo34_6) rfl ?_); clear hS a; intro a hS) | (refine L_go hS rfl rfl (s_e hS (e_faK rfl ty_fo34_6) rfl ?_); clear hS a; intro a hS)
  refine L_go hS rfl rfl (s_e hS (e_load rfl (by repeat constructor) ty_sc22 (by rfl)) rfl ?_); clear hS a; intro a hS
  first | (refine L_go hS rfl rfl (s_e hS (e_fa0 rfl ty_fo119_6) rfl ?_); clear hS a; intro a hS) | (refine L_go hS rfl rfl (s_e hS (e_faK rfl ty_fo119_6) rfl ?_); clear hS a; intro a hS)
  refine L_go hS rfl rfl (s_e hS (e_load rfl (by repeat constructor) ty_sc112 (by rfl)) rfl ?_); clear hS a; intro a hS
  refine L_go hS rfl rfl (s_callP hS (.cons rfl (.cons rfl .nil)) cf107 rfl (xLSame_P g1 g2 c1 c2 v.lines hlen _ (hS.get (X := rowA g1 0 4 (v.lines.map encL)) (by repeat constructor)) ((hS.ok (rowA g1 0 4 (v.lines.map encL)) (by repeat constructor)).lt g1 rfl) (hS.get (X := rowA g2 0 4 (v.lines.map encL)) (by repeat constructor)) ((hS.ok (rowA g2 0 4 (v.lines.map encL)) (by repeat constructor)).lt g2 rfl) hd) ?_); clear hS a; (try clear w); intro a w hS
  first | (refine L_op (s_e hS (e_pick_t rfl rfl) rfl ?_); clear hS a; intro a hS) | (refine L_op (s_e hS (e_pick_f rfl rfl) rfl ?_); clear hS a; intro a hS)
  refine L_op (s_e hS (e_assign rfl) rfl ?_); clear hS a; intro a hS
  refine L_nil ?_
  refine n_then ?_
  refine c_seq ?_
  refine c_region ?_
  refine L_op (s_e hS (e_move rfl) rfl ?_); clear hS a; intro a hS
  refine L_op (s_e hS (e_move rfl) rfl ?_); clear hS a; intro a hS
  replace hS := hS.is (t := 26) (c := true) rfl (rfl)
  first | (refine L_go hS rfl rfl (s_e hS (e_fa0 rfl ty_fo34_0) rfl ?_); clear hS a; intro a hS) | (refine L_go hS rfl rfl (s_e hS (e_faK rfl ty_fo34_0) rfl ?_); clear hS a; intro a hS)
  refine L_go hS rfl rfl (s_e hS (e_load rfl (by repeat constructor) ty_sc3 (by rfl)) rfl ?_); clear hS a; intro a hS
  first | (refine L_go hS rfl rfl (s_e hS (e_fa0 rfl ty_fo119_0) rfl ?_); clear hS a; intro a hS) | (refine L_go hS rfl rfl (s_e hS (e_faK rfl ty_fo119_0) rfl ?_); clear hS a; intro a hS)
  refine L_go hS rfl rfl (s_e hS (e_load rfl (by repeat constructor) ty_sc3 (by rfl)) rfl ?_); clear hS a; intro a hS
  refine L_go hS rfl rfl (s_e hS (e_bin rfl rfl rfl) rfl ?_); clear hS a; intro a hS
  first | (refine L_op (s_e hS (e_pick_t rfl rfl) rfl ?_); clear hS a; intro a hS) | (refine L_op (s_e hS (e_pick_f rfl rfl) rfl ?_); clear hS a; intro a hS)
  refine L_op (s_e hS (e_move rfl) rfl ?_); clear hS a; intro a hS
  replace hS := hS.is (t := 33) (c := true) rfl ((decide_eq_true rfl))
  first | (refine L_go hS rfl rfl (s_e hS (e_fa0 rfl ty_fo34_1) rfl ?_); clear hS a; intro a hS) | (refine L_go hS rfl rfl (s_e hS (e_faK rfl ty_fo34_1) rfl ?_); clear hS a; intro a hS)
  refine L_go hS rfl rfl (s_e hS (e_load rfl (by repeat constructor) ty_sc3 (by rfl)) rfl ?_); clear hS a; intro a hS
  first | (refine L_go hS rfl rfl (s_e hS (e_fa0 rfl ty_fo119_1) rfl ?_); clear hS a; intro a hS) | (refine L_go hS rfl rfl (s_e hS (e_faK rfl ty_fo119_1) rfl ?_); clear hS a; intro a hS)
  refine L_go hS rfl rfl (s_e hS (e_load rfl (by repeat constructor) ty_sc3 (by rfl)) rfl ?_); clear hS a; intro a hS
  refine L_go hS rfl rfl (s_e hS (e_bin rfl rfl rfl) rfl ?_); clear hS a; intro a hS
  first | (refine L_op (s_e hS (e_pick_t rfl rfl) rfl ?_); clear hS a; intro a hS) | (refine L_op (s_e hS (e_pick_f rfl rfl) rfl ?_); clear hS a; intro a hS)
  refine L_op (s_e hS (e_move rfl) rfl ?_); clear hS a; intro a hS
  replace hS := hS.is (t := 40) (c := true) rfl ((decide_eq_true rfl))
  first | (refine L_go hS rfl rfl (s_e hS (e_fa0 rfl ty_fo34_2) rfl ?_); clear hS a; intro a hS) | (refine L_go hS rfl rfl (s_e hS (e_faK rfl ty_fo34_2) rfl ?_); clear hS a; intro a hS)
  refine L_go hS rfl rfl (s_e hS (e_load rfl (by repeat constructor) ty_sc3 (by rfl)) rfl ?_); clear hS a; intro a hS
  first | (refine L_go hS rfl rfl (s_e hS (e_fa0 rfl ty_fo119_2) rfl ?_); clear hS a; intro a hS) | (refine L_go hS rfl rfl (s_e hS (e_faK rfl ty_fo119_2) rfl ?_); clear hS a; intro a hS)
  refine L_go hS rfl rfl (s_e hS (e_load rfl (by repeat constructor) ty_sc3 (by rfl)) rfl ?_); clear hS a; intro a hS
  refine L_go hS rfl rfl (s_e hS (e_bin rfl rfl rfl) rfl ?_); clear hS a; intro a hS
  first | (refine L_op (s_e hS (e_pick_t rfl rfl) rfl ?_); clear hS a; intro a hS) | (refine L_op (s_e hS (e_pick_f rfl rfl) rfl ?_); clear hS a; intro a hS)
  refine L_op (s_e hS (e_move rfl) rfl ?_); clear hS a; intro a hS
  replace hS := hS.is (t := 47) (c := true) rfl ((decide_eq_true rfl))
  first | (refine L_go hS rfl rfl (s_e hS (e_fa0 rfl ty_fo34_3) rfl ?_); clear hS a; intro a hS) | (refine L_go hS rfl rfl (s_e hS (e_faK rfl ty_fo34_3) rfl ?_); clear hS a; intro a hS)
  refine L_go hS rfl rfl (s_e hS (e_load rfl (by repeat constructor) ty_sc3 (by rfl)) rfl ?_); clear hS a; intro a hS
  first | (refine L_go hS rfl rfl (s_e hS (e_fa0 rfl ty_fo119_3) rfl ?_); clear hS a; intro a hS) | (refine L_go hS rfl rfl (s_e hS (e_faK rfl ty_fo119_3) rfl ?_); clear hS a; intro a hS)
  refine L_go hS rfl rfl (s_e hS (e_load rfl (by repeat constructor) ty_sc3 (by rfl)) rfl ?_); clear hS a; intro a hS
  refine L_go hS rfl rfl (s_e hS (e_bin rfl rfl rfl) rfl ?_); clear hS a; intro a hS
  first | (refine L_op (s_e hS (e_pick_t rfl rfl) rfl ?_); clear hS a; intro a hS) | (refine L_op (s_e hS (e_pick_f rfl rfl) rfl ?_); clear hS a; intro a hS)
  refine L_op (s_e hS (e_move rfl) rfl ?_); clear hS a; intro a hS
  replace hS := hS.is (t := 54) (c := true) rfl ((decide_eq_true rfl))
  first | (refine L_go hS rfl rfl (s_e hS (e_fa0 rfl ty_fo34_7) rfl ?_); clear hS a; intro a hS) | (refine L_go hS rfl rfl (s_e hS (e_faK rfl ty_fo34_7) rfl ?_); clear hS a; intro a hS)
  refine L_go hS rfl rfl (s_e hS (e_load rfl (by repeat constructor) ty_sc3 (by rfl)) rfl ?_); clear hS a; intro a hS
  first | (refine L_go hS rfl rfl (s_e hS (e_fa0 rfl ty_fo119_7) rfl ?_); clear hS a; intro a hS) | (refine L_go hS rfl rfl (s_e hS (e_faK rfl ty_fo119_7) rfl ?_); clear hS a; intro a hS)
  refine L_go hS rfl rfl (s_e hS (e_load rfl (by repeat constructor) ty_sc3 (by rfl)) rfl ?_); clear hS a; intro a hS
  refine L_go hS rfl rfl (s_e hS (e_bin rfl rfl rfl) rfl ?_); clear hS a; intro a hS
  first | (refine L_op (s_e hS (e_pick_t rfl rfl) rfl ?_); clear hS a; intro a hS) | (refine L_op (s_e hS (e_pick_f rfl rfl) rfl ?_); clear hS a; intro a hS)
  refine L_op (s_e hS (e_move rfl) rfl ?_); clear hS a; intro a hS
  replace hS := hS.is (t := 61) (c := true) rfl ((decide_eq_true rfl))
  first | (refine L_go hS rfl rfl (s_e hS (e_fa0 rfl ty_fo34_8) rfl ?_); clear hS a; intro a hS) | (refine L_go hS rfl rfl (s_e hS (e_faK rfl ty_fo34_8) rfl ?_); clear hS a; intro a hS)
  refine L_go hS rfl rfl (s_e hS (e_load rfl (by repeat constructor) ty_sc3 (by rfl)) rfl ?_); clear hS a; intro a hS
  first | (refine L_go hS rfl rfl (s_e hS (e_fa0 rfl ty_fo119_8) rfl ?_); clear hS a; intro a hS) | (refine L_go hS rfl rfl (s_e hS (e_faK rfl ty_fo119_8) rfl ?_); clear hS a; intro a hS)
  refine L_go hS rfl rfl (s_e hS (e_load rfl (by repeat constructor) ty_sc3 (by rfl)) rfl ?_); clear hS a; intro a hS
  refine L_go hS rfl rfl (s_e hS (e_bin rfl rfl rfl) rfl ?_); clear hS a; intro a hS
  first | (refine L_op (s_e hS (e_pick_t rfl rfl) rfl ?_); clear hS a; intro a hS) | (refine L_op (s_e hS (e_pick_f rfl rfl) rfl ?_); clear hS a; intro a hS)
  refine L_op (s_e hS (e_move rfl) rfl ?_); clear hS a; intro a hS
  replace hS := hS.is (t := 68) (c := true) rfl ((decide_eq_true rfl))
  first | (refine L_go hS rfl rfl (s_e hS (e_fa0 rfl ty_fo34_9) rfl ?_); clear hS a; intro a hS) | (refine L_go hS rfl rfl (s_e hS (e_faK rfl ty_fo34_9) rfl ?_); clear hS a; intro a hS)
  refine L_go hS rfl rfl (s_e hS (e_load rfl (by repeat constructor) ty_sc3 (by rfl)) rfl ?_); clear hS a; intro a hS
  first | (refine L_go hS rfl rfl (s_e hS (e_fa0 rfl ty_fo119_9) rfl ?_); clear hS a; intro a hS) | (refine L_go hS rfl rfl (s_e hS (e_faK rfl ty_fo119_9) rfl ?_); clear hS a; intro a hS)
  refine L_go hS rfl rfl (s_e hS (e_load rfl (by repeat constructor) ty_sc3 (by rfl)) rfl ?_); clear hS a; intro a hS
  refine L_go hS rfl rfl (s_e hS (e_bin rfl rfl rfl) rfl ?_); clear hS a; intro a hS
  first | (refine L_op (s_e hS (e_pick_t rfl rfl) rfl ?_); clear hS a; intro a hS) | (refine L_op (s_e hS (e_pick_f rfl rfl) rfl ?_); clear hS a; intro a hS)
  refine L_op (s_e hS (e_move rfl) rfl ?_); clear hS a; intro a hS
  replace hS := hS.is (t := 75) (c := true) rfl ((decide_eq_true rfl))
  first | (refine L_go hS rfl rfl (s_e hS (e_fa0 rfl ty_fo34_10) rfl ?_); clear hS a; intro a hS) | (refine L_go hS rfl rfl (s_e hS (e_faK rfl ty_fo34_10) rfl ?_); clear hS a; intro a hS)
  refine L_go hS rfl rfl (s_e hS (e_load rfl (by repeat constructor) ty_sc3 (by rfl)) rfl ?_); clear hS a; intro a hS
  first | (refine L_go hS rfl rfl (s_e hS (e_fa0 rfl ty_fo119_10) rfl ?_); clear hS a; intro a hS) | (refine L_go hS rfl rfl (s_e hS (e_faK rfl ty_fo119_10) rfl ?_); clear hS a; intro a hS)
  refine L_go hS rfl rfl (s_e hS (e_load rfl (by repeat constructor) ty_sc3 (by rfl)) rfl ?_); clear hS a; intro a hS
  refine L_go hS rfl rfl (s_e hS (e_bin rfl rfl rfl) rfl ?_); clear hS a; intro a hS
  first | (refine L_op (s_e hS (e_pick_t rfl rfl) rfl ?_); clear hS a; intro a hS) | (refine L_op (s_e hS (e_pick_f rfl rfl) rfl ?_); clear hS a; intro a hS)
  refine L_op (s_e hS (e_move rfl) rfl ?_); clear hS a; intro a hS
  replace hS := hS.is (t := 82) (c := true) rfl ((decide_eq_true rfl))
  first | (refine L_go hS rfl rfl (s_e hS (e_fa0 rfl ty_fo34_11) rfl ?_); clear hS a; intro a hS) | (refine L_go hS rfl rfl (s_e hS (e_faK rfl ty_fo34_11) rfl ?_); clear hS a; intro a hS)
  refine L_go hS rfl rfl (s_e hS (e_load rfl (by repeat constructor) ty_sc3 (by rfl)) rfl ?_); clear hS a; intro a hS
  first | (refine L_go hS rfl rfl (s_e hS (e_fa0 rfl ty_fo119_11) rfl ?_); clear hS a; intro a hS) | (refine L_go hS rfl rfl (s_e hS (e_faK rfl ty_fo119_11) rfl ?_); clear hS a; intro a hS)
  refine L_go hS rfl rfl (s_e hS (e_load rfl (by repeat constructor) ty_sc3 (by rfl)) rfl ?_); clear hS a; intro a hS
  refine L_go hS rfl rfl (s_e hS (e_bin rfl rfl rfl) rfl ?_); clear hS a; intro a hS
  first | (refine L_op (s_e hS (e_pick_t rfl rfl) rfl ?_); clear hS a; intro a hS) | (refine L_op (s_e hS (e_pick_f rfl rfl) rfl ?_); clear hS a; intro a hS)
  refine L_op (s_e hS (e_move rfl) rfl ?_); clear hS a; intro a hS
  replace hS := hS.is (t := 89) (c := true) rfl ((decide_eq_true rfl))
  first | (refine L_go hS rfl rfl (s_e hS (e_fa0 rfl ty_fo34_12) rfl ?_); clear hS a; intro a hS) | (refine L_go hS rfl rfl (s_e hS (e_faK rfl ty_fo34_12) rfl ?_); clear hS a; intro a hS)
  refine L_go hS rfl rfl (s_e hS (e_load rfl (by repeat constructor) ty_sc3 (by rfl)) rfl ?_); clear hS a; intro a hS
  first | (refine L_go hS rfl rfl (s_e hS (e_fa0 rfl ty_fo119_12) rfl ?_); clear hS a; intro a hS) | (refine L_go hS rfl rfl (s_e hS (e_faK rfl ty_fo119_12) rfl ?_); clear hS a; intro a hS)
  refine L_go hS rfl rfl (s_e hS (e_load rfl (by repeat constructor) ty_sc3 (by rfl)) rfl ?_); clear hS a; intro a hS
  refine L_go hS rfl rfl (s_e hS (e_bin rfl rfl rfl) rfl ?_); clear hS a; intro a hS
  first | (refine L_op (s_e hS (e_pick_t rfl rfl) rfl ?_); clear hS a; intro a hS) | (refine L_op (s_e hS (e_pick_f rfl rfl) rfl ?_); clear hS a; intro a hS)
  refine L_op (s_e hS (e_assign rfl) rfl ?_); clear hS a; intro a hS
  refine L_nil ?_
  refine n_then ?_
  refine wp_ret ?_
  refine c_ret1 hS Try.results79 (.tmp rfl) ?_
  exact ⟨by first | rfl | (simp; done), hS.chg⟩
end Go.Proofs.Ytfiaobhkhedpiaa

namespace Go.Proofs.Ytfiaobhkhedpiaa
open Go.RowKit
variable {P : Program} {n : Nat} {w : World} {a : Act} {L : List (Nat × Value)} {Γ : List Asn} {dst : Option Nat}
variable {ty : Nat} {pos : String} {af : Array Edge} {g : Option (Nat × Bool)}

theorem run_append_nothing (t ty e : TypeId) (i : TypeInfo) (size : Nat) (ht : P.underlying t = some (.slice e)) (hi : P.info? e = some i) (v : Value) (m : Nat) (xs : List Value) (hown : w.ownsRow 0 e size v m xs) (ad : Option Addr) (c : Nat) :
    (Builtin.append_ #[t, t] ty #[v, .slice ad 0 c]).run P w = .ok v w := by
  rcases hown.2 with ⟨rfl, rfl⟩ | ⟨g, cap, cur, rfl, _, _, hnc, _⟩
  · cases ad <;> simp [Builtin.append_, run_underlying ht, sizeOf, typeInfo, hi, Builtin.lenOf, Builtin.firstCells, loadCells, loadCellsFrom]
  · cases ad <;> simp [Builtin.append_, run_underlying ht, sizeOf, typeInfo, hi, Builtin.lenOf, Builtin.firstCells, loadCells, loadCellsFrom, hnc, storeCells]
theorem e_appendE {T E s b m c : Nat} {zs : List Value} {x y : Operand} {v : Value} {ad : Option Addr} {cs : List Value} (hx : ev L x = some v) (hy : ev L y = some (.slice ad 0 c))
    (hT : sliceT P T = some E) (hs : szOf P E = some s) (hb : byOf P E = some b) (hz : zeroOf P E = some zs) (hm : ownA E s v m cs ∈ Γ) : Ex P n a L Γ ⟨dst, .call ⟨.builtin .append, #[x, y], #[T, T]⟩, ty, pos, af, g⟩ v := fun hs' w hh => by
  obtain ⟨i, z, hi, hz', hsz, hby, hzc⟩ := info_of hs hb hz
  have hown : w.ownsRow 0 E s v m cs := hh _ hm
  have h := run_append_nothing (P := P) (w := w) T ty E i s (sliceT_eq hT) hi v m cs hown ad c
  simp [execOp, resolve, invoke, builtin, hs'.ev hx, hs'.ev hy, h]
section
variable {F0 : Nat → Prop} {w0 : World} {K : Act → World → Prop} {Q : Exit → Act → World → Prop} {d : Nat}
/-- 'append(s, x..)' of what can be read, or of nothing. -/
theorem s_appendL {T E s b : Nat} {zs : List Value} {x y : Operand} {v : Value} {m k c : Nat} {q : Option Addr} {cs ys : List Value} {Γ' : Value → List Asn} (hS : St n F0 w0 a w L Γ) (hx : ev L x = some v) (hy : ev L y = some (.slice q k c))
    (hT : sliceT P T = some E) (hs : szOf P E = some s) (hb : byOf P E = some b) (hz : zeroOf P E = some zs) (hzl : Nat.beq zs.length s = true) (hs0 : Nat.blt 0 s = true) (hn : Nat.blt d n = true)
    (hm : ownA E s v m cs ∈ Γ) (hyl : ys.length = k * s) (hq : (k = 0 ∧ ys = []) ∨ ∃ bx ox, q = some ⟨bx, ox, none⟩ ∧ ∀ j u, ys[j]? = some u → w.cell? ⟨bx, ox + j, none⟩ = some u) (h1 : ∀ u ∈ ys, isOne u = true) (hbd : (m + k) * b ≤ 140737488355328 ∧ m + k ≤ 4611686018427387904)
    (hr : ∀ v', Rep (ownA E s v m cs) (ownA E s v' (m + k) (cs ++ ys)) Γ (Γ' v'))
    (h : ∀ v' a' w', (v' = .slice none 0 0 ↔ v = .slice none 0 0 ∧ k = 0) → St n F0 w0 a' w' ((d, v') :: L) (Γ' v') → K a' w') : OW P ⟨some d, .call ⟨.builtin .append, #[x, y], #[T, T]⟩, ty, pos, af, g⟩ a w K Q := by
  rcases hq with ⟨rfl, rfl⟩ | ⟨bx, ox, rfl, hys⟩
  · refine s_e hS (e_appendE hx hy hT hs hb hz hm) hn (fun a' hS' => h v a' w (by simp) ?_)
    have hown : w.ownsRow 0 E s v m cs := hS.get hm
    refine hS'.upd (hr v) (Chg.refl _ _) ?_ (fun b hb => .inl hb) rfl
    have := ok_own (w := w) (E := E) (s := s) (v := v) (m := m) (xs := cs) hown
    rwa [Nat.add_zero, List.append_nil]
  · exact s_append hS hx hy hT hs hb hz hzl hs0 hn hm hyl hys h1 hbd hr h
end
end Go.Proofs.Ytfiaobhkhedpiaa

namespace Go.Proofs.Ytfiaobhkhedpiaa
open Go.RowKit

/-- the book and the reference's, side by side. -/
structure TB where
  sv : Value
  its : List IA
  rv : Value
  rts : List IA
def twoF (bk bw : Nat) (y : TB) (k : Nat) : Prop := bookF bk y.sv y.its k ∨ rbF bw y.rv y.rts k
structure twoφ (bk bw : Nat) (y : TB) (w : World) : Prop where
  b : bookφ bk y.sv y.its w
  r : rbφ bw y.rv y.rts w
  d : ∀ k, bookF bk y.sv y.its k → ¬ rbF bw y.rv y.rts k
def twoB (bk bw : Nat) (y : TB) : Asn := .any (twoF bk bw y) (twoφ bk bw y) true
theorem twoB_ok {bk bw : Nat} {y : TB} {w : World} (h1 : (bookA bk y.sv y.its true).ok w) (h2 : (rbA bw y.rv y.rts true).ok w) (hd : ∀ k, bookF bk y.sv y.its k → ¬ rbF bw y.rv y.rts k) : (twoB bk bw y).ok w :=
  ⟨fun b hb => hb.elim (h1.lt b) (h2.lt b), fun w' hw => ⟨h1.hold w' (fun b hb => hw b (.inl hb)), h2.hold w' (fun b hb => hw b (.inr hb)), hd⟩⟩
/-- the two say the same. -/
structure same2 (y : TB) (N : Nat) : Prop where
  eq : vs y.its = vs y.rts
  right : rightB (vs y.its)
  len : y.its.length ≤ N
theorem two_end {n : Nat} {w0 w : World} {a : Act} {L : List (Nat × Value)} {Γ : List Asn} {bk bw : Nat} {y y' : TB} {N : Nat} (hS : St n (twoF bk bw y) w0 a w L Γ) {Γ' : List Asn} (h1 : Rem (bookA bk y'.sv y'.its true) Γ Γ') (h2 : rbA bw y'.rv y'.rts true ∈ Γ') (h3 : rbA bw y'.rv y'.rts true ∈ Γ) (h4 : bookA bk y'.sv y'.its true ∈ Γ) (hs : same2 y' N) :
    ∃ x : { y : TB // same2 y N }, Ending.returned (Value.bool true) = Ending.returned (Value.bool true) ∧ Chg (twoB bk bw y).F w0 w ∧ (twoB bk bw x.1).ok w ∧ ∀ b, (twoB bk bw x.1).F b → (twoB bk bw y).F b ∨ w0.heap.size ≤ b :=
  ⟨⟨y', hs⟩, rfl, hS.chg, twoB_ok (hS.ok _ h4) (hS.ok _ h3) (fun k hk => hS.sep h1 h2 k hk), fun b hb => hb.elim (fun h => (hS.mine _ h4 rfl b h).symm) (fun h => (hS.mine _ h3 rfl b h).symm)⟩
theorem ln_read {v : Value} {l : List RLine} {w : World} (h : LnAt v l w) {ad : Option Addr} {c : Nat} (hv : v = .slice ad l.length c) : (l.length = 0 ∧ l.flatMap encL = []) ∨ ∃ bx ox, ad = some ⟨bx, ox, none⟩ ∧ ∀ j u, (l.flatMap encL)[j]? = some u → w.cell? ⟨bx, ox + j, none⟩ = some u := by
  by_cases hne : l = []
  · subst hne; exact .inl ⟨rfl, rfl⟩
  · obtain ⟨b, off, c2, e, hr, _⟩ := LnAt.some h hne
    rw [hv] at e; simp [sliceV] at e
    exact .inr ⟨b, off, e.1, row_flat hr⟩
theorem xIssue_F (bw : Nat) (sv : Value) (its : List IA) (account cur : ByteArray) (at_ f t : Int) (v : Value) (l : List RLine) (hs : account.size ≤ 4611686018427387904) (hn : its.length ≤ 1000000) (hfit : ∀ x ∈ l, x.fits)
    (w0 : World) (h : rbφ bw sv its w0) (hv : w0.ownsRow 0 148 4 v l.length (l.flatMap encL)) (hd : ∀ k, v.ownBlock = some k → ¬ rbF bw sv its k) :
    MutC Try.prog 72 [.pointer (some ⟨bw, 0, none⟩), .string account, .string cur, .int .i64 at_, .int .i64 f, .int .i64 t, v] w0 (rbA bw sv its true) (fun _ : { y : Value × List IA // vs y.2 = (issF (vs its) account cur at_ f t l).1 } => .tuple [.int .i64 (issF (vs its) account cur at_ f t l).2.1, .int .i64 (issF (vs its) account cur at_ f t l).2.2].toArray) (fun y => rbA bw y.1.1 y.1.2 true) := by
  by_cases hE : issE (vs its) account cur at_ f t l = 0
  · have e : issF (vs its) account cur at_ f t l = (vs its ++ [newInv its.length account cur at_ f t l], (its.length : Int) + 1, 0) := by unfold issF; rw [if_pos hE, vs_len]
    obtain ⟨g, c, rfl⟩ := own_some hv (fun e0 => by
      have := (issE_zero hE).1.1
      rw [e0] at hv
      rcases hv.2 with ⟨_, e2⟩ | ⟨g, cap, cu, e1, _⟩
      · omega
      · injection e1 with e3; cases e3)
    have hlt := (World.ownsRow.lt hv g rfl).2
    exact (xIssue_ok bw sv its account cur at_ f t g 0 c l hs hn hfit w0 h (row_of_own (enc := encL) (fun _ => rfl) hv) hlt (hd g rfl) hE).mono fun e' w' ⟨⟨y, hy⟩, he, hc, hY, hF⟩ => by
      refine ⟨⟨y, by rw [e]; exact hy.1⟩, ?_, hc, hY, hF⟩
      dsimp only; rw [e]; exact he
  · have e := issF_no hE
    obtain ⟨q, c, rfl⟩ := own_slice hv
    have hrow : ∃ p, (Value.slice q l.length c) = sliceV p l.length c ∧ RowP p 4 (l.map encL) w0 ∧ (∀ r, p = some r → r.1 < w0.heap.size) ∧ ∀ r, p = some r → ¬ rbF bw sv its r.1 := by
      rcases hv.2 with ⟨e1, e2⟩ | ⟨g, cap, cu, e1, _⟩
      · injection e1 with e3 e4 e5
        subst e3 e5
        exact ⟨none, rfl, by rw [show l = [] from List.eq_nil_of_length_eq_zero e2]; rfl, fun r hr => (by cases hr), fun r hr => (by cases hr)⟩
      · injection e1 with e3
        subst e3
        exact ⟨some (g, 0), rfl, row_of_own (enc := encL) (fun _ => rfl) hv, fun r hr => (by cases hr; exact (World.ownsRow.lt hv g rfl).2), fun r hr => (by cases hr; exact hd g rfl)⟩
    obtain ⟨p, e1, r1, r2, r3⟩ := hrow
    rw [e1]
    exact pure_mut (xIssue_no bw sv its account cur at_ f t p c l hs hn hfit w0 h r1 r2 r3 hE) (rb_ok true h) ⟨(sv, its), by rw [e]⟩ (by rw [e]) rfl
/-- an operation's lines, only read. -/
def lnE (o : ROp) : Asn := .any (fun k => o.lines ≠ [] ∧ o.lv.ownBlock = some k) (fun w => LnAt o.lv o.lines w) false
theorem lnE_ok {o : ROp} {w : World} (h : LnAt o.lv o.lines w) : (lnE o).ok w := ⟨fun b hb => by
    obtain ⟨b2, off, c2, e, _, hlt⟩ := LnAt.some h hb.1
    have := hb.2; rw [e] at this; simp [sliceV, Value.ownBlock] at this; omega, fun w' hw => h.keep' (fun k h1 h2 => hw k ⟨h1, h2⟩)⟩
set_option maxHeartbeats 600000 in
set_option maxRecDepth 100000 in
theorem does_P (bk bw : Nat) (y : TB) (o : ROp) (N : Nat) (hN : N ≤ 60) (hs : same2 y N) (hof : o.fits) (hoF : fewO o) (w0 : World) (h : twoφ bk bw y w0) (hl : LnAt o.lv o.lines w0) (hld : ∀ k, o.lines ≠ [] → o.lv.ownBlock = some k → ¬ twoF bk bw y k) :
    MutC Try.prog 27 [.pointer (some ⟨bk, 0, none⟩), .pointer (some ⟨bw, 0, none⟩), .agg (encO o).toArray] w0 (twoB bk bw y) (fun _ : { y : TB // same2 y (N + 1) } => .bool true) (fun y => twoB bk bw y.1) := by
  obtain ⟨sv, its, rv, rts⟩ := y
  obtain ⟨heq, hR, hNl⟩ := hs
  simp only at heq hR hNl
  have hrl : rts.length = its.length := by rw [← vs_len rts, ← vs_len its, heq]
  have hg1 : ∀ x ∈ its, goodI x.v := fun x hx => (hR.each x.v (List.mem_map.2 ⟨x, hx, rfl⟩)).togoodI
  have hg2 : ∀ x ∈ rts, goodI x.v := fun x hx => (hR.each x.v (by rw [heq]; exact List.mem_map.2 ⟨x, hx, rfl⟩)).togoodI
  have hn1 : its.length ≤ 1000000 := by omega
  have hol := hoF.2.2.1
  obtain ⟨la, lc, hlv⟩ := LnAt.shape hl
  have hn2 : rts.length ≤ 1000000 := by omega
  refine c_enter [(0, .pointer (some ⟨bk, 0, none⟩)), (1, .pointer (some ⟨bw, 0, none⟩)), (2, .agg (encO o).toArray)] [bookA bk sv its true, rbA bw rv rts true, lnE o] (twoF bk bw ⟨sv, its, rv, rts⟩) Try.func27 rfl Try.ntmps27 ⟨rfl, rfl, rfl, trivial⟩ rfl (okC (book_ok true h.b) (okC (rb_ok true h.r) (okC (lnE_ok hl) okN))) (disC (sepC h.d (sepC (fun b e1 e2 => hld b e2.1 e2.2 (.inl e1)) sepN)) (disC (sepC (fun b e1 e2 => hld b e2.1 e2.2 (.inr e1)) sepN) dis1)) (mineO (fun _ hb => (by first | exact .inl hb | exact .inr hb)) (mineO (fun _ hb => (by first | exact .inl hb | exact .inr hb)) (mineC (by rfl) mineN))) ?_
  intro a hS
  refine c_seq ?_
  refine c_region ?_
  refine L_op (s_boxA hS rfl rfl ?_); clear hS a; (try clear w); intro a w b5 hS
  refine L_op (s_e hS (e_assign rfl) rfl ?_); clear hS a; intro a hS
  refine L_nil ?_
  refine n_then ?_
  refine c_seq ?_
  refine c_seq ?_
  refine c_region ?_
  first | (refine L_op (s_e hS (e_fa0 rfl ty_fo44_0) rfl ?_); clear hS a; intro a hS) | (refine L_op (s_e hS (e_faK rfl ty_fo44_0) rfl ?_); clear hS a; intro a hS)
  refine L_op (s_e hS (e_load rfl (by repeat constructor) ty_sc3 (by rfl)) rfl ?_); clear hS a; intro a hS
  refine L_nil ?_
  refine n_then ?_
  refine wp_block ?_
  refine c_seq ?_
  refine c_region ?_
  refine L_op (s_e hS (e_bin rfl rfl rfl) rfl ?_); clear hS a; intro a hS
  refine L_op (s_e hS (e_assign rfl) rfl ?_); clear hS a; intro a hS
  refine L_nil ?_
  refine n_then ?_
  first | refine c_ifD hS rfl (fun hc23 => ?_) (fun hc23 => ?_) | refine c_if hS rfl (fun hc23 => ?_) (fun hc23 => ?_)
  ·
    refine c_seq ?_
    refine c_region ?_
    refine L_op (s_bslice hS ty_sl22 ty_sz26 ty_z26 rfl rfl rfl rfl .nil rfl ?_); clear hS a; (try clear w); intro a w b25 hS
    first | (refine L_op (s_e hS (e_fa0 rfl ty_fo44_6) rfl ?_); clear hS a; intro a hS) | (refine L_op (s_e hS (e_faK rfl ty_fo44_6) rfl ?_); clear hS a; intro a hS)
    refine L_op (s_e hS (e_load rfl (by repeat constructor) ty_sc22 (by rfl)) rfl ?_); clear hS a; intro a hS
    rw [hlv] at hS
    replace hS := hS.swap (X := .blk b25 [] 26) (Y := ownA 26 4 (.slice (some ⟨b25, 0, none⟩) 0 0) 0 []) (by repeat constructor) (own_empty (hS.get (X := .blk b25 [] 26) (by repeat constructor))) (fun b hb => by simpa [ownA, Asn.F, Value.ownBlock, eq_comm] using hb) rfl
    refine L_op (s_appendL hS rfl rfl ty_sl22 ty_sz26 ty_by26 ty_z26 rfl rfl rfl (by repeat constructor) (flat_len encL 4 (fun _ => rfl) o.lines) (ln_read (hS.get (X := lnE o) (by repeat constructor)) hlv) (linesOne o.lines) (by omega) (fun _ => (by repeat constructor)) ?_); clear hS a; (try clear w); intro v28 a w hv28 hS
    rw [Nat.zero_add, List.nil_append] at hS
    obtain ⟨g28, c28, rfl⟩ := own_some (hS.get (X := ownA 26 4 v28 o.lines.length (o.lines.flatMap encL)) (by repeat constructor)) (fun e => by cases (hv28.1 e).1)
    refine L_op (s_e hS (e_assign rfl) rfl ?_); clear hS a; intro a hS
    refine L_nil ?_
    refine n_then ?_
    refine c_seq ?_
    refine c_region ?_
    refine L_op (s_e hS (e_move rfl) rfl ?_); clear hS a; intro a hS
    first | (refine L_op (s_e hS (e_fa0 rfl ty_fo44_4) rfl ?_); clear hS a; intro a hS) | (refine L_op (s_e hS (e_faK rfl ty_fo44_4) rfl ?_); clear hS a; intro a hS)
    refine L_op (s_e hS (e_load rfl (by repeat constructor) ty_sc9 (by rfl)) rfl ?_); clear hS a; intro a hS
    first | (refine L_op (s_e hS (e_fa0 rfl ty_fo44_5) rfl ?_); clear hS a; intro a hS) | (refine L_op (s_e hS (e_faK rfl ty_fo44_5) rfl ?_); clear hS a; intro a hS)
    refine L_op (s_e hS (e_load rfl (by repeat constructor) ty_sc9 (by rfl)) rfl ?_); clear hS a; intro a hS
    first | (refine L_op (s_e hS (e_fa0 rfl ty_fo44_1) rfl ?_); clear hS a; intro a hS) | (refine L_op (s_e hS (e_faK rfl ty_fo44_1) rfl ?_); clear hS a; intro a hS)
    refine L_op (s_e hS (e_load rfl (by repeat constructor) ty_sc3 (by rfl)) rfl ?_); clear hS a; intro a hS
    first | (refine L_op (s_e hS (e_fa0 rfl ty_fo44_2) rfl ?_); clear hS a; intro a hS) | (refine L_op (s_e hS (e_faK rfl ty_fo44_2) rfl ?_); clear hS a; intro a hS)
    refine L_op (s_e hS (e_load rfl (by repeat constructor) ty_sc3 (by rfl)) rfl ?_); clear hS a; intro a hS
    first | (refine L_op (s_e hS (e_fa0 rfl ty_fo44_3) rfl ?_); clear hS a; intro a hS) | (refine L_op (s_e hS (e_faK rfl ty_fo44_3) rfl ?_); clear hS a; intro a hS)
    refine L_op (s_e hS (e_load rfl (by repeat constructor) ty_sc3 (by rfl)) rfl ?_); clear hS a; intro a hS
    refine L_op (s_e hS (e_move rfl) rfl ?_); clear hS a; intro a hS
    refine L_op (s_callM hS (.cons rfl (.cons rfl (.cons rfl (.cons rfl (.cons rfl (.cons rfl (.cons rfl .nil))))))) cf15 rfl (Issue_F bk sv its o.account o.cur o.at_ o.from_ o.to_ (some (g28, 0)) c28 (fun e => by cases e) o.lines hof.account hn1 (lines_each hR) (by omega) hof.lines.1 _ (hS.get (X := bookA bk sv its true) (by repeat constructor)) (row_of_own (enc := encL) (fun _ => rfl) (hS.get (X := ownA 26 4 (.slice (some ⟨g28, 0, none⟩) o.lines.length c28) o.lines.length (o.lines.flatMap encL)) (by repeat constructor))) (fun q hq => by cases hq; exact ⟨(hS.ok (ownA 26 4 (.slice (some ⟨g28, 0, none⟩) o.lines.length c28) o.lines.length (o.lines.flatMap encL)) (by repeat constructor)).lt g28 rfl, fun hk => hS.sep (X := ownA 26 4 (.slice (some ⟨g28, 0, none⟩) o.lines.length c28) o.lines.length (o.lines.flatMap encL)) (Y := bookA bk sv its true) (by repeat (first | exact Rem.head | apply Rem.tail)) (by repeat constructor) g28 rfl hk⟩)) (fun x => (by repeat constructor)) rfl ?_); clear hS a; (try clear w); intro x42 a w hS
    refine L_op (s_e hS (e_move rfl) rfl ?_); clear hS a; intro a hS
    refine L_op (s_e hS (e_extract rfl rfl) rfl ?_); clear hS a; intro a hS
    refine L_op (s_e hS (e_extract rfl rfl) rfl ?_); clear hS a; intro a hS
    refine L_op (s_e hS (e_assign rfl) rfl ?_); clear hS a; intro a hS
    refine L_op (s_e hS (e_assign rfl) rfl ?_); clear hS a; intro a hS
    refine L_nil ?_
    refine n_then ?_
    refine c_seq ?_
    refine c_drawS [] (by kernel_rfl) hS (sub_cons (X := .blk b5 _ _) (by repeat constructor) sub_nil) ?_; clear hS; (try clear w); intro w hS
    simp only [List.length_cons, List.length_nil, Nat.zero_add, Nat.reduceAdd, List.replicate]
    refine Z_take0 (i := 0) hS rfl want_none (e_move rfl) (listed' := [true, false, false, false, false, false, false, false, false, false, false, false, false, false, false, false, false, false, false, false]) rfl (by kernel_rfl) (by kernel_rfl) (by kernel_rfl) (fun _ _ _ h => h) rfl ?_; clear hS a; intro a hS
    first | (refine Z_take0 (i := 1) hS rfl want_none (e_fa0 rfl ty_fo44_4) (listed' := [true, true, false, false, false, false, false, false, false, false, false, false, false, false, false, false, false, false, false, false]) rfl (by kernel_rfl) (by kernel_rfl) (by kernel_rfl) (fun _ _ _ h => h) rfl ?_; clear hS a; intro a hS) | (refine Z_take0 (i := 1) hS rfl want_none (e_faK rfl ty_fo44_4) (listed' := [true, true, false, false, false, false, false, false, false, false, false, false, false, false, false, false, false, false, false, false]) rfl (by kernel_rfl) (by kernel_rfl) (by kernel_rfl) (fun _ _ _ h => h) rfl ?_; clear hS a; intro a hS)
    refine Z_take (i := 2) hS rfl want_none (e_load rfl (by repeat constructor) ty_sc9 (by rfl)) (listed' := [true, true, true, false, false, false, false, false, false, false, false, false, false, false, false, false, false, false, false, false]) rfl (by kernel_rfl) (by kernel_rfl) (by kernel_rfl) (by kernel_rfl) (by kernel_rfl) (sub_cons (by repeat constructor) sub_nil) (fun _ _ _ h => h) rfl ?_; clear hS a; intro a hS
    first | (refine Z_take0 (i := 3) hS rfl want_none (e_fa0 rfl ty_fo44_5) (listed' := [true, true, true, true, false, false, false, false, false, false, false, false, false, false, false, false, false, false, false, false]) rfl (by kernel_rfl) (by kernel_rfl) (by kernel_rfl) (fun _ _ _ h => h) rfl ?_; clear hS a; intro a hS) | (refine Z_take0 (i := 3) hS rfl want_none (e_faK rfl ty_fo44_5) (listed' := [true, true, true, true, false, false, false, false, false, false, false, false, false, false, false, false, false, false, false, false]) rfl (by kernel_rfl) (by kernel_rfl) (by kernel_rfl) (fun _ _ _ h => h) rfl ?_; clear hS a; intro a hS)
    refine Z_take (i := 4) hS rfl want_none (e_load rfl (by repeat constructor) ty_sc9 (by rfl)) (listed' := [true, true, true, true, true, false, false, false, false, false, false, false, false, false, false, false, false, false, false, false]) rfl (by kernel_rfl) (by kernel_rfl) (by kernel_rfl) (by kernel_rfl) (by kernel_rfl) (sub_cons (by repeat constructor) sub_nil) (fun _ _ _ h => h) rfl ?_; clear hS a; intro a hS
    first | (refine Z_take0 (i := 5) hS rfl want_none (e_fa0 rfl ty_fo44_1) (listed' := [true, true, true, true, true, true, false, false, false, false, false, false, false, false, false, false, false, false, false, false]) rfl (by kernel_rfl) (by kernel_rfl) (by kernel_rfl) (fun _ _ _ h => h) rfl ?_; clear hS a; intro a hS) | (refine Z_take0 (i := 5) hS rfl want_none (e_faK rfl ty_fo44_1) (listed' := [true, true, true, true, true, true, false, false, false, false, false, false, false, false, false, false, false, false, false, false]) rfl (by kernel_rfl) (by kernel_rfl) (by kernel_rfl) (fun _ _ _ h => h) rfl ?_; clear hS a; intro a hS)
    refine Z_take (i := 6) hS rfl want_none (e_load rfl (by repeat constructor) ty_sc3 (by rfl)) (listed' := [true, true, true, true, true, true, true, false, false, false, false, false, false, false, false, false, false, false, false, false]) rfl (by kernel_rfl) (by kernel_rfl) (by kernel_rfl) (by kernel_rfl) (by kernel_rfl) (sub_cons (by repeat constructor) sub_nil) (fun _ _ _ h => h) rfl ?_; clear hS a; intro a hS
    first | (refine Z_take0 (i := 7) hS rfl want_none (e_fa0 rfl ty_fo44_2) (listed' := [true, true, true, true, true, true, true, true, false, false, false, false, false, false, false, false, false, false, false, false]) rfl (by kernel_rfl) (by kernel_rfl) (by kernel_rfl) (fun _ _ _ h => h) rfl ?_; clear hS a; intro a hS) | (refine Z_take0 (i := 7) hS rfl want_none (e_faK rfl ty_fo44_2) (listed' := [true, true, true, true, true, true, true, true, false, false, false, false, false, false, false, false, false, false, false, false]) rfl (by kernel_rfl) (by kernel_rfl) (by kernel_rfl) (fun _ _ _ h => h) rfl ?_; clear hS a; intro a hS)
    refine Z_take (i := 8) hS rfl want_none (e_load rfl (by repeat constructor) ty_sc3 (by rfl)) (listed' := [true, true, true, true, true, true, true, true, true, false, false, false, false, false, false, false, false, false, false, false]) rfl (by kernel_rfl) (by kernel_rfl) (by kernel_rfl) (by kernel_rfl) (by kernel_rfl) (sub_cons (by repeat constructor) sub_nil) (fun _ _ _ h => h) rfl ?_; clear hS a; intro a hS
    first | (refine Z_take0 (i := 9) hS rfl want_none (e_fa0 rfl ty_fo44_3) (listed' := [true, true, true, true, true, true, true, true, true, true, false, false, false, false, false, false, false, false, false, false]) rfl (by kernel_rfl) (by kernel_rfl) (by kernel_rfl) (fun _ _ _ h => h) rfl ?_; clear hS a; intro a hS) | (refine Z_take0 (i := 9) hS rfl want_none (e_faK rfl ty_fo44_3) (listed' := [true, true, true, true, true, true, true, true, true, true, false, false, false, false, false, false, false, false, false, false]) rfl (by kernel_rfl) (by kernel_rfl) (by kernel_rfl) (fun _ _ _ h => h) rfl ?_; clear hS a; intro a hS)
    refine Z_take (i := 10) hS rfl want_none (e_load rfl (by repeat constructor) ty_sc3 (by rfl)) (listed' := [true, true, true, true, true, true, true, true, true, true, true, false, false, false, false, false, false, false, false, false]) rfl (by kernel_rfl) (by kernel_rfl) (by kernel_rfl) (by kernel_rfl) (by kernel_rfl) (sub_cons (by repeat constructor) sub_nil) (fun _ _ _ h => h) rfl ?_; clear hS a; intro a hS
    first | (refine Z_take0 (i := 11) hS rfl want_none (e_fa0 rfl ty_fo44_6) (listed' := [true, true, true, true, true, true, true, true, true, true, true, true, false, false, false, false, false, false, false, false]) rfl (by kernel_rfl) (by kernel_rfl) (by kernel_rfl) (fun _ _ _ h => h) rfl ?_; clear hS a; intro a hS) | (refine Z_take0 (i := 11) hS rfl want_none (e_faK rfl ty_fo44_6) (listed' := [true, true, true, true, true, true, true, true, true, true, true, true, false, false, false, false, false, false, false, false]) rfl (by kernel_rfl) (by kernel_rfl) (by kernel_rfl) (fun _ _ _ h => h) rfl ?_; clear hS a; intro a hS)
    refine Z_take (i := 12) hS rfl want_none (e_load rfl (by repeat constructor) ty_sc22 (by rfl)) (listed' := [true, true, true, true, true, true, true, true, true, true, true, true, true, false, false, false, false, false, false, false]) rfl (by kernel_rfl) (by kernel_rfl) (by kernel_rfl) (by kernel_rfl) (by kernel_rfl) (sub_cons (by repeat constructor) sub_nil) (fun _ _ _ h => h) rfl ?_; clear hS a; intro a hS
    refine Z_one (i := 13) rfl (want_none a hS.sl) (listed' := [true, true, true, true, true, true, true, true, true, true, true, true, true, true, false, false, false, false, false, false]) rfl (by kernel_rfl) (s_callN hS (.cons rfl .nil) cf73 rfl (xLines_P o.lv o.lines (by omega) _ (hS.get (X := lnE o) (by repeat constructor))) ?_); clear hS a; (try clear w); intro x59 a w hS
    refine Z_and hS (sub_cons (by repeat constructor) sub_nil) ?_
    refine Z_one (i := 14) rfl (want_none a hS.sl) (listed' := [true, true, true, true, true, true, true, true, true, true, true, true, true, true, true, false, false, false, false, false]) rfl (by kernel_rfl) (s_callM hS (.cons rfl (.cons rfl (.cons rfl (.cons rfl (.cons rfl (.cons rfl (.cons rfl .nil))))))) cf72 rfl (xIssue_F bw rv rts o.account o.cur o.at_ o.from_ o.to_ x59 o.lines hof.account hn2 hof.lines.1 _ (hS.get (X := rbA bw rv rts true) (by repeat constructor)) (hS.get (X := ownA 148 4 x59 o.lines.length (o.lines.flatMap encL)) (by repeat constructor)) (fun k hk hr => hS.sep (X := ownA 148 4 x59 o.lines.length (o.lines.flatMap encL)) (Y := rbA bw rv rts true) (by repeat (first | exact Rem.head | apply Rem.tail)) (by repeat constructor) k hk hr)) (fun x => (by repeat constructor)) rfl ?_); clear hS a; (try clear w); intro x60 a w hS
    refine Z_and hS (sub_cons (by repeat constructor) sub_nil) ?_
    refine Z_take0 (i := 15) hS rfl want_none (e_move rfl) (listed' := [true, true, true, true, true, true, true, true, true, true, true, true, true, true, true, true, false, false, false, false]) rfl (by kernel_rfl) (by kernel_rfl) (by kernel_rfl) (fun _ _ _ h => h) rfl ?_; clear hS a; intro a hS
    refine Z_take0 (i := 16) hS rfl want_none (e_extract rfl rfl) (listed' := [true, true, true, true, true, true, true, true, true, true, true, true, true, true, true, true, true, false, false, false]) rfl (by kernel_rfl) (by kernel_rfl) (by kernel_rfl) (fun _ _ _ h => h) rfl ?_; clear hS a; intro a hS
    refine Z_take0 (i := 17) hS rfl want_none (e_extract rfl rfl) (listed' := [true, true, true, true, true, true, true, true, true, true, true, true, true, true, true, true, true, true, false, false]) rfl (by kernel_rfl) (by kernel_rfl) (by kernel_rfl) (fun _ _ _ h => h) rfl ?_; clear hS a; intro a hS
    refine Z_take0 (i := 18) hS rfl want_none (e_assign rfl) (listed' := [true, true, true, true, true, true, true, true, true, true, true, true, true, true, true, true, true, true, true, false]) rfl (by kernel_rfl) (by kernel_rfl) (by kernel_rfl) (fun _ _ _ h => h) rfl ?_; clear hS a; intro a hS
    refine Z_take0 (i := 19) hS rfl want_none (e_assign rfl) (listed' := [true, true, true, true, true, true, true, true, true, true, true, true, true, true, true, true, true, true, true, true]) rfl (by kernel_rfl) (by kernel_rfl) (by kernel_rfl) (fun _ _ _ h => h) rfl ?_; clear hS a; intro a hS
    refine Z_done (by kernel_rfl) ?_
    refine n_then ?_
    refine c_seq ?_
    refine c_seq ?_
    refine c_region ?_
    refine L_op (s_e hS (e_assign rfl) rfl ?_); clear hS a; intro a hS
    refine L_nil ?_
    refine n_then ?_
    refine wp_block ?_
    skip
    refine c_loop (γ := Nat × List Value) (fun G a w => St 152 (twoF bk bw ⟨sv, its, rv, rts⟩) w0 a w [(12, .int .i64 (G.1 : Int)), (7, .slice (some ⟨g28, 0, none⟩) o.lines.length c28), (8, .int .i64 (issF (vs its) o.account o.cur o.at_ o.from_ o.to_ o.lines).2.1), (9, .int .i64 (issF (vs its) o.account o.cur o.at_ o.from_ o.to_ o.lines).2.2), (10, .int .i64 (issF (vs rts) o.account o.cur o.at_ o.from_ o.to_ o.lines).2.1), (11, .int .i64 (issF (vs rts) o.account o.cur o.at_ o.from_ o.to_ o.lines).2.2)] [ownA 26 4 (.slice (some ⟨g28, 0, none⟩) o.lines.length c28) o.lines.length G.2, bookA bk x42.1.1 x42.1.2 true, rbA bw x60.1.1 x60.1.2 true] ∧ G.1 ≤ o.lines.length) (fun G => o.lines.length - G.1) (0, o.lines.flatMap encL) ⟨(hS.slots (by repeat (first | exact trivial | refine ⟨rfl, ?_⟩))).pick (by repeat (first | exact Pick.nil | (refine Pick.cons (by repeat (first | exact Rem.head | apply Rem.tail)) ?_))), Nat.zero_le _⟩ ?_
    clear hS a; (try clear w); intro G a w hI
    obtain ⟨hS, hi⟩ := hI
    obtain ⟨i, csx⟩ := G
    simp only at hS hi ⊢
    refine c_seq ?_
    refine c_seq ?_
    refine c_region ?_
    refine L_op (s_e hS (e_move rfl) rfl ?_); clear hS a; intro a hS
    refine L_op (s_e hS (e_move rfl) rfl ?_); clear hS a; intro a hS
    refine L_op (s_e hS (e_len rfl rfl ty_sl22) rfl ?_); clear hS a; intro a hS
    refine L_op (s_e hS (e_bin rfl rfl rfl) rfl ?_); clear hS a; intro a hS
    refine L_nil ?_
    refine n_then ?_
    first | refine c_ifD hS rfl (fun hc66 => ?_) (fun hc66 => ?_) | refine c_if hS rfl (fun hc66 => ?_) (fun hc66 => ?_)
    ·
      refine wp_skip ?_
      refine n_then ?_
      refine c_seq ?_
      refine wp_block ?_
      refine c_region ?_
      refine L_op (s_e hS (e_move rfl) rfl ?_); clear hS a; intro a hS
      refine L_op (s_e hS (e_move rfl) rfl ?_); clear hS a; intro a hS
      refine L_op (s_e hS (e_ixN rfl rfl ty_sl22 ty_sz26 (by omega)) rfl ?_); clear hS a; intro a hS
      first | (refine L_op (s_e hS (e_fa0 rfl ty_fo26_2) rfl ?_); clear hS a; intro a hS) | (refine L_op (s_e hS (e_faK rfl ty_fo26_2) rfl ?_); clear hS a; intro a hS)
      refine L_op (s_storeO (gb := g28) (cs := csx) hS rfl rfl rfl ty_sz3 (by repeat constructor) (by omega) ?_); clear hS; (try clear w); intro w hS
      refine L_nil ?_
      refine n_block ?_
      refine n_then ?_
      refine c_region ?_
      refine L_op (s_e hS (e_move rfl) rfl ?_); clear hS a; intro a hS
      first | (refine L_op (s_e hS (e_binN rfl rfl rfl (by omega)) rfl ?_); clear hS a; intro a hS) | (refine L_op (s_e hS (e_bin rfl rfl rfl) rfl ?_); clear hS a; intro a hS)
      refine L_op (s_e hS (e_assign rfl) rfl ?_); clear hS a; intro a hS
      refine L_nil ?_
      exact ⟨(i + 1, csx.set (0 + i * 4 + 2) (.int .i64 88)), by simp only; omega, hS.slots (by repeat (first | exact trivial | refine ⟨rfl, ?_⟩)), by simp only; omega⟩
    ·
      refine wp_exit ?_
      refine x_then (x_then (x_hit ?_))
      refine n_then ?_
      refine c_seq ?_
      refine c_region ?_
      refine L_op (s_e hS (e_move rfl) rfl ?_); clear hS a; intro a hS
      refine L_op (s_e hS (e_move rfl) rfl ?_); clear hS a; intro a hS
      refine L_op (s_e hS (e_bin rfl rfl rfl) rfl ?_); clear hS a; intro a hS
      refine L_op (s_e hS (e_move rfl) rfl ?_); clear hS a; intro a hS
      replace hS := hS.is (t := 76) (c := true) rfl ((decide_eq_true (by rw [heq])))
      refine L_go hS rfl rfl (s_e hS (e_move rfl) rfl ?_); clear hS a; intro a hS
      refine L_go hS rfl rfl (s_callP hS (.cons rfl .nil) cf16 rfl (Num_w _ _) ?_); clear hS a; (try clear w); intro a w hS
      refine L_go hS rfl rfl (s_e hS (e_move rfl) rfl ?_); clear hS a; intro a hS
      refine L_go hS rfl rfl (s_e hS (e_bin rfl rfl rfl) rfl ?_); clear hS a; intro a hS
      first | (refine L_op (s_e hS (e_pick_t rfl rfl) rfl ?_); clear hS a; intro a hS) | (refine L_op (s_e hS (e_pick_f rfl rfl) rfl ?_); clear hS a; intro a hS)
      refine L_op (s_e hS (e_assign rfl) rfl ?_); clear hS a; intro a hS
      refine L_nil ?_
      refine n_then ?_
      refine wp_ret ?_
      refine r_block (r_then ?_)
      refine c_ret1 hS Try.results27 (.tmp rfl) ?_
      have hfin : decide ((issF (vs its) o.account o.cur o.at_ o.from_ o.to_ o.lines).2.2 = (issF (vs rts) o.account o.cur o.at_ o.from_ o.to_ o.lines).2.2) = true := decide_eq_true (by rw [heq])
      rw [hfin]
      have hlen : x42.1.2.length ≤ N + 1 := by have := issF_len (vs its) o.account o.cur o.at_ o.from_ o.to_ o.lines; rw [← vs_len, x42.2]; rw [vs_len] at this; omega
      exact two_end (y' := ⟨x42.1.1, x42.1.2, x60.1.1, x60.1.2⟩) hS (by repeat (first | exact Rem.head | apply Rem.tail)) (by repeat constructor) (by repeat constructor) (by repeat constructor) ⟨x42.2.trans ((congrArg (fun l => (issF l o.account o.cur o.at_ o.from_ o.to_ o.lines).1) heq).trans x60.2.symm), by show rightB (vs x42.1.2); rw [x42.2]; exact (issF_right hR o.account o.cur o.at_ o.from_ o.to_ o.lines hof.lines.1).1, hlen⟩
  ·
    refine c_seq ?_
    refine c_region ?_
    refine L_op (s_e hS (e_bin rfl rfl rfl) rfl ?_); clear hS a; intro a hS
    refine L_op (s_e hS (e_assign rfl) rfl ?_); clear hS a; intro a hS
    refine L_nil ?_
    refine n_then ?_
    first | refine c_ifD hS rfl (fun hc82 => ?_) (fun hc82 => ?_) | refine c_if hS rfl (fun hc82 => ?_) (fun hc82 => ?_)
    ·
      refine c_seq ?_
      refine c_region ?_
      refine L_op (s_e hS (e_move rfl) rfl ?_); clear hS a; intro a hS
      first | (refine L_op (s_e hS (e_fa0 rfl ty_fo44_7) rfl ?_); clear hS a; intro a hS) | (refine L_op (s_e hS (e_faK rfl ty_fo44_7) rfl ?_); clear hS a; intro a hS)
      refine L_op (s_e hS (e_load rfl (by repeat constructor) ty_sc3 (by rfl)) rfl ?_); clear hS a; intro a hS
      first | (refine L_op (s_e hS (e_fa0 rfl ty_fo44_8) rfl ?_); clear hS a; intro a hS) | (refine L_op (s_e hS (e_faK rfl ty_fo44_8) rfl ?_); clear hS a; intro a hS)
      refine L_op (s_e hS (e_load rfl (by repeat constructor) ty_sc3 (by rfl)) rfl ?_); clear hS a; intro a hS
      refine L_op (s_callM hS (.cons rfl (.cons rfl (.cons rfl .nil))) cf18 rfl (Pay_F bk sv its hg1 o.number o.units hn1 _ (hS.get (X := bookA bk sv its true) (by repeat constructor))) (fun x => (by repeat constructor)) rfl ?_); clear hS a; (try clear w); intro x90 a w hS
      refine L_op (s_e hS (e_move rfl) rfl ?_); clear hS a; intro a hS
      refine L_op (s_e hS (e_extract rfl rfl) rfl ?_); clear hS a; intro a hS
      refine L_op (s_e hS (e_extract rfl rfl) rfl ?_); clear hS a; intro a hS
      refine L_op (s_e hS (e_assign rfl) rfl ?_); clear hS a; intro a hS
      refine L_op (s_e hS (e_assign rfl) rfl ?_); clear hS a; intro a hS
      refine L_nil ?_
      refine n_then ?_
      refine c_seq ?_
      refine c_region ?_
      refine L_op (s_e hS (e_move rfl) rfl ?_); clear hS a; intro a hS
      first | (refine L_op (s_e hS (e_fa0 rfl ty_fo44_7) rfl ?_); clear hS a; intro a hS) | (refine L_op (s_e hS (e_faK rfl ty_fo44_7) rfl ?_); clear hS a; intro a hS)
      refine L_op (s_e hS (e_load rfl (by repeat constructor) ty_sc3 (by rfl)) rfl ?_); clear hS a; intro a hS
      first | (refine L_op (s_e hS (e_fa0 rfl ty_fo44_8) rfl ?_); clear hS a; intro a hS) | (refine L_op (s_e hS (e_faK rfl ty_fo44_8) rfl ?_); clear hS a; intro a hS)
      refine L_op (s_e hS (e_load rfl (by repeat constructor) ty_sc3 (by rfl)) rfl ?_); clear hS a; intro a hS
      refine L_op (s_callM hS (.cons rfl (.cons rfl (.cons rfl .nil))) cf74 rfl (xPay_F bw rv rts hg2 o.number o.units hn2 _ (hS.get (X := rbA bw rv rts true) (by repeat constructor))) (fun x => (by repeat constructor)) rfl ?_); clear hS a; (try clear w); intro x99 a w hS
      refine L_op (s_e hS (e_move rfl) rfl ?_); clear hS a; intro a hS
      refine L_op (s_e hS (e_extract rfl rfl) rfl ?_); clear hS a; intro a hS
      refine L_op (s_e hS (e_extract rfl rfl) rfl ?_); clear hS a; intro a hS
      refine L_op (s_e hS (e_assign rfl) rfl ?_); clear hS a; intro a hS
      refine L_op (s_e hS (e_assign rfl) rfl ?_); clear hS a; intro a hS
      refine L_nil ?_
      refine n_then ?_
      refine c_seq ?_
      refine c_region ?_
      refine L_op (s_e hS (e_move rfl) rfl ?_); clear hS a; intro a hS
      refine L_op (s_e hS (e_move rfl) rfl ?_); clear hS a; intro a hS
      refine L_op (s_e hS (e_bin rfl rfl rfl) rfl ?_); clear hS a; intro a hS
      refine L_op (s_e hS (e_move rfl) rfl ?_); clear hS a; intro a hS
      replace hS := hS.is (t := 105) (c := true) rfl ((decide_eq_true (by rw [heq])))
      refine L_go hS rfl rfl (s_e hS (e_move rfl) rfl ?_); clear hS a; intro a hS
      refine L_go hS rfl rfl (s_callP hS (.cons rfl .nil) cf16 rfl (Num_w _ _) ?_); clear hS a; (try clear w); intro a w hS
      refine L_go hS rfl rfl (s_e hS (e_move rfl) rfl ?_); clear hS a; intro a hS
      refine L_go hS rfl rfl (s_e hS (e_bin rfl rfl rfl) rfl ?_); clear hS a; intro a hS
      first | (refine L_op (s_e hS (e_pick_t rfl rfl) rfl ?_); clear hS a; intro a hS) | (refine L_op (s_e hS (e_pick_f rfl rfl) rfl ?_); clear hS a; intro a hS)
      refine L_op (s_e hS (e_assign rfl) rfl ?_); clear hS a; intro a hS
      refine L_nil ?_
      refine n_then ?_
      refine wp_ret ?_
      refine r_block (r_then ?_)
      refine c_ret1 hS Try.results27 (.tmp rfl) ?_
      have hfin : decide ((payF addP (vs its) o.number o.units).2.2 = (payF addP (vs rts) o.number o.units).2.2) = true := decide_eq_true (by rw [heq])
      rw [hfin]
      have hlen : x90.1.length ≤ N + 1 := by rw [← vs_len, x90.2, payF_len, vs_len]; omega
      exact two_end (y' := ⟨sv, x90.1, x99.1.1, x99.1.2⟩) hS (by repeat (first | exact Rem.head | apply Rem.tail)) (by repeat constructor) (by repeat constructor) (by repeat constructor) ⟨x90.2.trans ((congrArg (fun l => (payF addP l o.number o.units).1) heq).trans x99.2.1.symm), by show rightB (vs x90.1); rw [x90.2]; exact (payF_right hR o.number o.units).1, hlen⟩
    ·
      refine c_seq ?_
      refine c_region ?_
      refine L_op (s_e hS (e_bin rfl rfl rfl) rfl ?_); clear hS a; intro a hS
      refine L_op (s_e hS (e_assign rfl) rfl ?_); clear hS a; intro a hS
      refine L_nil ?_
      refine n_then ?_
      first | refine c_ifD hS rfl (fun hc111 => ?_) (fun hc111 => ?_) | refine c_if hS rfl (fun hc111 => ?_) (fun hc111 => ?_)
      ·
        refine c_seq ?_
        refine c_region ?_
        refine L_op (s_e hS (e_move rfl) rfl ?_); clear hS a; intro a hS
        first | (refine L_op (s_e hS (e_fa0 rfl ty_fo44_7) rfl ?_); clear hS a; intro a hS) | (refine L_op (s_e hS (e_faK rfl ty_fo44_7) rfl ?_); clear hS a; intro a hS)
        refine L_op (s_e hS (e_load rfl (by repeat constructor) ty_sc3 (by rfl)) rfl ?_); clear hS a; intro a hS
        first | (refine L_op (s_e hS (e_fa0 rfl ty_fo44_8) rfl ?_); clear hS a; intro a hS) | (refine L_op (s_e hS (e_faK rfl ty_fo44_8) rfl ?_); clear hS a; intro a hS)
        refine L_op (s_e hS (e_load rfl (by repeat constructor) ty_sc3 (by rfl)) rfl ?_); clear hS a; intro a hS
        refine L_op (s_callM hS (.cons rfl (.cons rfl (.cons rfl .nil))) cf19 rfl (Credit_F bk sv its hg1 o.number o.units hn1 _ (hS.get (X := bookA bk sv its true) (by repeat constructor))) (fun x => (by repeat constructor)) rfl ?_); clear hS a; (try clear w); intro x119 a w hS
        refine L_op (s_e hS (e_move rfl) rfl ?_); clear hS a; intro a hS
        refine L_op (s_e hS (e_extract rfl rfl) rfl ?_); clear hS a; intro a hS
        refine L_op (s_e hS (e_extract rfl rfl) rfl ?_); clear hS a; intro a hS
        refine L_op (s_e hS (e_assign rfl) rfl ?_); clear hS a; intro a hS
        refine L_op (s_e hS (e_assign rfl) rfl ?_); clear hS a; intro a hS
        refine L_nil ?_
        refine n_then ?_
        refine c_seq ?_
        refine c_region ?_
        refine L_op (s_e hS (e_move rfl) rfl ?_); clear hS a; intro a hS
        first | (refine L_op (s_e hS (e_fa0 rfl ty_fo44_7) rfl ?_); clear hS a; intro a hS) | (refine L_op (s_e hS (e_faK rfl ty_fo44_7) rfl ?_); clear hS a; intro a hS)
        refine L_op (s_e hS (e_load rfl (by repeat constructor) ty_sc3 (by rfl)) rfl ?_); clear hS a; intro a hS
        first | (refine L_op (s_e hS (e_fa0 rfl ty_fo44_8) rfl ?_); clear hS a; intro a hS) | (refine L_op (s_e hS (e_faK rfl ty_fo44_8) rfl ?_); clear hS a; intro a hS)
        refine L_op (s_e hS (e_load rfl (by repeat constructor) ty_sc3 (by rfl)) rfl ?_); clear hS a; intro a hS
        refine L_op (s_callM hS (.cons rfl (.cons rfl (.cons rfl .nil))) cf75 rfl (xCredit_F bw rv rts hg2 o.number o.units hn2 _ (hS.get (X := rbA bw rv rts true) (by repeat constructor))) (fun x => (by repeat constructor)) rfl ?_); clear hS a; (try clear w); intro x128 a w hS
        refine L_op (s_e hS (e_move rfl) rfl ?_); clear hS a; intro a hS
        refine L_op (s_e hS (e_extract rfl rfl) rfl ?_); clear hS a; intro a hS
        refine L_op (s_e hS (e_extract rfl rfl) rfl ?_); clear hS a; intro a hS
        refine L_op (s_e hS (e_assign rfl) rfl ?_); clear hS a; intro a hS
        refine L_op (s_e hS (e_assign rfl) rfl ?_); clear hS a; intro a hS
        refine L_nil ?_
        refine n_then ?_
        refine c_seq ?_
        refine c_region ?_
        refine L_op (s_e hS (e_move rfl) rfl ?_); clear hS a; intro a hS
        refine L_op (s_e hS (e_move rfl) rfl ?_); clear hS a; intro a hS
        refine L_op (s_e hS (e_bin rfl rfl rfl) rfl ?_); clear hS a; intro a hS
        refine L_op (s_e hS (e_move rfl) rfl ?_); clear hS a; intro a hS
        replace hS := hS.is (t := 134) (c := true) rfl ((decide_eq_true (by rw [heq])))
        refine L_go hS rfl rfl (s_e hS (e_move rfl) rfl ?_); clear hS a; intro a hS
        refine L_go hS rfl rfl (s_callP hS (.cons rfl .nil) cf16 rfl (Num_w _ _) ?_); clear hS a; (try clear w); intro a w hS
        refine L_go hS rfl rfl (s_e hS (e_move rfl) rfl ?_); clear hS a; intro a hS
        refine L_go hS rfl rfl (s_e hS (e_bin rfl rfl rfl) rfl ?_); clear hS a; intro a hS
        first | (refine L_op (s_e hS (e_pick_t rfl rfl) rfl ?_); clear hS a; intro a hS) | (refine L_op (s_e hS (e_pick_f rfl rfl) rfl ?_); clear hS a; intro a hS)
        refine L_op (s_e hS (e_assign rfl) rfl ?_); clear hS a; intro a hS
        refine L_nil ?_
        refine n_then ?_
        refine wp_ret ?_
        refine r_block (r_then ?_)
        refine c_ret1 hS Try.results27 (.tmp rfl) ?_
        have hfin : decide ((payF addC (vs its) o.number o.units).2.2 = (payF addC (vs rts) o.number o.units).2.2) = true := decide_eq_true (by rw [heq])
        rw [hfin]
        have hlen : x119.1.length ≤ N + 1 := by rw [← vs_len, x119.2, payF_len, vs_len]; omega
        exact two_end (y' := ⟨sv, x119.1, x128.1.1, x128.1.2⟩) hS (by repeat (first | exact Rem.head | apply Rem.tail)) (by repeat constructor) (by repeat constructor) (by repeat constructor) ⟨x119.2.trans ((congrArg (fun l => (payF addC l o.number o.units).1) heq).trans x128.2.1.symm), by show rightB (vs x119.1); rw [x119.2]; exact (credF_right hR o.number o.units).1, hlen⟩
      ·
        refine c_seq ?_
        refine c_region ?_
        refine L_op (s_e hS (e_bin rfl rfl rfl) rfl ?_); clear hS a; intro a hS
        refine L_op (s_e hS (e_assign rfl) rfl ?_); clear hS a; intro a hS
        refine L_nil ?_
        refine n_then ?_
        first | refine c_ifD hS rfl (fun hc140 => ?_) (fun hc140 => ?_) | refine c_if hS rfl (fun hc140 => ?_) (fun hc140 => ?_)
        ·
          refine c_seq ?_
          refine c_drawS [] (by kernel_rfl) hS (sub_cons (X := .blk b5 _ _) (by repeat constructor) sub_nil) ?_; clear hS; (try clear w); intro w hS
          simp only [List.length_cons, List.length_nil, Nat.zero_add, Nat.reduceAdd, List.replicate]
          refine Z_take0 (i := 0) hS rfl want_none (e_move rfl) (listed' := [true, false, false, false, false, false, false, false, false, false, false]) rfl (by kernel_rfl) (by kernel_rfl) (by kernel_rfl) (fun _ _ _ h => h) rfl ?_; clear hS a; intro a hS
          first | (refine Z_take0 (i := 1) hS rfl want_none (e_fa0 rfl ty_fo44_7) (listed' := [true, true, false, false, false, false, false, false, false, false, false]) rfl (by kernel_rfl) (by kernel_rfl) (by kernel_rfl) (fun _ _ _ h => h) rfl ?_; clear hS a; intro a hS) | (refine Z_take0 (i := 1) hS rfl want_none (e_faK rfl ty_fo44_7) (listed' := [true, true, false, false, false, false, false, false, false, false, false]) rfl (by kernel_rfl) (by kernel_rfl) (by kernel_rfl) (fun _ _ _ h => h) rfl ?_; clear hS a; intro a hS)
          refine Z_take (i := 2) hS rfl want_none (e_load rfl (by repeat constructor) ty_sc3 (by rfl)) (listed' := [true, true, true, false, false, false, false, false, false, false, false]) rfl (by kernel_rfl) (by kernel_rfl) (by kernel_rfl) (by kernel_rfl) (by kernel_rfl) (sub_cons (by repeat constructor) sub_nil) (fun _ _ _ h => h) rfl ?_; clear hS a; intro a hS
          refine Z_take0 (i := 5) hS rfl want_none (e_move rfl) (listed' := [true, true, true, false, false, true, false, false, false, false, false]) rfl (by kernel_rfl) (by kernel_rfl) (by kernel_rfl) (fun _ _ _ h => h) rfl ?_; clear hS a; intro a hS
          first | (refine Z_take0 (i := 6) hS rfl want_none (e_fa0 rfl ty_fo44_7) (listed' := [true, true, true, false, false, true, true, false, false, false, false]) rfl (by kernel_rfl) (by kernel_rfl) (by kernel_rfl) (fun _ _ _ h => h) rfl ?_; clear hS a; intro a hS) | (refine Z_take0 (i := 6) hS rfl want_none (e_faK rfl ty_fo44_7) (listed' := [true, true, true, false, false, true, true, false, false, false, false]) rfl (by kernel_rfl) (by kernel_rfl) (by kernel_rfl) (fun _ _ _ h => h) rfl ?_; clear hS a; intro a hS)
          refine Z_take (i := 7) hS rfl want_none (e_load rfl (by repeat constructor) ty_sc3 (by rfl)) (listed' := [true, true, true, false, false, true, true, true, false, false, false]) rfl (by kernel_rfl) (by kernel_rfl) (by kernel_rfl) (by kernel_rfl) (by kernel_rfl) (sub_cons (by repeat constructor) sub_nil) (fun _ _ _ h => h) rfl ?_; clear hS a; intro a hS
          refine Z_one (i := 3) rfl (want_none a hS.sl) (listed' := [true, true, true, true, false, true, true, true, false, false, false]) rfl (by kernel_rfl) (s_callM hS (.cons rfl (.cons rfl .nil)) cf22 rfl (Void_F bk sv its hg1 o.number hn1 _ (hS.get (X := bookA bk sv its true) (by repeat constructor))) (fun x => (by repeat constructor)) rfl ?_); clear hS a; (try clear w); intro x145 a w hS
          refine Z_and hS (sub_cons (by repeat constructor) sub_nil) ?_
          refine Z_one (i := 4) rfl (want_none a hS.sl) (listed' := [true, true, true, true, true, true, true, true, false, false, false]) rfl (by kernel_rfl) (s_callP hS (.cons rfl .nil) cf16 rfl (Num_w _ _) ?_); clear hS a; (try clear w); intro a w hS
          refine Z_and hS (sub_cons (by repeat constructor) sub_nil) ?_
          refine Z_one (i := 8) rfl (want_none a hS.sl) (listed' := [true, true, true, true, true, true, true, true, true, false, false]) rfl (by kernel_rfl) (s_callM hS (.cons rfl (.cons rfl .nil)) cf76 rfl (xVoid_F bw rv rts hg2 o.number hn2 _ (hS.get (X := rbA bw rv rts true) (by repeat constructor))) (fun x => (by repeat constructor)) rfl ?_); clear hS a; (try clear w); intro x150 a w hS
          refine Z_and hS (sub_cons (by repeat constructor) sub_nil) ?_
          refine Z_take0 (i := 9) hS rfl want_none (e_bin rfl rfl rfl) (listed' := [true, true, true, true, true, true, true, true, true, true, false]) rfl (by kernel_rfl) (by kernel_rfl) (by kernel_rfl) (fun _ _ _ h => h) rfl ?_; clear hS a; intro a hS
          refine Z_take0 (i := 10) hS rfl want_none (e_assign rfl) (listed' := [true, true, true, true, true, true, true, true, true, true, true]) rfl (by kernel_rfl) (by kernel_rfl) (by kernel_rfl) (fun _ _ _ h => h) rfl ?_; clear hS a; intro a hS
          refine Z_done (by kernel_rfl) ?_
          refine n_then ?_
          refine wp_ret ?_
          refine r_block (r_then ?_)
          refine c_ret1 hS Try.results27 (.tmp rfl) ?_
          have hfin : decide ((voidF (vs its) o.number).2 = (voidF (vs rts) o.number).2) = true := decide_eq_true (by rw [heq])
          rw [hfin]
          have hlen : x145.1.length ≤ N + 1 := by rw [← vs_len, x145.2, voidF_len, vs_len]; omega
          exact two_end (y' := ⟨sv, x145.1, x150.1.1, x150.1.2⟩) hS (by repeat (first | exact Rem.head | apply Rem.tail)) (by repeat constructor) (by repeat constructor) (by repeat constructor) ⟨x145.2.trans ((congrArg (fun l => (voidF l o.number).1) heq).trans x150.2.1.symm), by show rightB (vs x145.1); rw [x145.2]; exact (voidF_right hR o.number).1, hlen⟩
        ·
          refine wp_skip ?_
          refine n_block ?_
          refine n_then ?_
          refine c_seq ?_
          refine c_region ?_
          refine L_op (s_e hS (e_assign rfl) rfl ?_); clear hS a; intro a hS
          refine L_nil ?_
          refine n_then ?_
          refine wp_ret ?_
          refine c_ret1 hS Try.results27 (.tmp rfl) ?_
          exact two_end (y' := ⟨sv, its, rv, rts⟩) hS (by repeat (first | exact Rem.head | apply Rem.tail)) (by repeat constructor) (by repeat constructor) (by repeat constructor) ⟨heq, hR, by show its.length ≤ N + 1; omega⟩
end Go.Proofs.Ytfiaobhkhedpiaa

namespace Go.Proofs.Ytfiaobhkhedpiaa
open Go.RowKit

set_option maxRecDepth 100000 in
theorem some2_P (bk : Nat) (sv : Value) (its : List IA) (hn : its.length ≤ 1000000) (hls : ∀ x ∈ its, x.v.lines.length ≤ 1000000) (f : FuncId) (caps : List Value) (p : Inv → Bool) (w0 : World) (h : bookφ bk sv its w0) (hf : CallsTo Try.prog f)
    (hp : ∀ x w', Chg noB w0 w' → PureC Try.prog f ([.agg (encA x).toArray] ++ caps) w' (.bool (p x.v))) :
    NewC Try.prog 63 [.pointer (some ⟨bk, 0, none⟩), .func (.func f) #[] caps.toArray] w0 (fun y : { y : Value × List IA // y.2.map (·.v) = someL p its ∧ (y.2.Pairwise fun x z => x.b ≠ z.b) ∧ ∀ x ∈ y.2, y.1.ownBlock ≠ some x.b } => y.1.1) (fun y => invsA y.1.1 y.1.2 true) := by
  obtain ⟨q, c, rfl⟩ := own_slice h.2.1
  have hsh : q = none ∧ its.length = 0 ∨ ∃ g, q = some ⟨g, 0, none⟩ := by
    rcases h.2.1.2 with ⟨e, e2⟩ | ⟨g, cap, cur, e, _⟩
    · injection e with e1; exact .inl ⟨e1, e2⟩
    · injection e with e1; exact .inr ⟨g, e1⟩
  refine c_enter [(0, .pointer (some ⟨bk, 0, none⟩)), (1, .func (.func f) #[] caps.toArray)] [bookA bk (.slice q its.length c) its false] noB Try.func63 rfl Try.ntmps63 ⟨rfl, rfl, trivial⟩ rfl (by intro X hX; obtain rfl := List.mem_singleton.1 hX; exact book_ok false h) (by simp) (by intro X hX hm; obtain rfl := List.mem_singleton.1 hX; cases hm) ?_
  intro a hS
  refine c_seq ?_
  refine c_region ?_
  refine L_op (s_e hS (e_assign rfl) rfl ?_); clear hS a; intro a hS
  refine L_nil ?_
  refine n_then ?_
  refine c_seq ?_
  refine c_region ?_
  refine L_op (s_e hS (e_assign rfl) rfl ?_); clear hS a; intro a hS
  refine L_nil ?_
  refine n_then ?_
  refine c_seq ?_
  refine c_seq ?_
  refine c_region ?_
  refine L_op (s_e hS (e_move rfl) rfl ?_); clear hS a; intro a hS
  refine L_op (s_e hS (e_nilCheck rfl) rfl ?_); clear hS a; intro a hS
  first | (refine L_op (s_e hS (e_fa0 rfl ty_fo92_0) rfl ?_); clear hS a; intro a hS) | (refine L_op (s_e hS (e_faK rfl ty_fo92_0) rfl ?_); clear hS a; intro a hS)
  refine L_op (s_e hS (e_loadC rfl ty_sc41 (rd_bk (by exact .head _))) rfl ?_); clear hS a; intro a hS
  refine L_op (s_e hS (e_len rfl rfl ty_sl41) rfl ?_); clear hS a; intro a hS
  refine L_op (s_e hS (e_move rfl) rfl ?_); clear hS a; intro a hS
  refine L_nil ?_
  refine n_then ?_
  refine wp_block ?_
  replace hS := (hS.more (lines_ok (its := []) (fun x hx => by cases hx)) (fun b hb => by obtain ⟨x, hx, _⟩ := hb; cases hx)).own_nil 34 13
  refine c_loop (γ := (Nat × Value × List IA)) (fun G a w => St 27 noB w0 a w [(13, .int .i64 (G.1 : Int)), (12, .int .i64 (its.length : Int)), (11, .slice q its.length c), (5, G.2.1), (1, .func (.func f) #[] caps.toArray)] [rowA13 G.2.1 G.2.2, linesAll G.2.2, bookA bk (.slice q its.length c) its false] ∧ G.1 ≤ its.length ∧ G.2.2.map (·.v) = someL p (its.take G.1) ∧ G.2.2.length ≤ G.1 ∧ G.2.2.Pairwise (fun x z => x.b ≠ z.b)) (fun G => its.length - G.1) (0, .slice none 0 0, []) ⟨hS.slots ⟨rfl, rfl, rfl, rfl, rfl, trivial⟩, Nat.zero_le _, rfl, Nat.le_refl _, .nil⟩ ?_
  clear hS a; (try clear w); intro G a w hI
  obtain ⟨k, out, outs⟩ := G
  obtain ⟨hS, hk, hout, hol, hpw⟩ := hI
  simp only at hS hk hout hol hpw
  refine c_seq ?_
  refine c_region ?_
  refine L_op (s_e hS (e_bin rfl rfl rfl) rfl ?_); clear hS a; intro a hS
  refine L_nil ?_
  refine n_then ?_
  refine c_seq ?_
  first | refine c_ifD hS rfl (fun hc14 => ?_) (fun hc14 => ?_) | refine c_if hS rfl (fun hc14 => ?_) (fun hc14 => ?_)
  ·
    obtain ⟨x, hx⟩ : ∃ x, its[k]? = some x := ⟨its[k], by simp⟩
    have hxm := List.mem_of_getElem? hx
    obtain ⟨g, rfl⟩ : ∃ g, q = some ⟨g, 0, none⟩ := by
      rcases hsh with ⟨_, h0⟩ | hg
      · exfalso; omega
      · exact hg
    have hsn := someL_snoc p its k x hx
    refine wp_skip ?_
    refine n_then ?_
    refine c_seq ?_
    refine wp_block ?_
    refine c_seq ?_
    refine c_region ?_
    refine L_op (s_e hS (e_ixN rfl rfl ty_sl41 ty_sz34 (by omega)) rfl ?_); clear hS a; intro a hS
    refine L_op (s_e hS (e_loadAC (l := encA x) rfl ty_st34 ty_sz34 (rd_row (by repeat (first | exact .head _ | refine .tail _ ?_)) hx)) rfl ?_); clear hS a; intro a hS
    refine L_op (s_alloc hS ty_z34 rfl ?_); clear hS a; (try clear w); intro a w b7 hS
    refine L_op (s_storeA hS rfl rfl ty_sz34 (by repeat constructor) (by rfl) (by rfl) (by rfl) ?_); clear hS; (try clear w); intro w hS
    refine L_nil ?_
    refine n_then ?_
    refine c_seq ?_
    refine c_region ?_
    refine L_op (s_e hS (e_move rfl) rfl ?_); clear hS a; intro a hS
    refine L_op (s_e hS (e_loadA rfl (by repeat constructor) ty_st34 ty_sz34 (by rfl)) rfl ?_); clear hS a; intro a hS
    refine L_op (s_callvP hS rfl (.cons rfl .nil) hf rfl (hp x _ hS.chg) ?_); clear hS a; (try clear w); intro a w hS
    refine L_nil ?_
    refine n_then ?_
    first | refine c_ifD hS rfl (fun hc19 => ?_) (fun hc19 => ?_) | refine c_if hS rfl (fun hc19 => ?_) (fun hc19 => ?_)
    ·
      have hlo : lnOk x w := (hS.get (X := bookA bk (.slice (some ⟨g, 0, none⟩) its.length c) its false) (by repeat (first | exact .head _ | refine .tail _ ?_))).2.2 x hxm
      refine c_region ?_
      refine L_op (s_e hS (e_move rfl) rfl ?_); clear hS a; intro a hS
      refine L_op (s_e hS (e_loadA rfl (by repeat constructor) ty_st34 ty_sz34 (by rfl)) rfl ?_); clear hS a; intro a hS
      refine L_op (s_callN hS (.cons rfl .nil) cf58 rfl (own_one x.v x.b 0 x.c (hls x hxm) _ (row_of_own (b := x.b) (c := x.c) (enc := encL) (fun _ => rfl) hlo) hlo.lt) ?_); clear hS a; (try clear w); intro x22 a w hS
      refine L_op (s_bslice hS ty_sl41 ty_sz34 ty_z34 rfl rfl rfl rfl (.agg rfl rfl .nil) rfl ?_); clear hS a; (try clear w); intro a w b23 hS
      refine L_op (s_append1 hS rfl rfl ty_sl41 ty_sz34 ty_by34 ty_z34 rfl rfl rfl (by repeat constructor) (by repeat constructor) (by rfl) (by rfl) (fun _ => (by repeat constructor)) (by omega) ?_); clear hS a; (try clear w); intro v24 a w hv24 hS
      refine L_op (s_e hS (e_assign rfl) rfl ?_); clear hS a; intro a hS
      refine L_nil ?_
      refine n_block ?_
      refine n_then ?_
      refine c_region ?_
      first | (refine L_op (s_e hS (e_binN rfl rfl rfl (by omega)) rfl ?_); clear hS a; intro a hS) | (refine L_op (s_e hS (e_bin rfl rfl rfl) rfl ?_); clear hS a; intro a hS)
      refine L_op (s_e hS (e_move rfl) rfl ?_); clear hS a; intro a hS
      refine L_nil ?_
      first
      | exact ⟨(k + 1, out, outs), by simp only; omega, (hS.drop (.cons _ (.refl _))).slots ⟨rfl, rfl, rfl, rfl, rfl, trivial⟩, by simp only; omega, by simp only [hsn, hout, hc19]; simp, by simp only; omega, hpw⟩
      | (
        have hsep := hS.sep (X := lnA x.v x22.1 x22.2) (Y := linesAll outs) (by repeat (first | exact Rem.head | apply Rem.tail)) (by repeat constructor)
        replace hS := hS.drop (.cons _ (.refl _))
        replace hS := hS.join (Y := linesAll outs) (Z := linesAll (outs ++ [⟨x.v, x22.1, x22.2⟩])) (by repeat (first | apply Rep.head | apply Rep.tail)) (lines_snoc (hS.ok _ (by repeat (first | exact .head _ | refine .tail _ ?_))) (hS.ok _ (.head _))) (fun b hb => by
          obtain ⟨y, hy, rfl⟩ := hb
          rcases List.mem_append.1 hy with hy | hy
          · exact .inr ⟨y, hy, rfl⟩
          · obtain rfl := List.mem_singleton.1 hy; exact .inl rfl) (fun _ => ⟨rfl, rfl⟩)
        replace hS := hS.drop (.cons _ (.refl _))
        have er : rowA13 v24 (outs ++ [⟨x.v, x22.1, x22.2⟩]) = ownA 34 13 v24 (outs.length + 1) (outs.flatMap encA ++ (encI x.v (lnV x.v x22.1 x22.2) ++ [])) := by simp [rowA13, encA]
        rw [← er] at hS
        exact ⟨(k + 1, v24, outs ++ [⟨x.v, x22.1, x22.2⟩]), by simp only; omega, hS.slots (by exact ⟨rfl, rfl, rfl, rfl, rfl, trivial⟩), by simp only; omega, by simp only [hsn, hc19]; simp [hout], by simp only [List.length_append, List.length_cons, List.length_nil]; omega, List.pairwise_append.2 ⟨hpw, List.pairwise_singleton _ _, fun y hy z hz => by obtain rfl := List.mem_singleton.1 hz; exact fun e => hsep x22.1 rfl ⟨y, hy, e.symm⟩⟩⟩)
    ·
      refine wp_skip ?_
      refine n_block ?_
      refine n_then ?_
      refine c_region ?_
      first | (refine L_op (s_e hS (e_binN rfl rfl rfl (by omega)) rfl ?_); clear hS a; intro a hS) | (refine L_op (s_e hS (e_bin rfl rfl rfl) rfl ?_); clear hS a; intro a hS)
      refine L_op (s_e hS (e_move rfl) rfl ?_); clear hS a; intro a hS
      refine L_nil ?_
      first
      | exact ⟨(k + 1, out, outs), by simp only; omega, (hS.drop (.cons _ (.refl _))).slots ⟨rfl, rfl, rfl, rfl, rfl, trivial⟩, by simp only; omega, by simp only [hsn, hout, hc19]; simp, by simp only; omega, hpw⟩
      | (
        have hsep := hS.sep (X := lnA x.v x22.1 x22.2) (Y := linesAll outs) (by repeat (first | exact Rem.head | apply Rem.tail)) (by repeat constructor)
        replace hS := hS.drop (.cons _ (.refl _))
        replace hS := hS.join (Y := linesAll outs) (Z := linesAll (outs ++ [⟨x.v, x22.1, x22.2⟩])) (by repeat (first | apply Rep.head | apply Rep.tail)) (lines_snoc (hS.ok _ (by repeat (first | exact .head _ | refine .tail _ ?_))) (hS.ok _ (.head _))) (fun b hb => by
          obtain ⟨y, hy, rfl⟩ := hb
          rcases List.mem_append.1 hy with hy | hy
          · exact .inr ⟨y, hy, rfl⟩
          · obtain rfl := List.mem_singleton.1 hy; exact .inl rfl) (fun _ => ⟨rfl, rfl⟩)
        replace hS := hS.drop (.cons _ (.refl _))
        have er : rowA13 v24 (outs ++ [⟨x.v, x22.1, x22.2⟩]) = ownA 34 13 v24 (outs.length + 1) (outs.flatMap encA ++ (encI x.v (lnV x.v x22.1 x22.2) ++ [])) := by simp [rowA13, encA]
        rw [← er] at hS
        exact ⟨(k + 1, v24, outs ++ [⟨x.v, x22.1, x22.2⟩]), by simp only; omega, hS.slots (by exact ⟨rfl, rfl, rfl, rfl, rfl, trivial⟩), by simp only; omega, by simp only [hsn, hc19]; simp [hout], by simp only [List.length_append, List.length_cons, List.length_nil]; omega, List.pairwise_append.2 ⟨hpw, List.pairwise_singleton _ _, fun y hy z hz => by obtain rfl := List.mem_singleton.1 hz; exact fun e => hsep x22.1 rfl ⟨y, hy, e.symm⟩⟩⟩)
  ·
    refine wp_exit ?_
    refine x_then (x_then (x_hit ?_))
    refine n_then ?_
    refine c_seq ?_
    refine c_region ?_
    refine L_op (s_e hS (e_move rfl) rfl ?_); clear hS a; intro a hS
    refine L_op (s_e hS (e_assign rfl) rfl ?_); clear hS a; intro a hS
    refine L_nil ?_
    refine n_then ?_
    refine wp_ret ?_
    refine c_ret1 hS Try.results63 (.tmp rfl) ?_
    obtain rfl : k = its.length := by omega
    rw [List.take_length] at hout
    refine ⟨⟨(out, outs), hout, hpw, fun x hx e => hS.sep (X := rowA13 out outs) (Y := linesAll outs) (by repeat (first | exact Rem.head | apply Rem.tail)) (by repeat constructor) x.b e ⟨x, hx, rfl⟩⟩, rfl, hS.chg, ?_, ?_⟩
    · exact invs_ok true ⟨hS.get (.head _), hS.get (.tail _ (.head _))⟩
    · intro b hb
      rcases hb with hb | hb
      · exact (hS.new (.head _) rfl).2 b hb
      · exact (hS.new (.tail _ (.head _)) rfl).2 b hb

set_option maxRecDepth 100000 in
theorem All2_P (bk : Nat) (sv : Value) (its : List IA) (hn : its.length ≤ 1000000) (hls : ∀ x ∈ its, x.v.lines.length ≤ 1000000) (w0 : World) (h : bookφ bk sv its w0) :
    NewC Try.prog 21 [.pointer (some ⟨bk, 0, none⟩)] w0 (fun y : { y : Value × List IA // y.2.map (·.v) = someL (fun _ => true) its ∧ (y.2.Pairwise fun x z => x.b ≠ z.b) ∧ ∀ x ∈ y.2, y.1.ownBlock ≠ some x.b } => y.1.1) (fun y => invsA y.1.1 y.1.2 true) := by
  refine c_enter [(0, .pointer (some ⟨bk, 0, none⟩))] [] noB Try.func21 rfl Try.ntmps21 ⟨rfl, trivial⟩ rfl (by simp) (by simp) (by simp) ?_
  intro a hS
  refine c_seq ?_
  refine c_region ?_
  refine L_op (s_e hS (e_assign rfl) rfl ?_); clear hS a; intro a hS
  refine L_nil ?_
  refine n_then ?_
  refine c_seq ?_
  refine c_region ?_
  refine L_op (s_e hS (e_move rfl) rfl ?_); clear hS a; intro a hS
  refine L_op (s_callN hS (.cons rfl (.cons rfl .nil)) cf63 rfl (some2_P bk sv its hn hls 64 [] (fun _ => true) _ h cf64 (fun x w' _ => All1_P x w')) ?_); clear hS a; (try clear w); intro x4 a w hS
  refine L_op (s_e hS (e_assign rfl) rfl ?_); clear hS a; intro a hS
  refine L_nil ?_
  refine n_then ?_
  refine wp_ret ?_
  refine c_ret1 hS Try.results21 (.tmp rfl) ?_
  exact ⟨x4, rfl, hS.chg, hS.new (.head _) rfl⟩
end Go.Proofs.Ytfiaobhkhedpiaa

namespace Go.Proofs.Ytfiaobhkhedpiaa
open Go.RowKit

theorem filt_at {l : List Inv} {p : Inv → Bool} {k : Nat} {v : Inv} (h : l[k]? = some v) (hp : p v = true) : (l.filter p)[((l.take k).filter p).length]? = some v := by
  obtain ⟨hk, e⟩ := List.getElem?_eq_some_iff.1 h
  have e1 : l = l.take k ++ v :: l.drop (k + 1) := by rw [← e, List.getElem_cons_drop, List.take_append_drop]
  conv => lhs; arg 1; rw [e1]
  rw [List.filter_append, List.filter_cons, if_pos hp, List.getElem?_append_right (Nat.le_refl _), Nat.sub_self]
  rfl
theorem filt_take {l : List Inv} {p : Inv → Bool} {k : Nat} {v : Inv} (h : l[k]? = some v) : ((l.take (k + 1)).filter p).length = ((l.take k).filter p).length + if p v = true then 1 else 0 := by
  rw [List.take_add_one, h, List.filter_append, List.length_append]
  congr 1
  by_cases hp : p v = true
  · rw [if_pos hp]; simp [hp]
  · rw [if_neg hp]; simp [hp]
/-- the lines of the copies that are still as they were. -/
def lnsFrom (its : List IA) (k : Nat) : Asn := .any (fun b => ∃ x ∈ its.drop k, b = x.b) (fun w => ∀ x ∈ its.drop k, lnOk x w) true
theorem lnsFrom_ok {its : List IA} {k : Nat} {w : World} (h : ∀ x ∈ its.drop k, lnOk x w) : (lnsFrom its k).ok w := by
  refine ⟨fun b hb => ?_, fun w' hw x hx => (h x hx).keep (hw x.b ⟨x, hx, rfl⟩)⟩
  obtain ⟨x, hx, rfl⟩ := hb
  exact (h x hx).lt
theorem dropA_at {its : List IA} {k : Nat} {x : IA} (hx : its[k]? = some x) : its.drop k = x :: its.drop (k + 1) := by
  obtain ⟨hk, e⟩ := List.getElem?_eq_some_iff.1 hx
  rw [← e, List.getElem_cons_drop]
/-- one copy's lines are taken apart from the rest. -/
theorem lns_split {n : Nat} {F0 : Nat → Prop} {w0 w : World} {a : Act} {L : List (Nat × Value)} {Γ Γ' : List Asn} {its : List IA} {k : Nat} {x : IA} (hS : St n F0 w0 a w L Γ) (hx : its[k]? = some x) (hpw : its.Pairwise fun x z => x.b ≠ z.b) (hr : Rep (lnsFrom its k) (lnsFrom its (k + 1)) Γ Γ') :
    St n F0 w0 a w L (lnA x.v x.b x.c :: Γ') := by
  have e := dropA_at hx
  have hall : ∀ y ∈ its.drop k, lnOk y w := hS.get hr.mem
  rw [e] at hall
  have hpd : (x :: its.drop (k + 1)).Pairwise fun x z => x.b ≠ z.b := by rw [← e]; exact hpw.sublist (List.drop_sublist _ _)
  refine hS.split hr (ok_own (hall x (.head _))) (lnsFrom_ok fun y hy => hall y (.tail _ hy)) (fun b hb => ?_) (fun b hb => ?_) (fun b hb hb' => ?_) rfl
  · show ∃ y ∈ its.drop k, b = y.b
    rw [e]; exact ⟨x, .head _, by simp [lnA, ownA, Asn.F, lnV, Value.ownBlock] at hb; exact hb.symm⟩
  · obtain ⟨y, hy, hyb⟩ := hb
    show ∃ y ∈ its.drop k, b = y.b
    rw [e]; exact ⟨y, .tail _ hy, hyb⟩
  · obtain ⟨y, hy, hyb⟩ := hb'
    simp [lnA, ownA, Asn.F, lnV, Value.ownBlock] at hb
    exact (List.pairwise_cons.1 hpd).1 y hy (hb.trans hyb)
end Go.Proofs.Ytfiaobhkhedpiaa

namespace Go.Proofs.Ytfiaobhkhedpiaa
open Go.RowKit

set_option maxHeartbeats 1000000 in
set_option maxRecDepth 100000 in
theorem all_P (bk bw : Nat) (y : TB) (o : ROp) (N : Nat) (hN : N ≤ 60) (hs : same2 y N) (w0 : World) (h : twoφ bk bw y w0) :
    PureC Try.prog 28 [.pointer (some ⟨bk, 0, none⟩), .pointer (some ⟨bw, 0, none⟩), .agg (encO o).toArray] w0 (.bool true) := by
  obtain ⟨sv, its, rv, rts⟩ := y
  obtain ⟨heq, hR, hNl⟩ := hs
  simp only at heq hR hNl
  have hrl : rts.length = its.length := by rw [← vs_len rts, ← vs_len its, heq]
  have hn1 : its.length ≤ 1000000 := by omega
  have hn2 : rts.length ≤ 1000000 := by omega
  have hls := lines_each hR
  obtain ⟨pr, cr, hrv, hsh⟩ := rb_shape h.r
  simp only at hrv
  subst hrv
  rw [hrl] at h
  refine c_enter [(0, .pointer (some ⟨bk, 0, none⟩)), (1, .pointer (some ⟨bw, 0, none⟩)), (2, .agg (encO o).toArray)] [bookA bk sv its false, rbA bw (.slice pr its.length cr) rts false] noB Try.func28 rfl Try.ntmps28 ⟨rfl, rfl, rfl, trivial⟩ rfl (okC (book_ok false h.b) (okC (rb_ok false h.r) okN)) (disC (sepC h.d sepN) dis1) (mineC (by rfl) (mineC (by rfl) mineN)) ?_
  intro a hS
  refine c_seq ?_
  refine c_region ?_
  refine L_op (s_boxA hS rfl rfl ?_); clear hS a; (try clear w); intro a w b5 hS
  refine L_op (s_e hS (e_assign rfl) rfl ?_); clear hS a; intro a hS
  refine L_nil ?_
  refine n_then ?_
  refine c_seq ?_
  refine c_region ?_
  refine L_op (s_e hS (e_move rfl) rfl ?_); clear hS a; intro a hS
  refine L_op (s_callN hS (.cons rfl .nil) cf21 rfl (All2_P bk sv its hn1 hls _ (hS.get (X := bookA bk sv its false) (by repeat constructor))) ?_); clear hS a; (try clear w); intro x19 a w hS
  obtain ⟨⟨v19, c19⟩, hm19, hp19, hd19⟩ := x19
  simp only at hm19 hp19 hd19 hS
  have hi19 := hS.get (X := invsA v19 c19 true) (by repeat constructor)
  obtain ⟨q19, k19, rfl⟩ := own_slice hi19.1
  have hm19' : vs c19 = vs its := by unfold vs; rw [hm19]; unfold someL; rw [List.filter_eq_self.2 (fun _ _ => rfl)]
  have hl19 : c19.length = its.length := by rw [← vs_len c19, hm19', vs_len]
  refine L_op (s_e hS (e_assign rfl) rfl ?_); clear hS a; intro a hS
  refine L_nil ?_
  refine n_then ?_
  refine c_seq ?_
  refine c_region ?_
  refine L_op (s_e hS (e_move rfl) rfl ?_); clear hS a; intro a hS
  first | (refine L_op (s_e hS (e_fa0 rfl ty_fo44_4) rfl ?_); clear hS a; intro a hS) | (refine L_op (s_e hS (e_faK rfl ty_fo44_4) rfl ?_); clear hS a; intro a hS)
  refine L_op (s_e hS (e_load rfl (by repeat constructor) ty_sc9 (by rfl)) rfl ?_); clear hS a; intro a hS
  refine L_op (s_callN hS (.cons rfl (.cons rfl .nil)) cf77 rfl (Of_P bk sv its o.account hn1 hls _ (hS.get (X := bookA bk sv its false) (by repeat constructor))) ?_); clear hS a; (try clear w); intro x23 a w hS
  obtain ⟨⟨v23, c23⟩, hm23⟩ := x23
  simp only at hm23 hS
  have hi23 := hS.get (X := invsA v23 c23 true) (by repeat constructor)
  obtain ⟨q23, k23, rfl⟩ := own_slice hi23.1
  refine L_op (s_e hS (e_assign rfl) rfl ?_); clear hS a; intro a hS
  refine L_nil ?_
  refine n_then ?_
  refine c_seq ?_
  refine c_seq ?_
  refine c_drawS [] (by kernel_rfl) hS (sub_cons (X := .blk b5 _ _) (by repeat constructor) (sub_cons (X := rbA bw (.slice pr its.length cr) rts false) (by repeat constructor) sub_nil)) ?_; clear hS; (try clear w); intro w hS
  simp only [List.length_cons, List.length_nil, Nat.zero_add, Nat.reduceAdd, List.replicate]
  refine Z_take0 (i := 0) hS rfl want_none (e_move rfl) (listed' := [true, false, false, false, false, false, false, false, false, false, false, false, false, false, false, false, false, false, false, false, false, false, false, false, false, false, false, false, false, false, false, false, false, false, false, false, false, false]) rfl (by kernel_rfl) (by kernel_rfl) (by kernel_rfl) (fun _ _ _ h => h) rfl ?_; clear hS a; intro a hS
  refine Z_take0 (i := 1) hS rfl want_none (e_len rfl rfl ty_sl41) (listed' := [true, true, false, false, false, false, false, false, false, false, false, false, false, false, false, false, false, false, false, false, false, false, false, false, false, false, false, false, false, false, false, false, false, false, false, false, false, false]) rfl (by kernel_rfl) (by kernel_rfl) (by kernel_rfl) (fun _ _ _ h => h) rfl ?_; clear hS a; intro a hS
  refine Z_take0 (i := 2) hS rfl want_none (e_move rfl) (listed' := [true, true, true, false, false, false, false, false, false, false, false, false, false, false, false, false, false, false, false, false, false, false, false, false, false, false, false, false, false, false, false, false, false, false, false, false, false, false]) rfl (by kernel_rfl) (by kernel_rfl) (by kernel_rfl) (fun _ _ _ h => h) rfl ?_; clear hS a; intro a hS
  refine Z_take0 (i := 3) hS rfl want_none (e_nilCheck rfl) (listed' := [true, true, true, true, false, false, false, false, false, false, false, false, false, false, false, false, false, false, false, false, false, false, false, false, false, false, false, false, false, false, false, false, false, false, false, false, false, false]) rfl (by kernel_rfl) (by kernel_rfl) (by kernel_rfl) (fun _ _ _ h => h) rfl ?_; clear hS a; intro a hS
  first | (refine Z_take0 (i := 4) hS rfl want_none (e_fa0 rfl ty_fo56_0) (listed' := [true, true, true, true, true, false, false, false, false, false, false, false, false, false, false, false, false, false, false, false, false, false, false, false, false, false, false, false, false, false, false, false, false, false, false, false, false, false]) rfl (by kernel_rfl) (by kernel_rfl) (by kernel_rfl) (fun _ _ _ h => h) rfl ?_; clear hS a; intro a hS) | (refine Z_take0 (i := 4) hS rfl want_none (e_faK rfl ty_fo56_0) (listed' := [true, true, true, true, true, false, false, false, false, false, false, false, false, false, false, false, false, false, false, false, false, false, false, false, false, false, false, false, false, false, false, false, false, false, false, false, false, false]) rfl (by kernel_rfl) (by kernel_rfl) (by kernel_rfl) (fun _ _ _ h => h) rfl ?_; clear hS a; intro a hS)
  refine Z_take (i := 5) hS rfl want_none (e_loadC rfl ty_sc54 (rrd_bk (by repeat constructor))) (listed' := [true, true, true, true, true, true, false, false, false, false, false, false, false, false, false, false, false, false, false, false, false, false, false, false, false, false, false, false, false, false, false, false, false, false, false, false, false, false]) rfl (by kernel_rfl) (by kernel_rfl) (by kernel_rfl) (by kernel_rfl) (by kernel_rfl) (sub_cons (by repeat constructor) (sub_cons (by repeat constructor) sub_nil)) (fun _ _ _ h => h) rfl ?_; clear hS a; intro a hS
  refine Z_take0 (i := 6) hS rfl want_none (e_len rfl rfl ty_sl54) (listed' := [true, true, true, true, true, true, true, false, false, false, false, false, false, false, false, false, false, false, false, false, false, false, false, false, false, false, false, false, false, false, false, false, false, false, false, false, false, false]) rfl (by kernel_rfl) (by kernel_rfl) (by kernel_rfl) (fun _ _ _ h => h) rfl ?_; clear hS a; intro a hS
  refine Z_take0 (i := 7) hS rfl want_none (e_bin rfl rfl rfl) (listed' := [true, true, true, true, true, true, true, true, false, false, false, false, false, false, false, false, false, false, false, false, false, false, false, false, false, false, false, false, false, false, false, false, false, false, false, false, false, false]) rfl (by kernel_rfl) (by kernel_rfl) (by kernel_rfl) (fun _ _ _ h => h) rfl ?_; clear hS a; intro a hS
  refine Z_take0 (i := 8) hS rfl want_none (e_move rfl) (listed' := [true, true, true, true, true, true, true, true, true, false, false, false, false, false, false, false, false, false, false, false, false, false, false, false, false, false, false, false, false, false, false, false, false, false, false, false, false, false]) rfl (by kernel_rfl) (by kernel_rfl) (by kernel_rfl) (fun _ _ _ h => h) rfl ?_; clear hS a; intro a hS
  refine Z_merge 19 [true, true, true, true, true, true, true, true, true, true, true, true, true, true, true, true, true, true, true, false, false, false, false, false, false, false, false, false, false, false, false, false, false, false, false, false, false, false] 42 (.bool (false)) hS ?_ ?_
  · intro hcM42
    (first | refine g_splitD (t := 32) hS rfl ?_ ?_ | refine g_split (t := 32) hS rfl ?_ ?_) <;> (clear hS; intro hg32 hS)
    ·
      refine Z_none_f (i := 9) hS rfl rfl rfl (listed' := [true, true, true, true, true, true, true, true, true, true, false, false, false, false, false, false, false, false, false, false, false, false, false, false, false, false, false, false, false, false, false, false, false, false, false, false, false, false]) rfl (by kernel_rfl) (by kernel_rfl) (by kernel_rfl) (fun _ _ _ h => h) rfl ?_; clear hS a; intro a hS
      refine Z_none_f (i := 10) hS rfl rfl rfl (listed' := [true, true, true, true, true, true, true, true, true, true, true, false, false, false, false, false, false, false, false, false, false, false, false, false, false, false, false, false, false, false, false, false, false, false, false, false, false, false]) rfl (by kernel_rfl) (by kernel_rfl) (by kernel_rfl) (fun _ _ _ h => h) rfl ?_; clear hS a; intro a hS
      refine Z_none_f (i := 11) hS rfl rfl rfl (listed' := [true, true, true, true, true, true, true, true, true, true, true, true, false, false, false, false, false, false, false, false, false, false, false, false, false, false, false, false, false, false, false, false, false, false, false, false, false, false]) rfl (by kernel_rfl) (by kernel_rfl) (by kernel_rfl) (fun _ _ _ h => h) rfl ?_; clear hS a; intro a hS
      refine Z_none_f (i := 12) hS rfl rfl rfl (listed' := [true, true, true, true, true, true, true, true, true, true, true, true, true, false, false, false, false, false, false, false, false, false, false, false, false, false, false, false, false, false, false, false, false, false, false, false, false, false]) rfl (by kernel_rfl) (by kernel_rfl) (by kernel_rfl) (fun _ _ _ h => h) rfl ?_; clear hS a; intro a hS
      refine Z_none_f (i := 13) hS rfl rfl rfl (listed' := [true, true, true, true, true, true, true, true, true, true, true, true, true, true, false, false, false, false, false, false, false, false, false, false, false, false, false, false, false, false, false, false, false, false, false, false, false, false]) rfl (by kernel_rfl) (by kernel_rfl) (by kernel_rfl) (fun _ _ _ h => h) rfl ?_; clear hS a; intro a hS
      refine Z_none_f (i := 14) hS rfl rfl rfl (listed' := [true, true, true, true, true, true, true, true, true, true, true, true, true, true, true, false, false, false, false, false, false, false, false, false, false, false, false, false, false, false, false, false, false, false, false, false, false, false]) rfl (by kernel_rfl) (by kernel_rfl) (by kernel_rfl) (fun _ _ _ h => h) rfl ?_; clear hS a; intro a hS
      refine Z_none_f (i := 15) hS rfl rfl rfl (listed' := [true, true, true, true, true, true, true, true, true, true, true, true, true, true, true, true, false, false, false, false, false, false, false, false, false, false, false, false, false, false, false, false, false, false, false, false, false, false]) rfl (by kernel_rfl) (by kernel_rfl) (by kernel_rfl) (fun _ _ _ h => h) rfl ?_; clear hS a; intro a hS
      refine Z_none_f (i := 16) hS rfl rfl rfl (listed' := [true, true, true, true, true, true, true, true, true, true, true, true, true, true, true, true, true, false, false, false, false, false, false, false, false, false, false, false, false, false, false, false, false, false, false, false, false, false]) rfl (by kernel_rfl) (by kernel_rfl) (by kernel_rfl) (fun _ _ _ h => h) rfl ?_; clear hS a; intro a hS
      refine Z_none_f (i := 17) hS rfl rfl rfl (listed' := [true, true, true, true, true, true, true, true, true, true, true, true, true, true, true, true, true, true, false, false, false, false, false, false, false, false, false, false, false, false, false, false, false, false, false, false, false, false]) rfl (by kernel_rfl) (by kernel_rfl) (by kernel_rfl) (fun _ _ _ h => h) rfl ?_; clear hS a; intro a hS
      first | (refine Z_take0 (i := 18) hS rfl want_none (e_pick_t rfl rfl) (listed' := [true, true, true, true, true, true, true, true, true, true, true, true, true, true, true, true, true, true, true, false, false, false, false, false, false, false, false, false, false, false, false, false, false, false, false, false, false, false]) rfl (by kernel_rfl) (by kernel_rfl) (by kernel_rfl) (fun _ _ _ h => h) rfl ?_; clear hS a; intro a hS) | (refine Z_take0 (i := 18) hS rfl want_none (e_pick_f rfl rfl) (listed' := [true, true, true, true, true, true, true, true, true, true, true, true, true, true, true, true, true, true, true, false, false, false, false, false, false, false, false, false, false, false, false, false, false, false, false, false, false, false]) rfl (by kernel_rfl) (by kernel_rfl) (by kernel_rfl) (fun _ _ _ h => h) rfl ?_; clear hS a; intro a hS)
      exact hcM42 _ _ (hS.ends 11 42 32 rfl (congrArg Value.bool (by first | rfl | (simp [hg32]; done) | (simp [hg32]; omega) | grind)) rfl rfl (by first | exact congrArg Value.bool (decide_eq_true hg32).symm | exact congrArg Value.bool hg32.symm | simp [hg32]) rfl)
    ·
      refine Z_take0 (i := 9) hS rfl (want_go rfl rfl) (e_move rfl) (listed' := [true, true, true, true, true, true, true, true, true, true, false, false, false, false, false, false, false, false, false, false, false, false, false, false, false, false, false, false, false, false, false, false, false, false, false, false, false, false]) rfl (by kernel_rfl) (by kernel_rfl) (by kernel_rfl) (fun _ _ _ h => h) rfl ?_; clear hS a; intro a hS
      refine Z_take0 (i := 11) hS rfl (want_go rfl rfl) (e_move rfl) (listed' := [true, true, true, true, true, true, true, true, true, true, false, true, false, false, false, false, false, false, false, false, false, false, false, false, false, false, false, false, false, false, false, false, false, false, false, false, false, false]) rfl (by kernel_rfl) (by kernel_rfl) (by kernel_rfl) (fun _ _ _ h => h) rfl ?_; clear hS a; intro a hS
      refine Z_take0 (i := 12) hS rfl (want_go rfl rfl) (e_nilCheck rfl) (listed' := [true, true, true, true, true, true, true, true, true, true, false, true, true, false, false, false, false, false, false, false, false, false, false, false, false, false, false, false, false, false, false, false, false, false, false, false, false, false]) rfl (by kernel_rfl) (by kernel_rfl) (by kernel_rfl) (fun _ _ _ h => h) rfl ?_; clear hS a; intro a hS
      first | (refine Z_take0 (i := 13) hS rfl (want_go rfl rfl) (e_fa0 rfl ty_fo56_0) (listed' := [true, true, true, true, true, true, true, true, true, true, false, true, true, true, false, false, false, false, false, false, false, false, false, false, false, false, false, false, false, false, false, false, false, false, false, false, false, false]) rfl (by kernel_rfl) (by kernel_rfl) (by kernel_rfl) (fun _ _ _ h => h) rfl ?_; clear hS a; intro a hS) | (refine Z_take0 (i := 13) hS rfl (want_go rfl rfl) (e_faK rfl ty_fo56_0) (listed' := [true, true, true, true, true, true, true, true, true, true, false, true, true, true, false, false, false, false, false, false, false, false, false, false, false, false, false, false, false, false, false, false, false, false, false, false, false, false]) rfl (by kernel_rfl) (by kernel_rfl) (by kernel_rfl) (fun _ _ _ h => h) rfl ?_; clear hS a; intro a hS)
      refine Z_take (i := 14) hS rfl (want_go rfl rfl) (e_loadC rfl ty_sc54 (rrd_bk (by repeat constructor))) (listed' := [true, true, true, true, true, true, true, true, true, true, false, true, true, true, true, false, false, false, false, false, false, false, false, false, false, false, false, false, false, false, false, false, false, false, false, false, false, false]) rfl (by kernel_rfl) (by kernel_rfl) (by kernel_rfl) (by kernel_rfl) (by kernel_rfl) (sub_cons (by repeat constructor) (sub_cons (by repeat constructor) sub_nil)) (fun _ _ _ h => h) rfl ?_; clear hS a; intro a hS
      refine Z_take0 (i := 15) hS rfl (want_go rfl rfl) (e_len rfl rfl ty_sl54) (listed' := [true, true, true, true, true, true, true, true, true, true, false, true, true, true, true, true, false, false, false, false, false, false, false, false, false, false, false, false, false, false, false, false, false, false, false, false, false, false]) rfl (by kernel_rfl) (by kernel_rfl) (by kernel_rfl) (fun _ _ _ h => h) rfl ?_; clear hS a; intro a hS
      first | (refine Z_take0 (i := 16) hS rfl (want_go rfl rfl) (e_binN rfl rfl rfl (by omega)) (listed' := [true, true, true, true, true, true, true, true, true, true, false, true, true, true, true, true, true, false, false, false, false, false, false, false, false, false, false, false, false, false, false, false, false, false, false, false, false, false]) rfl (by kernel_rfl) (by kernel_rfl) (by kernel_rfl) (fun _ _ _ h => h) rfl ?_; clear hS a; intro a hS) | (refine Z_take0 (i := 16) hS rfl (want_go rfl rfl) (e_bin rfl rfl rfl) (listed' := [true, true, true, true, true, true, true, true, true, true, false, true, true, true, true, true, true, false, false, false, false, false, false, false, false, false, false, false, false, false, false, false, false, false, false, false, false, false]) rfl (by kernel_rfl) (by kernel_rfl) (by kernel_rfl) (fun _ _ _ h => h) rfl ?_; clear hS a; intro a hS)
      refine Z_one (i := 10) rfl (want_go rfl rfl a hS.sl) (listed' := [true, true, true, true, true, true, true, true, true, true, true, true, true, true, true, true, true, false, false, false, false, false, false, false, false, false, false, false, false, false, false, false, false, false, false, false, false, false]) rfl (by kernel_rfl) (s_callP hS (.cons rfl .nil) cf54 rfl (Next_P bk sv its hn1 _ (hS.get (X := bookA bk sv its false) (by repeat constructor))) ?_); clear hS a; (try clear w); intro a w hS
      refine Z_and hS (sub_cons (by repeat constructor) (sub_cons (by repeat constructor) sub_nil)) ?_
      refine Z_take0 (i := 17) hS rfl (want_go rfl rfl) (e_bin rfl rfl rfl) (listed' := [true, true, true, true, true, true, true, true, true, true, true, true, true, true, true, true, true, true, false, false, false, false, false, false, false, false, false, false, false, false, false, false, false, false, false, false, false, false]) rfl (by kernel_rfl) (by kernel_rfl) (by kernel_rfl) (fun _ _ _ h => h) rfl ?_; clear hS a; intro a hS
      first | (refine Z_take0 (i := 18) hS rfl want_none (e_pick_t rfl rfl) (listed' := [true, true, true, true, true, true, true, true, true, true, true, true, true, true, true, true, true, true, true, false, false, false, false, false, false, false, false, false, false, false, false, false, false, false, false, false, false, false]) rfl (by kernel_rfl) (by kernel_rfl) (by kernel_rfl) (fun _ _ _ h => h) rfl ?_; clear hS a; intro a hS) | (refine Z_take0 (i := 18) hS rfl want_none (e_pick_f rfl rfl) (listed' := [true, true, true, true, true, true, true, true, true, true, true, true, true, true, true, true, true, true, true, false, false, false, false, false, false, false, false, false, false, false, false, false, false, false, false, false, false, false]) rfl (by kernel_rfl) (by kernel_rfl) (by kernel_rfl) (fun _ _ _ h => h) rfl ?_; clear hS a; intro a hS)
      exact hcM42 _ _ (hS.ends 11 42 32 rfl (congrArg Value.bool (by exact decide_eq_false (by omega))) rfl rfl (by first | exact congrArg Value.bool (decide_eq_false hg32).symm | exact congrArg Value.bool hg32.symm | simp [hg32]) rfl)
  · clear hS a; (try clear w); intro a w hS
    refine Z_take0 (i := 19) hS rfl want_none (e_move rfl) (listed' := [true, true, true, true, true, true, true, true, true, true, true, true, true, true, true, true, true, true, true, true, false, false, false, false, false, false, false, false, false, false, false, false, false, false, false, false, false, false]) rfl (by kernel_rfl) (by kernel_rfl) (by kernel_rfl) (fun _ _ _ h => h) rfl ?_; clear hS a; intro a hS
    replace hS := hS.is (t := 43) (c := false) rfl (rfl)
    refine Z_take0 (i := 20) hS rfl (want_go rfl rfl) (e_move rfl) (listed' := [true, true, true, true, true, true, true, true, true, true, true, true, true, true, true, true, true, true, true, true, true, false, false, false, false, false, false, false, false, false, false, false, false, false, false, false, false, false]) rfl (by kernel_rfl) (by kernel_rfl) (by kernel_rfl) (fun _ _ _ h => h) rfl ?_; clear hS a; intro a hS
    first | (refine Z_take0 (i := 21) hS rfl (want_go rfl rfl) (e_fa0 rfl ty_fo44_4) (listed' := [true, true, true, true, true, true, true, true, true, true, true, true, true, true, true, true, true, true, true, true, true, true, false, false, false, false, false, false, false, false, false, false, false, false, false, false, false, false]) rfl (by kernel_rfl) (by kernel_rfl) (by kernel_rfl) (fun _ _ _ h => h) rfl ?_; clear hS a; intro a hS) | (refine Z_take0 (i := 21) hS rfl (want_go rfl rfl) (e_faK rfl ty_fo44_4) (listed' := [true, true, true, true, true, true, true, true, true, true, true, true, true, true, true, true, true, true, true, true, true, true, false, false, false, false, false, false, false, false, false, false, false, false, false, false, false, false]) rfl (by kernel_rfl) (by kernel_rfl) (by kernel_rfl) (fun _ _ _ h => h) rfl ?_; clear hS a; intro a hS)
    refine Z_take (i := 22) hS rfl (want_go rfl rfl) (e_load rfl (by repeat constructor) ty_sc9 (by rfl)) (listed' := [true, true, true, true, true, true, true, true, true, true, true, true, true, true, true, true, true, true, true, true, true, true, true, false, false, false, false, false, false, false, false, false, false, false, false, false, false, false]) rfl (by kernel_rfl) (by kernel_rfl) (by kernel_rfl) (by kernel_rfl) (by kernel_rfl) (sub_cons (by repeat constructor) (sub_cons (by repeat constructor) sub_nil)) (fun _ _ _ h => h) rfl ?_; clear hS a; intro a hS
    first | (refine Z_take0 (i := 23) hS rfl (want_go rfl rfl) (e_fa0 rfl ty_fo44_2) (listed' := [true, true, true, true, true, true, true, true, true, true, true, true, true, true, true, true, true, true, true, true, true, true, true, true, false, false, false, false, false, false, false, false, false, false, false, false, false, false]) rfl (by kernel_rfl) (by kernel_rfl) (by kernel_rfl) (fun _ _ _ h => h) rfl ?_; clear hS a; intro a hS) | (refine Z_take0 (i := 23) hS rfl (want_go rfl rfl) (e_faK rfl ty_fo44_2) (listed' := [true, true, true, true, true, true, true, true, true, true, true, true, true, true, true, true, true, true, true, true, true, true, true, true, false, false, false, false, false, false, false, false, false, false, false, false, false, false]) rfl (by kernel_rfl) (by kernel_rfl) (by kernel_rfl) (fun _ _ _ h => h) rfl ?_; clear hS a; intro a hS)
    refine Z_take (i := 24) hS rfl (want_go rfl rfl) (e_load rfl (by repeat constructor) ty_sc3 (by rfl)) (listed' := [true, true, true, true, true, true, true, true, true, true, true, true, true, true, true, true, true, true, true, true, true, true, true, true, true, false, false, false, false, false, false, false, false, false, false, false, false, false]) rfl (by kernel_rfl) (by kernel_rfl) (by kernel_rfl) (by kernel_rfl) (by kernel_rfl) (sub_cons (by repeat constructor) (sub_cons (by repeat constructor) sub_nil)) (fun _ _ _ h => h) rfl ?_; clear hS a; intro a hS
    first | (refine Z_take0 (i := 25) hS rfl (want_go rfl rfl) (e_fa0 rfl ty_fo44_3) (listed' := [true, true, true, true, true, true, true, true, true, true, true, true, true, true, true, true, true, true, true, true, true, true, true, true, true, true, false, false, false, false, false, false, false, false, false, false, false, false]) rfl (by kernel_rfl) (by kernel_rfl) (by kernel_rfl) (fun _ _ _ h => h) rfl ?_; clear hS a; intro a hS) | (refine Z_take0 (i := 25) hS rfl (want_go rfl rfl) (e_faK rfl ty_fo44_3) (listed' := [true, true, true, true, true, true, true, true, true, true, true, true, true, true, true, true, true, true, true, true, true, true, true, true, true, true, false, false, false, false, false, false, false, false, false, false, false, false]) rfl (by kernel_rfl) (by kernel_rfl) (by kernel_rfl) (fun _ _ _ h => h) rfl ?_; clear hS a; intro a hS)
    refine Z_take (i := 26) hS rfl (want_go rfl rfl) (e_load rfl (by repeat constructor) ty_sc3 (by rfl)) (listed' := [true, true, true, true, true, true, true, true, true, true, true, true, true, true, true, true, true, true, true, true, true, true, true, true, true, true, true, false, false, false, false, false, false, false, false, false, false, false]) rfl (by kernel_rfl) (by kernel_rfl) (by kernel_rfl) (by kernel_rfl) (by kernel_rfl) (sub_cons (by repeat constructor) (sub_cons (by repeat constructor) sub_nil)) (fun _ _ _ h => h) rfl ?_; clear hS a; intro a hS
    refine Z_take0 (i := 28) hS rfl (want_go rfl rfl) (e_move rfl) (listed' := [true, true, true, true, true, true, true, true, true, true, true, true, true, true, true, true, true, true, true, true, true, true, true, true, true, true, true, false, true, false, false, false, false, false, false, false, false, false]) rfl (by kernel_rfl) (by kernel_rfl) (by kernel_rfl) (fun _ _ _ h => h) rfl ?_; clear hS a; intro a hS
    first | (refine Z_take0 (i := 29) hS rfl (want_go rfl rfl) (e_fa0 rfl ty_fo44_4) (listed' := [true, true, true, true, true, true, true, true, true, true, true, true, true, true, true, true, true, true, true, true, true, true, true, true, true, true, true, false, true, true, false, false, false, false, false, false, false, false]) rfl (by kernel_rfl) (by kernel_rfl) (by kernel_rfl) (fun _ _ _ h => h) rfl ?_; clear hS a; intro a hS) | (refine Z_take0 (i := 29) hS rfl (want_go rfl rfl) (e_faK rfl ty_fo44_4) (listed' := [true, true, true, true, true, true, true, true, true, true, true, true, true, true, true, true, true, true, true, true, true, true, true, true, true, true, true, false, true, true, false, false, false, false, false, false, false, false]) rfl (by kernel_rfl) (by kernel_rfl) (by kernel_rfl) (fun _ _ _ h => h) rfl ?_; clear hS a; intro a hS)
    refine Z_take (i := 30) hS rfl (want_go rfl rfl) (e_load rfl (by repeat constructor) ty_sc9 (by rfl)) (listed' := [true, true, true, true, true, true, true, true, true, true, true, true, true, true, true, true, true, true, true, true, true, true, true, true, true, true, true, false, true, true, true, false, false, false, false, false, false, false]) rfl (by kernel_rfl) (by kernel_rfl) (by kernel_rfl) (by kernel_rfl) (by kernel_rfl) (sub_cons (by repeat constructor) (sub_cons (by repeat constructor) sub_nil)) (fun _ _ _ h => h) rfl ?_; clear hS a; intro a hS
    first | (refine Z_take0 (i := 31) hS rfl (want_go rfl rfl) (e_fa0 rfl ty_fo44_2) (listed' := [true, true, true, true, true, true, true, true, true, true, true, true, true, true, true, true, true, true, true, true, true, true, true, true, true, true, true, false, true, true, true, true, false, false, false, false, false, false]) rfl (by kernel_rfl) (by kernel_rfl) (by kernel_rfl) (fun _ _ _ h => h) rfl ?_; clear hS a; intro a hS) | (refine Z_take0 (i := 31) hS rfl (want_go rfl rfl) (e_faK rfl ty_fo44_2) (listed' := [true, true, true, true, true, true, true, true, true, true, true, true, true, true, true, true, true, true, true, true, true, true, true, true, true, true, true, false, true, true, true, true, false, false, false, false, false, false]) rfl (by kernel_rfl) (by kernel_rfl) (by kernel_rfl) (fun _ _ _ h => h) rfl ?_; clear hS a; intro a hS)
    refine Z_take (i := 32) hS rfl (want_go rfl rfl) (e_load rfl (by repeat constructor) ty_sc3 (by rfl)) (listed' := [true, true, true, true, true, true, true, true, true, true, true, true, true, true, true, true, true, true, true, true, true, true, true, true, true, true, true, false, true, true, true, true, true, false, false, false, false, false]) rfl (by kernel_rfl) (by kernel_rfl) (by kernel_rfl) (by kernel_rfl) (by kernel_rfl) (sub_cons (by repeat constructor) (sub_cons (by repeat constructor) sub_nil)) (fun _ _ _ h => h) rfl ?_; clear hS a; intro a hS
    first | (refine Z_take0 (i := 33) hS rfl (want_go rfl rfl) (e_fa0 rfl ty_fo44_3) (listed' := [true, true, true, true, true, true, true, true, true, true, true, true, true, true, true, true, true, true, true, true, true, true, true, true, true, true, true, false, true, true, true, true, true, true, false, false, false, false]) rfl (by kernel_rfl) (by kernel_rfl) (by kernel_rfl) (fun _ _ _ h => h) rfl ?_; clear hS a; intro a hS) | (refine Z_take0 (i := 33) hS rfl (want_go rfl rfl) (e_faK rfl ty_fo44_3) (listed' := [true, true, true, true, true, true, true, true, true, true, true, true, true, true, true, true, true, true, true, true, true, true, true, true, true, true, true, false, true, true, true, true, true, true, false, false, false, false]) rfl (by kernel_rfl) (by kernel_rfl) (by kernel_rfl) (fun _ _ _ h => h) rfl ?_; clear hS a; intro a hS)
    refine Z_take (i := 34) hS rfl (want_go rfl rfl) (e_load rfl (by repeat constructor) ty_sc3 (by rfl)) (listed' := [true, true, true, true, true, true, true, true, true, true, true, true, true, true, true, true, true, true, true, true, true, true, true, true, true, true, true, false, true, true, true, true, true, true, true, false, false, false]) rfl (by kernel_rfl) (by kernel_rfl) (by kernel_rfl) (by kernel_rfl) (by kernel_rfl) (sub_cons (by repeat constructor) (sub_cons (by repeat constructor) sub_nil)) (fun _ _ _ h => h) rfl ?_; clear hS a; intro a hS
    refine Z_one (i := 27) rfl (want_go rfl rfl a hS.sl) (listed' := [true, true, true, true, true, true, true, true, true, true, true, true, true, true, true, true, true, true, true, true, true, true, true, true, true, true, true, true, true, true, true, true, true, true, true, false, false, false]) rfl (by kernel_rfl) (s_callP hS (.cons rfl (.cons rfl (.cons rfl (.cons rfl .nil)))) cf26 rfl (Billed_P bk sv its o.account o.from_ o.to_ hn1 hls _ (hS.get (X := bookA bk sv its false) (by repeat constructor))) ?_); clear hS a; (try clear w); intro a w hS
    refine Z_and hS (sub_cons (by repeat constructor) (sub_cons (by repeat constructor) sub_nil)) ?_
    refine Z_one (i := 35) rfl (want_go rfl rfl a hS.sl) (listed' := [true, true, true, true, true, true, true, true, true, true, true, true, true, true, true, true, true, true, true, true, true, true, true, true, true, true, true, true, true, true, true, true, true, true, true, true, false, false]) rfl (by kernel_rfl) (s_callP hS (.cons rfl (.cons rfl (.cons rfl (.cons rfl .nil)))) cf78 rfl (xBilled_P bw (.slice pr its.length cr) rts o.account o.from_ o.to_ hn2 _ (hS.get (X := rbA bw (.slice pr its.length cr) rts false) (by repeat constructor))) ?_); clear hS a; (try clear w); intro a w hS
    refine Z_and hS (sub_cons (by repeat constructor) (sub_cons (by repeat constructor) sub_nil)) ?_
    refine Z_take0 (i := 36) hS rfl (want_go rfl rfl) (e_binBn rfl rfl ty_u4) (listed' := [true, true, true, true, true, true, true, true, true, true, true, true, true, true, true, true, true, true, true, true, true, true, true, true, true, true, true, true, true, true, true, true, true, true, true, true, true, false]) rfl (by kernel_rfl) (by kernel_rfl) (by kernel_rfl) (fun _ _ _ h => h) rfl ?_; clear hS a; intro a hS
    first | (refine Z_take0 (i := 37) hS rfl want_none (e_pick_t rfl rfl) (listed' := [true, true, true, true, true, true, true, true, true, true, true, true, true, true, true, true, true, true, true, true, true, true, true, true, true, true, true, true, true, true, true, true, true, true, true, true, true, true]) rfl (by kernel_rfl) (by kernel_rfl) (by kernel_rfl) (fun _ _ _ h => h) rfl ?_; clear hS a; intro a hS) | (refine Z_take0 (i := 37) hS rfl want_none (e_pick_f rfl rfl) (listed' := [true, true, true, true, true, true, true, true, true, true, true, true, true, true, true, true, true, true, true, true, true, true, true, true, true, true, true, true, true, true, true, true, true, true, true, true, true, true]) rfl (by kernel_rfl) (by kernel_rfl) (by kernel_rfl) (fun _ _ _ h => h) rfl ?_; clear hS a; intro a hS)
    refine Z_done (by kernel_rfl) ?_
    refine n_then ?_
    replace hS := hS.is (t := 61) (c := false) rfl ((by unfold someL; rw [show its.map (·.v) = vs its from rfl, heq]; simp))
    refine c_if_f hS rfl ?_
    refine wp_skip ?_
    refine n_then ?_
    refine c_seq ?_
    replace hS := hS.split (Z := invsA (.slice q19 c19.length k19) c19 true) (X := rowA13 (.slice q19 c19.length k19) c19) (Y := lnsFrom c19 0) (by repeat constructor) (ok_own (hS.get (X := invsA (.slice q19 c19.length k19) c19 true) (by repeat constructor)).1) (lnsFrom_ok (fun x hx => (hS.get (X := invsA (.slice q19 c19.length k19) c19 true) (by repeat constructor)).2 x hx)) (fun b hb => .inl hb) (fun b hb => .inr hb) (fun b hb hb' => by obtain ⟨x, hx, hxb⟩ := hb'; exact hd19 x hx (by rw [← hxb]; exact hb)) rfl
    refine c_region ?_
    refine L_op (s_e hS (e_assign rfl) rfl ?_); clear hS a; intro a hS
    refine L_nil ?_
    refine n_then ?_
    refine c_seq ?_
    refine c_seq ?_
    refine c_region ?_
    refine L_op (s_e hS (e_assign rfl) rfl ?_); clear hS a; intro a hS
    refine L_nil ?_
    refine n_then ?_
    refine wp_block ?_
    skip
    refine c_loop (γ := Nat × Nat) (fun s a w => St 179 noB w0 a w [(9, .int .i64 (s.2 : Int)), (10, .int .i64 (s.1 : Int)), (7, .slice q19 c19.length k19), (8, .slice q23 c23.length k23), (0, .pointer (some ⟨bk, 0, none⟩)), (1, .pointer (some ⟨bw, 0, none⟩)), (5, .pointer (some ⟨b5, 0, none⟩))] [rowA13 (.slice q19 c19.length k19) c19, lnsFrom c19 s.1, invsA (.slice q23 c23.length k23) c23 true, .blk b5 (encO o) 44, bookA bk sv its false, rbA bw (.slice pr its.length cr) rts false] ∧ s.1 ≤ its.length ∧ s.2 = (((vs its).take s.1).filter (fun v => decide (v.account = o.account))).length) (fun s => its.length - s.1) (0, 0) ⟨(hS.slots (by repeat (first | exact trivial | refine ⟨rfl, ?_⟩))).pick (by repeat (first | exact Pick.nil | (refine Pick.cons (by repeat (first | exact Rem.head | apply Rem.tail)) ?_))), Nat.zero_le _, rfl⟩ ?_
    clear hS a; (try clear w); intro s a w hI
    obtain ⟨hS, hi, hkk⟩ := hI
    obtain ⟨i, k⟩ := s
    simp only at hS hi hkk ⊢
    refine c_seq ?_
    refine c_seq ?_
    refine c_region ?_
    refine L_op (s_e hS (e_move rfl) rfl ?_); clear hS a; intro a hS
    refine L_op (s_e hS (e_move rfl) rfl ?_); clear hS a; intro a hS
    refine L_op (s_e hS (e_len rfl rfl ty_sl41) rfl ?_); clear hS a; intro a hS
    refine L_op (s_e hS (e_bin rfl rfl rfl) rfl ?_); clear hS a; intro a hS
    refine L_nil ?_
    refine n_then ?_
    first | refine c_ifD hS rfl (fun hc65 => ?_) (fun hc65 => ?_) | refine c_if hS rfl (fun hc65 => ?_) (fun hc65 => ?_)
    ·
      have hil : i < its.length := by omega
      have hkb : k ≤ i := by rw [hkk]; exact Nat.le_trans (List.length_filter_le _ _) (by rw [List.length_take]; omega)
      have hilR : i < rts.length := by omega
      have hilC : i < c19.length := by omega
      obtain ⟨⟨vA, gA, kA⟩, hxA⟩ : ∃ x, its[i]? = some x := ⟨its[i], by simp⟩
      obtain ⟨⟨vR, gR, kR⟩, hxR⟩ : ∃ x, rts[i]? = some x := ⟨rts[i], by simp⟩
      obtain ⟨⟨vC, gC, kC⟩, hxC⟩ : ∃ x, c19[i]? = some x := ⟨c19[i], by simp⟩
      have hvA : (vs its)[i]? = some vA := by unfold vs; rw [List.getElem?_map, hxA]; rfl
      obtain rfl : vR = vA := by
        have e1 : (vs rts)[i]? = some vR := by unfold vs; rw [List.getElem?_map, hxR]; rfl
        rw [← heq, hvA] at e1; injection e1 with e1; exact e1.symm
      obtain rfl : vC = vR := by
        have e1 : (vs c19)[i]? = some vC := by unfold vs; rw [List.getElem?_map, hxC]; rfl
        rw [hm19', hvA] at e1; injection e1 with e1; exact e1.symm
      have hvl : vC.lines.length ≤ 1000000 := hls _ (List.mem_of_getElem? hxA)
      obtain ⟨g19, k19b, e19⟩ := own_some (hS.get (X := rowA13 (.slice q19 c19.length k19) c19) (by repeat constructor)) (fun e => by injection e with _ e2 _; omega)
      injection e19 with e19 _ _; subst e19
      obtain ⟨gP, rfl⟩ : ∃ g, pr = some ⟨g, 0, none⟩ := by
        rcases hsh with ⟨_, h0⟩ | hg
        · exfalso; simp only at h0; omega
        · exact hg
      have hmC : (⟨vC, gC, kC⟩ : IA) ∈ c19.drop i := by rw [dropA_at hxC]; exact .head _
      have hmR : (⟨vC, gR, kR⟩ : IA) ∈ rts := List.mem_of_getElem? hxR
      refine wp_skip ?_
      refine n_then ?_
      refine c_seq ?_
      refine wp_block ?_
      refine c_seq ?_
      refine c_region ?_
      refine L_op (s_e hS (e_move rfl) rfl ?_); clear hS a; intro a hS
      refine L_op (s_e hS (e_move rfl) rfl ?_); clear hS a; intro a hS
      first | (refine L_op (s_e hS (e_binN rfl rfl rfl (by omega)) rfl ?_); clear hS a; intro a hS) | (refine L_op (s_e hS (e_bin rfl rfl rfl) rfl ?_); clear hS a; intro a hS)
      refine L_op (s_callN hS (.cons rfl (.cons rfl .nil)) cf17 rfl (Get_some bk sv its i ⟨vC, gA, kA⟩ hxA hn1 hvl _ (hS.get (X := bookA bk sv its false) (by repeat constructor))) ?_); clear hS a; (try clear w); intro x72 a w hS
      refine L_op (s_e hS (e_move rfl) rfl ?_); clear hS a; intro a hS
      refine L_op (s_e hS (e_extract rfl rfl) rfl ?_); clear hS a; intro a hS
      refine L_op (s_e hS (e_extract rfl rfl) rfl ?_); clear hS a; intro a hS
      refine L_op (s_alloc hS ty_z34 rfl ?_); clear hS a; (try clear w); intro a w b11 hS
      refine L_op (s_storeA hS rfl rfl ty_sz34 (by repeat constructor) (by rfl) (by rfl) (by rfl) ?_); clear hS; (try clear w); intro w hS
      refine L_op (s_e hS (e_assign rfl) rfl ?_); clear hS a; intro a hS
      refine L_nil ?_
      refine n_then ?_
      refine c_seq ?_
      refine c_seq ?_
      refine c_drawS [] (by kernel_rfl) hS (sub_cons (X := .blk b11 _ _) (by repeat constructor) (sub_cons (X := rowA13 (.slice (some ⟨g19, 0, none⟩) c19.length k19) c19) (by repeat constructor) (sub_cons (X := rbA bw (.slice (some ⟨gP, 0, none⟩) its.length cr) rts false) (by repeat constructor) sub_nil))) ?_; clear hS; (try clear w); intro w hS
      simp only [List.length_cons, List.length_nil, Nat.zero_add, Nat.reduceAdd, List.replicate]
      refine Z_take0 (i := 0) hS rfl want_none (e_move rfl) (listed' := [true, false, false, false, false, false, false, false, false, false, false, false, false, false, false, false, false, false, false, false, false, false, false, false, false, false, false, false, false]) rfl (by kernel_rfl) (by kernel_rfl) (by kernel_rfl) (fun _ _ _ h => h) rfl ?_; clear hS a; intro a hS
      refine Z_take0 (i := 1) hS rfl want_none (e_not rfl) (listed' := [true, true, false, false, false, false, false, false, false, false, false, false, false, false, false, false, false, false, false, false, false, false, false, false, false, false, false, false, false]) rfl (by kernel_rfl) (by kernel_rfl) (by kernel_rfl) (fun _ _ _ h => h) rfl ?_; clear hS a; intro a hS
      refine Z_take0 (i := 2) hS rfl want_none (e_move rfl) (listed' := [true, true, true, false, false, false, false, false, false, false, false, false, false, false, false, false, false, false, false, false, false, false, false, false, false, false, false, false, false]) rfl (by kernel_rfl) (by kernel_rfl) (by kernel_rfl) (fun _ _ _ h => h) rfl ?_; clear hS a; intro a hS
      replace hS := hS.is (t := 77) (c := false) rfl (rfl)
      refine Z_take0 (i := 3) hS rfl (want_go rfl rfl) (e_move rfl) (listed' := [true, true, true, true, false, false, false, false, false, false, false, false, false, false, false, false, false, false, false, false, false, false, false, false, false, false, false, false, false]) rfl (by kernel_rfl) (by kernel_rfl) (by kernel_rfl) (fun _ _ _ h => h) rfl ?_; clear hS a; intro a hS
      refine Z_take0 (i := 4) hS rfl (want_go rfl rfl) (e_move rfl) (listed' := [true, true, true, true, true, false, false, false, false, false, false, false, false, false, false, false, false, false, false, false, false, false, false, false, false, false, false, false, false]) rfl (by kernel_rfl) (by kernel_rfl) (by kernel_rfl) (fun _ _ _ h => h) rfl ?_; clear hS a; intro a hS
      refine Z_take0 (i := 5) hS rfl (want_go rfl rfl) (e_ixN rfl rfl ty_sl41 ty_sz34 (by omega)) (listed' := [true, true, true, true, true, true, false, false, false, false, false, false, false, false, false, false, false, false, false, false, false, false, false, false, false, false, false, false, false]) rfl (by kernel_rfl) (by kernel_rfl) (by kernel_rfl) (fun _ _ _ h => h) rfl ?_; clear hS a; intro a hS
      refine Z_take (i := 6) hS rfl (want_go rfl rfl) (e_loadAC (l := encA ⟨vC, gC, kC⟩) rfl ty_st34 ty_sz34 (own_get (enc := encA) (s := 13) (fun _ => rfl) (by repeat constructor) hxC)) (listed' := [true, true, true, true, true, true, true, false, false, false, false, false, false, false, false, false, false, false, false, false, false, false, false, false, false, false, false, false, false]) rfl (by kernel_rfl) (by kernel_rfl) (by kernel_rfl) (by kernel_rfl) (by kernel_rfl) (sub_cons (by repeat constructor) (sub_cons (by repeat constructor) (sub_cons (by repeat constructor) sub_nil))) (fun _ _ _ h => h) rfl ?_; clear hS a; intro a hS
      refine Z_take0 (i := 7) hS rfl (want_go rfl rfl) (e_move rfl) (listed' := [true, true, true, true, true, true, true, true, false, false, false, false, false, false, false, false, false, false, false, false, false, false, false, false, false, false, false, false, false]) rfl (by kernel_rfl) (by kernel_rfl) (by kernel_rfl) (fun _ _ _ h => h) rfl ?_; clear hS a; intro a hS
      refine Z_take0 (i := 8) hS rfl (want_go rfl rfl) (e_nilCheck rfl) (listed' := [true, true, true, true, true, true, true, true, true, false, false, false, false, false, false, false, false, false, false, false, false, false, false, false, false, false, false, false, false]) rfl (by kernel_rfl) (by kernel_rfl) (by kernel_rfl) (fun _ _ _ h => h) rfl ?_; clear hS a; intro a hS
      first | (refine Z_take0 (i := 9) hS rfl (want_go rfl rfl) (e_fa0 rfl ty_fo56_0) (listed' := [true, true, true, true, true, true, true, true, true, true, false, false, false, false, false, false, false, false, false, false, false, false, false, false, false, false, false, false, false]) rfl (by kernel_rfl) (by kernel_rfl) (by kernel_rfl) (fun _ _ _ h => h) rfl ?_; clear hS a; intro a hS) | (refine Z_take0 (i := 9) hS rfl (want_go rfl rfl) (e_faK rfl ty_fo56_0) (listed' := [true, true, true, true, true, true, true, true, true, true, false, false, false, false, false, false, false, false, false, false, false, false, false, false, false, false, false, false, false]) rfl (by kernel_rfl) (by kernel_rfl) (by kernel_rfl) (fun _ _ _ h => h) rfl ?_; clear hS a; intro a hS)
      refine Z_take (i := 10) hS rfl (want_go rfl rfl) (e_loadC rfl ty_sc54 (rrd_bk (by repeat constructor))) (listed' := [true, true, true, true, true, true, true, true, true, true, true, false, false, false, false, false, false, false, false, false, false, false, false, false, false, false, false, false, false]) rfl (by kernel_rfl) (by kernel_rfl) (by kernel_rfl) (by kernel_rfl) (by kernel_rfl) (sub_cons (by repeat constructor) (sub_cons (by repeat constructor) (sub_cons (by repeat constructor) sub_nil))) (fun _ _ _ h => h) rfl ?_; clear hS a; intro a hS
      refine Z_take0 (i := 11) hS rfl (want_go rfl rfl) (e_move rfl) (listed' := [true, true, true, true, true, true, true, true, true, true, true, true, false, false, false, false, false, false, false, false, false, false, false, false, false, false, false, false, false]) rfl (by kernel_rfl) (by kernel_rfl) (by kernel_rfl) (fun _ _ _ h => h) rfl ?_; clear hS a; intro a hS
      refine Z_take0 (i := 12) hS rfl (want_go rfl rfl) (e_ixN rfl rfl ty_sl54 ty_sz119 (by omega)) (listed' := [true, true, true, true, true, true, true, true, true, true, true, true, true, false, false, false, false, false, false, false, false, false, false, false, false, false, false, false, false]) rfl (by kernel_rfl) (by kernel_rfl) (by kernel_rfl) (fun _ _ _ h => h) rfl ?_; clear hS a; intro a hS
      refine Z_take (i := 13) hS rfl (want_go rfl rfl) (e_loadAC (l := encA ⟨vC, gR, kR⟩) rfl ty_st119 ty_sz119 (rrd_row (by repeat constructor) hxR)) (listed' := [true, true, true, true, true, true, true, true, true, true, true, true, true, true, false, false, false, false, false, false, false, false, false, false, false, false, false, false, false]) rfl (by kernel_rfl) (by kernel_rfl) (by kernel_rfl) (by kernel_rfl) (by kernel_rfl) (sub_cons (by repeat constructor) (sub_cons (by repeat constructor) (sub_cons (by repeat constructor) sub_nil))) (fun _ _ _ h => h) rfl ?_; clear hS a; intro a hS
      refine Z_one (i := 14) rfl (want_go rfl rfl a hS.sl) (listed' := [true, true, true, true, true, true, true, true, true, true, true, true, true, true, true, false, false, false, false, false, false, false, false, false, false, false, false, false, false]) rfl (by kernel_rfl) (s_callP hS (.cons rfl (.cons rfl .nil)) cf79 rfl (iSame_P vC gC gR kC kR hvl _ (row_of_own (enc := encL) (fun _ => rfl) (hS.get (X := lnsFrom c19 i) (by repeat constructor) _ hmC)) ((hS.get (X := lnsFrom c19 i) (by repeat constructor) _ hmC).lt) (row_of_own (enc := encL) (fun _ => rfl) ((hS.get (X := rbA bw (.slice (some ⟨gP, 0, none⟩) its.length cr) rts false) (by repeat constructor)).lns _ hmR)) (((hS.get (X := rbA bw (.slice (some ⟨gP, 0, none⟩) its.length cr) rts false) (by repeat constructor)).lns _ hmR).lt) (fun e => hS.sep (X := lnsFrom c19 i) (Y := rbA bw (.slice (some ⟨gP, 0, none⟩) its.length cr) rts false) (by repeat (first | exact Rem.head | apply Rem.tail)) (by repeat constructor) gC ⟨_, hmC, rfl⟩ (.inr (.inr ⟨_, hmR, e⟩)))) ?_); clear hS a; (try clear w); intro a w hS
      refine Z_and hS (sub_cons (by repeat constructor) (sub_cons (by repeat constructor) (sub_cons (by repeat constructor) sub_nil))) ?_
      refine Z_take0 (i := 15) hS rfl (want_go rfl rfl) (e_not rfl) (listed' := [true, true, true, true, true, true, true, true, true, true, true, true, true, true, true, true, false, false, false, false, false, false, false, false, false, false, false, false, false]) rfl (by kernel_rfl) (by kernel_rfl) (by kernel_rfl) (fun _ _ _ h => h) rfl ?_; clear hS a; intro a hS
      first | (refine Z_take0 (i := 16) hS rfl want_none (e_pick_t rfl rfl) (listed' := [true, true, true, true, true, true, true, true, true, true, true, true, true, true, true, true, true, false, false, false, false, false, false, false, false, false, false, false, false]) rfl (by kernel_rfl) (by kernel_rfl) (by kernel_rfl) (fun _ _ _ h => h) rfl ?_; clear hS a; intro a hS) | (refine Z_take0 (i := 16) hS rfl want_none (e_pick_f rfl rfl) (listed' := [true, true, true, true, true, true, true, true, true, true, true, true, true, true, true, true, true, false, false, false, false, false, false, false, false, false, false, false, false]) rfl (by kernel_rfl) (by kernel_rfl) (by kernel_rfl) (fun _ _ _ h => h) rfl ?_; clear hS a; intro a hS)
      refine Z_take0 (i := 17) hS rfl want_none (e_move rfl) (listed' := [true, true, true, true, true, true, true, true, true, true, true, true, true, true, true, true, true, true, false, false, false, false, false, false, false, false, false, false, false]) rfl (by kernel_rfl) (by kernel_rfl) (by kernel_rfl) (fun _ _ _ h => h) rfl ?_; clear hS a; intro a hS
      replace hS := hS.is (t := 92) (c := false) rfl (rfl)
      refine Z_take (i := 18) hS rfl (want_go rfl rfl) (e_loadA rfl (by repeat constructor) ty_st34 ty_sz34 (by rfl)) (listed' := [true, true, true, true, true, true, true, true, true, true, true, true, true, true, true, true, true, true, true, false, false, false, false, false, false, false, false, false, false]) rfl (by kernel_rfl) (by kernel_rfl) (by kernel_rfl) (by kernel_rfl) (by kernel_rfl) (sub_cons (by repeat constructor) (sub_cons (by repeat constructor) (sub_cons (by repeat constructor) sub_nil))) (fun _ _ _ h => h) rfl ?_; clear hS a; intro a hS
      refine Z_take0 (i := 19) hS rfl (want_go rfl rfl) (e_move rfl) (listed' := [true, true, true, true, true, true, true, true, true, true, true, true, true, true, true, true, true, true, true, true, false, false, false, false, false, false, false, false, false]) rfl (by kernel_rfl) (by kernel_rfl) (by kernel_rfl) (fun _ _ _ h => h) rfl ?_; clear hS a; intro a hS
      refine Z_take0 (i := 20) hS rfl (want_go rfl rfl) (e_nilCheck rfl) (listed' := [true, true, true, true, true, true, true, true, true, true, true, true, true, true, true, true, true, true, true, true, true, false, false, false, false, false, false, false, false]) rfl (by kernel_rfl) (by kernel_rfl) (by kernel_rfl) (fun _ _ _ h => h) rfl ?_; clear hS a; intro a hS
      first | (refine Z_take0 (i := 21) hS rfl (want_go rfl rfl) (e_fa0 rfl ty_fo56_0) (listed' := [true, true, true, true, true, true, true, true, true, true, true, true, true, true, true, true, true, true, true, true, true, true, false, false, false, false, false, false, false]) rfl (by kernel_rfl) (by kernel_rfl) (by kernel_rfl) (fun _ _ _ h => h) rfl ?_; clear hS a; intro a hS) | (refine Z_take0 (i := 21) hS rfl (want_go rfl rfl) (e_faK rfl ty_fo56_0) (listed' := [true, true, true, true, true, true, true, true, true, true, true, true, true, true, true, true, true, true, true, true, true, true, false, false, false, false, false, false, false]) rfl (by kernel_rfl) (by kernel_rfl) (by kernel_rfl) (fun _ _ _ h => h) rfl ?_; clear hS a; intro a hS)
      refine Z_take (i := 22) hS rfl (want_go rfl rfl) (e_loadC rfl ty_sc54 (rrd_bk (by repeat constructor))) (listed' := [true, true, true, true, true, true, true, true, true, true, true, true, true, true, true, true, true, true, true, true, true, true, true, false, false, false, false, false, false]) rfl (by kernel_rfl) (by kernel_rfl) (by kernel_rfl) (by kernel_rfl) (by kernel_rfl) (sub_cons (by repeat constructor) (sub_cons (by repeat constructor) (sub_cons (by repeat constructor) sub_nil))) (fun _ _ _ h => h) rfl ?_; clear hS a; intro a hS
      refine Z_take0 (i := 23) hS rfl (want_go rfl rfl) (e_move rfl) (listed' := [true, true, true, true, true, true, true, true, true, true, true, true, true, true, true, true, true, true, true, true, true, true, true, true, false, false, false, false, false]) rfl (by kernel_rfl) (by kernel_rfl) (by kernel_rfl) (fun _ _ _ h => h) rfl ?_; clear hS a; intro a hS
      refine Z_take0 (i := 24) hS rfl (want_go rfl rfl) (e_ixN rfl rfl ty_sl54 ty_sz119 (by omega)) (listed' := [true, true, true, true, true, true, true, true, true, true, true, true, true, true, true, true, true, true, true, true, true, true, true, true, true, false, false, false, false]) rfl (by kernel_rfl) (by kernel_rfl) (by kernel_rfl) (fun _ _ _ h => h) rfl ?_; clear hS a; intro a hS
      refine Z_take (i := 25) hS rfl (want_go rfl rfl) (e_loadAC (l := encA ⟨vC, gR, kR⟩) rfl ty_st119 ty_sz119 (rrd_row (by repeat constructor) hxR)) (listed' := [true, true, true, true, true, true, true, true, true, true, true, true, true, true, true, true, true, true, true, true, true, true, true, true, true, true, false, false, false]) rfl (by kernel_rfl) (by kernel_rfl) (by kernel_rfl) (by kernel_rfl) (by kernel_rfl) (sub_cons (by repeat constructor) (sub_cons (by repeat constructor) (sub_cons (by repeat constructor) sub_nil))) (fun _ _ _ h => h) rfl ?_; clear hS a; intro a hS
      refine Z_one (i := 26) rfl (want_go rfl rfl a hS.sl) (listed' := [true, true, true, true, true, true, true, true, true, true, true, true, true, true, true, true, true, true, true, true, true, true, true, true, true, true, true, false, false]) rfl (by kernel_rfl) (s_callP hS (.cons rfl (.cons rfl .nil)) cf79 rfl (iSame_P vC x72.1 gR x72.2 kR hvl _ (row_of_own (enc := encL) (fun _ => rfl) (hS.get (X := lnA vC x72.1 x72.2) (by repeat constructor))) ((hS.ok (lnA vC x72.1 x72.2) (by repeat constructor)).lt x72.1 rfl) (row_of_own (enc := encL) (fun _ => rfl) ((hS.get (X := rbA bw (.slice (some ⟨gP, 0, none⟩) its.length cr) rts false) (by repeat constructor)).lns _ hmR)) (((hS.get (X := rbA bw (.slice (some ⟨gP, 0, none⟩) its.length cr) rts false) (by repeat constructor)).lns _ hmR).lt) (fun e => hS.sep (X := lnA vC x72.1 x72.2) (Y := rbA bw (.slice (some ⟨gP, 0, none⟩) its.length cr) rts false) (by repeat (first | exact Rem.head | apply Rem.tail)) (by repeat constructor) x72.1 rfl (.inr (.inr ⟨_, hmR, e⟩)))) ?_); clear hS a; (try clear w); intro a w hS
      refine Z_and hS (sub_cons (by repeat constructor) (sub_cons (by repeat constructor) (sub_cons (by repeat constructor) sub_nil))) ?_
      refine Z_take0 (i := 27) hS rfl (want_go rfl rfl) (e_not rfl) (listed' := [true, true, true, true, true, true, true, true, true, true, true, true, true, true, true, true, true, true, true, true, true, true, true, true, true, true, true, true, false]) rfl (by kernel_rfl) (by kernel_rfl) (by kernel_rfl) (fun _ _ _ h => h) rfl ?_; clear hS a; intro a hS
      first | (refine Z_take0 (i := 28) hS rfl want_none (e_pick_t rfl rfl) (listed' := [true, true, true, true, true, true, true, true, true, true, true, true, true, true, true, true, true, true, true, true, true, true, true, true, true, true, true, true, true]) rfl (by kernel_rfl) (by kernel_rfl) (by kernel_rfl) (fun _ _ _ h => h) rfl ?_; clear hS a; intro a hS) | (refine Z_take0 (i := 28) hS rfl want_none (e_pick_f rfl rfl) (listed' := [true, true, true, true, true, true, true, true, true, true, true, true, true, true, true, true, true, true, true, true, true, true, true, true, true, true, true, true, true]) rfl (by kernel_rfl) (by kernel_rfl) (by kernel_rfl) (fun _ _ _ h => h) rfl ?_; clear hS a; intro a hS)
      refine Z_done (by kernel_rfl) ?_
      refine n_then ?_
      replace hS := hS.is (t := 103) (c := false) rfl (rfl)
      refine c_if_f hS rfl ?_
      refine wp_skip ?_
      refine n_then ?_
      refine c_cut (fun a w => ∃ kk : Nat, St 179 noB w0 a w [(9, .int .i64 (kk : Int)), (10, .int .i64 (i : Int)), (7, .slice (some ⟨g19, 0, none⟩) c19.length k19), (8, .slice q23 c23.length k23), (0, .pointer (some ⟨bk, 0, none⟩)), (1, .pointer (some ⟨bw, 0, none⟩)), (5, .pointer (some ⟨b5, 0, none⟩))] [rowA13 (.slice (some ⟨g19, 0, none⟩) c19.length k19) c19, lnsFrom c19 i, invsA (.slice q23 c23.length k23) c23 true, .blk b5 (encO o) 44, bookA bk sv its false, rbA bw (.slice (some ⟨gP, 0, none⟩) its.length cr) rts false] ∧ kk = (((vs its).take (i + 1)).filter (fun v => decide (v.account = o.account))).length) ?_ ?_
      ·
        refine c_seq ?_
        refine c_drawS [] (by kernel_rfl) hS (sub_cons (X := .blk b5 _ _) (by repeat constructor) (sub_cons (X := rbA bw (.slice (some ⟨gP, 0, none⟩) its.length cr) rts false) (by repeat constructor) sub_nil)) ?_; clear hS; (try clear w); intro w hS
        simp only [List.length_cons, List.length_nil, Nat.zero_add, Nat.reduceAdd, List.replicate]
        refine Z_take0 (i := 0) hS rfl want_none (e_move rfl) (listed' := [true, false, false, false, false, false, false, false, false, false, false]) rfl (by kernel_rfl) (by kernel_rfl) (by kernel_rfl) (fun _ _ _ h => h) rfl ?_; clear hS a; intro a hS
        refine Z_take0 (i := 1) hS rfl want_none (e_nilCheck rfl) (listed' := [true, true, false, false, false, false, false, false, false, false, false]) rfl (by kernel_rfl) (by kernel_rfl) (by kernel_rfl) (fun _ _ _ h => h) rfl ?_; clear hS a; intro a hS
        first | (refine Z_take0 (i := 2) hS rfl want_none (e_fa0 rfl ty_fo56_0) (listed' := [true, true, true, false, false, false, false, false, false, false, false]) rfl (by kernel_rfl) (by kernel_rfl) (by kernel_rfl) (fun _ _ _ h => h) rfl ?_; clear hS a; intro a hS) | (refine Z_take0 (i := 2) hS rfl want_none (e_faK rfl ty_fo56_0) (listed' := [true, true, true, false, false, false, false, false, false, false, false]) rfl (by kernel_rfl) (by kernel_rfl) (by kernel_rfl) (fun _ _ _ h => h) rfl ?_; clear hS a; intro a hS)
        refine Z_take (i := 3) hS rfl want_none (e_loadC rfl ty_sc54 (rrd_bk (by repeat constructor))) (listed' := [true, true, true, true, false, false, false, false, false, false, false]) rfl (by kernel_rfl) (by kernel_rfl) (by kernel_rfl) (by kernel_rfl) (by kernel_rfl) (sub_cons (by repeat constructor) (sub_cons (by repeat constructor) sub_nil)) (fun _ _ _ h => h) rfl ?_; clear hS a; intro a hS
        refine Z_take0 (i := 4) hS rfl want_none (e_move rfl) (listed' := [true, true, true, true, true, false, false, false, false, false, false]) rfl (by kernel_rfl) (by kernel_rfl) (by kernel_rfl) (fun _ _ _ h => h) rfl ?_; clear hS a; intro a hS
        refine Z_take0 (i := 5) hS rfl want_none (e_ixN rfl rfl ty_sl54 ty_sz119 (by omega)) (listed' := [true, true, true, true, true, true, false, false, false, false, false]) rfl (by kernel_rfl) (by kernel_rfl) (by kernel_rfl) (fun _ _ _ h => h) rfl ?_; clear hS a; intro a hS
        first | (refine Z_take0 (i := 6) hS rfl want_none (e_fa0 rfl ty_fo119_4) (listed' := [true, true, true, true, true, true, true, false, false, false, false]) rfl (by kernel_rfl) (by kernel_rfl) (by kernel_rfl) (fun _ _ _ h => h) rfl ?_; clear hS a; intro a hS) | (refine Z_take0 (i := 6) hS rfl want_none (e_faK rfl ty_fo119_4) (listed' := [true, true, true, true, true, true, true, false, false, false, false]) rfl (by kernel_rfl) (by kernel_rfl) (by kernel_rfl) (fun _ _ _ h => h) rfl ?_; clear hS a; intro a hS)
        refine Z_take (i := 7) hS rfl want_none (e_loadC rfl ty_sc9 (fun w hh => rrd_row (by repeat constructor) hxR w hh 4 (.string vC.account) rfl)) (listed' := [true, true, true, true, true, true, true, true, false, false, false]) rfl (by kernel_rfl) (by kernel_rfl) (by kernel_rfl) (by kernel_rfl) (by kernel_rfl) (sub_cons (by repeat constructor) (sub_cons (by repeat constructor) sub_nil)) (fun _ _ _ h => h) rfl ?_; clear hS a; intro a hS
        first | (refine Z_take0 (i := 8) hS rfl want_none (e_fa0 rfl ty_fo44_4) (listed' := [true, true, true, true, true, true, true, true, true, false, false]) rfl (by kernel_rfl) (by kernel_rfl) (by kernel_rfl) (fun _ _ _ h => h) rfl ?_; clear hS a; intro a hS) | (refine Z_take0 (i := 8) hS rfl want_none (e_faK rfl ty_fo44_4) (listed' := [true, true, true, true, true, true, true, true, true, false, false]) rfl (by kernel_rfl) (by kernel_rfl) (by kernel_rfl) (fun _ _ _ h => h) rfl ?_; clear hS a; intro a hS)
        refine Z_take (i := 9) hS rfl want_none (e_load rfl (by repeat constructor) ty_sc9 (by rfl)) (listed' := [true, true, true, true, true, true, true, true, true, true, false]) rfl (by kernel_rfl) (by kernel_rfl) (by kernel_rfl) (by kernel_rfl) (by kernel_rfl) (sub_cons (by repeat constructor) (sub_cons (by repeat constructor) sub_nil)) (fun _ _ _ h => h) rfl ?_; clear hS a; intro a hS
        refine Z_take0 (i := 10) hS rfl want_none (e_binS rfl rfl rfl) (listed' := [true, true, true, true, true, true, true, true, true, true, true]) rfl (by kernel_rfl) (by kernel_rfl) (by kernel_rfl) (fun _ _ _ h => h) rfl ?_; clear hS a; intro a hS
        refine Z_done (by kernel_rfl) ?_
        refine n_then ?_
        first | refine c_ifD hS rfl (fun hc114 => ?_) (fun hc114 => ?_) | refine c_if hS rfl (fun hc114 => ?_) (fun hc114 => ?_)
        ·
          have hfa := filt_at (p := fun v => decide (v.account = o.account)) hvA (decide_eq_true hc114)
          rw [← hkk] at hfa
          obtain ⟨⟨vF, gF, kF⟩, hxF⟩ : ∃ x, c23[k]? = some x := by
            have e1 : (c23.map (·.v))[k]? = some vC := by rw [hm23]; exact hfa
            rw [List.getElem?_map] at e1
            cases e2 : c23[k]? with
            | none => rw [e2] at e1; cases e1
            | some x => exact ⟨x, rfl⟩
          obtain rfl : vF = vC := by
            have e1 : (c23.map (·.v))[k]? = some vC := by rw [hm23]; exact hfa
            rw [List.getElem?_map, hxF] at e1; injection e1
          have hkl : k < c23.length := (List.getElem?_eq_some_iff.1 hxF).1
          obtain ⟨g23, k23b, e23⟩ := own_some (hS.get (X := invsA (.slice q23 c23.length k23) c23 true) (by repeat constructor)).1 (fun e => by injection e with _ e2 _; omega)
          injection e23 with e23 _ _; subst e23
          have hmF : (⟨vF, gF, kF⟩ : IA) ∈ c23 := List.mem_of_getElem? hxF
          refine c_seq ?_
          refine c_seq ?_
          refine c_drawS [] (by kernel_rfl) hS (sub_cons (X := .blk b5 _ _) (by repeat constructor) (sub_cons (X := invsA (.slice (some ⟨g23, 0, none⟩) c23.length k23) c23 true) (by repeat constructor) (sub_cons (X := rbA bw (.slice (some ⟨gP, 0, none⟩) its.length cr) rts false) (by repeat constructor) sub_nil))) ?_; clear hS; (try clear w); intro w hS
          simp only [List.length_cons, List.length_nil, Nat.zero_add, Nat.reduceAdd, List.replicate]
          refine Z_take0 (i := 0) hS rfl want_none (e_move rfl) (listed' := [true, false, false, false, false, false, false, false, false, false, false, false, false, false, false, false, false, false, false]) rfl (by kernel_rfl) (by kernel_rfl) (by kernel_rfl) (fun _ _ _ h => h) rfl ?_; clear hS a; intro a hS
          refine Z_take0 (i := 1) hS rfl want_none (e_move rfl) (listed' := [true, true, false, false, false, false, false, false, false, false, false, false, false, false, false, false, false, false, false]) rfl (by kernel_rfl) (by kernel_rfl) (by kernel_rfl) (fun _ _ _ h => h) rfl ?_; clear hS a; intro a hS
          refine Z_take0 (i := 2) hS rfl want_none (e_len rfl rfl ty_sl41) (listed' := [true, true, true, false, false, false, false, false, false, false, false, false, false, false, false, false, false, false, false]) rfl (by kernel_rfl) (by kernel_rfl) (by kernel_rfl) (fun _ _ _ h => h) rfl ?_; clear hS a; intro a hS
          refine Z_take0 (i := 3) hS rfl want_none (e_bin rfl rfl rfl) (listed' := [true, true, true, true, false, false, false, false, false, false, false, false, false, false, false, false, false, false, false]) rfl (by kernel_rfl) (by kernel_rfl) (by kernel_rfl) (fun _ _ _ h => h) rfl ?_; clear hS a; intro a hS
          refine Z_take0 (i := 4) hS rfl want_none (e_move rfl) (listed' := [true, true, true, true, true, false, false, false, false, false, false, false, false, false, false, false, false, false, false]) rfl (by kernel_rfl) (by kernel_rfl) (by kernel_rfl) (fun _ _ _ h => h) rfl ?_; clear hS a; intro a hS
          replace hS := hS.is (t := 119) (c := false) rfl ((decide_eq_false (by omega)))
          refine Z_take0 (i := 5) hS rfl (want_go rfl rfl) (e_move rfl) (listed' := [true, true, true, true, true, true, false, false, false, false, false, false, false, false, false, false, false, false, false]) rfl (by kernel_rfl) (by kernel_rfl) (by kernel_rfl) (fun _ _ _ h => h) rfl ?_; clear hS a; intro a hS
          refine Z_take0 (i := 6) hS rfl (want_go rfl rfl) (e_move rfl) (listed' := [true, true, true, true, true, true, true, false, false, false, false, false, false, false, false, false, false, false, false]) rfl (by kernel_rfl) (by kernel_rfl) (by kernel_rfl) (fun _ _ _ h => h) rfl ?_; clear hS a; intro a hS
          refine Z_take0 (i := 7) hS rfl (want_go rfl rfl) (e_ixN rfl rfl ty_sl41 ty_sz34 (by omega)) (listed' := [true, true, true, true, true, true, true, true, false, false, false, false, false, false, false, false, false, false, false]) rfl (by kernel_rfl) (by kernel_rfl) (by kernel_rfl) (fun _ _ _ h => h) rfl ?_; clear hS a; intro a hS
          refine Z_take (i := 8) hS rfl (want_go rfl rfl) (e_loadAC (l := encA ⟨vF, gF, kF⟩) rfl ty_st34 ty_sz34 (inv_row (by repeat constructor) hxF)) (listed' := [true, true, true, true, true, true, true, true, true, false, false, false, false, false, false, false, false, false, false]) rfl (by kernel_rfl) (by kernel_rfl) (by kernel_rfl) (by kernel_rfl) (by kernel_rfl) (sub_cons (by repeat constructor) (sub_cons (by repeat constructor) (sub_cons (by repeat constructor) sub_nil))) (fun _ _ _ h => h) rfl ?_; clear hS a; intro a hS
          refine Z_take0 (i := 9) hS rfl (want_go rfl rfl) (e_move rfl) (listed' := [true, true, true, true, true, true, true, true, true, true, false, false, false, false, false, false, false, false, false]) rfl (by kernel_rfl) (by kernel_rfl) (by kernel_rfl) (fun _ _ _ h => h) rfl ?_; clear hS a; intro a hS
          refine Z_take0 (i := 10) hS rfl (want_go rfl rfl) (e_nilCheck rfl) (listed' := [true, true, true, true, true, true, true, true, true, true, true, false, false, false, false, false, false, false, false]) rfl (by kernel_rfl) (by kernel_rfl) (by kernel_rfl) (fun _ _ _ h => h) rfl ?_; clear hS a; intro a hS
          first | (refine Z_take0 (i := 11) hS rfl (want_go rfl rfl) (e_fa0 rfl ty_fo56_0) (listed' := [true, true, true, true, true, true, true, true, true, true, true, true, false, false, false, false, false, false, false]) rfl (by kernel_rfl) (by kernel_rfl) (by kernel_rfl) (fun _ _ _ h => h) rfl ?_; clear hS a; intro a hS) | (refine Z_take0 (i := 11) hS rfl (want_go rfl rfl) (e_faK rfl ty_fo56_0) (listed' := [true, true, true, true, true, true, true, true, true, true, true, true, false, false, false, false, false, false, false]) rfl (by kernel_rfl) (by kernel_rfl) (by kernel_rfl) (fun _ _ _ h => h) rfl ?_; clear hS a; intro a hS)
          refine Z_take (i := 12) hS rfl (want_go rfl rfl) (e_loadC rfl ty_sc54 (rrd_bk (by repeat constructor))) (listed' := [true, true, true, true, true, true, true, true, true, true, true, true, true, false, false, false, false, false, false]) rfl (by kernel_rfl) (by kernel_rfl) (by kernel_rfl) (by kernel_rfl) (by kernel_rfl) (sub_cons (by repeat constructor) (sub_cons (by repeat constructor) (sub_cons (by repeat constructor) sub_nil))) (fun _ _ _ h => h) rfl ?_; clear hS a; intro a hS
          refine Z_take0 (i := 13) hS rfl (want_go rfl rfl) (e_move rfl) (listed' := [true, true, true, true, true, true, true, true, true, true, true, true, true, true, false, false, false, false, false]) rfl (by kernel_rfl) (by kernel_rfl) (by kernel_rfl) (fun _ _ _ h => h) rfl ?_; clear hS a; intro a hS
          refine Z_take0 (i := 14) hS rfl (want_go rfl rfl) (e_ixN rfl rfl ty_sl54 ty_sz119 (by omega)) (listed' := [true, true, true, true, true, true, true, true, true, true, true, true, true, true, true, false, false, false, false]) rfl (by kernel_rfl) (by kernel_rfl) (by kernel_rfl) (fun _ _ _ h => h) rfl ?_; clear hS a; intro a hS
          refine Z_take (i := 15) hS rfl (want_go rfl rfl) (e_loadAC (l := encA ⟨vF, gR, kR⟩) rfl ty_st119 ty_sz119 (rrd_row (by repeat constructor) hxR)) (listed' := [true, true, true, true, true, true, true, true, true, true, true, true, true, true, true, true, false, false, false]) rfl (by kernel_rfl) (by kernel_rfl) (by kernel_rfl) (by kernel_rfl) (by kernel_rfl) (sub_cons (by repeat constructor) (sub_cons (by repeat constructor) (sub_cons (by repeat constructor) sub_nil))) (fun _ _ _ h => h) rfl ?_; clear hS a; intro a hS
          refine Z_one (i := 16) rfl (want_go rfl rfl a hS.sl) (listed' := [true, true, true, true, true, true, true, true, true, true, true, true, true, true, true, true, true, false, false]) rfl (by kernel_rfl) (s_callP hS (.cons rfl (.cons rfl .nil)) cf79 rfl (iSame_P vF gF gR kF kR hvl _ (row_of_own (enc := encL) (fun _ => rfl) ((hS.get (X := invsA (.slice (some ⟨g23, 0, none⟩) c23.length k23) c23 true) (by repeat constructor)).2 _ hmF)) (((hS.get (X := invsA (.slice (some ⟨g23, 0, none⟩) c23.length k23) c23 true) (by repeat constructor)).2 _ hmF).lt) (row_of_own (enc := encL) (fun _ => rfl) ((hS.get (X := rbA bw (.slice (some ⟨gP, 0, none⟩) its.length cr) rts false) (by repeat constructor)).lns _ hmR)) (((hS.get (X := rbA bw (.slice (some ⟨gP, 0, none⟩) its.length cr) rts false) (by repeat constructor)).lns _ hmR).lt) (fun e => hS.sep (X := invsA (.slice (some ⟨g23, 0, none⟩) c23.length k23) c23 true) (Y := rbA bw (.slice (some ⟨gP, 0, none⟩) its.length cr) rts false) (by repeat (first | exact Rem.head | apply Rem.tail)) (by repeat constructor) gF (.inr ⟨_, hmF, rfl⟩) (.inr (.inr ⟨_, hmR, e⟩)))) ?_); clear hS a; (try clear w); intro a w hS
          refine Z_and hS (sub_cons (by repeat constructor) (sub_cons (by repeat constructor) (sub_cons (by repeat constructor) sub_nil))) ?_
          refine Z_take0 (i := 17) hS rfl (want_go rfl rfl) (e_not rfl) (listed' := [true, true, true, true, true, true, true, true, true, true, true, true, true, true, true, true, true, true, false]) rfl (by kernel_rfl) (by kernel_rfl) (by kernel_rfl) (fun _ _ _ h => h) rfl ?_; clear hS a; intro a hS
          first | (refine Z_take0 (i := 18) hS rfl want_none (e_pick_t rfl rfl) (listed' := [true, true, true, true, true, true, true, true, true, true, true, true, true, true, true, true, true, true, true]) rfl (by kernel_rfl) (by kernel_rfl) (by kernel_rfl) (fun _ _ _ h => h) rfl ?_; clear hS a; intro a hS) | (refine Z_take0 (i := 18) hS rfl want_none (e_pick_f rfl rfl) (listed' := [true, true, true, true, true, true, true, true, true, true, true, true, true, true, true, true, true, true, true]) rfl (by kernel_rfl) (by kernel_rfl) (by kernel_rfl) (fun _ _ _ h => h) rfl ?_; clear hS a; intro a hS)
          refine Z_done (by kernel_rfl) ?_
          refine n_then ?_
          replace hS := hS.is (t := 133) (c := false) rfl (rfl)
          refine c_if_f hS rfl ?_
          refine wp_skip ?_
          refine n_then ?_
          refine c_region ?_
          refine L_op (s_e hS (e_move rfl) rfl ?_); clear hS a; intro a hS
          first | (refine L_op (s_e hS (e_binN rfl rfl rfl (by omega)) rfl ?_); clear hS a; intro a hS) | (refine L_op (s_e hS (e_bin rfl rfl rfl) rfl ?_); clear hS a; intro a hS)
          refine L_op (s_e hS (e_assign rfl) rfl ?_); clear hS a; intro a hS
          refine L_nil ?_
          first
          | exact ⟨k + 1, (hS.slots (by repeat (first | exact trivial | refine ⟨rfl, ?_⟩))).pick (by repeat (first | exact Pick.nil | (refine Pick.cons (by repeat (first | exact Rem.head | apply Rem.tail)) ?_))), by rw [filt_take hvA, if_pos (decide_eq_true hc114), hkk]⟩
          | exact ⟨k, (hS.slots (by repeat (first | exact trivial | refine ⟨rfl, ?_⟩))).pick (by repeat (first | exact Pick.nil | (refine Pick.cons (by repeat (first | exact Rem.head | apply Rem.tail)) ?_))), by rw [filt_take hvA, if_neg (by simpa using hc114), hkk, Nat.add_zero]⟩
        ·
          refine wp_skip ?_
          first
          | exact ⟨k + 1, (hS.slots (by repeat (first | exact trivial | refine ⟨rfl, ?_⟩))).pick (by repeat (first | exact Pick.nil | (refine Pick.cons (by repeat (first | exact Rem.head | apply Rem.tail)) ?_))), by rw [filt_take hvA, if_pos (decide_eq_true hc114), hkk]⟩
          | exact ⟨k, (hS.slots (by repeat (first | exact trivial | refine ⟨rfl, ?_⟩))).pick (by repeat (first | exact Pick.nil | (refine Pick.cons (by repeat (first | exact Rem.head | apply Rem.tail)) ?_))), by rw [filt_take hvA, if_neg (by simpa using hc114), hkk, Nat.add_zero]⟩
      ·
        clear hS a; (try clear w); intro a w hS
        obtain ⟨kk, hS, hkk2⟩ := hS
        refine c_seq ?_
        refine c_region ?_
        refine L_op (s_e hS (e_assign rfl) rfl ?_); clear hS a; intro a hS
        refine L_nil ?_
        refine n_then ?_
        refine wp_block ?_
        replace hS := lns_split hS hxC hp19 (by repeat constructor)
        refine c_loop (γ := Nat × List Value) (fun G a w => St 179 noB w0 a w [(13, .int .i64 (G.1 : Int)), (9, .int .i64 (kk : Int)), (10, .int .i64 (i : Int)), (7, .slice (some ⟨g19, 0, none⟩) c19.length k19), (8, .slice q23 c23.length k23), (0, .pointer (some ⟨bk, 0, none⟩)), (1, .pointer (some ⟨bw, 0, none⟩)), (5, .pointer (some ⟨b5, 0, none⟩))] [ownA 26 4 (.slice (some ⟨gC, 0, none⟩) vC.lines.length kC) vC.lines.length G.2, rowA13 (.slice (some ⟨g19, 0, none⟩) c19.length k19) c19, lnsFrom c19 (i + 1), invsA (.slice q23 c23.length k23) c23 true, .blk b5 (encO o) 44, bookA bk sv its false, rbA bw (.slice (some ⟨gP, 0, none⟩) its.length cr) rts false] ∧ G.1 ≤ vC.lines.length) (fun G => vC.lines.length - G.1) (0, vC.lines.flatMap encL) ⟨(hS.slots (by repeat (first | exact trivial | refine ⟨rfl, ?_⟩))).pick (by repeat (first | exact Pick.nil | (refine Pick.cons (by repeat (first | exact Rem.head | apply Rem.tail)) ?_))), Nat.zero_le _⟩ ?_
        clear hS a; (try clear w); intro G a w hI
        obtain ⟨hS, hj⟩ := hI
        obtain ⟨j, csx⟩ := G
        simp only at hS hj ⊢
        refine c_seq ?_
        refine c_seq ?_
        refine c_region ?_
        refine L_op (s_e hS (e_move rfl) rfl ?_); clear hS a; intro a hS
        refine L_op (s_e hS (e_move rfl) rfl ?_); clear hS a; intro a hS
        refine L_op (s_e hS (e_move rfl) rfl ?_); clear hS a; intro a hS
        refine L_op (s_e hS (e_ixN rfl rfl ty_sl41 ty_sz34 (by omega)) rfl ?_); clear hS a; intro a hS
        first | (refine L_op (s_e hS (e_fa0 rfl ty_fo34_6) rfl ?_); clear hS a; intro a hS) | (refine L_op (s_e hS (e_faK rfl ty_fo34_6) rfl ?_); clear hS a; intro a hS)
        refine L_op (s_e hS (e_loadC rfl ty_sc22 (fun w hh => own_get (enc := encA) (s := 13) (fun _ => rfl) (by repeat constructor) hxC w hh 6 (lnV vC gC kC) rfl)) rfl ?_); clear hS a; intro a hS
        refine L_op (s_e hS (e_len rfl rfl ty_sl22) rfl ?_); clear hS a; intro a hS
        refine L_op (s_e hS (e_bin rfl rfl rfl) rfl ?_); clear hS a; intro a hS
        refine L_nil ?_
        refine n_then ?_
        first | refine c_ifD hS rfl (fun hc143 => ?_) (fun hc143 => ?_) | refine c_if hS rfl (fun hc143 => ?_) (fun hc143 => ?_)
        ·
          refine wp_skip ?_
          refine n_then ?_
          refine c_seq ?_
          refine wp_block ?_
          refine c_region ?_
          refine L_op (s_e hS (e_move rfl) rfl ?_); clear hS a; intro a hS
          refine L_op (s_e hS (e_move rfl) rfl ?_); clear hS a; intro a hS
          refine L_op (s_e hS (e_ixN rfl rfl ty_sl41 ty_sz34 (by omega)) rfl ?_); clear hS a; intro a hS
          first | (refine L_op (s_e hS (e_fa0 rfl ty_fo34_6) rfl ?_); clear hS a; intro a hS) | (refine L_op (s_e hS (e_faK rfl ty_fo34_6) rfl ?_); clear hS a; intro a hS)
          refine L_op (s_e hS (e_loadC rfl ty_sc22 (fun w hh => own_get (enc := encA) (s := 13) (fun _ => rfl) (by repeat constructor) hxC w hh 6 (lnV vC gC kC) rfl)) rfl ?_); clear hS a; intro a hS
          refine L_op (s_e hS (e_move rfl) rfl ?_); clear hS a; intro a hS
          refine L_op (s_e hS (e_ixN rfl rfl ty_sl22 ty_sz26 (by omega)) rfl ?_); clear hS a; intro a hS
          first | (refine L_op (s_e hS (e_fa0 rfl ty_fo26_2) rfl ?_); clear hS a; intro a hS) | (refine L_op (s_e hS (e_faK rfl ty_fo26_2) rfl ?_); clear hS a; intro a hS)
          refine L_op (s_storeO (gb := gC) (cs := csx) hS rfl rfl rfl ty_sz3 (by repeat constructor) (by omega) ?_); clear hS; (try clear w); intro w hS
          refine L_nil ?_
          refine n_block ?_
          refine n_then ?_
          refine c_region ?_
          refine L_op (s_e hS (e_move rfl) rfl ?_); clear hS a; intro a hS
          first | (refine L_op (s_e hS (e_binN rfl rfl rfl (by omega)) rfl ?_); clear hS a; intro a hS) | (refine L_op (s_e hS (e_bin rfl rfl rfl) rfl ?_); clear hS a; intro a hS)
          refine L_op (s_e hS (e_assign rfl) rfl ?_); clear hS a; intro a hS
          refine L_nil ?_
          exact ⟨(j + 1, csx.set (0 + j * 4 + 2) (.int .i64 99)), by simp only; omega, hS.slots (by repeat (first | exact trivial | refine ⟨rfl, ?_⟩)), by simp only; omega⟩
        ·
          refine wp_exit ?_
          refine x_then (x_then (x_hit ?_))
          refine n_block ?_
          refine n_then ?_
          refine c_region ?_
          refine L_op (s_e hS (e_move rfl) rfl ?_); clear hS a; intro a hS
          first | (refine L_op (s_e hS (e_binN rfl rfl rfl (by omega)) rfl ?_); clear hS a; intro a hS) | (refine L_op (s_e hS (e_bin rfl rfl rfl) rfl ?_); clear hS a; intro a hS)
          refine L_op (s_e hS (e_assign rfl) rfl ?_); clear hS a; intro a hS
          refine L_nil ?_
          exact ⟨(i + 1, kk), by simp only; omega, (hS.slots (by repeat (first | exact trivial | refine ⟨rfl, ?_⟩))).pick (by repeat (first | exact Pick.nil | (refine Pick.cons (by repeat (first | exact Rem.head | apply Rem.tail)) ?_))), by simp only; omega, hkk2⟩
    ·
      obtain rfl : i = its.length := by omega
      have hk2 : k = c23.length := by
        rw [hkk, ← vs_len its, List.take_length]
        have := congrArg List.length hm23
        rw [List.length_map] at this
        rw [this]; rfl
      refine wp_exit ?_
      refine x_then (x_then (x_hit ?_))
      refine n_then ?_
      refine c_seq ?_
      refine c_region ?_
      refine L_op (s_e hS (e_move rfl) rfl ?_); clear hS a; intro a hS
      refine L_op (s_e hS (e_move rfl) rfl ?_); clear hS a; intro a hS
      refine L_op (s_e hS (e_len rfl rfl ty_sl41) rfl ?_); clear hS a; intro a hS
      first | (refine L_op (s_e hS (e_binN rfl rfl rfl (by omega)) rfl ?_); clear hS a; intro a hS) | (refine L_op (s_e hS (e_bin rfl rfl rfl) rfl ?_); clear hS a; intro a hS)
      refine L_op (s_callP hS (.cons rfl (.cons rfl .nil)) cf17 rfl (Get_none bk sv its ((c19.length : Int) + 1) hn1 _ (hS.get (X := bookA bk sv its false) (by repeat constructor)) (.inr (by omega))) ?_); clear hS a; (try clear w); intro a w hS
      refine L_op (s_e hS (e_move rfl) rfl ?_); clear hS a; intro a hS
      refine L_op (s_e hS (e_extract rfl rfl) rfl ?_); clear hS a; intro a hS
      refine L_op (s_e hS (e_extract rfl rfl) rfl ?_); clear hS a; intro a hS
      refine L_op (s_alloc hS ty_z34 rfl ?_); clear hS a; (try clear w); intro a w b14 hS
      refine L_op (s_storeA hS rfl rfl ty_sz34 (by repeat constructor) (by rfl) (by rfl) (by rfl) ?_); clear hS; (try clear w); intro w hS
      refine L_op (s_e hS (e_assign rfl) rfl ?_); clear hS a; intro a hS
      refine L_nil ?_
      refine n_then ?_
      refine c_seq ?_
      refine c_region ?_
      refine L_op (s_e hS (e_move rfl) rfl ?_); clear hS a; intro a hS
      refine L_op (s_callP hS (.cons rfl (.cons rfl .nil)) cf17 rfl (Get_none bk sv its 0 hn1 _ (hS.get (X := bookA bk sv its false) (by repeat constructor)) (.inl (by decide))) ?_); clear hS a; (try clear w); intro a w hS
      refine L_op (s_e hS (e_move rfl) rfl ?_); clear hS a; intro a hS
      refine L_op (s_e hS (e_extract rfl rfl) rfl ?_); clear hS a; intro a hS
      refine L_op (s_e hS (e_extract rfl rfl) rfl ?_); clear hS a; intro a hS
      refine L_op (s_alloc hS ty_z34 rfl ?_); clear hS a; (try clear w); intro a w b16 hS
      refine L_op (s_storeA hS rfl rfl ty_sz34 (by repeat constructor) (by rfl) (by rfl) (by rfl) ?_); clear hS; (try clear w); intro w hS
      refine L_op (s_e hS (e_assign rfl) rfl ?_); clear hS a; intro a hS
      refine L_nil ?_
      refine n_then ?_
      refine c_seq ?_
      refine c_region ?_
      refine L_op (s_e hS (e_move rfl) rfl ?_); clear hS a; intro a hS
      refine L_op (s_e hS (e_not rfl) rfl ?_); clear hS a; intro a hS
      refine L_op (s_e hS (e_move rfl) rfl ?_); clear hS a; intro a hS
      replace hS := hS.is (t := 169) (c := true) rfl (rfl)
      refine L_go hS rfl rfl (s_e hS (e_move rfl) rfl ?_); clear hS a; intro a hS
      refine L_go hS rfl rfl (s_e hS (e_not rfl) rfl ?_); clear hS a; intro a hS
      first | (refine L_op (s_e hS (e_pick_t rfl rfl) rfl ?_); clear hS a; intro a hS) | (refine L_op (s_e hS (e_pick_f rfl rfl) rfl ?_); clear hS a; intro a hS)
      refine L_op (s_e hS (e_move rfl) rfl ?_); clear hS a; intro a hS
      replace hS := hS.is (t := 173) (c := true) rfl (rfl)
      refine L_go hS rfl rfl (s_e hS (e_move rfl) rfl ?_); clear hS a; intro a hS
      refine L_go hS rfl rfl (s_e hS (e_move rfl) rfl ?_); clear hS a; intro a hS
      refine L_go hS rfl rfl (s_e hS (e_len rfl rfl ty_sl41) rfl ?_); clear hS a; intro a hS
      refine L_go hS rfl rfl (s_e hS (e_bin rfl rfl rfl) rfl ?_); clear hS a; intro a hS
      first | (refine L_op (s_e hS (e_pick_t rfl rfl) rfl ?_); clear hS a; intro a hS) | (refine L_op (s_e hS (e_pick_f rfl rfl) rfl ?_); clear hS a; intro a hS)
      refine L_op (s_e hS (e_assign rfl) rfl ?_); clear hS a; intro a hS
      refine L_nil ?_
      refine n_then ?_
      refine wp_ret ?_
      refine c_ret1 hS Try.results28 (.tmp rfl) ?_
      exact ⟨by rw [decide_eq_true (by omega)], hS.chg⟩
end Go.Proofs.Ytfiaobhkhedpiaa

namespace Go.Proofs.Ytfiaobhkhedpiaa
open Go.RowKit

set_option maxHeartbeats 1000000 in
set_option maxRecDepth 100000 in
theorem InvoicePlays_P (p : Option (Nat × Nat)) (c : Nat) (l : List ROp) (hlen : l.length ≤ 4611686018427387904) (hfit : ∀ x ∈ l, x.fits) (w0 : World) (h : opsφ p l w0) (hb : ∀ q, p = some q → q.1 < w0.heap.size) :
    PureC Try.prog 6 [sliceV p l.length c] w0 (.bool true) := by
  refine c_enter [(0, sliceV p l.length c)] [opsA p l] noB Try.func6 rfl Try.ntmps6 ⟨rfl, trivial⟩ rfl (okC (ops_ok h hb) okN) dis1 (mineC (by rfl) mineN) ?_
  intro a hS
  refine c_seq ?_
  refine c_region ?_
  refine L_op (s_e hS (e_assign rfl) rfl ?_); clear hS a; intro a hS
  refine L_nil ?_
  refine n_then ?_
  refine c_seq ?_
  refine c_region ?_
  refine L_op (s_callP hS .nil cf13 rfl (ifirst_P _) ?_); clear hS a; (try clear w); intro a w hS
  refine L_op (s_e hS (e_assign rfl) rfl ?_); clear hS a; intro a hS
  refine L_nil ?_
  refine n_then ?_
  refine c_seq ?_
  refine c_region ?_
  refine L_op (s_e hS (e_move rfl) rfl ?_); clear hS a; intro a hS
  refine L_op (s_callP hS (.cons rfl .nil) cf20 rfl (few_P p c l hlen hfit _ (hS.get (X := opsA p l) (by repeat constructor)) (fun q hq => (hS.ok (opsA p l) (by repeat constructor)).lt q.1 (.inl ⟨q.2, by rw [hq]⟩))) ?_); clear hS a; (try clear w); intro a w hS
  refine L_op (s_e hS (e_assign rfl) rfl ?_); clear hS a; intro a hS
  refine L_nil ?_
  refine n_then ?_
  refine c_seq ?_
  refine c_region ?_
  refine L_op (s_callN hS .nil cf14 rfl (New_P _) ?_); clear hS a; (try clear w); intro x12 a w hS
  refine L_op (s_e hS (e_assign rfl) rfl ?_); clear hS a; intro a hS
  refine L_nil ?_
  refine n_then ?_
  refine c_seq ?_
  refine c_region ?_
  refine L_op (s_e hS (e_build ty_z56 ty_pl56 .nil) rfl ?_); clear hS a; intro a hS
  refine L_op (s_boxA hS rfl rfl ?_); clear hS a; (try clear w); intro a w b14 hS
  refine L_op (s_e hS (e_assign rfl) rfl ?_); clear hS a; intro a hS
  refine L_nil ?_
  refine n_then ?_
  refine c_seq ?_
  refine c_seq ?_
  refine c_region ?_
  refine L_op (s_e hS (e_move rfl) rfl ?_); clear hS a; intro a hS
  refine L_op (s_e hS (e_not rfl) rfl ?_); clear hS a; intro a hS
  refine L_op (s_e hS (e_move rfl) rfl ?_); clear hS a; intro a hS
  replace hS := hS.is (t := 17) (c := false) rfl (rfl)
  refine L_go hS rfl rfl (s_e hS (e_move rfl) rfl ?_); clear hS a; intro a hS
  refine L_go hS rfl rfl (s_e hS (e_not rfl) rfl ?_); clear hS a; intro a hS
  first | (refine L_op (s_e hS (e_pick_t rfl rfl) rfl ?_); clear hS a; intro a hS) | (refine L_op (s_e hS (e_pick_f rfl rfl) rfl ?_); clear hS a; intro a hS)
  refine L_op (s_e hS (e_move rfl) rfl ?_); clear hS a; intro a hS
  (first | refine g_splitD (t := 21) hS rfl ?_ ?_ | refine g_split (t := 21) hS rfl ?_ ?_) <;> (clear hS; intro hg21 hS)
  ·
    refine L_skip_f hS rfl rfl rfl ?_; clear hS a; intro a hS
    refine L_skip_f hS rfl rfl rfl ?_; clear hS a; intro a hS
    first | (refine L_op (s_e hS (e_pick_t rfl rfl) rfl ?_); clear hS a; intro a hS) | (refine L_op (s_e hS (e_pick_f rfl rfl) rfl ?_); clear hS a; intro a hS)
    refine L_nil ?_
    refine n_then ?_
    refine c_if_t hS rfl ?_
    refine c_seq ?_
    refine c_region ?_
    refine L_op (s_e hS (e_move rfl) rfl ?_); clear hS a; intro a hS
    refine L_op (s_e hS (e_move rfl) rfl ?_); clear hS a; intro a hS
    replace hS := hS.is (t := 26) (c := true) rfl (rfl)
    refine L_go hS rfl rfl (s_e hS (e_move rfl) rfl ?_); clear hS a; intro a hS
    refine L_go hS rfl rfl (s_e hS (e_nnil rfl ty_u27) rfl ?_); clear hS a; intro a hS
    first | (refine L_op (s_e hS (e_pick_t rfl rfl) rfl ?_); clear hS a; intro a hS) | (refine L_op (s_e hS (e_pick_f rfl rfl) rfl ?_); clear hS a; intro a hS)
    refine L_op (s_e hS (e_assign rfl) rfl ?_); clear hS a; intro a hS
    refine L_nil ?_
    refine n_then ?_
    refine wp_ret ?_
    refine r_then ?_
    refine c_ret1 hS Try.results6 (.tmp rfl) ?_
    exact ⟨rfl, hS.chg⟩
  ·
    have hfew : fewL l := by simpa using hg21
    have hl60 := hfew.1
    refine L_go hS rfl rfl (s_e hS (e_move rfl) rfl ?_); clear hS a; intro a hS
    refine L_go hS rfl rfl (s_e hS (e_nil rfl ty_u27) rfl ?_); clear hS a; intro a hS
    first | (refine L_op (s_e hS (e_pick_t rfl rfl) rfl ?_); clear hS a; intro a hS) | (refine L_op (s_e hS (e_pick_f rfl rfl) rfl ?_); clear hS a; intro a hS)
    refine L_nil ?_
    refine n_then ?_
    replace hS := hS.is (t := 24) (c := false) rfl (rfl)
    refine c_if_f hS rfl ?_
    refine wp_skip ?_
    refine n_then ?_
    refine c_seq ?_
    refine c_seq ?_
    refine c_region ?_
    refine L_op (s_e hS (e_assign rfl) rfl ?_); clear hS a; intro a hS
    refine L_nil ?_
    refine n_then ?_
    refine wp_block ?_
    replace hS := hS.swap (X := .blk b14 [.slice none 0 0] 56) (Y := rbA b14 (.slice none 0 0) [] true) (by repeat constructor) (rb_ok true ⟨hS.get (X := .blk b14 [.slice none 0 0] 56) (by repeat constructor), World.ownsRow_nil _ _ _ _, fun x hx => by cases hx⟩) (fun b hb => by
      rcases hb with hb | hb | ⟨x, hx, _⟩
      · exact hb
      · cases hb
      · cases hx) rfl
    replace hS := hS.join (Y := bookA x12 (.slice none 0 0) [] true) (Z := twoB x12 b14 ⟨.slice none 0 0, [], .slice none 0 0, []⟩) (by repeat constructor) (twoB_ok (hS.ok (bookA x12 (.slice none 0 0) [] true) (by repeat constructor)) (hS.ok (rbA b14 (.slice none 0 0) [] true) (by repeat constructor)) (fun k h1 h2 => hS.sep (X := rbA b14 (.slice none 0 0) [] true) (Y := bookA x12 (.slice none 0 0) [] true) (by repeat (first | exact Rem.head | apply Rem.tail)) (by repeat constructor) k h2 h1)) (fun b hb => hb.symm) (fun _ => ⟨rfl, rfl⟩)
    refine c_loop (γ := Nat × TB) (fun G a w => St 55 noB w0 a w [(7, .int .i64 (G.1 : Int)), (5, .pointer (some ⟨x12, 0, none⟩)), (6, .pointer (some ⟨b14, 0, none⟩)), (0, sliceV p l.length c)] [twoB x12 b14 G.2, opsA p l] ∧ G.1 ≤ l.length ∧ same2 G.2 G.1) (fun G => l.length - G.1) (0, ⟨.slice none 0 0, [], .slice none 0 0, []⟩) ⟨(hS.slots (by repeat (first | exact trivial | refine ⟨rfl, ?_⟩))).pick (by repeat (first | exact Pick.nil | (refine Pick.cons (by repeat (first | exact Rem.head | apply Rem.tail)) ?_))), Nat.zero_le _, rfl, right_nil, Nat.le_refl _⟩ ?_
    clear hS a; (try clear w); intro G a w hI
    obtain ⟨i, y⟩ := G
    obtain ⟨hS, hi, hs⟩ := hI
    simp only at hS hi hs
    refine c_seq ?_
    refine c_seq ?_
    refine c_region ?_
    refine L_op (s_e hS (e_move rfl) rfl ?_); clear hS a; intro a hS
    refine L_op (s_e hS (e_move rfl) rfl ?_); clear hS a; intro a hS
    refine L_op (s_e hS (e_len rfl rfl ty_sl39) rfl ?_); clear hS a; intro a hS
    refine L_op (s_e hS (e_bin rfl rfl rfl) rfl ?_); clear hS a; intro a hS
    refine L_nil ?_
    refine n_then ?_
    first | refine c_ifD hS rfl (fun hc33 => ?_) (fun hc33 => ?_) | refine c_if hS rfl (fun hc33 => ?_) (fun hc33 => ?_)
    ·
      obtain ⟨o, ho⟩ : ∃ o, l[i]? = some o := ⟨l[i], by simp⟩
      obtain ⟨b, off, rfl⟩ := ops_pos h ho
      have hom := List.mem_of_getElem? ho
      have hof := hfit o hom
      have hoF := hfew.2 o hom
      refine wp_skip ?_
      refine n_then ?_
      refine c_seq ?_
      refine wp_block ?_
      refine c_seq ?_
      refine c_region ?_
      refine L_op (s_e hS (e_move rfl) rfl ?_); clear hS a; intro a hS
      refine L_op (s_e hS (e_move rfl) rfl ?_); clear hS a; intro a hS
      refine L_op (s_e hS (e_move rfl) rfl ?_); clear hS a; intro a hS
      refine L_op (s_e hS (e_move rfl) rfl ?_); clear hS a; intro a hS
      refine L_op (s_e hS (e_ixN rfl rfl ty_sl39 ty_sz44 (by omega)) rfl ?_); clear hS a; intro a hS
      refine L_op (s_e hS (e_loadAC (l := encO o) rfl ty_st44 ty_sz44 (ops_get (by repeat constructor) ho)) rfl ?_); clear hS a; intro a hS
      have hLn := (hS.get (X := opsA (some (b, off)) l) (by repeat constructor)).2 o hom
      have hsep := hS.sep (X := twoB x12 b14 y) (Y := opsA (some (b, off)) l) (by repeat (first | exact Rem.head | apply Rem.tail)) (by repeat constructor)
      refine L_op (s_callM hS (.cons rfl (.cons rfl (.cons rfl .nil))) cf27 rfl (does_P x12 b14 y o i (by omega) hs hof hoF _ (hS.get (X := twoB x12 b14 y) (by repeat constructor)) hLn (fun k hne hk hb => hsep k hb (.inr ⟨o, hom, hne, hk⟩))) (fun x => (by repeat constructor)) rfl ?_); clear hS a; (try clear w); intro x42 a w hS
      obtain ⟨y2, hs2⟩ := x42
      simp only at hS hs2
      refine L_op (s_e hS (e_assign rfl) rfl ?_); clear hS a; intro a hS
      refine L_nil ?_
      refine n_then ?_
      refine c_seq ?_
      refine c_region ?_
      refine L_op (s_e hS (e_move rfl) rfl ?_); clear hS a; intro a hS
      refine L_op (s_e hS (e_not rfl) rfl ?_); clear hS a; intro a hS
      refine L_op (s_e hS (e_move rfl) rfl ?_); clear hS a; intro a hS
      replace hS := hS.is (t := 45) (c := false) rfl (rfl)
      refine L_go hS rfl rfl (s_e hS (e_move rfl) rfl ?_); clear hS a; intro a hS
      refine L_go hS rfl rfl (s_e hS (e_move rfl) rfl ?_); clear hS a; intro a hS
      refine L_go hS rfl rfl (s_e hS (e_move rfl) rfl ?_); clear hS a; intro a hS
      refine L_go hS rfl rfl (s_e hS (e_move rfl) rfl ?_); clear hS a; intro a hS
      refine L_go hS rfl rfl (s_e hS (e_ixN rfl rfl ty_sl39 ty_sz44 (by omega)) rfl ?_); clear hS a; intro a hS
      refine L_go hS rfl rfl (s_e hS (e_loadAC (l := encO o) rfl ty_st44 ty_sz44 (ops_get (by repeat constructor) ho)) rfl ?_); clear hS a; intro a hS
      refine L_go hS rfl rfl (s_callP hS (.cons rfl (.cons rfl (.cons rfl .nil))) cf28 rfl (all_P x12 b14 y2 o (i + 1) (by omega) hs2 _ (hS.get (X := twoB x12 b14 y2) (by repeat constructor))) ?_); clear hS a; (try clear w); intro a w hS
      refine L_go hS rfl rfl (s_e hS (e_not rfl) rfl ?_); clear hS a; intro a hS
      first | (refine L_op (s_e hS (e_pick_t rfl rfl) rfl ?_); clear hS a; intro a hS) | (refine L_op (s_e hS (e_pick_f rfl rfl) rfl ?_); clear hS a; intro a hS)
      refine L_nil ?_
      refine n_then ?_
      replace hS := hS.is (t := 54) (c := false) rfl (rfl)
      refine c_if_f hS rfl ?_
      refine wp_skip ?_
      refine n_block ?_
      refine n_then ?_
      refine c_region ?_
      refine L_op (s_e hS (e_move rfl) rfl ?_); clear hS a; intro a hS
      first | (refine L_op (s_e hS (e_binN rfl rfl rfl (by omega)) rfl ?_); clear hS a; intro a hS) | (refine L_op (s_e hS (e_bin rfl rfl rfl) rfl ?_); clear hS a; intro a hS)
      refine L_op (s_e hS (e_assign rfl) rfl ?_); clear hS a; intro a hS
      refine L_nil ?_
      exact ⟨(i + 1, y2), by simp only; omega, (hS.slots (by repeat (first | exact trivial | refine ⟨rfl, ?_⟩))).pick (by repeat (first | exact Pick.nil | (refine Pick.cons (by repeat (first | exact Rem.head | apply Rem.tail)) ?_))), by simp only; omega, hs2⟩
    ·
      refine wp_exit ?_
      refine x_then (x_then (x_hit ?_))
      refine n_then ?_
      refine c_seq ?_
      refine c_region ?_
      refine L_op (s_e hS (e_assign rfl) rfl ?_); clear hS a; intro a hS
      refine L_nil ?_
      refine n_then ?_
      refine wp_ret ?_
      refine c_ret1 hS Try.results6 (.tmp rfl) ?_
      exact ⟨rfl, hS.chg⟩
end Go.Proofs.Ytfiaobhkhedpiaa

namespace Go.Proofs.Ytfiaobhkhedpiaa.invoicePlays
open Go.ChangeShapes Go.WideShapes Go.ChangeAt Go.RowKit Go.Joins
open Go.ChangeMaps (open_string shut_string)

theorem own : ownKnob Try.prog.godebug = none := by kernel_rfl
theorem laidOut : laidOutB Try.prog = true := by kernel_rfl

set_option maxRecDepth 100000 in
theorem lifted (os : Os) (started : os.Started) (H : Type) (enc : TypeId × Value → H) :
    ReturnsInHanded {} Try.checked os 6 .any (Rows.invoicePlaysSpec.pre6 enc Try.prog Try.f6 Rows.invoicePlaysRow.domain false) (Rows.invoicePlaysSpec.post enc Try.prog Try.f6 false true false false) := by
  refine returnsInHanded_of_change_sized (C := Try.checked) own started (by kernel_rfl) Try.func6
    (ChangeSpec.witness6 (enc := enc) (C := Try.checked) false ⟨#[], #[.slice none 0 0], []⟩ 8 (by kernel_rfl) (by kernel_rfl) (by kernel_rfl) (by kernel_rfl)) ?_
  intro W base args ds gs before hval0 hW hcnd hsz0 _
  have hval : ∀ (j : Nat) t v, Try.f6.params[j]? = some t → args[j]? = some v → Value.okWide Try.prog W .any base t v := hval0
  have hW' := hW
  obtain ⟨p, q, hA0, hV, rfl, hfz, hnd⟩ := hW
  have hsz : (DataW.weightsEach Try.prog (Try.f6.params.toList ++ Rows.invoicePlaysSpec.plain.varTypes Try.prog) (ds ++ gs)).all (· ≤ reachBytes) = true := hsz0
  have hA : DataW.TrodAll enc Try.prog W 0 (fun _ => true) true Try.f6.params.toList args.toList ds p := hA0
  rw [Try.params6] at hA hval hsz
  obtain ⟨v0, vs0, d0, ds0, p0, q0, hargs, rfl, rfl, h0, r0⟩ := trodAll_cons hA
  obtain ⟨rfl, rfl, rfl⟩ := trodAll_nil r0
  obtain rfl : args = #[v0] := by cases args; simp_all
  obtain ⟨rfl, rfl⟩ := trodVars_none hV
  have k0 := h0
  have lt0 : ∀ x ∈ p0, x.block < W.heap.size := by obtain ⟨m, hm⟩ := k0; exact DataW.trod_lt m _ _ _ hm
  have z0 : ∀ n ∈ d0.weights Try.prog 39, n ≤ reachBytes := fun n hn => by simpa using List.all_eq_true.1 hsz n (DataW.weights_mem_each (j := 0) (t := 39) (d := d0) rfl rfl n hn)
  obtain ⟨s0, l0, c0, rfl, y0, f0, m0, e0, g0⟩ := Open.open_ops (hval 0 39 v0 rfl rfl) h0 z0
  have hw := InvoicePlays_P s0 c0 l0 m0 f0 W e0 g0
  clear hA0 hval0
  refine hw.mono fun e W' ⟨he, hchg⟩ => ?_
  have bel := hchg.below
  subst he
  exact ⟨_, rfl, _, _, _, [], _, [], hW', trodAll_mk1 (shut_bool Try.underlying4 _), (trodAll_cons_mk (Below.trod laidOut (by kernel_rfl) (of_decide_eq_true (by kernel_rfl)) k0 bel lt0) trodAll_mk0), rfl, bel.frame _, fun h => by cases h⟩

theorem over : Rows.invoicePlaysRow.holds Try.pinned (OpenSpec.ofChange Rows.invoicePlaysSpec) :=
  OpenClaim.holds_of_wide 6 Try.f6 rfl rfl rfl rfl rfl rfl rfl ⟨rfl, rfl, rfl, rfl, rfl⟩ rfl rfl rfl rfl rfl (by kernel_rfl) Try.func6 (by kernel_rfl)
    (of_decide_eq_true (by kernel_rfl)) (by unfold Func.isWrapper; first | (rw [if_pos (by decide +kernel)]; kernel_rfl) | (rw [if_neg (by decide +kernel)]; exact ⟨rfl, rfl⟩))
    (fun os started H enc _ => lifted os started H enc)

theorem proved : Rows.InvoicePlaysSaid := over
end Go.Proofs.Ytfiaobhkhedpiaa.invoicePlays
