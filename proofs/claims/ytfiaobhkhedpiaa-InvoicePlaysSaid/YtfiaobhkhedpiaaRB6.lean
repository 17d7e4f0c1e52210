/- The reference's payments, as they change the book. -/
import Derived.Test.YtfiaobhkhedpiaaRB5
namespace Go.Proofs.Ytfiaobhkhedpiaa
open Go.RowKit

theorem encA_one (its : List IA) : ∀ u ∈ its.flatMap encA, isOne u = true := fun u hu => by
  obtain ⟨x, _, hx⟩ := List.mem_flatMap.1 hu
  simp [encA, encI, lnV] at hx
  rcases hx with rfl | rfl | rfl | rfl | rfl | rfl | rfl | rfl | rfl | rfl | rfl | rfl | rfl <;> rfl
def addPC (v : Inv) (p c : Int) : Inv := { v with paid := v.paid + p, credited := v.credited + c }
theorem lns_set {its : List IA} {k : Nat} {x y : IA} (hx : its[k]? = some x) (hb : y.b = x.b) {w : World} (h : ∀ x ∈ its, lnR x w) (hy : lnR y w) : ∀ z ∈ its.set k y, lnR z w := fun z hz => by
  rcases List.mem_or_eq_of_mem_set hz with h1 | rfl
  · exact h z h1
  · exact hy
theorem lns_b {its : List IA} {k : Nat} {x y : IA} (hx : its[k]? = some x) (hb : y.b = x.b) {b : Nat} (h : ∃ z ∈ its.set k y, b = z.b) : ∃ z ∈ its, b = z.b := by
  obtain ⟨z, hz, rfl⟩ := h
  rcases List.mem_or_eq_of_mem_set hz with h1 | rfl
  · exact ⟨z, h1, rfl⟩
  · exact ⟨x, List.mem_of_getElem? hx, hb⟩
set_option maxRecDepth 100000 in
theorem xSettled_P (bw : Nat) (sv : Value) (its : List IA) (k : Nat) (x : IA) (hx : its[k]? = some x) (hg : goodI x.v) (pp cc : Int) (hp : 0 ≤ pp) (hc : 0 ≤ cc) (hpc : pp + cc ≤ leftI x.v) (hn : its.length ≤ 1000000) (w0 : World) (h : rbφ bw sv its w0) :
    MutC Try.prog 104 [.pointer (some ⟨bw, 0, none⟩), .int .i64 ((k : Int) + 1), .int .i64 pp, .int .i64 cc] w0 (rbA bw sv its true) (fun _ : Value => .int .i64 (leftI (addPC x.v pp cc))) (fun sv' => rbA bw sv' (its.set k ⟨doneI (addPC x.v pp cc), x.b, x.c⟩) true) := by
  obtain ⟨p, c, rfl, hsh⟩ := rb_shape h
  have hkl : k < its.length := (List.getElem?_eq_some_iff.1 hx).1
  obtain ⟨g, rfl⟩ : ∃ g, p = some ⟨g, 0, none⟩ := hsh.resolve_left (by omega)
  obtain ⟨a1, a2, a3, a4, a5, a6⟩ := hg
  unfold leftI at hpc
  have hlx : ∀ w, lnR x w → lnR ⟨doneI (addPC x.v pp cc), x.b, x.c⟩ w := fun w hw => by
    have e : (doneI (addPC x.v pp cc)).lines = x.v.lines := by rw [doneI_lines]; rfl
    unfold lnR lnV at hw ⊢; rw [e]; exact hw
  refine c_enter [(0, .pointer (some ⟨bw, 0, none⟩)), (1, .int .i64 ((k : Int) + 1)), (2, .int .i64 pp), (3, .int .i64 cc)] [.blk bw [.slice (some ⟨g, 0, none⟩) its.length c] 56, ownA 119 13 (.slice (some ⟨g, 0, none⟩) its.length c) its.length (its.flatMap encA), rlnA its] (rbF bw (.slice (some ⟨g, 0, none⟩) its.length c) its) Try.func104 rfl Try.ntmps104 ⟨rfl, rfl, rfl, rfl, trivial⟩ rfl (rbΓ_ok h) (rbΓ_dis h) rbΓ_mine ?_
  intro a hS
  refine c_seq ?_
  refine c_region ?_
  refine L_op (s_e hS (e_assign rfl) rfl ?_); clear hS a; intro a hS
  refine L_nil ?_
  refine n_then ?_
  refine c_seq ?_
  refine c_region ?_
  refine L_op (s_e hS (e_move rfl) rfl ?_); clear hS a; intro a hS
  refine L_op (s_bslice hS ty_sl54 ty_sz119 ty_z119 rfl rfl rfl rfl .nil rfl ?_); clear hS a; (try clear w); intro a w b12 hS
  refine L_op (s_e hS (e_move rfl) rfl ?_); clear hS a; intro a hS
  refine L_op (s_e hS (e_nilCheck rfl) rfl ?_); clear hS a; intro a hS
  first | (refine L_op (s_e hS (e_fa0 rfl ty_fo56_0) rfl ?_); clear hS a; intro a hS) | (refine L_op (s_e hS (e_faK rfl ty_fo56_0) rfl ?_); clear hS a; intro a hS)
  refine L_op (s_e hS (e_load rfl (by repeat constructor) ty_sc54 (by rfl)) rfl ?_); clear hS a; intro a hS
  replace hS := hS.swap (X := .blk b12 [] 119) (Y := ownA 119 13 (.slice (some ⟨b12, 0, none⟩) 0 0) 0 []) (by repeat constructor) (own_empty (hS.get (X := .blk b12 [] 119) (by repeat constructor))) (fun b hb => by simpa [ownA, Asn.F, Value.ownBlock, eq_comm] using hb) rfl
  refine L_op (s_append hS rfl rfl ty_sl54 ty_sz119 ty_by119 ty_z119 rfl rfl rfl (by repeat constructor) (flat_len encA 13 (fun _ => rfl) its) (fun j u hj => by have h2 := World.ownsRow.cells (hS.get (X := ownA 119 13 (.slice (some ⟨g, 0, none⟩) its.length c) its.length (its.flatMap encA)) (by repeat constructor)) (g := g) rfl _ _ hj; rw [addr_add] at h2; exact h2) (encA_one its) (by omega) (fun _ => (by repeat constructor)) ?_); clear hS a; (try clear w); intro v17 a w hv17 hS
  rw [Nat.zero_add, List.nil_append] at hS
  obtain ⟨g2, c2, rfl⟩ := own_some (hS.get (X := ownA 119 13 v17 its.length (its.flatMap encA)) (by repeat constructor)) (fun e => by cases (hv17.1 e).1)
  refine L_op (s_e hS (e_nilCheck rfl) rfl ?_); clear hS a; intro a hS
  first | (refine L_op (s_e hS (e_fa0 rfl ty_fo56_0) rfl ?_); clear hS a; intro a hS) | (refine L_op (s_e hS (e_faK rfl ty_fo56_0) rfl ?_); clear hS a; intro a hS)
  refine L_op (s_store hS rfl rfl rfl ty_sz54 (by repeat constructor) (by repeat constructor) ?_); clear hS; (try clear w); intro w hS
  refine L_nil ?_
  refine n_then ?_
  refine c_seq ?_
  refine c_region ?_
  refine L_op (s_e hS (e_move rfl) rfl ?_); clear hS a; intro a hS
  refine L_op (s_e hS (e_nilCheck rfl) rfl ?_); clear hS a; intro a hS
  first | (refine L_op (s_e hS (e_fa0 rfl ty_fo56_0) rfl ?_); clear hS a; intro a hS) | (refine L_op (s_e hS (e_faK rfl ty_fo56_0) rfl ?_); clear hS a; intro a hS)
  refine L_op (s_e hS (e_load rfl (by repeat constructor) ty_sc54 (by rfl)) rfl ?_); clear hS a; intro a hS
  refine L_op (s_e hS (e_move rfl) rfl ?_); clear hS a; intro a hS
  first | (refine L_op (s_e hS (e_binN rfl rfl rfl (by omega)) rfl ?_); clear hS a; intro a hS) | (refine L_op (s_e hS (e_bin rfl rfl rfl) rfl ?_); clear hS a; intro a hS)
  rw [show (k : Int) + 1 - 1 = (k : Int) by omega] at hS
  refine L_op (s_e hS (e_ixN rfl rfl ty_sl54 ty_sz119 (by omega)) rfl ?_); clear hS a; intro a hS
  refine L_op (s_e hS (e_loadAC (l := encA x) rfl ty_st119 ty_sz119 (own_get (enc := encA) (s := 13) (fun _ => rfl) (by repeat constructor) hx)) rfl ?_); clear hS a; intro a hS
  refine L_op (s_alloc hS ty_z119 rfl ?_); clear hS a; (try clear w); intro a w b9 hS
  refine L_op (s_storeA hS rfl rfl ty_sz119 (by repeat constructor) (by rfl) (by rfl) (by rfl) ?_); clear hS; (try clear w); intro w hS
  refine L_nil ?_
  refine n_then ?_
  refine c_seq ?_
  refine c_region ?_
  first | (refine L_op (s_e hS (e_fa0 rfl ty_fo119_10) rfl ?_); clear hS a; intro a hS) | (refine L_op (s_e hS (e_faK rfl ty_fo119_10) rfl ?_); clear hS a; intro a hS)
  refine L_op (s_e hS (e_load rfl (by repeat constructor) ty_sc3 (by rfl)) rfl ?_); clear hS a; intro a hS
  refine L_op (s_e hS (e_move rfl) rfl ?_); clear hS a; intro a hS
  first | (refine L_op (s_e hS (e_binN rfl rfl rfl (by omega)) rfl ?_); clear hS a; intro a hS) | (refine L_op (s_e hS (e_bin rfl rfl rfl) rfl ?_); clear hS a; intro a hS)
  first | (refine L_op (s_e hS (e_fa0 rfl ty_fo119_10) rfl ?_); clear hS a; intro a hS) | (refine L_op (s_e hS (e_faK rfl ty_fo119_10) rfl ?_); clear hS a; intro a hS)
  refine L_op (s_store hS rfl rfl rfl ty_sz3 (by repeat constructor) (by repeat constructor) ?_); clear hS; (try clear w); intro w hS
  refine L_nil ?_
  refine n_then ?_
  refine c_seq ?_
  refine c_region ?_
  first | (refine L_op (s_e hS (e_fa0 rfl ty_fo119_11) rfl ?_); clear hS a; intro a hS) | (refine L_op (s_e hS (e_faK rfl ty_fo119_11) rfl ?_); clear hS a; intro a hS)
  refine L_op (s_e hS (e_load rfl (by repeat constructor) ty_sc3 (by rfl)) rfl ?_); clear hS a; intro a hS
  refine L_op (s_e hS (e_move rfl) rfl ?_); clear hS a; intro a hS
  first | (refine L_op (s_e hS (e_binN rfl rfl rfl (by omega)) rfl ?_); clear hS a; intro a hS) | (refine L_op (s_e hS (e_bin rfl rfl rfl) rfl ?_); clear hS a; intro a hS)
  first | (refine L_op (s_e hS (e_fa0 rfl ty_fo119_11) rfl ?_); clear hS a; intro a hS) | (refine L_op (s_e hS (e_faK rfl ty_fo119_11) rfl ?_); clear hS a; intro a hS)
  refine L_op (s_store hS rfl rfl rfl ty_sz3 (by repeat constructor) (by repeat constructor) ?_); clear hS; (try clear w); intro w hS
  refine L_nil ?_
  refine n_then ?_
  refine c_seq ?_
  refine c_region ?_
  first | (refine L_op (s_e hS (e_fa0 rfl ty_fo119_9) rfl ?_); clear hS a; intro a hS) | (refine L_op (s_e hS (e_faK rfl ty_fo119_9) rfl ?_); clear hS a; intro a hS)
  refine L_op (s_e hS (e_load rfl (by repeat constructor) ty_sc3 (by rfl)) rfl ?_); clear hS a; intro a hS
  first | (refine L_op (s_e hS (e_fa0 rfl ty_fo119_10) rfl ?_); clear hS a; intro a hS) | (refine L_op (s_e hS (e_faK rfl ty_fo119_10) rfl ?_); clear hS a; intro a hS)
  refine L_op (s_e hS (e_load rfl (by repeat constructor) ty_sc3 (by rfl)) rfl ?_); clear hS a; intro a hS
  first | (refine L_op (s_e hS (e_binN rfl rfl rfl (by omega)) rfl ?_); clear hS a; intro a hS) | (refine L_op (s_e hS (e_bin rfl rfl rfl) rfl ?_); clear hS a; intro a hS)
  first | (refine L_op (s_e hS (e_fa0 rfl ty_fo119_11) rfl ?_); clear hS a; intro a hS) | (refine L_op (s_e hS (e_faK rfl ty_fo119_11) rfl ?_); clear hS a; intro a hS)
  refine L_op (s_e hS (e_load rfl (by repeat constructor) ty_sc3 (by rfl)) rfl ?_); clear hS a; intro a hS
  first | (refine L_op (s_e hS (e_binN rfl rfl rfl (by omega)) rfl ?_); clear hS a; intro a hS) | (refine L_op (s_e hS (e_bin rfl rfl rfl) rfl ?_); clear hS a; intro a hS)
  refine L_op (s_e hS (e_assign rfl) rfl ?_); clear hS a; intro a hS
  refine L_nil ?_
  refine n_then ?_
  refine c_seq ?_
  refine c_seq ?_
  refine c_region ?_
  refine L_op (s_e hS (e_move rfl) rfl ?_); clear hS a; intro a hS
  refine L_op (s_e hS (e_bin rfl rfl rfl) rfl ?_); clear hS a; intro a hS
  refine L_nil ?_
  refine n_then ?_
  first | refine c_ifD hS rfl (fun hc47 => ?_) (fun hc47 => ?_) | refine c_if hS rfl (fun hc47 => ?_) (fun hc47 => ?_)
  ·
    obtain ⟨yv, hyv, hyd⟩ : ∃ yv, yv = ({ addPC x.v pp cc with state := 2 } : Inv) ∧ doneI (addPC x.v pp cc) = yv := ⟨_, rfl, by unfold doneI; rw [if_pos (show leftI (addPC x.v pp cc) = 0 from hc47)]⟩
    refine c_region ?_
    first | (refine L_op (s_e hS (e_fa0 rfl ty_fo119_12) rfl ?_); clear hS a; intro a hS) | (refine L_op (s_e hS (e_faK rfl ty_fo119_12) rfl ?_); clear hS a; intro a hS)
    refine L_op (s_store hS rfl rfl rfl ty_sz3 (by repeat constructor) (by repeat constructor) ?_); clear hS; (try clear w); intro w hS
    refine L_nil ?_
    refine n_then ?_
    refine c_seq ?_
    refine c_draw1 [8] (by kernel_rfl) hS ?_; clear hS; (try clear w); intro w hS
    simp only [List.length_cons, List.length_nil, Nat.zero_add, Nat.reduceAdd, List.replicate]
    refine Z_take0 (i := 0) hS rfl want_none (e_move rfl) (listed' := [true, false, false, false, false, false, false, false, false]) rfl (by kernel_rfl) (by kernel_rfl) (by kernel_rfl) (fun _ _ _ h => h) rfl ?_; clear hS a; intro a hS
    refine Z_take0 (i := 1) hS rfl want_none (e_nilCheck rfl) (listed' := [true, true, false, false, false, false, false, false, false]) rfl (by kernel_rfl) (by kernel_rfl) (by kernel_rfl) (fun _ _ _ h => h) rfl ?_; clear hS a; intro a hS
    first | (refine Z_take0 (i := 2) hS rfl want_none (e_fa0 rfl ty_fo56_0) (listed' := [true, true, true, false, false, false, false, false, false]) rfl (by kernel_rfl) (by kernel_rfl) (by kernel_rfl) (fun _ _ _ h => h) rfl ?_; clear hS a; intro a hS) | (refine Z_take0 (i := 2) hS rfl want_none (e_faK rfl ty_fo56_0) (listed' := [true, true, true, false, false, false, false, false, false]) rfl (by kernel_rfl) (by kernel_rfl) (by kernel_rfl) (fun _ _ _ h => h) rfl ?_; clear hS a; intro a hS)
    refine Z_take (i := 3) hS rfl want_none (e_load rfl (by repeat constructor) ty_sc54 (by rfl)) (listed' := [true, true, true, true, false, false, false, false, false]) rfl (by kernel_rfl) (by kernel_rfl) (by kernel_rfl) (by kernel_rfl) (by kernel_rfl) (by intro X hX; repeat (first | exact hX | apply List.Mem.tail)) (fun _ _ _ h => h) rfl ?_; clear hS a; intro a hS
    refine Z_take0 (i := 4) hS rfl want_none (e_move rfl) (listed' := [true, true, true, true, true, false, false, false, false]) rfl (by kernel_rfl) (by kernel_rfl) (by kernel_rfl) (fun _ _ _ h => h) rfl ?_; clear hS a; intro a hS
    first | (refine Z_take0 (i := 5) hS rfl want_none (e_binN rfl rfl rfl (by omega)) (listed' := [true, true, true, true, true, true, false, false, false]) rfl (by kernel_rfl) (by kernel_rfl) (by kernel_rfl) (fun _ _ _ h => h) rfl ?_; clear hS a; intro a hS) | (refine Z_take0 (i := 5) hS rfl want_none (e_bin rfl rfl rfl) (listed' := [true, true, true, true, true, true, false, false, false]) rfl (by kernel_rfl) (by kernel_rfl) (by kernel_rfl) (fun _ _ _ h => h) rfl ?_; clear hS a; intro a hS)
    rw [show (k : Int) + 1 - 1 = (k : Int) by omega] at hS
    refine Z_take (i := 6) hS rfl want_none (e_loadA rfl (by repeat constructor) ty_st119 ty_sz119 (by rfl)) (listed' := [true, true, true, true, true, true, true, false, false]) rfl (by kernel_rfl) (by kernel_rfl) (by kernel_rfl) (by kernel_rfl) (by kernel_rfl) (by intro X hX; repeat (first | exact hX | apply List.Mem.tail)) (fun _ _ _ h => h) rfl ?_; clear hS a; intro a hS
    refine Z_take0 (i := 7) hS rfl want_none (e_ixN rfl rfl ty_sl54 ty_sz119 (by omega)) (listed' := [true, true, true, true, true, true, true, true, false]) rfl (by kernel_rfl) (by kernel_rfl) (by kernel_rfl) (fun _ _ _ h => h) rfl ?_; clear hS a; intro a hS
    refine Z_one (i := 8) rfl (want_none a hS.sl) (listed' := [true, true, true, true, true, true, true, true, true]) rfl (by kernel_rfl) (s_storeOA (enc := encA) (s := 13) (v := ⟨yv, x.b, x.c⟩) (u := x) hS rfl (by subst hyv; rfl) (fun _ => rfl) (by subst hyv; rfl) ty_sz119 hx rfl (by repeat constructor) ?_); clear hS; (try clear w); intro w hS
    refine Z_last (by simp) ?_
    refine Z_done (by kernel_rfl) ?_
    refine n_then ?_
    refine c_seq ?_
    refine c_region ?_
    refine L_op (s_e hS (e_move rfl) rfl ?_); clear hS a; intro a hS
    refine L_op (s_e hS (e_assign rfl) rfl ?_); clear hS a; intro a hS
    refine L_nil ?_
    refine n_then ?_
    refine wp_ret ?_
    refine c_ret1 hS Try.results104 (.tmp rfl) ?_
    rw [hyd] at hlx ⊢
    have hrow := hS.get (X := ownA 119 13 (.slice (some ⟨g2, 0, none⟩) its.length c2) its.length ((its.set k ⟨yv, x.b, x.c⟩).flatMap encA)) (by repeat constructor)
    have hmine := hS.mine (ownA 119 13 (.slice (some ⟨g2, 0, none⟩) its.length c2) its.length ((its.set k ⟨yv, x.b, x.c⟩).flatMap encA)) (by repeat constructor) rfl
    have hlns : ∀ x ∈ its, lnR x w := hS.get (X := rlnA its) (by repeat constructor)
    refine ⟨.slice (some ⟨g2, 0, none⟩) its.length c2, rfl, hS.chg, rb_ok true ⟨hS.get (X := .blk bw [.slice (some ⟨g2, 0, none⟩) its.length c2] 56) (by repeat constructor), by rw [List.length_set]; exact hrow, lns_set (y := ⟨yv, x.b, x.c⟩) hx rfl hlns (hlx _ (hlns x (List.mem_of_getElem? hx)))⟩, fun b hb => ?_⟩
    rcases hb with hb | hb | hb
    · exact .inl (.inl hb)
    · exact (hmine b hb).symm
    · exact .inl (.inr (.inr (lns_b (y := ⟨yv, x.b, x.c⟩) hx rfl hb)))
  ·
    obtain ⟨yv, hyv, hyd⟩ : ∃ yv, yv = addPC x.v pp cc ∧ doneI (addPC x.v pp cc) = yv := ⟨_, rfl, by unfold doneI; rw [if_neg (show ¬ leftI (addPC x.v pp cc) = 0 from hc47)]⟩
    refine wp_skip ?_
    refine n_then ?_
    refine c_seq ?_
    refine c_draw1 [8] (by kernel_rfl) hS ?_; clear hS; (try clear w); intro w hS
    simp only [List.length_cons, List.length_nil, Nat.zero_add, Nat.reduceAdd, List.replicate]
    refine Z_take0 (i := 0) hS rfl want_none (e_move rfl) (listed' := [true, false, false, false, false, false, false, false, false]) rfl (by kernel_rfl) (by kernel_rfl) (by kernel_rfl) (fun _ _ _ h => h) rfl ?_; clear hS a; intro a hS
    refine Z_take0 (i := 1) hS rfl want_none (e_nilCheck rfl) (listed' := [true, true, false, false, false, false, false, false, false]) rfl (by kernel_rfl) (by kernel_rfl) (by kernel_rfl) (fun _ _ _ h => h) rfl ?_; clear hS a; intro a hS
    first | (refine Z_take0 (i := 2) hS rfl want_none (e_fa0 rfl ty_fo56_0) (listed' := [true, true, true, false, false, false, false, false, false]) rfl (by kernel_rfl) (by kernel_rfl) (by kernel_rfl) (fun _ _ _ h => h) rfl ?_; clear hS a; intro a hS) | (refine Z_take0 (i := 2) hS rfl want_none (e_faK rfl ty_fo56_0) (listed' := [true, true, true, false, false, false, false, false, false]) rfl (by kernel_rfl) (by kernel_rfl) (by kernel_rfl) (fun _ _ _ h => h) rfl ?_; clear hS a; intro a hS)
    refine Z_take (i := 3) hS rfl want_none (e_load rfl (by repeat constructor) ty_sc54 (by rfl)) (listed' := [true, true, true, true, false, false, false, false, false]) rfl (by kernel_rfl) (by kernel_rfl) (by kernel_rfl) (by kernel_rfl) (by kernel_rfl) (by intro X hX; repeat (first | exact hX | apply List.Mem.tail)) (fun _ _ _ h => h) rfl ?_; clear hS a; intro a hS
    refine Z_take0 (i := 4) hS rfl want_none (e_move rfl) (listed' := [true, true, true, true, true, false, false, false, false]) rfl (by kernel_rfl) (by kernel_rfl) (by kernel_rfl) (fun _ _ _ h => h) rfl ?_; clear hS a; intro a hS
    first | (refine Z_take0 (i := 5) hS rfl want_none (e_binN rfl rfl rfl (by omega)) (listed' := [true, true, true, true, true, true, false, false, false]) rfl (by kernel_rfl) (by kernel_rfl) (by kernel_rfl) (fun _ _ _ h => h) rfl ?_; clear hS a; intro a hS) | (refine Z_take0 (i := 5) hS rfl want_none (e_bin rfl rfl rfl) (listed' := [true, true, true, true, true, true, false, false, false]) rfl (by kernel_rfl) (by kernel_rfl) (by kernel_rfl) (fun _ _ _ h => h) rfl ?_; clear hS a; intro a hS)
    rw [show (k : Int) + 1 - 1 = (k : Int) by omega] at hS
    refine Z_take (i := 6) hS rfl want_none (e_loadA rfl (by repeat constructor) ty_st119 ty_sz119 (by rfl)) (listed' := [true, true, true, true, true, true, true, false, false]) rfl (by kernel_rfl) (by kernel_rfl) (by kernel_rfl) (by kernel_rfl) (by kernel_rfl) (by intro X hX; repeat (first | exact hX | apply List.Mem.tail)) (fun _ _ _ h => h) rfl ?_; clear hS a; intro a hS
    refine Z_take0 (i := 7) hS rfl want_none (e_ixN rfl rfl ty_sl54 ty_sz119 (by omega)) (listed' := [true, true, true, true, true, true, true, true, false]) rfl (by kernel_rfl) (by kernel_rfl) (by kernel_rfl) (fun _ _ _ h => h) rfl ?_; clear hS a; intro a hS
    refine Z_one (i := 8) rfl (want_none a hS.sl) (listed' := [true, true, true, true, true, true, true, true, true]) rfl (by kernel_rfl) (s_storeOA (enc := encA) (s := 13) (v := ⟨yv, x.b, x.c⟩) (u := x) hS rfl (by subst hyv; rfl) (fun _ => rfl) (by subst hyv; rfl) ty_sz119 hx rfl (by repeat constructor) ?_); clear hS; (try clear w); intro w hS
    refine Z_last (by simp) ?_
    refine Z_done (by kernel_rfl) ?_
    refine n_then ?_
    refine c_seq ?_
    refine c_region ?_
    refine L_op (s_e hS (e_move rfl) rfl ?_); clear hS a; intro a hS
    refine L_op (s_e hS (e_assign rfl) rfl ?_); clear hS a; intro a hS
    refine L_nil ?_
    refine n_then ?_
    refine wp_ret ?_
    refine c_ret1 hS Try.results104 (.tmp rfl) ?_
    rw [hyd] at hlx ⊢
    have hrow := hS.get (X := ownA 119 13 (.slice (some ⟨g2, 0, none⟩) its.length c2) its.length ((its.set k ⟨yv, x.b, x.c⟩).flatMap encA)) (by repeat constructor)
    have hmine := hS.mine (ownA 119 13 (.slice (some ⟨g2, 0, none⟩) its.length c2) its.length ((its.set k ⟨yv, x.b, x.c⟩).flatMap encA)) (by repeat constructor) rfl
    have hlns : ∀ x ∈ its, lnR x w := hS.get (X := rlnA its) (by repeat constructor)
    refine ⟨.slice (some ⟨g2, 0, none⟩) its.length c2, rfl, hS.chg, rb_ok true ⟨hS.get (X := .blk bw [.slice (some ⟨g2, 0, none⟩) its.length c2] 56) (by repeat constructor), by rw [List.length_set]; exact hrow, lns_set (y := ⟨yv, x.b, x.c⟩) hx rfl hlns (hlx _ (hlns x (List.mem_of_getElem? hx)))⟩, fun b hb => ?_⟩
    rcases hb with hb | hb | hb
    · exact .inl (.inl hb)
    · exact (hmine b hb).symm
    · exact .inl (.inr (.inr (lns_b (y := ⟨yv, x.b, x.c⟩) hx rfl hb)))
end Go.Proofs.Ytfiaobhkhedpiaa
