/- The ledger: Post, walked. -/
import Derived.Test.YtheofhegdjjfgaaLed5
namespace Go.Proofs.Ytheofhegdjjfgaa
open Go.RowKit

/-- the totals behind postings. -/
def totS (t : List (ByteArray × SM)) (ps : List Pst) : List (ByteArray × SM) := ps.foldl (fun t p => putT t p.acc (addS (totOf t p.acc) p)) t
theorem totS_take {t : List (ByteArray × SM)} {ps : List Pst} {i : Nat} {x : Pst} (hx : ps[i]? = some x) : totS t (ps.take (i + 1)) = putT (totS t (ps.take i)) x.acc (addS (totOf (totS t (ps.take i)) x.acc) x) := by
  unfold totS; rw [List.take_add_one, hx, List.foldl_append]; rfl
theorem bdT_put {t : List (ByteArray × SM)} {i : Nat} (h : bdT t i) {p : Pst} (hp : p.fits) : bdT (putT t p.acc (addS (totOf t p.acc) p)) (i + 1) := by
  intro e he
  have hu := hp.u
  have hf := hp.f
  rcases putT_mem he with rfl | he
  · have h2 := bdT_of h p.acc
    unfold addS; simp only; omega
  · have h1 := h e he
    omega
theorem bal_bd {t : List (ByteArray × SM)} (h : balT t) : bdT t 1 := fun e he => by
  have := h e he
  unfold okS inU at this
  omega
/-- what Post answers and leaves. -/
def postP (P : PL) (at_ : Int) (memo : ByteArray) (ps : List Pst) : PL :=
  if checkE P at_ memo ps = 0 then { P with es := P.es ++ [⟨(P.es.length : Int) + 1, at_, memo, ps⟩], tot := totS P.tot ps } else P
def postI (P : PL) (at_ : Int) (memo : ByteArray) (ps : List Pst) : Int := if checkE P at_ memo ps = 0 then (P.es.length : Int) + 1 else 0

theorem led_okQ {B : LB} {s : LS} {p : Option (Nat × Nat)} {ps : List Pst} {w : World} (h : ledφ B s w) (hr : RowP p 3 (ps.map encP) w) (hb : ∀ q, p = some q → q.1 < w.heap.size) : ∀ X ∈ [.blk B.lb (ledC B s) 129, smapA B.ma (entAc s.acs), smapA B.ml (entSm s.tot), rowE s, psAll s.es, rowP p 3 (ps.map encP)], X.ok w := by
  intro X hX
  rcases List.mem_append.1 (show X ∈ [.blk B.lb (ledC B s) 129, smapA B.ma (entAc s.acs), smapA B.ml (entSm s.tot), rowE s, psAll s.es] ++ [rowP p 3 (ps.map encP)] from hX) with hX | hX
  · exact led_okP h X hX
  · obtain rfl := List.mem_singleton.1 hX; exact ok_rowP hr hb
theorem led_disQ {B : LB} {s : LS} {p : Option (Nat × Nat)} {ps : List Pst} {w : World} (h : ledφ B s w) (hd : ∀ q, p = some q → ¬ ledF B s q.1) : [.blk B.lb (ledC B s) 129, smapA B.ma (entAc s.acs), smapA B.ml (entSm s.tot), rowE s, psAll s.es, rowP p 3 (ps.map encP)].Pairwise (fun X Y => ∀ b, X.F b → ¬ Y.F b) := by
  show ([.blk B.lb (ledC B s) 129, smapA B.ma (entAc s.acs), smapA B.ml (entSm s.tot), rowE s, psAll s.es] ++ [rowP p 3 (ps.map encP)]).Pairwise _
  refine List.pairwise_append.2 ⟨led_dis h, List.pairwise_singleton _ _, fun X hX Y hY b h1 h2 => ?_⟩
  obtain rfl := List.mem_singleton.1 hY
  obtain ⟨off, e⟩ := h2
  refine hd _ e ?_
  have key : ∀ X ∈ [.blk B.lb (ledC B s) 129, smapA B.ma (entAc s.acs), smapA B.ml (entSm s.tot), rowE s, psAll s.es], X.mine = true := fun X hX => by
    simp only [List.mem_cons, List.not_mem_nil, or_false] at hX
    rcases hX with rfl | rfl | rfl | rfl | rfl <;> rfl
  have h3 := led_mine (w := { w with heap := #[] }) X hX (key X hX) b h1
  rcases X with ⟨c, cs, E⟩ | ⟨F, φ, m⟩ | ⟨c, es, ck⟩
  all_goals
    simp only [List.mem_cons, List.not_mem_nil, or_false] at hX
    rcases hX with hX | hX | hX | hX | hX
  all_goals first
    | (cases hX; exact .inl h1)
    | (cases hX; exact .inr (.inl h1))
    | (cases hX; exact .inr (.inr (.inl h1)))
    | (cases hX; exact .inr (.inr (.inr (.inl h1))))
    | (cases hX; exact .inr (.inr (.inr (.inr h1))))
    | cases hX
theorem led_mineQ {B : LB} {s : LS} {p : Option (Nat × Nat)} {ps : List Pst} {w : World} : ∀ X ∈ [.blk B.lb (ledC B s) 129, smapA B.ma (entAc s.acs), smapA B.ml (entSm s.tot), rowE s, psAll s.es, rowP p 3 (ps.map encP)], X.mine = true → ∀ b, X.F b → w.heap.size ≤ b ∨ ledF B s b := by
  intro X hX hm
  rcases List.mem_append.1 (show X ∈ [.blk B.lb (ledC B s) 129, smapA B.ma (entAc s.acs), smapA B.ml (entSm s.tot), rowE s, psAll s.es] ++ [rowP p 3 (ps.map encP)] from hX) with hX | hX
  · exact led_mine X hX hm
  · obtain rfl := List.mem_singleton.1 hX; cases hm

set_option maxHeartbeats 1000000 in
set_option maxRecDepth 100000 in
theorem lPost_P (B : LB) (s : LS) (p : Option (Nat × Nat)) (c : Nat) (at_ : Int) (memo : ByteArray) (ps : List Pst) (hlen : ps.length ≤ 4611686018427387904) (hfit : ∀ x ∈ ps, x.fits) (hbt : balT s.tot) (hes : s.es.length ≤ 100000) (w0 : World) (h : ledφ B s w0) (hrow : RowP p 3 (ps.map encP) w0) (hb : ∀ q, p = some q → q.1 < w0.heap.size) (hd : ∀ q, p = some q → ¬ ledF B s q.1) :
    MutC Try.prog 32 [.pointer (some ⟨B.lb, 0, none⟩), .int .i64 at_, .string memo, sliceV p ps.length c] w0 (ledA B s true) (fun _ : { y : LS // pl y = postP (pl s) at_ memo ps } => .tuple [.int .i64 (postI (pl s) at_ memo ps), .int .i64 (checkE (pl s) at_ memo ps)].toArray) (fun y => ledA B y.1 true) := by
  obtain ⟨qs, cs, hsv⟩ := own_slice h.row
  have hel : (pl s).es.length = s.es.length := by simp [pl]
  refine c_enter [(0, .pointer (some ⟨B.lb, 0, none⟩)), (1, .int .i64 at_), (2, .string memo), (3, sliceV p ps.length c)] [.blk B.lb (ledC B s) 129, smapA B.ma (entAc s.acs), smapA B.ml (entSm s.tot), rowE s, psAll s.es, rowP p 3 (ps.map encP)] (ledF B s) Try.func32 rfl Try.ntmps32 ⟨rfl, rfl, rfl, rfl, trivial⟩ rfl (led_okQ h hrow hb) (led_disQ h hd) led_mineQ ?_
  intro a hS
  refine c_seq ?_
  refine c_region ?_
  refine L_op (s_e hS (e_assign rfl) rfl ?_); clear hS a; intro a hS
  refine L_op (s_e hS (e_assign rfl) rfl ?_); clear hS a; intro a hS
  refine L_nil ?_
  refine n_then ?_
  refine c_seq ?_
  refine c_seq ?_
  refine c_region ?_
  refine L_op (s_e hS (e_move rfl) rfl ?_); clear hS a; intro a hS
  refine L_op (s_e hS (e_move rfl) rfl ?_); clear hS a; intro a hS
  refine L_op (s_e hS (e_move rfl) rfl ?_); clear hS a; intro a hS
  refine L_op (s_e hS (e_move rfl) rfl ?_); clear hS a; intro a hS
  refine L_op (s_callP hS (.cons rfl (.cons rfl (.cons rfl (.cons rfl .nil)))) cf33 rfl (lCheck_P B s p c at_ memo ps hlen hfit hbt _ ⟨hS.get (X := .blk B.lb (ledC B s) 129) (by repeat constructor), hS.get (X := smapA B.ma (entAc s.acs)) (by repeat constructor), hS.get (X := smapA B.ml (entSm s.tot)) (by repeat constructor), hS.get (X := rowE s) (by repeat constructor), hS.get (X := psAll s.es) (by repeat constructor), h.ne⟩ (hS.get (X := rowP p 3 (ps.map encP)) (by repeat constructor)) (fun q hq => (hS.ok (rowP p 3 (ps.map encP)) (by repeat constructor)).lt q.1 ⟨q.2, hq⟩) hd) ?_); clear hS a; (try clear w); intro a w hS
  refine L_op (s_e hS (e_assign rfl) rfl ?_); clear hS a; intro a hS
  refine L_nil ?_
  refine n_then ?_
  refine c_seq ?_
  refine c_region ?_
  refine L_op (s_e hS (e_move rfl) rfl ?_); clear hS a; intro a hS
  refine L_op (s_e hS (e_bin rfl rfl rfl) rfl ?_); clear hS a; intro a hS
  refine L_nil ?_
  refine n_then ?_
  first | refine c_ifD hS rfl (fun hc20 => ?_) (fun hc20 => ?_) | refine c_if hS rfl (fun hc20 => ?_) (fun hc20 => ?_)
  ·
    refine c_seq ?_
    refine c_region ?_
    refine L_op (s_e hS (e_move rfl) rfl ?_); clear hS a; intro a hS
    refine L_op (s_e hS (e_assign rfl) rfl ?_); clear hS a; intro a hS
    refine L_op (s_e hS (e_assign rfl) rfl ?_); clear hS a; intro a hS
    refine L_nil ?_
    refine n_then ?_
    refine wp_ret ?_
    refine r_then ?_
    refine c_retN hS Try.results32 (.cons (.tmp rfl) (.cons (.tmp rfl) .nil)) rfl ?_
    have hI : postI (pl s) at_ memo ps = 0 := if_neg hc20
    have hP : postP (pl s) at_ memo ps = pl s := if_neg hc20
    exact ⟨⟨s, hP.symm⟩, by rw [hI], hS.chg, led_end hS (by repeat constructor) (by repeat constructor) (by repeat constructor) (by repeat constructor) (by repeat constructor) h.ne⟩
  ·
    have hE : checkE (pl s) at_ memo ps = 0 := Classical.byContradiction fun e => hc20 e
    have hl50 : ps.length ≤ 50 := by
      unfold checkE at hE
      split at hE
      · cases hE
      · split at hE
        · cases hE
        · split at hE
          · cases hE
          · split at hE
            · cases hE
            · omega
    refine wp_skip ?_
    refine n_then ?_
    refine c_seq ?_
    refine c_seq ?_
    refine c_region ?_
    refine L_op (s_e hS (e_move rfl) rfl ?_); clear hS a; intro a hS
    refine L_op (s_e hS (e_len rfl rfl ty_sl56) rfl ?_); clear hS a; intro a hS
    refine L_op (s_e hS (e_move rfl) rfl ?_); clear hS a; intro a hS
    refine L_nil ?_
    refine n_then ?_
    refine wp_block ?_
    skip
    refine c_loop (γ := Nat) (fun i a w => St 66 (ledF B s) w0 a w [(24, .int .i64 (i : Int)), (23, .int .i64 (ps.length : Int)), (22, sliceV p ps.length c), (0, .pointer (some ⟨B.lb, 0, none⟩)), (1, .int .i64 at_), (2, .string memo), (3, sliceV p ps.length c)] [.blk B.lb (ledC B s) 129, smapA B.ma (entAc s.acs), smapA B.ml (entSm (totS s.tot (ps.take i))), rowE s, psAll s.es, rowP p 3 (ps.map encP)] ∧ i ≤ ps.length ∧ bdT (totS s.tot (ps.take i)) (1 + i)) (fun i => ps.length - i) 0 ⟨(hS.slots (by repeat (first | exact trivial | refine ⟨rfl, ?_⟩))).pick (by repeat (first | exact Pick.nil | (refine Pick.cons (by repeat (first | exact Rem.head | apply Rem.tail)) ?_))), Nat.zero_le _, bal_bd hbt⟩ ?_
    clear hS a; (try clear w); intro i a w hI
    obtain ⟨hS, hi, hbd⟩ := hI
    refine c_seq ?_
    refine c_region ?_
    refine L_op (s_e hS (e_bin rfl rfl rfl) rfl ?_); clear hS a; intro a hS
    refine L_nil ?_
    refine n_then ?_
    refine c_seq ?_
    first | refine c_ifD hS rfl (fun hc25 => ?_) (fun hc25 => ?_) | refine c_if hS rfl (fun hc25 => ?_) (fun hc25 => ?_)
    ·
      have hil : i < ps.length := by omega
      obtain ⟨x, hx⟩ : ∃ x, ps[i]? = some x := ⟨ps[i], List.getElem?_eq_getElem hil⟩
      have hxf := hfit x (List.mem_of_getElem? hx)
      have hx' : (ps.map encP)[i]? = some (encP x) := by simp [hx]
      obtain ⟨b, off, rfl⟩ := rowP_some (hS.get (X := rowP p 3 (ps.map encP)) (by repeat constructor)) hx'
      have htt := totS_take (t := s.tot) hx
      have hb1 := bdT_of hbd x.acc
      have hu := hxf.u
      have hf := hxf.f
      have f1 : fitS (totOf (totS s.tot (ps.take i)) x.acc) := by unfold fitS Wd.fit; omega
      have f2 : fitS (addS (totOf (totS s.tot (ps.take i)) x.acc) x) := by unfold fitS addS Wd.fit; simp only; omega
      refine wp_skip ?_
      refine n_then ?_
      refine c_seq ?_
      refine wp_block ?_
      refine c_seq ?_
      refine c_region ?_
      refine L_op (s_e hS (e_ixN rfl rfl ty_sl56 ty_sz63 (by omega)) rfl ?_); clear hS a; intro a hS
      refine L_op (s_e hS (e_loadAC (l := encP x) rfl ty_st63 ty_sz63 (fun w hh => rowP_get (by repeat constructor) hx' w hh)) rfl ?_); clear hS a; intro a hS
      refine L_op (s_alloc hS ty_z63 rfl ?_); clear hS a; (try clear w); intro a w b12 hS
      refine L_op (s_storeA hS rfl rfl ty_sz63 (by repeat constructor) (by rfl) (by rfl) (by rfl) ?_); clear hS; (try clear w); intro w hS
      refine L_nil ?_
      refine n_then ?_
      refine c_drawS [15] (by kernel_rfl) hS (sub_cons (X := .blk b12 _ _) (by repeat constructor) (sub_cons (X := .blk B.lb (ledC B s) 129) (by repeat constructor) (sub_cons (X := smapA B.ml (entSm (totS s.tot (ps.take i)))) (by repeat constructor) sub_nil))) ?_; clear hS; (try clear w); intro w hS
      simp only [List.length_cons, List.length_nil, Nat.zero_add, Nat.reduceAdd, List.replicate]
      refine Z_take0 (i := 0) hS rfl want_none (e_move rfl) (listed' := [true, false, false, false, false, false, false, false, false, false, false, false, false, false, false, false]) rfl (by kernel_rfl) (by kernel_rfl) (by kernel_rfl) (fun _ _ _ h => h) rfl ?_; clear hS a; intro a hS
      refine Z_take0 (i := 1) hS rfl want_none (e_nilCheck rfl) (listed' := [true, true, false, false, false, false, false, false, false, false, false, false, false, false, false, false]) rfl (by kernel_rfl) (by kernel_rfl) (by kernel_rfl) (fun _ _ _ h => h) rfl ?_; clear hS a; intro a hS
      first | (refine Z_take0 (i := 2) hS rfl want_none (e_fa0 rfl ty_fo129_3) (listed' := [true, true, true, false, false, false, false, false, false, false, false, false, false, false, false, false]) rfl (by kernel_rfl) (by kernel_rfl) (by kernel_rfl) (fun _ _ _ h => h) rfl ?_; clear hS a; intro a hS) | (refine Z_take0 (i := 2) hS rfl want_none (e_faK rfl ty_fo129_3) (listed' := [true, true, true, false, false, false, false, false, false, false, false, false, false, false, false, false]) rfl (by kernel_rfl) (by kernel_rfl) (by kernel_rfl) (fun _ _ _ h => h) rfl ?_; clear hS a; intro a hS)
      refine Z_take (i := 3) hS rfl want_none (e_load rfl (by repeat constructor) ty_sc127 (by rfl)) (listed' := [true, true, true, true, false, false, false, false, false, false, false, false, false, false, false, false]) rfl (by kernel_rfl) (by kernel_rfl) (by kernel_rfl) (by kernel_rfl) (by kernel_rfl) (sub_cons (by repeat constructor) (sub_cons (by repeat constructor) (sub_cons (by repeat constructor) sub_nil))) (fun _ _ _ h => h) rfl ?_; clear hS a; intro a hS
      first | (refine Z_take0 (i := 4) hS rfl want_none (e_fa0 rfl ty_fo63_0) (listed' := [true, true, true, true, true, false, false, false, false, false, false, false, false, false, false, false]) rfl (by kernel_rfl) (by kernel_rfl) (by kernel_rfl) (fun _ _ _ h => h) rfl ?_; clear hS a; intro a hS) | (refine Z_take0 (i := 4) hS rfl want_none (e_faK rfl ty_fo63_0) (listed' := [true, true, true, true, true, false, false, false, false, false, false, false, false, false, false, false]) rfl (by kernel_rfl) (by kernel_rfl) (by kernel_rfl) (fun _ _ _ h => h) rfl ?_; clear hS a; intro a hS)
      refine Z_take (i := 5) hS rfl want_none (e_load rfl (by repeat constructor) ty_sc9 (by rfl)) (listed' := [true, true, true, true, true, true, false, false, false, false, false, false, false, false, false, false]) rfl (by kernel_rfl) (by kernel_rfl) (by kernel_rfl) (by kernel_rfl) (by kernel_rfl) (sub_cons (by repeat constructor) (sub_cons (by repeat constructor) (sub_cons (by repeat constructor) sub_nil))) (fun _ _ _ h => h) rfl ?_; clear hS a; intro a hS
      refine Z_take0 (i := 6) hS rfl want_none (e_move rfl) (listed' := [true, true, true, true, true, true, true, false, false, false, false, false, false, false, false, false]) rfl (by kernel_rfl) (by kernel_rfl) (by kernel_rfl) (fun _ _ _ h => h) rfl ?_; clear hS a; intro a hS
      refine Z_take0 (i := 7) hS rfl want_none (e_nilCheck rfl) (listed' := [true, true, true, true, true, true, true, true, false, false, false, false, false, false, false, false]) rfl (by kernel_rfl) (by kernel_rfl) (by kernel_rfl) (fun _ _ _ h => h) rfl ?_; clear hS a; intro a hS
      first | (refine Z_take0 (i := 8) hS rfl want_none (e_fa0 rfl ty_fo129_3) (listed' := [true, true, true, true, true, true, true, true, true, false, false, false, false, false, false, false]) rfl (by kernel_rfl) (by kernel_rfl) (by kernel_rfl) (fun _ _ _ h => h) rfl ?_; clear hS a; intro a hS) | (refine Z_take0 (i := 8) hS rfl want_none (e_faK rfl ty_fo129_3) (listed' := [true, true, true, true, true, true, true, true, true, false, false, false, false, false, false, false]) rfl (by kernel_rfl) (by kernel_rfl) (by kernel_rfl) (fun _ _ _ h => h) rfl ?_; clear hS a; intro a hS)
      refine Z_take (i := 9) hS rfl want_none (e_load rfl (by repeat constructor) ty_sc127 (by rfl)) (listed' := [true, true, true, true, true, true, true, true, true, true, false, false, false, false, false, false]) rfl (by kernel_rfl) (by kernel_rfl) (by kernel_rfl) (by kernel_rfl) (by kernel_rfl) (sub_cons (by repeat constructor) (sub_cons (by repeat constructor) (sub_cons (by repeat constructor) sub_nil))) (fun _ _ _ h => h) rfl ?_; clear hS a; intro a hS
      first | (refine Z_take0 (i := 10) hS rfl want_none (e_fa0 rfl ty_fo63_0) (listed' := [true, true, true, true, true, true, true, true, true, true, true, false, false, false, false, false]) rfl (by kernel_rfl) (by kernel_rfl) (by kernel_rfl) (fun _ _ _ h => h) rfl ?_; clear hS a; intro a hS) | (refine Z_take0 (i := 10) hS rfl want_none (e_faK rfl ty_fo63_0) (listed' := [true, true, true, true, true, true, true, true, true, true, true, false, false, false, false, false]) rfl (by kernel_rfl) (by kernel_rfl) (by kernel_rfl) (fun _ _ _ h => h) rfl ?_; clear hS a; intro a hS)
      refine Z_take (i := 11) hS rfl want_none (e_load rfl (by repeat constructor) ty_sc9 (by rfl)) (listed' := [true, true, true, true, true, true, true, true, true, true, true, true, false, false, false, false]) rfl (by kernel_rfl) (by kernel_rfl) (by kernel_rfl) (by kernel_rfl) (by kernel_rfl) (sub_cons (by repeat constructor) (sub_cons (by repeat constructor) (sub_cons (by repeat constructor) sub_nil))) (fun _ _ _ h => h) rfl ?_; clear hS a; intro a hS
      refine Z_take (i := 12) hS rfl want_none (e_lookupS rfl rfl ty_mp127 ty_u9 ty_zv136 (by repeat constructor)) (listed' := [true, true, true, true, true, true, true, true, true, true, true, true, true, false, false, false]) rfl (by kernel_rfl) (by kernel_rfl) (by kernel_rfl) (by kernel_rfl) (by kernel_rfl) (sub_cons (by repeat constructor) (sub_cons (by repeat constructor) (sub_cons (by repeat constructor) sub_nil))) (fun _ _ _ h => h) rfl ?_; clear hS a; intro a hS
      rw [lk_tot] at hS
      refine Z_take (i := 13) hS rfl want_none (e_loadA rfl (by repeat constructor) ty_st63 ty_sz63 (by rfl)) (listed' := [true, true, true, true, true, true, true, true, true, true, true, true, true, true, false, false]) rfl (by kernel_rfl) (by kernel_rfl) (by kernel_rfl) (by kernel_rfl) (by kernel_rfl) (sub_cons (by repeat constructor) (sub_cons (by repeat constructor) (sub_cons (by repeat constructor) sub_nil))) (fun _ _ _ h => h) rfl ?_; clear hS a; intro a hS
      refine Z_one (i := 14) rfl (want_none a hS.sl) (listed' := [true, true, true, true, true, true, true, true, true, true, true, true, true, true, true, false]) rfl (by kernel_rfl) (s_callP hS (.cons rfl (.cons rfl .nil)) cf70 rfl (sadd_P (totOf (totS s.tot (ps.take i)) x.acc) x f1 hxf f2 _) ?_); clear hS a; (try clear w); intro a w hS
      refine Z_and hS (sub_cons (by repeat constructor) (sub_cons (by repeat constructor) (sub_cons (by repeat constructor) sub_nil))) ?_
      refine Z_one (i := 15) rfl (want_none a hS.sl) (listed' := [true, true, true, true, true, true, true, true, true, true, true, true, true, true, true, true]) rfl (by kernel_rfl) (s_mapUp hS rfl rfl rfl ty_mp127 ty_u9 (by repeat constructor) ?_); clear hS; (try clear w); intro w hS
      refine Z_last (by simp) ?_
      refine Z_done (by kernel_rfl) ?_
      refine n_block ?_
      refine n_then ?_
      refine c_region ?_
      first | (refine L_op (s_e hS (e_binN rfl rfl rfl (by omega)) rfl ?_); clear hS a; intro a hS) | (refine L_op (s_e hS (e_bin rfl rfl rfl) rfl ?_); clear hS a; intro a hS)
      refine L_op (s_e hS (e_move rfl) rfl ?_); clear hS a; intro a hS
      refine L_nil ?_
      rw [show setM (entSm (totS s.tot (ps.take i))) x.acc (.agg (encSm (addS (totOf (totS s.tot (ps.take i)) x.acc) x)).toArray) = entSm (totS s.tot (ps.take (i + 1))) by rw [putT_set, htt]] at hS
      exact ⟨i + 1, by omega, (hS.slots (by repeat (first | exact trivial | refine ⟨rfl, ?_⟩))).pick (by repeat (first | exact Pick.nil | (refine Pick.cons (by repeat (first | exact Rem.head | apply Rem.tail)) ?_))), by omega, by rw [htt]; exact bdT_put hbd hxf⟩
    ·
      obtain rfl : i = ps.length := by omega
      rw [List.take_length] at hS
      have hro : rowE s = ownA 58 4 (.slice qs s.es.length cs) s.es.length (s.es.flatMap encE) := by unfold rowE; rw [hsv]
      rw [hro] at hS
      refine wp_exit ?_
      refine x_then (x_then (x_hit ?_))
      refine n_then ?_
      refine c_seq ?_
      refine c_region ?_
      refine L_op (s_e hS (e_move rfl) rfl ?_); clear hS a; intro a hS
      refine L_op (s_e hS (e_nilCheck rfl) rfl ?_); clear hS a; intro a hS
      first | (refine L_op (s_e hS (e_fa0 rfl ty_fo129_2) rfl ?_); clear hS a; intro a hS) | (refine L_op (s_e hS (e_faK rfl ty_fo129_2) rfl ?_); clear hS a; intro a hS)
      refine L_op (s_e hS (e_load rfl (by repeat constructor) ty_sc54 (by rfl)) rfl ?_); clear hS a; intro a hS
      rw [hsv] at hS
      refine L_op (s_e hS (e_len rfl rfl ty_sl54) rfl ?_); clear hS a; intro a hS
      first | (refine L_op (s_e hS (e_binN rfl rfl rfl (by omega)) rfl ?_); clear hS a; intro a hS) | (refine L_op (s_e hS (e_bin rfl rfl rfl) rfl ?_); clear hS a; intro a hS)
      refine L_op (s_e hS (e_assign rfl) rfl ?_); clear hS a; intro a hS
      refine L_nil ?_
      refine n_then ?_
      refine c_seq ?_
      refine c_drawS [15] (by kernel_rfl) hS (sub_cons (X := .blk B.lb (ledC B s) 129) (by repeat constructor) sub_nil) ?_; clear hS; (try clear w); intro w hS
      simp only [List.length_cons, List.length_nil, Nat.zero_add, Nat.reduceAdd, List.replicate]
      refine Z_take0 (i := 0) hS rfl want_none (e_move rfl) (listed' := [true, false, false, false, false, false, false, false, false, false, false, false, false, false, false, false]) rfl (by kernel_rfl) (by kernel_rfl) (by kernel_rfl) (fun _ _ _ h => h) rfl ?_; clear hS a; intro a hS
      refine Z_take0 (i := 1) hS rfl want_none (e_move rfl) (listed' := [true, true, false, false, false, false, false, false, false, false, false, false, false, false, false, false]) rfl (by kernel_rfl) (by kernel_rfl) (by kernel_rfl) (fun _ _ _ h => h) rfl ?_; clear hS a; intro a hS
      refine Z_take0 (i := 2) hS rfl want_none (e_nilCheck rfl) (listed' := [true, true, true, false, false, false, false, false, false, false, false, false, false, false, false, false]) rfl (by kernel_rfl) (by kernel_rfl) (by kernel_rfl) (fun _ _ _ h => h) rfl ?_; clear hS a; intro a hS
      first | (refine Z_take0 (i := 3) hS rfl want_none (e_fa0 rfl ty_fo129_2) (listed' := [true, true, true, true, false, false, false, false, false, false, false, false, false, false, false, false]) rfl (by kernel_rfl) (by kernel_rfl) (by kernel_rfl) (fun _ _ _ h => h) rfl ?_; clear hS a; intro a hS) | (refine Z_take0 (i := 3) hS rfl want_none (e_faK rfl ty_fo129_2) (listed' := [true, true, true, true, false, false, false, false, false, false, false, false, false, false, false, false]) rfl (by kernel_rfl) (by kernel_rfl) (by kernel_rfl) (fun _ _ _ h => h) rfl ?_; clear hS a; intro a hS)
      refine Z_take (i := 4) hS rfl want_none (e_load rfl (by repeat constructor) ty_sc54 (by rfl)) (listed' := [true, true, true, true, true, false, false, false, false, false, false, false, false, false, false, false]) rfl (by kernel_rfl) (by kernel_rfl) (by kernel_rfl) (by kernel_rfl) (by kernel_rfl) (sub_cons (by repeat constructor) sub_nil) (fun _ _ _ h => h) rfl ?_; clear hS a; intro a hS
      rw [hsv] at hS
      refine Z_take0 (i := 5) hS rfl want_none (e_move rfl) (listed' := [true, true, true, true, true, true, false, false, false, false, false, false, false, false, false, false]) rfl (by kernel_rfl) (by kernel_rfl) (by kernel_rfl) (fun _ _ _ h => h) rfl ?_; clear hS a; intro a hS
      refine Z_take0 (i := 6) hS rfl want_none (e_move rfl) (listed' := [true, true, true, true, true, true, true, false, false, false, false, false, false, false, false, false]) rfl (by kernel_rfl) (by kernel_rfl) (by kernel_rfl) (fun _ _ _ h => h) rfl ?_; clear hS a; intro a hS
      refine Z_take0 (i := 7) hS rfl want_none (e_move rfl) (listed' := [true, true, true, true, true, true, true, true, false, false, false, false, false, false, false, false]) rfl (by kernel_rfl) (by kernel_rfl) (by kernel_rfl) (fun _ _ _ h => h) rfl ?_; clear hS a; intro a hS
      refine Z_take0 (i := 8) hS rfl want_none (e_move rfl) (listed' := [true, true, true, true, true, true, true, true, true, false, false, false, false, false, false, false]) rfl (by kernel_rfl) (by kernel_rfl) (by kernel_rfl) (fun _ _ _ h => h) rfl ?_; clear hS a; intro a hS
      refine Z_one (i := 9) rfl (want_none a hS.sl) (listed' := [true, true, true, true, true, true, true, true, true, true, false, false, false, false, false, false]) rfl (by kernel_rfl) (s_callN hS (.cons rfl .nil) cf74 rfl (lfresh_P p c ps (by omega) _ (hS.get (X := rowP p 3 (ps.map encP)) (by repeat constructor)) (fun q hq => (hS.ok (rowP p 3 (ps.map encP)) (by repeat constructor)).lt q.1 ⟨q.2, hq⟩)) ?_); clear hS a; (try clear w); intro x59 a w hS
      refine Z_and hS (sub_cons (by repeat constructor) sub_nil) ?_
      refine Z_take0 (i := 10) hS rfl want_none (e_build ty_z58 ty_pl58 (.one rfl rfl rfl (by repeat constructor) (.one rfl rfl rfl (by repeat constructor) (.one rfl rfl rfl (by repeat constructor) (.one rfl rfl rfl (by repeat constructor) .nil))))) (listed' := [true, true, true, true, true, true, true, true, true, true, true, false, false, false, false, false]) rfl (by kernel_rfl) (by kernel_rfl) (by kernel_rfl) (fun _ _ _ h => h) rfl ?_; clear hS a; intro a hS
      refine Z_one (i := 11) rfl (want_none a hS.sl) (listed' := [true, true, true, true, true, true, true, true, true, true, true, true, false, false, false, false]) rfl (by kernel_rfl) (s_bslice hS ty_sl54 ty_sz58 ty_z58 rfl rfl rfl rfl (.agg rfl rfl .nil) rfl ?_); clear hS a; (try clear w); intro a w b61 hS
      refine Z_and hS (sub_cons (by repeat constructor) sub_nil) ?_
      refine Z_one (i := 12) rfl (want_none a hS.sl) (listed' := [true, true, true, true, true, true, true, true, true, true, true, true, true, false, false, false]) rfl (by kernel_rfl) (s_append1 hS rfl rfl ty_sl54 ty_sz58 ty_by58 ty_z58 rfl rfl rfl (by repeat constructor) (by repeat constructor) (by rfl) (by rfl) (fun _ => (by repeat constructor)) (by omega) ?_); clear hS a; (try clear w); intro v62 a w hv62 hS
      obtain ⟨q62, c62, rfl⟩ := own_slice (hS.get (X := ownA 58 4 v62 (s.es.length + 1) (s.es.flatMap encE ++ [.int .i64 ((s.es.length : Int) + 1), .int .i64 at_, .string memo, psO ps x59])) (by repeat constructor))
      refine Z_and hS (sub_cons (by repeat constructor) sub_nil) ?_
      refine Z_take0 (i := 13) hS rfl want_none (e_nilCheck rfl) (listed' := [true, true, true, true, true, true, true, true, true, true, true, true, true, true, false, false]) rfl (by kernel_rfl) (by kernel_rfl) (by kernel_rfl) (fun _ _ _ h => h) rfl ?_; clear hS a; intro a hS
      first | (refine Z_take0 (i := 14) hS rfl want_none (e_fa0 rfl ty_fo129_2) (listed' := [true, true, true, true, true, true, true, true, true, true, true, true, true, true, true, false]) rfl (by kernel_rfl) (by kernel_rfl) (by kernel_rfl) (fun _ _ _ h => h) rfl ?_; clear hS a; intro a hS) | (refine Z_take0 (i := 14) hS rfl want_none (e_faK rfl ty_fo129_2) (listed' := [true, true, true, true, true, true, true, true, true, true, true, true, true, true, true, false]) rfl (by kernel_rfl) (by kernel_rfl) (by kernel_rfl) (fun _ _ _ h => h) rfl ?_; clear hS a; intro a hS)
      refine Z_one (i := 15) rfl (want_none a hS.sl) (listed' := [true, true, true, true, true, true, true, true, true, true, true, true, true, true, true, true]) rfl (by kernel_rfl) (s_store hS rfl rfl rfl ty_sz54 (by repeat constructor) (by repeat constructor) ?_); clear hS; (try clear w); intro w hS
      refine Z_last (by simp) ?_
      refine Z_done (by kernel_rfl) ?_
      refine n_then ?_
      refine c_seq ?_
      refine c_region ?_
      refine L_op (s_e hS (e_move rfl) rfl ?_); clear hS a; intro a hS
      refine L_op (s_e hS (e_assign rfl) rfl ?_); clear hS a; intro a hS
      refine L_op (s_e hS (e_assign rfl) rfl ?_); clear hS a; intro a hS
      refine L_nil ?_
      refine n_then ?_
      refine wp_ret ?_
      refine c_retN hS Try.results32 (.cons (.tmp rfl) (.cons (.tmp rfl) .nil)) rfl ?_
      have hI : postI (pl s) at_ memo ps = (s.es.length : Int) + 1 := by unfold postI; rw [if_pos hE, hel]
      have hP : postP (pl s) at_ memo ps = { pl s with es := (pl s).es ++ [⟨((pl s).es.length : Int) + 1, at_, memo, ps⟩], tot := totS (pl s).tot ps } := if_pos hE
      have hr1 : w.ownsRow 0 58 4 (.slice q62 (s.es.length + 1) c62) (s.es.length + 1) (s.es.flatMap encE ++ [.int .i64 ((s.es.length : Int) + 1), .int .i64 at_, .string memo, psO ps x59]) := hS.get (X := ownA 58 4 (.slice q62 (s.es.length + 1) c62) (s.es.length + 1) (s.es.flatMap encE ++ [.int .i64 ((s.es.length : Int) + 1), .int .i64 at_, .string memo, psO ps x59])) (by repeat constructor)
      refine ⟨⟨⟨s.cur, s.acs, s.es ++ [⟨⟨(s.es.length : Int) + 1, at_, memo, ps⟩, x59.1, x59.2⟩], totS s.tot ps, s.closed, .slice q62 (s.es.length + 1) c62⟩, by rw [hP, hel]; simp [pl]⟩, by rw [hI, hE], hS.chg, led_ok true ⟨hS.get (X := .blk B.lb [.string s.cur, .map (some B.ma), .slice q62 (s.es.length + 1) c62, .map (some B.ml), .int .i64 s.closed] 129) (by repeat constructor), hS.get (X := smapA B.ma (entAc s.acs)) (by repeat constructor), hS.get (X := smapA B.ml (entSm (totS s.tot ps))) (by repeat constructor), by simpa [encE, psV, psO] using hr1, fun y hy => ?_, h.ne⟩, fun b hb => ?_⟩
      · rcases List.mem_append.1 hy with hy | hy
        · exact hS.get (X := psAll s.es) (by repeat constructor) y hy
        · obtain rfl := List.mem_singleton.1 hy
          exact hS.get (X := ownA 63 3 (psO ps x59) ps.length (ps.flatMap encP)) (by repeat constructor)
      · rcases hb with hb | hb | hb | hb | ⟨y, hy, hb⟩
        · exact .inl (.inl hb)
        · exact .inl (.inr (.inl hb))
        · exact .inl (.inr (.inr (.inl hb)))
        · exact (hS.mine (ownA 58 4 (.slice q62 (s.es.length + 1) c62) (s.es.length + 1) (s.es.flatMap encE ++ [.int .i64 ((s.es.length : Int) + 1), .int .i64 at_, .string memo, psO ps x59])) (by repeat constructor) rfl b hb).symm
        · rcases List.mem_append.1 hy with hy | hy
          · exact .inl (.inr (.inr (.inr (.inr ⟨y, hy, hb⟩))))
          · obtain rfl := List.mem_singleton.1 hy
            exact (hS.mine (ownA 63 3 (psO ps x59) ps.length (ps.flatMap encP)) (by repeat constructor) rfl b (by rw [hb]; rfl)).symm
end Go.Proofs.Ytheofhegdjjfgaa
