/- LedgerPlays: for every argument the law returns true, and each argument reads afterwards as it read before. No conditions. (text 3 of 6) -/
import Derived.Test.YtheofhegdjjfgaaGreatLPlC2
namespace Go.Proofs.YtheofhegdjjfgaaGreat
open Go.RowKit
theorem own_getL {Γ : List Asn} {α : Type} {enc : α → List Value} {s E g c m : Nat} {xs : List α} (hl : ∀ x, (enc x).length = s) (hm : ownA E s (.slice (some ⟨g, 0, none⟩) m c) m (xs.flatMap enc) ∈ Γ) {i : Nat} {x : α} (hx : xs[i]? = some x) : ∀ w, Hd Γ w → ∀ j v, (enc x)[j]? = some v → w.cell? ⟨g, 0 + i * s + j, none⟩ = some v := by
  intro w hh j v hj
  have h : w.ownsRow 0 E s (.slice (some ⟨g, 0, none⟩) m c) m (xs.flatMap enc) := hh _ hm
  have h1 := flat_get enc s hl xs i x hx j v hj
  have h2 := World.ownsRow.cells h (g := g) rfl _ _ h1
  rw [addr_add] at h2
  rw [← h2]; congr 2; omega
def codesA (acs : List Acc) : List ByteArray := acs.map (·.code)
def accsL (acs : List Acc) : List Acc := (srt (codesA acs)).map (accOf acs)
theorem accs_len (acs : List Acc) : (accsL acs).length = acs.length := by simp [accsL, srt_len, codesA]
set_option maxRecDepth 100000 in
theorem lAccs_P (B : LB) (s : LS) (hacs : s.acs.length ≤ 1000) (w0 : World) (h : ledφ B s w0) :
    NewC Tryz.prog 27 [.pointer (some ⟨B.lb, 0, none⟩)] w0 (fun v : Value => v) (fun v => ownA 35 4 v (accsL s.acs).length ((accsL s.acs).flatMap encAc)) := by
  have hkm : keysM (entAc s.acs) = codesA s.acs := by simp [keysM, entAc, codesA, Function.comp_def]
  have hel : (entAc s.acs).length = s.acs.length := by simp [entAc]
  refine c_enter [(0, .pointer (some ⟨B.lb, 0, none⟩))] [ledA B s false] noB Tryz.func27 rfl Tryz.ntmps27 ⟨rfl, trivial⟩ rfl (okC (led_ok false h) okN) dis1 (mineC (by rfl) mineN) ?_
  intro a hS
  refine c_seq (c_region ?_)
  refine L_e hS (e_assign rfl) rfl ?_; clear hS a; intro a hS
  refine L_nil (n_then (c_seq (c_region ?_)))
  refine L_e hS (e_assign rfl) rfl ?_; clear hS a; intro a hS
  refine L_nil (n_then (c_seq (c_seq (c_region ?_))))
  refine L_e hS (e_move rfl) rfl ?_; clear hS a; intro a hS
  refine L_e hS (e_nilCheck rfl) rfl ?_; clear hS a; intro a hS
  (first | refine L_e hS (e_fa0 rfl ty_fo88_1) rfl ?_ | refine L_e hS (e_faK rfl ty_fo88_1) rfl ?_); clear hS a; intro a hS
  refine L_e hS (e_loadC rfl ty_sc84 (led_cell (k := 1) (by repeat constructor) rfl)) rfl ?_; clear hS a; intro a hS
  refine L_op (s_callN hS (.cons rfl .nil) cf71 rfl (KeysLed_P B.ma _) ?_); clear hS a; (try clear w); intro x10 a w hS
  refine L_op (s_callN hS (.cons rfl .nil) cf70 rfl (SortedS_P cf108 (N := (entAc s.acs).length) (by omega) (fun xs hx => by rw [hx.length_eq]; simp [keysM]) (keysA x10 B.ma 84 (entAc s.acs)) rfl (Keys_Led_seq x10 B.ma (entAc s.acs)) _ (keys_ok ⟨hS.get (X := .blk x10 [.map (some B.ma)] 84) (by repeat constructor), (hS.get (X := ledA B s false) (by repeat constructor)).am⟩)) ?_); clear hS a; (try clear w); intro x11 a w hS
  obtain ⟨⟨v11, ks⟩, xs, hxs, hks⟩ := x11
  simp only at hks hS
  have hk2 : ks = srt (codesA s.acs) := by rw [hks, ← hkm]; exact srt_perm hxs
  have hkl : ks.length = s.acs.length := by rw [hk2, srt_len]; simp [codesA]
  obtain ⟨q11, c11, rfl⟩ := own_slice (hS.get (X := strA v11 ks) (by repeat constructor))
  have hsh : ks.length = 0 ∨ ∃ g, q11 = some ⟨g, 0, none⟩ := by
    have h0 : World.ownsRow w 0 9 1 (.slice q11 ks.length c11) ks.length (ks.map .string) := hS.get (X := strA (.slice q11 ks.length c11) ks) (by repeat constructor)
    rcases h0.2 with ⟨e1, e2⟩ | ⟨g, cap, cur, e1, _⟩
    · exact .inl e2
    · injection e1 with e3; exact .inr ⟨g, e3⟩
  refine L_e hS (e_len rfl rfl ty_sl154) rfl ?_; clear hS a; intro a hS
  refine L_e hS (e_move rfl) rfl ?_; clear hS a; intro a hS
  refine L_nil (n_then (wp_block ?_))
  replace hS := hS.own_nil 35 4
  refine c_loop (γ := Nat × Value) (fun G a w => St 28 noB w0 a w [(13, .int .i64 (G.1 : Int)), (12, .int .i64 (ks.length : Int)), (11, .slice q11 ks.length c11), (3, G.2), (0, .pointer (some ⟨B.lb, 0, none⟩))] [ownA 35 4 G.2 ((ks.take G.1).map (accOf s.acs)).length (((ks.take G.1).map (accOf s.acs)).flatMap encAc), strA (.slice q11 ks.length c11) ks, ledA B s false] ∧ G.1 ≤ ks.length) (fun G => ks.length - G.1) (0, .slice none 0 0) ⟨(hS.slots (by repeat (first | exact trivial | refine ⟨rfl, ?_⟩))).pick (by repeat (first | exact Pick.nil | (refine Pick.cons (by repeat (first | exact Rem.head | apply Rem.tail)) ?_))), Nat.zero_le _⟩ ?_
  clear hS a; (try clear w); intro G a w hI
  obtain ⟨i, out⟩ := G
  obtain ⟨hS, hi⟩ := hI
  simp only at hS hi
  refine c_seq (c_region ?_)
  refine L_e hS (e_bin rfl rfl rfl) rfl ?_; clear hS a; intro a hS
  refine L_nil (n_then (c_seq ?_))
  first | refine c_ifD hS rfl (fun hc14 => ?_) (fun hc14 => ?_) | refine c_if hS rfl (fun hc14 => ?_) (fun hc14 => ?_)
  ·
    have hik : i < ks.length := by omega
    obtain ⟨c, hx⟩ : ∃ c, ks[i]? = some c := ⟨ks[i], List.getElem?_eq_getElem hik⟩
    obtain ⟨g, rfl⟩ : ∃ g, q11 = some ⟨g, 0, none⟩ := hsh.resolve_left (by omega)
    have htk : (ks.take (i + 1)).map (accOf s.acs) = (ks.take i).map (accOf s.acs) ++ [accOf s.acs c] := by rw [List.take_add_one, hx]; simp
    have hml : ((ks.take i).map (accOf s.acs)).length = i := by rw [List.length_map, List.length_take]; omega
    refine wp_skip (n_then (c_seq (wp_block (c_seq (c_region ?_)))))
    refine L_e hS (e_ixN rfl rfl ty_sl154 ty_sz9 (by omega)) rfl ?_; clear hS a; intro a hS
    refine L_e hS (e_loadC rfl ty_sc9 (str_getL (by repeat constructor) hx)) rfl ?_; clear hS a; intro a hS
    refine L_e hS (e_assign rfl) rfl ?_; clear hS a; intro a hS
    refine L_nil (n_then (c_region ?_))
    refine L_e hS (e_move rfl) rfl ?_; clear hS a; intro a hS
    refine L_e hS (e_move rfl) rfl ?_; clear hS a; intro a hS
    refine L_e hS (e_nilCheck rfl) rfl ?_; clear hS a; intro a hS
    (first | refine L_e hS (e_fa0 rfl ty_fo88_1) rfl ?_ | refine L_e hS (e_faK rfl ty_fo88_1) rfl ?_); clear hS a; intro a hS
    refine L_e hS (e_loadC rfl ty_sc84 (led_cell (k := 1) (by repeat constructor) rfl)) rfl ?_; clear hS a; intro a hS
    refine L_e hS (e_move rfl) rfl ?_; clear hS a; intro a hS
    refine L_e hS (e_lookupC rfl rfl ty_mp84 ty_u9 ty_zv35 (fun w hh => (hh (ledA B s false) (by repeat constructor)).am)) rfl ?_; clear hS a; intro a hS
    rw [lk_acc] at hS
    refine L_op (s_bslice hS ty_sl48 ty_sz35 ty_z35 rfl rfl rfl rfl (.agg rfl rfl .nil) rfl ?_); clear hS a; (try clear w); intro a w b24 hS
    refine L_op (s_append1 hS rfl rfl ty_sl48 ty_sz35 ty_by35 ty_z35 rfl rfl rfl (by repeat constructor) (by repeat constructor) (by rfl) (by rfl) (fun _ => (by repeat constructor)) (by omega) ?_); clear hS a; (try clear w); intro v25 a w hv25 hS
    refine L_e hS (e_assign rfl) rfl ?_; clear hS a; intro a hS
    refine L_nil (n_block (n_then (c_region ?_)))
    (first | refine L_e hS (e_binN rfl rfl rfl (by omega)) rfl ?_ | refine L_e hS (e_bin rfl rfl rfl) rfl ?_); clear hS a; intro a hS
    refine L_e hS (e_move rfl) rfl ?_; clear hS a; intro a hS
    refine L_nil ?_
    have e1 : ((ks.take (i + 1)).map (accOf s.acs)).length = ((ks.take i).map (accOf s.acs)).length + 1 := by rw [htk]; simp
    have e2 : ((ks.take (i + 1)).map (accOf s.acs)).flatMap encAc = ((ks.take i).map (accOf s.acs)).flatMap encAc ++ encAc (accOf s.acs c) := by rw [htk, List.flatMap_append]; simp
    refine ⟨(i + 1, v25), by simp only; omega, ?_, by simp only; omega⟩
    simp only
    rw [e1, e2]
    exact (hS.slots (by repeat (first | exact trivial | refine ⟨rfl, ?_⟩))).pick (by repeat (first | exact Pick.nil | (refine Pick.cons (by repeat (first | exact Rem.head | apply Rem.tail)) ?_)))
  obtain rfl : i = ks.length := by omega
  have hall : (ks.take ks.length).map (accOf s.acs) = accsL s.acs := by rw [List.take_length, hk2]; rfl
  rw [hall] at hS
  refine wp_exit ?_
  refine x_then (x_then (x_hit ?_))
  refine n_then (c_seq (c_region ?_))
  refine L_e hS (e_move rfl) rfl ?_; clear hS a; intro a hS
  refine L_e hS (e_assign rfl) rfl ?_; clear hS a; intro a hS
  refine L_nil (n_then (wp_ret ?_))
  refine c_ret1 hS Tryz.results27 (.tmp rfl) ?_
  exact ⟨out, rfl, hS.chg, hS.new (X := ownA 35 4 out (accsL s.acs).length ((accsL s.acs).flatMap encAc)) (by repeat constructor) rfl⟩
def triZ (bx m : Nat) (t : List (ByteArray × SM)) : Asn := .any (fun k => k = bx ∨ k = m) (fun w => w.heap[bx]? = some (.cells [Value.map (some m)].toArray 85 (0, 0)) ∧ w.heap[m]? = some (.map (mkM 0 (entSm t)).toArray (entSm t).length)) true
theorem triZ_ok {bx m : Nat} {t : List (ByteArray × SM)} {w : World} (h1 : w.heap[bx]? = some (.cells [Value.map (some m)].toArray 85 (0, 0))) (h2 : w.heap[m]? = some (.map (mkM 0 (entSm t)).toArray (entSm t).length)) : (triZ bx m t).ok w := by
  refine ⟨fun k hk => ?_, fun w' hw => ⟨?_, ?_⟩⟩
  · rcases hk with rfl | rfl
    · exact (Array.getElem?_eq_some_iff.1 h1).1
    · exact (Array.getElem?_eq_some_iff.1 h2).1
  · rw [hw bx (.inl rfl)]; exact h1
  · rw [hw m (.inr rfl)]; exact h2
def triStep (t : List (ByteArray × SM)) (p : Pst) : List (ByteArray × SM) := putT t p.acc (addS (totOf t p.acc) p)
theorem map_ok {b : Nat} {l : List (ByteArray × Value)} {w : World} (hb : w.heap[b]? = some (.map (mkM 0 l).toArray l.length)) : (smapA b l).ok w :=
  ⟨fun k hk => by obtain rfl : k = b := hk; exact (Array.getElem?_eq_some_iff.1 hb).1, fun w' hw => by show w'.heap[b]? = _; rw [hw b rfl]; exact hb⟩
set_option maxRecDepth 100000 in
theorem lTrial1_P (bx m : Nat) (t : List (ByteArray × SM)) (p : Pst) (hg : fitS (totOf t p.acc)) (hp : p.fits) (hr : fitS (addS (totOf t p.acc) p)) (hne : bx ≠ m) (w0 : World) (h : (triZ bx m t).ok w0) :
    MutC Tryz.prog 67 [.agg (encP p).toArray, .pointer (some ⟨bx, 0, none⟩)] w0 (triZ bx m t) (fun _ : Unit => .tuple #[]) (fun _ => triZ bx m (triStep t p)) := by
  have h1 := h.now.1
  have h2 := h.now.2
  refine c_enter [(0, .agg (encP p).toArray), (1, .pointer (some ⟨bx, 0, none⟩))] [.blk bx [.map (some m)] 85, smapA m (entSm t)] (triZ bx m t).F Tryz.func67 rfl Tryz.ntmps67 ⟨rfl, rfl, trivial⟩ rfl (okC (ok_blk h1) (okC (map_ok h2) okN)) (disC (sepC (fun b e1 e2 => hne (Eq.trans (Eq.symm e1) e2)) sepN) dis1) (mineO (fun _ hb => .inl hb) (mineO (fun _ hb => .inr hb) mineN)) ?_
  intro a hS
  refine c_seq (c_region ?_)
  refine L_op (s_boxA hS rfl rfl ?_); clear hS a; (try clear w); intro a w b2 hS
  refine L_nil (n_then ?_)
  refine c_drawS [9] (by kernel_rfl) hS (sub_cons (X := .blk b2 _ _) (by repeat constructor) (sub_cons (X := .blk bx [.map (some m)] 85) (by repeat constructor) (sub_cons (X := smapA m (entSm t)) (by repeat constructor) sub_nil))) ?_; clear hS; (try clear w); intro w hS
  simp only [List.length_cons, List.length_nil, Nat.zero_add, Nat.reduceAdd, List.replicate]
  refine Zt 0 (tf 1 9) hS rfl want_none (e_load rfl (by repeat constructor) ty_sc85 (by rfl)) rfl (by kernel_rfl) (sub_cons (by repeat constructor) (sub_cons (by repeat constructor) (sub_cons (by repeat constructor) sub_nil))) rfl ?_; clear hS a; intro a hS
  (first | refine Zt0 1 (tf 2 8) hS rfl want_none (e_fa0 rfl ty_fo82_0) rfl (by kernel_rfl) rfl ?_ | refine Zt0 1 (tf 2 8) hS rfl want_none (e_faK rfl ty_fo82_0) rfl (by kernel_rfl) rfl ?_); clear hS a; intro a hS
  refine Zt 2 (tf 3 7) hS rfl want_none (e_load rfl (by repeat constructor) ty_sc9 (by rfl)) rfl (by kernel_rfl) (sub_cons (by repeat constructor) (sub_cons (by repeat constructor) (sub_cons (by repeat constructor) sub_nil))) rfl ?_; clear hS a; intro a hS
  refine Zt 3 (tf 4 6) hS rfl want_none (e_load rfl (by repeat constructor) ty_sc85 (by rfl)) rfl (by kernel_rfl) (sub_cons (by repeat constructor) (sub_cons (by repeat constructor) (sub_cons (by repeat constructor) sub_nil))) rfl ?_; clear hS a; intro a hS
  (first | refine Zt0 4 (tf 5 5) hS rfl want_none (e_fa0 rfl ty_fo82_0) rfl (by kernel_rfl) rfl ?_ | refine Zt0 4 (tf 5 5) hS rfl want_none (e_faK rfl ty_fo82_0) rfl (by kernel_rfl) rfl ?_); clear hS a; intro a hS
  refine Zt 5 (tf 6 4) hS rfl want_none (e_load rfl (by repeat constructor) ty_sc9 (by rfl)) rfl (by kernel_rfl) (sub_cons (by repeat constructor) (sub_cons (by repeat constructor) (sub_cons (by repeat constructor) sub_nil))) rfl ?_; clear hS a; intro a hS
  refine Zt 6 (tf 7 3) hS rfl want_none (e_lookupS rfl rfl ty_mp85 ty_u9 ty_zv149 (by repeat constructor)) rfl (by kernel_rfl) (sub_cons (by repeat constructor) (sub_cons (by repeat constructor) (sub_cons (by repeat constructor) sub_nil))) rfl ?_; clear hS a; intro a hS
  rw [lk_tot] at hS
  refine Zt 7 (tf 8 2) hS rfl want_none (e_loadA rfl (by repeat constructor) ty_st82 ty_sz82 (by rfl)) rfl (by kernel_rfl) (sub_cons (by repeat constructor) (sub_cons (by repeat constructor) (sub_cons (by repeat constructor) sub_nil))) rfl ?_; clear hS a; intro a hS
  refine Z_one (i := 8) rfl (want_none a hS.sl) (listed' := (tf 9 1)) rfl (by kernel_rfl) (s_callP hS (.cons rfl (.cons rfl .nil)) cf68 rfl (sadd_P (totOf t p.acc) p hg hp hr _) ?_); clear hS a; (try clear w); intro a w hS
  refine Z_and hS (sub_cons (by repeat constructor) (sub_cons (by repeat constructor) (sub_cons (by repeat constructor) sub_nil))) ?_
  refine Z_one (i := 9) rfl (want_none a hS.sl) (listed' := (tf 10 0)) rfl (by kernel_rfl) (s_mapUp hS rfl rfl rfl ty_mp85 ty_u9 (by repeat constructor) ?_); clear hS; (try clear w); intro w hS
  refine Z_last (by simp) ?_
  refine Z_done (by kernel_rfl) ?_
  refine r_norm ?_
  refine c_retN hS Tryz.results67 .nil rfl ?_
  rw [putT_set] at hS
  exact ⟨(), rfl, hS.chg, triZ_ok (hS.get (X := .blk bx [.map (some m)] 85) (by repeat constructor)) (hS.get (X := smapA m (entSm (triStep t p))) (by repeat constructor)), fun b hb => .inl hb⟩
theorem tri_fold (l : List Pst) : ∀ (t : List (ByteArray × SM)) (n : Nat), (∀ p ∈ l, p.fits) → bdT t n → bdT (l.foldl triStep t) (n + l.length) := by
  induction l with
  | nil => intro t n _ h; exact h
  | cons p r ih =>
    intro t n hf h
    have h2 := ih (triStep t p) (n + 1) (fun q hq => hf q (.tail _ hq)) (bdT_put h (hf p (.head _)))
    rw [List.foldl_cons, List.length_cons, show n + (r.length + 1) = n + 1 + r.length by omega]; exact h2
theorem tri_sum (code : ByteArray) (l : List Pst) : ∀ (t : List (ByteArray × SM)), totOf (l.foldl triStep t) code = l.foldl (balStep code) (totOf t code) := by
  induction l with
  | nil => intro t; rfl
  | cons p r ih =>
    intro t
    rw [List.foldl_cons, List.foldl_cons, ih]
    congr 1
    unfold triStep balStep
    rw [totOf_put]
    by_cases e : p.acc = code
    · rw [if_pos e, if_pos e, e]
    · rw [if_neg e, if_neg e]
def triT (P : PL) (at_ : Int) : List (ByteArray × SM) := if inst at_ then (postsAt P.es at_).foldl triStep [] else []
def triB (P : PL) (at_ : Int) (a : Acc) : BL := (a.code, balV (totOf (triT P at_) a.code))
def trialF (P : PL) (at_ : Int) : List BL := (accsL P.acs).map (triB P at_)
theorem tri_bd {P : PL} (h : fitL P) (at_ : Int) : bdT (triT P at_) 5000000 := by
  unfold triT
  split
  · have h1 := tri_fold (postsAt P.es at_) [] 0 (posts_fit h at_) (fun e he => (by cases he))
    have h2 := posts_len P.es at_ h.ps
    have h3 := h.few
    intro e he
    have h4 := h1 e he
    omega
  · intro e he; cases he
set_option maxHeartbeats 1000000 in
set_option maxRecDepth 100000 in
theorem lTrial_P (B : LB) (s : LS) (at_ : Int) (hacs : s.acs.length ≤ 1000) (hfl : fitL (pl s)) (w0 : World) (h : ledφ B s w0) :
     NewC Tryz.prog 26 [.pointer (some ⟨B.lb, 0, none⟩), .int .i64 at_] w0 (fun v : Value => v) (fun v => ownA 71 3 v (trialF (pl s) at_).length ((trialF (pl s) at_).flatMap encBl)) := by
   have hes : s.es.length ≤ 100000 := by have := hfl.few; simpa [pl] using this
   have hps : ∀ x ∈ s.es, x.v.ps.length ≤ 50 := fun x hx => hfl.ps x.v (by unfold pl; exact List.mem_map.2 ⟨x, hx, rfl⟩)
   have htb := tri_bd hfl at_
   have hal := accs_len s.acs
   refine c_enter [(0, .pointer (some ⟨B.lb, 0, none⟩)), (1, .int .i64 at_)] [ledA B s false] noB Tryz.func26 rfl Tryz.ntmps26 ⟨rfl, rfl, trivial⟩ rfl (okC (led_ok false h) okN) dis1 (mineC (by rfl) mineN) ?_
   intro a hS
   refine c_seq (c_region ?_)
   refine L_e hS (e_assign rfl) rfl ?_; clear hS a; intro a hS
   refine L_nil (n_then (c_seq (c_region ?_)))
   refine L_op (s_makeMapS hS rfl ?_); clear hS a; (try clear w); intro a w b11 hS
   refine L_op (s_alloc hS ty_z85 rfl ?_); clear hS a; (try clear w); intro a w b5 hS
   refine L_op (s_store hS rfl rfl rfl ty_sz85 (by repeat constructor) (by repeat constructor) ?_); clear hS; (try clear w); intro w hS
   refine L_nil (n_then ?_)
   refine c_cut (fun a w => St 41 noB w0 a w [(5, .pointer (some ⟨b5, 0, none⟩)), (0, .pointer (some ⟨B.lb, 0, none⟩))] [triZ b5 b11 (triT (pl s) at_), ledA B s false]) ?_ ?_
   ·
     refine c_seq ?_
     have hne : b5 ≠ b11 := fun e => hS.sep (X := .blk b5 [.map (some b11)] 85) (Y := smapA b11 []) (by repeat (first | exact Rem.head | apply Rem.tail)) (by repeat constructor) b5 rfl e
     replace hS := hS.join (Y := smapA b11 []) (Z := triZ b5 b11 []) (by repeat constructor) (triZ_ok (hS.get (X := .blk b5 [.map (some b11)] 85) (by repeat constructor)) (hS.get (X := smapA b11 []) (by repeat constructor))) (fun b hb => hb) (fun _ => ⟨rfl, rfl⟩)
     refine c_region ?_
     refine L_e hS (e_move rfl) rfl ?_; clear hS a; intro a hS
     refine L_op (s_callP hS (.cons rfl .nil) cf65 rfl (linst_P at_ _) ?_); clear hS a; (try clear w); intro a w hS
     refine L_nil (n_then ?_)
     first | refine c_ifD hS rfl (fun hc13 => ?_) (fun hc13 => ?_) | refine c_if hS rfl (fun hc13 => ?_) (fun hc13 => ?_)
     ·
       refine c_region ?_
       refine L_e hS (e_move rfl) rfl ?_; clear hS a; intro a hS
       refine L_e hS (e_move rfl) rfl ?_; clear hS a; intro a hS
       refine L_e hS (e_makeFunc .nil (.cons rfl .nil)) rfl ?_; clear hS a; intro a hS
       refine L_op (s_callM hS (.cons rfl (.cons rfl (.cons rfl .nil))) cf66 rfl (leach_P B s at_ 67 [.pointer (some ⟨b5, 0, none⟩)] (triZ b5 b11) (fun _ => rfl) triStep [] cf67 (by omega) (fun x hx => by have := hps x hx; omega) (fun pre p post hsp w hok => by
 have hm : p ∈ postsAt (pl s).es at_ := by rw [hsp]; simp
 have hpf := posts_fit hfl at_ p hm
 have hpre : ∀ q ∈ pre, q.fits := fun q hq => posts_fit hfl at_ q (by rw [hsp]; simp [hq])
 have hb := bdT_of (tri_fold pre [] 0 hpre (fun e he => (by cases he))) p.acc
 have hl := posts_len (pl s).es at_ hfl.ps
 have hfw := hfl.few
 rw [hsp, List.length_append, List.length_cons] at hl
 have hu := hpf.u
 have hff := hpf.f
 have e : (pre ++ [p]).foldl triStep [] = triStep (pre.foldl triStep []) p := by rw [List.foldl_append]; rfl
 rw [e]
 exact lTrial1_P b5 b11 _ p (by unfold fitS Wd.fit; omega) hpf (by unfold fitS addS Wd.fit; simp only; omega) hne w hok) _ (hS.get (X := ledA B s false) (by repeat constructor)) (hS.ok (triZ b5 b11 []) (by repeat constructor)) (fun b hb hl => hS.sep (X := triZ b5 b11 []) (Y := ledA B s false) (by repeat (first | exact Rem.head | apply Rem.tail)) (by repeat constructor) b hb hl)) (fun x => (by repeat constructor)) rfl ?_); clear hS a; (try clear w); intro x17 a w hS
       refine L_nil ?_
       first
       | (rw [show triT (pl s) at_ = (postsAt (pl s).es at_).foldl triStep [] from if_pos hc13]; exact (hS.slots (by repeat (first | exact trivial | refine ⟨rfl, ?_⟩))).pick (by repeat (first | exact Pick.nil | (refine Pick.cons (by repeat (first | exact Rem.head | apply Rem.tail)) ?_))))
       | (rw [show triT (pl s) at_ = [] from if_neg hc13]; exact (hS.slots (by repeat (first | exact trivial | refine ⟨rfl, ?_⟩))).pick (by repeat (first | exact Pick.nil | (refine Pick.cons (by repeat (first | exact Rem.head | apply Rem.tail)) ?_))))
     refine wp_skip ?_
     first
     | (rw [show triT (pl s) at_ = (postsAt (pl s).es at_).foldl triStep [] from if_pos hc13]; exact (hS.slots (by repeat (first | exact trivial | refine ⟨rfl, ?_⟩))).pick (by repeat (first | exact Pick.nil | (refine Pick.cons (by repeat (first | exact Rem.head | apply Rem.tail)) ?_))))
     | (rw [show triT (pl s) at_ = [] from if_neg hc13]; exact (hS.slots (by repeat (first | exact trivial | refine ⟨rfl, ?_⟩))).pick (by repeat (first | exact Pick.nil | (refine Pick.cons (by repeat (first | exact Rem.head | apply Rem.tail)) ?_))))
   clear hS a; (try clear w); intro a w hS
   skip
   refine c_seq (c_region ?_)
   refine L_e hS (e_assign rfl) rfl ?_; clear hS a; intro a hS
   refine L_nil (n_then (c_seq (c_seq (c_region ?_))))
   refine L_e hS (e_move rfl) rfl ?_; clear hS a; intro a hS
   refine L_op (s_callN hS (.cons rfl .nil) cf27 rfl (lAccs_P B s hacs _ (hS.get (X := ledA B s false) (by repeat constructor))) ?_); clear hS a; (try clear w); intro x19 a w hS
   obtain ⟨q19, c19, rfl⟩ := own_slice (hS.get (X := ownA 35 4 x19 (accsL s.acs).length ((accsL s.acs).flatMap encAc)) (by repeat constructor))
   have hsh : (accsL s.acs).length = 0 ∨ ∃ g, q19 = some ⟨g, 0, none⟩ := by
     have h0 : World.ownsRow w 0 35 4 (.slice q19 (accsL s.acs).length c19) (accsL s.acs).length ((accsL s.acs).flatMap encAc) := hS.get (X := ownA 35 4 (.slice q19 (accsL s.acs).length c19) (accsL s.acs).length ((accsL s.acs).flatMap encAc)) (by repeat constructor)
     rcases h0.2 with ⟨e1, e2⟩ | ⟨g, cap, cur, e1, _⟩
     · exact .inl e2
     · injection e1 with e3; exact .inr ⟨g, e3⟩
   refine L_e hS (e_len rfl rfl ty_sl48) rfl ?_; clear hS a; intro a hS
   refine L_e hS (e_move rfl) rfl ?_; clear hS a; intro a hS
   refine L_nil (n_then (wp_block ?_))
   replace hS := hS.own_nil 71 3
   refine c_loop (γ := Nat × Value) (fun G a w => St 41 noB w0 a w [(21, .int .i64 (G.1 : Int)), (20, .int .i64 ((accsL s.acs).length : Int)), (19, .slice q19 (accsL s.acs).length c19), (6, G.2), (5, .pointer (some ⟨b5, 0, none⟩))] [ownA 71 3 G.2 (((accsL s.acs).take G.1).map (triB (pl s) at_)).length ((((accsL s.acs).take G.1).map (triB (pl s) at_)).flatMap encBl), ownA 35 4 (.slice q19 (accsL s.acs).length c19) (accsL s.acs).length ((accsL s.acs).flatMap encAc), triZ b5 b11 (triT (pl s) at_)] ∧ G.1 ≤ (accsL s.acs).length) (fun G => (accsL s.acs).length - G.1) (0, .slice none 0 0) ⟨(hS.slots (by repeat (first | exact trivial | refine ⟨rfl, ?_⟩))).pick (by repeat (first | exact Pick.nil | (refine Pick.cons (by repeat (first | exact Rem.head | apply Rem.tail)) ?_))), Nat.zero_le _⟩ ?_
   clear hS a; (try clear w); intro G a w hI
   obtain ⟨i, out⟩ := G
   obtain ⟨hS, hi⟩ := hI
   simp only at hS hi
   refine c_seq (c_region ?_)
   refine L_e hS (e_bin rfl rfl rfl) rfl ?_; clear hS a; intro a hS
   refine L_nil (n_then (c_seq ?_))
   first | refine c_ifD hS rfl (fun hc22 => ?_) (fun hc22 => ?_) | refine c_if hS rfl (fun hc22 => ?_) (fun hc22 => ?_)
   ·
     have hik : i < (accsL s.acs).length := by omega
     obtain ⟨x, hx⟩ : ∃ x, (accsL s.acs)[i]? = some x := ⟨(accsL s.acs)[i], List.getElem?_eq_getElem hik⟩
     obtain ⟨g, rfl⟩ : ∃ g, q19 = some ⟨g, 0, none⟩ := hsh.resolve_left (by omega)
     have htk : ((accsL s.acs).take (i + 1)).map (triB (pl s) at_) = ((accsL s.acs).take i).map (triB (pl s) at_) ++ [triB (pl s) at_ x] := by rw [List.take_add_one, hx]; simp
     have hml : (((accsL s.acs).take i).map (triB (pl s) at_)).length = i := by rw [List.length_map, List.length_take]; omega
     have hb1 := bdT_of htb x.code
     have ft : fitS (totOf (triT (pl s) at_) x.code) := by unfold fitS Wd.fit; omega
     refine wp_skip (n_then (c_seq (wp_block (c_seq (c_region ?_)))))
     refine L_e hS (e_ixN rfl rfl ty_sl48 ty_sz35 (by omega)) rfl ?_; clear hS a; intro a hS
     refine L_e hS (e_loadAC (l := encAc x) rfl ty_st35 ty_sz35 (own_getL (enc := encAc) (s := 4) (fun _ => rfl) (by repeat constructor) hx)) rfl ?_; clear hS a; intro a hS
     refine L_op (s_alloc hS ty_z35 rfl ?_); clear hS a; (try clear w); intro a w b8 hS
     refine L_op (s_storeA hS rfl rfl ty_sz35 (by repeat constructor) (by rfl) (by rfl) (by rfl) ?_); clear hS; (try clear w); intro w hS
     refine L_nil (n_then (c_seq (c_region ?_)))
     refine L_e hS (e_loadC rfl ty_sc85 (fun w hh => cell_of_blk (cs := [.map (some b11)]) (hh (triZ b5 b11 (triT (pl s) at_)) (by repeat constructor)).1 rfl)) rfl ?_; clear hS a; intro a hS
     (first | refine L_e hS (e_fa0 rfl ty_fo35_0) rfl ?_ | refine L_e hS (e_faK rfl ty_fo35_0) rfl ?_); clear hS a; intro a hS
     refine L_e hS (e_load rfl (by repeat constructor) ty_sc9 (by rfl)) rfl ?_; clear hS a; intro a hS
     refine L_e hS (e_lookupC rfl rfl ty_mp85 ty_u9 ty_zv149 (fun w hh => (hh (triZ b5 b11 (triT (pl s) at_)) (by repeat constructor)).2)) rfl ?_; clear hS a; intro a hS
     rw [lk_tot] at hS
     (first | refine L_e hS (e_fa0 rfl ty_fo35_0) rfl ?_ | refine L_e hS (e_faK rfl ty_fo35_0) rfl ?_); clear hS a; intro a hS
     refine L_e hS (e_load rfl (by repeat constructor) ty_sc9 (by rfl)) rfl ?_; clear hS a; intro a hS
     refine L_op (s_callP hS (.cons rfl (.cons rfl .nil)) cf69 rfl (sbal_P (totOf (triT (pl s) at_) x.code) x.code ft _) ?_); clear hS a; (try clear w); intro a w hS
     refine L_e hS (e_move rfl) rfl ?_; clear hS a; intro a hS
     refine L_e hS (e_extract rfl rfl) rfl ?_; clear hS a; intro a hS
     refine L_e hS (e_extract rfl rfl) rfl ?_; clear hS a; intro a hS
     refine L_op (s_alloc hS ty_z71 rfl ?_); clear hS a; (try clear w); intro a w b9 hS
     refine L_op (s_storeA hS rfl rfl ty_sz71 (by repeat constructor) (by rfl) (by rfl) (by rfl) ?_); clear hS; (try clear w); intro w hS
     refine L_e hS (e_assign rfl) rfl ?_; clear hS a; intro a hS
     refine L_nil (n_then (c_region ?_))
     refine L_e hS (e_move rfl) rfl ?_; clear hS a; intro a hS
     refine L_e hS (e_loadA rfl (by repeat constructor) ty_st71 ty_sz71 (by rfl)) rfl ?_; clear hS a; intro a hS
     refine L_op (s_bslice hS ty_sl68 ty_sz71 ty_z71 rfl rfl rfl rfl (.agg rfl rfl .nil) rfl ?_); clear hS a; (try clear w); intro a w b37 hS
     refine L_op (s_append1 hS rfl rfl ty_sl68 ty_sz71 ty_by71 ty_z71 rfl rfl rfl (by repeat constructor) (by repeat constructor) (by rfl) (by rfl) (fun _ => (by repeat constructor)) (by omega) ?_); clear hS a; (try clear w); intro v38 a w hv38 hS
     refine L_e hS (e_assign rfl) rfl ?_; clear hS a; intro a hS
     refine L_nil (n_block (n_then (c_region ?_)))
     (first | refine L_e hS (e_binN rfl rfl rfl (by omega)) rfl ?_ | refine L_e hS (e_bin rfl rfl rfl) rfl ?_); clear hS a; intro a hS
     refine L_e hS (e_move rfl) rfl ?_; clear hS a; intro a hS
     refine L_nil ?_
     have e1 : (((accsL s.acs).take (i + 1)).map (triB (pl s) at_)).length = (((accsL s.acs).take i).map (triB (pl s) at_)).length + 1 := by rw [htk]; simp
     have e2 : (((accsL s.acs).take (i + 1)).map (triB (pl s) at_)).flatMap encBl = (((accsL s.acs).take i).map (triB (pl s) at_)).flatMap encBl ++ encBl (triB (pl s) at_ x) := by rw [htk, List.flatMap_append]; simp
     refine ⟨(i + 1, v38), by simp only; omega, ?_, by simp only; omega⟩
     simp only
     rw [e1, e2]
     exact (hS.slots (by repeat (first | exact trivial | refine ⟨rfl, ?_⟩))).pick (by repeat (first | exact Pick.nil | (refine Pick.cons (by repeat (first | exact Rem.head | apply Rem.tail)) ?_)))
   obtain rfl : i = (accsL s.acs).length := by omega
   have hall : ((accsL s.acs).take (accsL s.acs).length).map (triB (pl s) at_) = trialF (pl s) at_ := by rw [List.take_length]; rfl
   rw [hall] at hS
   refine wp_exit ?_
   refine x_then (x_then (x_hit ?_))
   refine n_then (c_seq (c_region ?_))
   refine L_e hS (e_move rfl) rfl ?_; clear hS a; intro a hS
   refine L_e hS (e_assign rfl) rfl ?_; clear hS a; intro a hS
   refine L_nil (n_then (wp_ret ?_))
   refine c_ret1 hS Tryz.results26 (.tmp rfl) ?_
   exact ⟨out, rfl, hS.chg, hS.new (X := ownA 71 3 out (trialF (pl s) at_).length ((trialF (pl s) at_).flatMap encBl)) (by repeat constructor) rfl⟩
end Go.Proofs.YtheofhegdjjfgaaGreat

namespace Go.Proofs.YtheofhegdjjfgaaGreat
open Go.RowKit
def PsAt (v : Value) (l : List Pst) (w : World) : Prop :=
  (l = [] ∧ ∃ a c, v = .slice a 0 c) ∨ ∃ b off c, l ≠ [] ∧ v = sliceV (some (b, off)) l.length c ∧ RowAt b off 3 (l.map encP) w ∧ b < w.heap.size
structure LO where
  kind : Int
  at_ : Int
  a : Acc
  memo : ByteArray
  ps : List Pst
  pv : Value
def encLO (x : LO) : List Value := [.int .i64 x.kind, .int .i64 x.at_, .string x.a.code, .string x.a.cur, .int .i64 x.a.kind, .bool x.a.mon, .string x.memo, x.pv]
structure LO.fits (x : LO) : Prop where
  at_ : -9223372036854775808 ≤ x.at_ ∧ x.at_ ≤ 9223372036854775807
  code : x.a.code.size ≤ 4611686018427387904
  cur : x.a.cur.size ≤ 4611686018427387904
  memo : x.memo.size ≤ 4611686018427387904
  ps : (∀ y ∈ x.ps, y.fits) ∧ x.ps.length ≤ 4611686018427387904
def losφ (p : Option (Nat × Nat)) (l : List LO) (w : World) : Prop := RowP p 8 (l.map encLO) w ∧ ∀ x ∈ l, PsAt x.pv x.ps w
def losF (p : Option (Nat × Nat)) (l : List LO) (k : Nat) : Prop := (∃ off, p = some (k, off)) ∨ ∃ x ∈ l, x.ps ≠ [] ∧ x.pv.ownBlock = some k
def losA (p : Option (Nat × Nat)) (l : List LO) : Asn := .any (losF p l) (losφ p l) false
theorem heap_lt_ofL {w w' : World} {b : Nat} (h : b < w.heap.size) (hw : w'.heap[b]? = w.heap[b]?) : b < w'.heap.size := by
  rw [Array.getElem?_eq_getElem h] at hw
  exact (Array.getElem?_eq_some_iff.1 hw).1
theorem PsAt.keep {v : Value} {l : List Pst} {w w' : World} (h : PsAt v l w) (hw : ∀ k, l ≠ [] → v.ownBlock = some k → w'.heap[k]? = w.heap[k]?) : PsAt v l w' := by
  rcases h with h | ⟨b, off, c, h1, rfl, h2, h3⟩
  · exact .inl h
  · exact .inr ⟨b, off, c, h1, rfl, h2.keep (hw b h1 rfl), heap_lt_ofL h3 (hw b h1 rfl)⟩
theorem los_ok {p : Option (Nat × Nat)} {l : List LO} {w : World} (h : losφ p l w) (hb : ∀ q, p = some q → q.1 < w.heap.size) : (losA p l).ok w := by
  refine ⟨fun k hk => ?_, fun w' hw => ⟨(ok_rowP h.1 hb).hold w' (fun k hk => hw k (.inl hk)), fun x hx => (h.2 x hx).keep (fun k hk hk2 => hw k (.inr ⟨x, hx, hk, hk2⟩))⟩⟩
  rcases hk with ⟨off, e⟩ | ⟨x, hx, hne, e⟩
  · exact hb _ e
  · rcases h.2 x hx with ⟨h0, _⟩ | ⟨b, off, c, _, ev, _, h3⟩
    · exact absurd h0 hne
    · rw [ev] at e; cases e; exact h3
theorem PsAt.shape {v : Value} {l : List Pst} {w : World} (h : PsAt v l w) : ∃ a c, v = .slice a l.length c := by
  rcases h with ⟨rfl, a, c, rfl⟩ | ⟨b, off, c, _, rfl, _, _⟩
  · exact ⟨a, c, rfl⟩
  · exact ⟨_, c, rfl⟩
theorem PsAt.some {v : Value} {l : List Pst} {w : World} (h : PsAt v l w) (hne : l ≠ []) : ∃ b off c, v = sliceV (some (b, off)) l.length c ∧ RowAt b off 3 (l.map encP) w ∧ b < w.heap.size := by
  rcases h with ⟨h0, _⟩ | ⟨b, off, c, _, h1, h2, h3⟩
  · exact absurd h0 hne
  · exact ⟨b, off, c, h1, h2, h3⟩
theorem los_get {Γ : List Asn} {b off : Nat} {l : List LO} (hm : losA (some (b, off)) l ∈ Γ) {i : Nat} {x : LO} (hx : l[i]? = some x) : ∀ w, Hd Γ w → ∀ j v, (encLO x)[j]? = some v → w.cell? ⟨b, off + i * 8 + j, none⟩ = some v :=
  fun _ hh j v hj => (hh _ hm).1 i (encLO x) (by simp [hx]) j v hj
theorem los_pos {p : Option (Nat × Nat)} {l : List LO} {w : World} (h : losφ p l w) {i : Nat} {x : LO} (hx : l[i]? = some x) : ∃ b off, p = some (b, off) :=
  rowP_some h.1 (i := i) (x := encLO x) (by simp [hx])
def fewLO (o : LO) : Prop := o.a.code.size ≤ 300 ∧ o.a.cur.size ≤ 300 ∧ o.memo.size ≤ 300 ∧ o.ps.length ≤ 60 ∧ ∀ y ∈ o.ps, y.acc.size ≤ 300
instance (o : LO) : Decidable (fewLO o) := by unfold fewLO; infer_instance
def fewLs (l : List LO) : Prop := l.length ≤ 60 ∧ ∀ o ∈ l, fewLO o
instance (l : List LO) : Decidable (fewLs l) := by unfold fewLs; infer_instance
theorem not_fewL {l : List LO} {i : Nat} {x : LO} (hx : l[i]? = some x) (h : ¬ fewLO x) : decide (fewLs l) = false := decide_eq_false (fun hh => h (hh.2 x (List.mem_of_getElem? hx)))
set_option maxRecDepth 100000 in
theorem lFew_P (p : Option (Nat × Nat)) (c : Nat) (l : List LO) (hlen : l.length ≤ 4611686018427387904) (hfit : ∀ x ∈ l, x.fits) (w0 : World) (h : losφ p l w0) (hb : ∀ q, p = some q → q.1 < w0.heap.size) :
     PureC Tryz.prog 7 [sliceV p l.length c] w0 (.bool (decide (fewLs l))) := by
   refine c_enter [(0, sliceV p l.length c)] [losA p l] noB Tryz.func7 rfl Tryz.ntmps7 ⟨rfl, trivial⟩ rfl (okC (los_ok h hb) okN) dis1 (mineC (by rfl) mineN) ?_
   intro a hS
   refine c_seq (c_region ?_)
   refine L_e hS (e_assign rfl) rfl ?_; clear hS a; intro a hS
   refine L_nil (n_then (c_seq (c_seq (c_region ?_))))
   refine L_e hS (e_assign rfl) rfl ?_; clear hS a; intro a hS
   refine L_nil (n_then (wp_block ?_))
   skip
   refine c_loop (γ := Nat) (fun k a w => St 75 noB w0 a w [(3, .int .i64 (k : Int)), (0, sliceV p l.length c)] [losA p l] ∧ k ≤ l.length ∧ ∀ j, j < k → ∀ y, l[j]? = some y → fewLO y) (fun k => l.length - k) 0 ⟨hS.slots (by repeat (first | exact trivial | refine ⟨rfl, ?_⟩)), Nat.zero_le _, fun j hj => by omega⟩ ?_
   clear hS a; (try clear w); intro k a w hI
   obtain ⟨hS, hk, hno⟩ := hI
   refine c_seq (c_seq (c_region ?_))
   refine L_e hS (e_move rfl) rfl ?_; clear hS a; intro a hS
   refine L_e hS (e_move rfl) rfl ?_; clear hS a; intro a hS
   refine L_e hS (e_len rfl rfl ty_sl22) rfl ?_; clear hS a; intro a hS
   refine L_e hS (e_bin rfl rfl rfl) rfl ?_; clear hS a; intro a hS
   refine L_e hS (e_move rfl) rfl ?_; clear hS a; intro a hS
   refine L_merge 3 12 (.bool (decide (k < l.length ∧ k ≤ 60))) hS ?_ ?_
   · intro hcM12
     (first | refine g_splitD (t := 9) hS rfl ?_ ?_ | refine g_split (t := 9) hS rfl ?_ ?_) <;> (clear hS; intro hg9 hS)
     ·
       refine L_ge hS rfl rfl (e_move rfl) rfl ?_; clear hS a; intro a hS
       refine L_ge hS rfl rfl (e_bin rfl rfl rfl) rfl ?_; clear hS a; intro a hS
       refine L_e hS (e_pk rfl rfl) rfl ?_; clear hS a; intro a hS
       exact hcM12 _ _ (hS.ends 4 12 9 rfl (congrArg Value.bool (by rw [decide_eq_decide]; omega)) rfl rfl (by first | exact congrArg Value.bool (decide_eq_true hg9).symm | exact congrArg Value.bool hg9.symm | simp [hg9]) rfl)
     refine L_skip_t hS rfl rfl rfl ?_; clear hS a; intro a hS
     refine L_skip_t hS rfl rfl rfl ?_; clear hS a; intro a hS
     refine L_e hS (e_pk rfl rfl) rfl ?_; clear hS a; intro a hS
     exact hcM12 _ _ (hS.ends 4 12 9 rfl (congrArg Value.bool (by exact (decide_eq_false (by omega)).symm)) rfl rfl (by first | exact congrArg Value.bool (decide_eq_false hg9).symm | exact congrArg Value.bool hg9.symm | simp [hg9]) rfl)
   · clear hS a; (try clear w); intro a w hS
     simp only [List.drop_succ_cons, List.drop_zero]
     refine L_nil (n_then ?_)
     first | refine c_ifD hS rfl (fun hc12 => ?_) (fun hc12 => ?_) | refine c_if hS rfl (fun hc12 => ?_) (fun hc12 => ?_)
     ·
       obtain ⟨x, hx⟩ : ∃ x, l[k]? = some x := ⟨l[k]'(by omega), List.getElem?_eq_getElem (by omega)⟩
       obtain ⟨b, off, rfl⟩ := los_pos (hS.get (X := losA p l) (by repeat constructor)) hx
       have hxm := List.mem_of_getElem? hx
       obtain ⟨la, lc, hlv⟩ := PsAt.shape ((hS.get (X := losA (some (b, off)) l) (by repeat constructor)).2 x hxm)
       have hxf := hfit x hxm
       have hxl := hxf.ps.2
       refine wp_skip (n_then (c_seq (wp_block (c_seq (c_seq (c_region ?_))))))
       refine L_e hS (e_move rfl) rfl ?_; clear hS a; intro a hS
       refine L_e hS (e_move rfl) rfl ?_; clear hS a; intro a hS
       refine L_e hS (e_ixN rfl rfl ty_sl22 ty_sz38 (by omega)) rfl ?_; clear hS a; intro a hS
       (first | refine L_e hS (e_fa0 rfl ty_fo38_2) rfl ?_ | refine L_e hS (e_faK rfl ty_fo38_2) rfl ?_); clear hS a; intro a hS
       (first | refine L_e hS (e_fa0 rfl ty_fo35_0) rfl ?_ | refine L_e hS (e_faK rfl ty_fo35_0) rfl ?_); clear hS a; intro a hS
       refine L_e hS (e_loadC rfl ty_sc9 (fun w hh => los_get (by repeat constructor) hx w hh 2 (.string x.a.code) rfl)) rfl ?_; clear hS a; intro a hS
       refine L_e hS (e_lenS rfl rfl ty_u9) rfl ?_; clear hS a; intro a hS
       refine L_e hS (e_bin rfl rfl rfl) rfl ?_; clear hS a; intro a hS
       refine L_e hS (e_move rfl) rfl ?_; clear hS a; intro a hS
       (first | refine g_splitD (t := 23) hS rfl ?_ ?_ | refine g_split (t := 23) hS rfl ?_ ?_) <;> (clear hS; intro hg23 hS)
       ·
         refine L_skip_f hS rfl rfl rfl ?_; clear hS a; intro a hS
         refine L_skip_f hS rfl rfl rfl ?_; clear hS a; intro a hS
         refine L_skip_f hS rfl rfl rfl ?_; clear hS a; intro a hS
         refine L_skip_f hS rfl rfl rfl ?_; clear hS a; intro a hS
         refine L_skip_f hS rfl rfl rfl ?_; clear hS a; intro a hS
         refine L_skip_f hS rfl rfl rfl ?_; clear hS a; intro a hS
         refine L_skip_f hS rfl rfl rfl ?_; clear hS a; intro a hS
         refine L_skip_f hS rfl rfl rfl ?_; clear hS a; intro a hS
         refine L_e hS (e_pk rfl rfl) rfl ?_; clear hS a; intro a hS
         refine L_e hS (e_move rfl) rfl ?_; clear hS a; intro a hS
         refine L_skip_f hS rfl rfl rfl ?_; clear hS a; intro a hS
         refine L_skip_f hS rfl rfl rfl ?_; clear hS a; intro a hS
         refine L_skip_f hS rfl rfl rfl ?_; clear hS a; intro a hS
         refine L_skip_f hS rfl rfl rfl ?_; clear hS a; intro a hS
         refine L_skip_f hS rfl rfl rfl ?_; clear hS a; intro a hS
         refine L_skip_f hS rfl rfl rfl ?_; clear hS a; intro a hS
         refine L_skip_f hS rfl rfl rfl ?_; clear hS a; intro a hS
         refine L_e hS (e_pk rfl rfl) rfl ?_; clear hS a; intro a hS
         refine L_e hS (e_move rfl) rfl ?_; clear hS a; intro a hS
         refine L_skip_f hS rfl rfl rfl ?_; clear hS a; intro a hS
         refine L_skip_f hS rfl rfl rfl ?_; clear hS a; intro a hS
         refine L_skip_f hS rfl rfl rfl ?_; clear hS a; intro a hS
         refine L_skip_f hS rfl rfl rfl ?_; clear hS a; intro a hS
         refine L_skip_f hS rfl rfl rfl ?_; clear hS a; intro a hS
         refine L_skip_f hS rfl rfl rfl ?_; clear hS a; intro a hS
         refine L_skip_f hS rfl rfl rfl ?_; clear hS a; intro a hS
         refine L_e hS (e_pk rfl rfl) rfl ?_; clear hS a; intro a hS
         refine L_nil (n_then ?_)
         refine c_if_t hS rfl ?_
         refine c_seq (c_region ?_)
         refine L_e hS (e_assign rfl) rfl ?_; clear hS a; intro a hS
         refine L_nil (n_then (wp_ret ?_))
         refine r_then (r_block (r_then (r_then (r_block (r_then ?_)))))
         refine c_ret1 hS Tryz.results7 (.tmp rfl) ?_
         exact ⟨by rw [not_fewL hx (by unfold fewLO; omega)], hS.chg⟩
       refine L_ge hS rfl rfl (e_move rfl) rfl ?_; clear hS a; intro a hS
       refine L_ge hS rfl rfl (e_move rfl) rfl ?_; clear hS a; intro a hS
       refine L_ge hS rfl rfl (e_ixN rfl rfl ty_sl22 ty_sz38 (by omega)) rfl ?_; clear hS a; intro a hS
       (first | refine L_ge hS rfl rfl (e_fa0 rfl ty_fo38_2) rfl ?_ | refine L_ge hS rfl rfl (e_faK rfl ty_fo38_2) rfl ?_); clear hS a; intro a hS
       (first | refine L_ge hS rfl rfl (e_fa0 rfl ty_fo35_1) rfl ?_ | refine L_ge hS rfl rfl (e_faK rfl ty_fo35_1) rfl ?_); clear hS a; intro a hS
       refine L_ge hS rfl rfl (e_loadC rfl ty_sc9 (fun w hh => los_get (by repeat constructor) hx w hh 3 (.string x.a.cur) rfl)) rfl ?_; clear hS a; intro a hS
       refine L_ge hS rfl rfl (e_lenS rfl rfl ty_u9) rfl ?_; clear hS a; intro a hS
       refine L_ge hS rfl rfl (e_bin rfl rfl rfl) rfl ?_; clear hS a; intro a hS
       refine L_e hS (e_pk rfl rfl) rfl ?_; clear hS a; intro a hS
       refine L_e hS (e_move rfl) rfl ?_; clear hS a; intro a hS
       (first | refine g_splitD (t := 33) hS rfl ?_ ?_ | refine g_split (t := 33) hS rfl ?_ ?_) <;> (clear hS; intro hg33 hS)
       ·
         refine L_skip_f hS rfl rfl rfl ?_; clear hS a; intro a hS
         refine L_skip_f hS rfl rfl rfl ?_; clear hS a; intro a hS
         refine L_skip_f hS rfl rfl rfl ?_; clear hS a; intro a hS
         refine L_skip_f hS rfl rfl rfl ?_; clear hS a; intro a hS
         refine L_skip_f hS rfl rfl rfl ?_; clear hS a; intro a hS
         refine L_skip_f hS rfl rfl rfl ?_; clear hS a; intro a hS
         refine L_skip_f hS rfl rfl rfl ?_; clear hS a; intro a hS
         refine L_e hS (e_pk rfl rfl) rfl ?_; clear hS a; intro a hS
         refine L_e hS (e_move rfl) rfl ?_; clear hS a; intro a hS
         refine L_skip_f hS rfl rfl rfl ?_; clear hS a; intro a hS
         refine L_skip_f hS rfl rfl rfl ?_; clear hS a; intro a hS
         refine L_skip_f hS rfl rfl rfl ?_; clear hS a; intro a hS
         refine L_skip_f hS rfl rfl rfl ?_; clear hS a; intro a hS
         refine L_skip_f hS rfl rfl rfl ?_; clear hS a; intro a hS
         refine L_skip_f hS rfl rfl rfl ?_; clear hS a; intro a hS
         refine L_skip_f hS rfl rfl rfl ?_; clear hS a; intro a hS
         refine L_e hS (e_pk rfl rfl) rfl ?_; clear hS a; intro a hS
         refine L_nil (n_then ?_)
         refine c_if_t hS rfl ?_
         refine c_seq (c_region ?_)
         refine L_e hS (e_assign rfl) rfl ?_; clear hS a; intro a hS
         refine L_nil (n_then (wp_ret ?_))
         refine r_then (r_block (r_then (r_then (r_block (r_then ?_)))))
         refine c_ret1 hS Tryz.results7 (.tmp rfl) ?_
         exact ⟨by rw [not_fewL hx (by unfold fewLO; omega)], hS.chg⟩
       refine L_ge hS rfl rfl (e_move rfl) rfl ?_; clear hS a; intro a hS
       refine L_ge hS rfl rfl (e_move rfl) rfl ?_; clear hS a; intro a hS
       refine L_ge hS rfl rfl (e_ixN rfl rfl ty_sl22 ty_sz38 (by omega)) rfl ?_; clear hS a; intro a hS
       (first | refine L_ge hS rfl rfl (e_fa0 rfl ty_fo38_3) rfl ?_ | refine L_ge hS rfl rfl (e_faK rfl ty_fo38_3) rfl ?_); clear hS a; intro a hS
       refine L_ge hS rfl rfl (e_loadC rfl ty_sc9 (fun w hh => los_get (by repeat constructor) hx w hh 6 (.string x.memo) rfl)) rfl ?_; clear hS a; intro a hS
       refine L_ge hS rfl rfl (e_lenS rfl rfl ty_u9) rfl ?_; clear hS a; intro a hS
       refine L_ge hS rfl rfl (e_bin rfl rfl rfl) rfl ?_; clear hS a; intro a hS
       refine L_e hS (e_pk rfl rfl) rfl ?_; clear hS a; intro a hS
       refine L_e hS (e_move rfl) rfl ?_; clear hS a; intro a hS
       (first | refine g_splitD (t := 42) hS rfl ?_ ?_ | refine g_split (t := 42) hS rfl ?_ ?_) <;> (clear hS; intro hg42 hS)
       ·
         refine L_skip_f hS rfl rfl rfl ?_; clear hS a; intro a hS
         refine L_skip_f hS rfl rfl rfl ?_; clear hS a; intro a hS
         refine L_skip_f hS rfl rfl rfl ?_; clear hS a; intro a hS
         refine L_skip_f hS rfl rfl rfl ?_; clear hS a; intro a hS
         refine L_skip_f hS rfl rfl rfl ?_; clear hS a; intro a hS
         refine L_skip_f hS rfl rfl rfl ?_; clear hS a; intro a hS
         refine L_skip_f hS rfl rfl rfl ?_; clear hS a; intro a hS
         refine L_e hS (e_pk rfl rfl) rfl ?_; clear hS a; intro a hS
         refine L_nil (n_then ?_)
         refine c_if_t hS rfl ?_
         refine c_seq (c_region ?_)
         refine L_e hS (e_assign rfl) rfl ?_; clear hS a; intro a hS
         refine L_nil (n_then (wp_ret ?_))
         refine r_then (r_block (r_then (r_then (r_block (r_then ?_)))))
         refine c_ret1 hS Tryz.results7 (.tmp rfl) ?_
         exact ⟨by rw [not_fewL hx (by unfold fewLO; omega)], hS.chg⟩
       refine L_ge hS rfl rfl (e_move rfl) rfl ?_; clear hS a; intro a hS
       refine L_ge hS rfl rfl (e_move rfl) rfl ?_; clear hS a; intro a hS
       refine L_ge hS rfl rfl (e_ixN rfl rfl ty_sl22 ty_sz38 (by omega)) rfl ?_; clear hS a; intro a hS
       (first | refine L_ge hS rfl rfl (e_fa0 rfl ty_fo38_4) rfl ?_ | refine L_ge hS rfl rfl (e_faK rfl ty_fo38_4) rfl ?_); clear hS a; intro a hS
       refine L_ge hS rfl rfl (e_loadC rfl ty_sc36 (fun w hh => los_get (by repeat constructor) hx w hh 7 x.pv rfl)) rfl ?_; clear hS a; intro a hS
       rw [hlv] at hS
       refine L_ge hS rfl rfl (e_len rfl rfl ty_sl36) rfl ?_; clear hS a; intro a hS
       refine L_ge hS rfl rfl (e_bin rfl rfl rfl) rfl ?_; clear hS a; intro a hS
       refine L_e hS (e_pk rfl rfl) rfl ?_; clear hS a; intro a hS
       refine L_nil (n_then ?_)
       first | refine c_ifD hS rfl (fun hc50 => ?_) (fun hc50 => ?_) | refine c_if hS rfl (fun hc50 => ?_) (fun hc50 => ?_)
       ·
         refine c_seq (c_region ?_)
         refine L_e hS (e_assign rfl) rfl ?_; clear hS a; intro a hS
         refine L_nil (n_then (wp_ret ?_))
         refine r_then (r_block (r_then (r_then (r_block (r_then ?_)))))
         refine c_ret1 hS Tryz.results7 (.tmp rfl) ?_
         exact ⟨by rw [not_fewL hx (by unfold fewLO; omega)], hS.chg⟩
       refine wp_skip (n_then (c_seq (c_region ?_)))
       refine L_e hS (e_assign rfl) rfl ?_; clear hS a; intro a hS
       refine L_nil (n_then (wp_block ?_))
       skip
       refine c_loop (γ := Nat) (fun j a w => St 75 noB w0 a w [(4, .int .i64 (j : Int)), (3, .int .i64 (k : Int)), (0, sliceV (some (b, off)) l.length c)] [losA (some (b, off)) l] ∧ j ≤ x.ps.length ∧ ∀ i, i < j → ∀ y, x.ps[i]? = some y → y.acc.size ≤ 300) (fun j => x.ps.length - j) 0 ⟨(hS.slots (by repeat (first | exact trivial | refine ⟨rfl, ?_⟩))).pick (by repeat (first | exact Pick.nil | (refine Pick.cons (by repeat (first | exact Rem.head | apply Rem.tail)) ?_))), Nat.zero_le _, fun i hi => by omega⟩ ?_
       clear hS a; (try clear w); intro j a w hI
       obtain ⟨hS, hj, hok⟩ := hI
       refine c_seq (c_seq (c_region ?_))
       refine L_e hS (e_move rfl) rfl ?_; clear hS a; intro a hS
       refine L_e hS (e_move rfl) rfl ?_; clear hS a; intro a hS
       refine L_e hS (e_move rfl) rfl ?_; clear hS a; intro a hS
       refine L_e hS (e_ixN rfl rfl ty_sl22 ty_sz38 (by omega)) rfl ?_; clear hS a; intro a hS
       (first | refine L_e hS (e_fa0 rfl ty_fo38_4) rfl ?_ | refine L_e hS (e_faK rfl ty_fo38_4) rfl ?_); clear hS a; intro a hS
       refine L_e hS (e_loadC rfl ty_sc36 (fun w hh => los_get (by repeat constructor) hx w hh 7 x.pv rfl)) rfl ?_; clear hS a; intro a hS
       rw [hlv] at hS
       refine L_e hS (e_len rfl rfl ty_sl36) rfl ?_; clear hS a; intro a hS
       refine L_e hS (e_bin rfl rfl rfl) rfl ?_; clear hS a; intro a hS
       refine L_nil (n_then ?_)
       first | refine c_ifD hS rfl (fun hc58 => ?_) (fun hc58 => ?_) | refine c_if hS rfl (fun hc58 => ?_) (fun hc58 => ?_)
       ·
         have hjl : j < x.ps.length := by omega
         obtain ⟨y, hy⟩ : ∃ y, x.ps[j]? = some y := ⟨x.ps[j], List.getElem?_eq_getElem hjl⟩
         have hne : x.ps ≠ [] := fun e => by rw [e] at hjl; simp at hjl
         obtain ⟨b2, off2, c2, hlv2, _, _⟩ := PsAt.some ((hS.get (X := losA (some (b, off)) l) (by repeat constructor)).2 x hxm) hne
         refine wp_skip (n_then (c_seq (wp_block (c_seq (c_region ?_)))))
         refine L_e hS (e_move rfl) rfl ?_; clear hS a; intro a hS
         refine L_e hS (e_move rfl) rfl ?_; clear hS a; intro a hS
         refine L_e hS (e_ixN rfl rfl ty_sl22 ty_sz38 (by omega)) rfl ?_; clear hS a; intro a hS
         (first | refine L_e hS (e_fa0 rfl ty_fo38_4) rfl ?_ | refine L_e hS (e_faK rfl ty_fo38_4) rfl ?_); clear hS a; intro a hS
         refine L_e hS (e_loadC rfl ty_sc36 (fun w hh => los_get (by repeat constructor) hx w hh 7 x.pv rfl)) rfl ?_; clear hS a; intro a hS
         rw [hlv2] at hS
         refine L_e hS (e_move rfl) rfl ?_; clear hS a; intro a hS
         refine L_e hS (e_ixN rfl rfl ty_sl36 ty_sz82 (by omega)) rfl ?_; clear hS a; intro a hS
         (first | refine L_e hS (e_fa0 rfl ty_fo82_0) rfl ?_ | refine L_e hS (e_faK rfl ty_fo82_0) rfl ?_); clear hS a; intro a hS
         refine L_op (s_e hS (e_loadC rfl ty_sc9 (fun w hh => by
 obtain ⟨b3, off3, c3, hlv3, hr3, _⟩ := PsAt.some ((hh (losA (some (b, off)) l) (by repeat constructor)).2 x hxm) hne
 rw [hlv2] at hlv3
 obtain ⟨e1, e2⟩ : b2 = b3 ∧ off2 = off3 := by simp [sliceV] at hlv3; exact ⟨hlv3.1.1, hlv3.1.2⟩
 subst e1 e2
 exact hr3 j (encP y) (by simp [hy]) 0 (.string y.acc) rfl)) rfl ?_); clear hS a; intro a hS
         refine L_e hS (e_lenS rfl rfl ty_u9) rfl ?_; clear hS a; intro a hS
         refine L_e hS (e_bin rfl rfl rfl) rfl ?_; clear hS a; intro a hS
         refine L_nil (n_then ?_)
         first | refine c_ifD hS rfl (fun hc71 => ?_) (fun hc71 => ?_) | refine c_if hS rfl (fun hc71 => ?_) (fun hc71 => ?_)
         ·
           refine c_seq (c_region ?_)
           refine L_e hS (e_assign rfl) rfl ?_; clear hS a; intro a hS
           refine L_nil (n_then (wp_ret ?_))
           refine r_block (r_then (r_then (r_block (r_block (r_then (r_then (r_block (r_then ?_))))))))
           refine c_ret1 hS Tryz.results7 (.tmp rfl) ?_
           exact ⟨by rw [not_fewL hx (fun hf => by have := hf.2.2.2.2 y (List.mem_of_getElem? hy); omega)], hS.chg⟩
         refine wp_skip (n_block (n_then (c_region ?_)))
         refine L_e hS (e_move rfl) rfl ?_; clear hS a; intro a hS
         (first | refine L_e hS (e_binN rfl rfl rfl (by omega)) rfl ?_ | refine L_e hS (e_bin rfl rfl rfl) rfl ?_); clear hS a; intro a hS
         refine L_e hS (e_assign rfl) rfl ?_; clear hS a; intro a hS
         refine L_nil ?_
         exact ⟨j + 1, by omega, hS.slots (by repeat (first | exact trivial | refine ⟨rfl, ?_⟩)), by omega, fun i hi z hz => by
         by_cases e : i = j
         · subst e; rw [hy] at hz; cases hz; omega
         · exact hok i (by omega) z hz⟩
       refine wp_exit ?_
       refine x_then (x_then (x_hit ?_))
       refine n_block (n_then (c_region ?_))
       refine L_e hS (e_move rfl) rfl ?_; clear hS a; intro a hS
       (first | refine L_e hS (e_binN rfl rfl rfl (by omega)) rfl ?_ | refine L_e hS (e_bin rfl rfl rfl) rfl ?_); clear hS a; intro a hS
       refine L_e hS (e_assign rfl) rfl ?_; clear hS a; intro a hS
       refine L_nil ?_
       have hfx : fewLO x := ⟨by omega, by omega, by omega, by omega, fun z hz => by
         obtain ⟨i, hi, rfl⟩ := List.mem_iff_getElem.1 hz
         exact hok i (by omega) _ (List.getElem?_eq_getElem hi)⟩
       exact ⟨k + 1, by omega, hS.slots (by repeat (first | exact trivial | refine ⟨rfl, ?_⟩)), by omega, fun i hi z hz => by
         by_cases e : i = k
         · subst e; rw [hx] at hz; cases hz; exact hfx
         · exact hno i (by omega) z hz⟩
     refine wp_exit ?_
     refine x_then (x_then (x_hit ?_))
     refine n_then (c_seq (c_region ?_))
     refine L_e hS (e_move rfl) rfl ?_; clear hS a; intro a hS
     refine L_e hS (e_len rfl rfl ty_sl22) rfl ?_; clear hS a; intro a hS
     refine L_e hS (e_bin rfl rfl rfl) rfl ?_; clear hS a; intro a hS
     refine L_e hS (e_assign rfl) rfl ?_; clear hS a; intro a hS
     refine L_nil (n_then (wp_ret ?_))
     refine c_ret1 hS Tryz.results7 (.tmp rfl) ?_
     have hR : (decide ((l.length : Int) ≤ 60)) = decide (fewLs l) := by
       rw [decide_eq_decide]
       constructor
       · intro h1
         refine ⟨by omega, fun o ho => ?_⟩
         obtain ⟨i, hi, rfl⟩ := List.mem_iff_getElem.1 ho
         exact hno i (by omega) _ (List.getElem?_eq_getElem hi)
       · intro h1; have := h1.1; omega
     exact ⟨by rw [hR], hS.chg⟩
theorem check_nil (P : PL) (at_ : Int) (memo : ByteArray) : checkE P at_ memo [] ≠ 0 := by
  unfold checkE
  split
  · decide
  · split
    · decide
    · split
      · decide
      · rw [if_pos (.inl (.inl (by decide)))]; decide
set_option maxRecDepth 100000 in
theorem lCheck0_P (B : LB) (s : LS) (q : Option Addr) (c : Nat) (at_ : Int) (memo : ByteArray) (w0 : World) (h : ledφ B s w0) :
    PureC Tryz.prog 36 [.pointer (some ⟨B.lb, 0, none⟩), .int .i64 at_, .string memo, .slice q 0 c] w0 (.int .i64 (checkE (pl s) at_ memo [])) := by
  refine c_enter [(0, .pointer (some ⟨B.lb, 0, none⟩)), (1, .int .i64 at_), (2, .string memo), (3, .slice q 0 c)] [ledA B s false] noB Tryz.func36 rfl Tryz.ntmps36 ⟨rfl, rfl, rfl, rfl, trivial⟩ rfl (okC (led_ok false h) okN) dis1 (mineC (by rfl) mineN) ?_
  intro a hS
  refine c_seq (c_region ?_)
  refine L_e hS (e_assign rfl) rfl ?_; clear hS a; intro a hS
  refine L_nil (n_then (c_seq (wp_block (c_seq (c_region ?_)))))
  refine L_e hS (e_move rfl) rfl ?_; clear hS a; intro a hS
  refine L_op (s_callP hS (.cons rfl .nil) cf65 rfl (linst_P at_ _) ?_); clear hS a; (try clear w); intro a w hS
  refine L_e hS (e_not rfl) rfl ?_; clear hS a; intro a hS
  refine L_e hS (e_assign rfl) rfl ?_; clear hS a; intro a hS
  refine L_nil (n_then ?_)
  first | refine c_ifD hS rfl (fun hc14 => ?_) (fun hc14 => ?_) | refine c_if hS rfl (fun hc14 => ?_) (fun hc14 => ?_)
  ·
    refine c_seq (c_region ?_)
    refine L_e hS (e_assign rfl) rfl ?_; clear hS a; intro a hS
    refine L_nil (n_then (wp_ret ?_))
    refine r_block (r_then ?_)
    refine c_ret1 hS Tryz.results36 (.tmp rfl) ?_
    exact ⟨by rw [show checkE (pl s) at_ memo [] = 6 from if_pos (by simpa using hc14)], hS.chg⟩
  have h1 : ¬ ¬ inst at_ := by simpa using hc14
  refine c_seq (c_region ?_)
  refine L_e hS (e_move rfl) rfl ?_; clear hS a; intro a hS
  refine L_e hS (e_move rfl) rfl ?_; clear hS a; intro a hS
  refine L_e hS (e_nilCheck rfl) rfl ?_; clear hS a; intro a hS
  (first | refine L_e hS (e_fa0 rfl ty_fo88_4) rfl ?_ | refine L_e hS (e_faK rfl ty_fo88_4) rfl ?_); clear hS a; intro a hS
  refine L_e hS (e_loadC rfl ty_sc3 (led_cell (k := 4) (by repeat constructor) rfl)) rfl ?_; clear hS a; intro a hS
  refine L_e hS (e_bin rfl rfl rfl) rfl ?_; clear hS a; intro a hS
  refine L_e hS (e_assign rfl) rfl ?_; clear hS a; intro a hS
  refine L_nil (n_then ?_)
  first | refine c_ifD hS rfl (fun hc18 => ?_) (fun hc18 => ?_) | refine c_if hS rfl (fun hc18 => ?_) (fun hc18 => ?_)
  ·
    refine c_seq (c_region ?_)
    refine L_e hS (e_assign rfl) rfl ?_; clear hS a; intro a hS
    refine L_nil (n_then (wp_ret ?_))
    refine r_block (r_then ?_)
    refine c_ret1 hS Tryz.results36 (.tmp rfl) ?_
    exact ⟨by rw [show checkE (pl s) at_ memo [] = 27 by unfold checkE; rw [if_neg h1, if_pos (show at_ ≤ (pl s).closed from hc18)]], hS.chg⟩
  have h2 : ¬ at_ ≤ (pl s).closed := hc18
  refine c_seq (c_region ?_)
  refine L_e hS (e_move rfl) rfl ?_; clear hS a; intro a hS
  refine L_e hS (e_lenS rfl rfl ty_u9) rfl ?_; clear hS a; intro a hS
  refine L_e hS (e_bin rfl rfl rfl) rfl ?_; clear hS a; intro a hS
  refine L_e hS (e_assign rfl) rfl ?_; clear hS a; intro a hS
  refine L_nil (n_then ?_)
  first | refine c_ifD hS rfl (fun hc25 => ?_) (fun hc25 => ?_) | refine c_if hS rfl (fun hc25 => ?_) (fun hc25 => ?_)
  ·
    refine c_seq (c_region ?_)
    refine L_e hS (e_assign rfl) rfl ?_; clear hS a; intro a hS
    refine L_nil (n_then (wp_ret ?_))
    refine r_block (r_then ?_)
    refine c_ret1 hS Tryz.results36 (.tmp rfl) ?_
    exact ⟨by rw [show checkE (pl s) at_ memo [] = 8 by unfold checkE; rw [if_neg h1, if_neg h2, if_pos (by omega)]], hS.chg⟩
  have h3 : ¬ 100 < memo.size := by omega
  refine c_seq (c_region ?_)
  refine L_e hS (e_move rfl) rfl ?_; clear hS a; intro a hS
  refine L_e hS (e_len rfl rfl ty_sl36) rfl ?_; clear hS a; intro a hS
  refine L_e hS (e_bin rfl rfl rfl) rfl ?_; clear hS a; intro a hS
  refine L_e hS (e_move rfl) rfl ?_; clear hS a; intro a hS
  replace hS := hS.is (t := 33) (c := true) rfl ((by decide))
  refine L_skip_f hS rfl rfl rfl ?_; clear hS a; intro a hS
  refine L_skip_f hS rfl rfl rfl ?_; clear hS a; intro a hS
  refine L_skip_f hS rfl rfl rfl ?_; clear hS a; intro a hS
  refine L_e hS (e_pk rfl rfl) rfl ?_; clear hS a; intro a hS
  refine L_e hS (e_move rfl) rfl ?_; clear hS a; intro a hS
  refine L_skip_f hS rfl rfl rfl ?_; clear hS a; intro a hS
  refine L_skip_f hS rfl rfl rfl ?_; clear hS a; intro a hS
  refine L_skip_f hS rfl rfl rfl ?_; clear hS a; intro a hS
  refine L_skip_f hS rfl rfl rfl ?_; clear hS a; intro a hS
  refine L_skip_f hS rfl rfl rfl ?_; clear hS a; intro a hS
  refine L_skip_f hS rfl rfl rfl ?_; clear hS a; intro a hS
  refine L_e hS (e_pk rfl rfl) rfl ?_; clear hS a; intro a hS
  refine L_e hS (e_assign rfl) rfl ?_; clear hS a; intro a hS
  refine L_nil (n_then ?_)
  refine c_if_t hS rfl ?_
  refine c_seq (c_region ?_)
  refine L_e hS (e_assign rfl) rfl ?_; clear hS a; intro a hS
  refine L_nil (n_then (wp_ret ?_))
  refine r_block (r_then ?_)
  refine c_ret1 hS Tryz.results36 (.tmp rfl) ?_
  exact ⟨by rw [show checkE (pl s) at_ memo [] = 9 by unfold checkE; rw [if_neg h1, if_neg h2, if_neg h3, if_pos (.inl (.inl (by decide)))]], hS.chg⟩
set_option maxRecDepth 100000 in
theorem lPost0_P (B : LB) (s : LS) (q : Option Addr) (c : Nat) (at_ : Int) (memo : ByteArray) (w0 : World) (h : ledφ B s w0) :
    PureC Tryz.prog 29 [.pointer (some ⟨B.lb, 0, none⟩), .int .i64 at_, .string memo, .slice q 0 c] w0 (.tuple [.int .i64 (postI (pl s) at_ memo []), .int .i64 (checkE (pl s) at_ memo [])].toArray) := by
  have hn := check_nil (pl s) at_ memo
  have hI : postI (pl s) at_ memo [] = 0 := if_neg hn
  refine c_enter [(0, .pointer (some ⟨B.lb, 0, none⟩)), (1, .int .i64 at_), (2, .string memo), (3, .slice q 0 c)] [ledA B s false] noB Tryz.func29 rfl Tryz.ntmps29 ⟨rfl, rfl, rfl, rfl, trivial⟩ rfl (okC (led_ok false h) okN) dis1 (mineC (by rfl) mineN) ?_
  intro a hS
  refine c_seq (c_region ?_)
  refine L_e hS (e_assign rfl) rfl ?_; clear hS a; intro a hS
  refine L_e hS (e_assign rfl) rfl ?_; clear hS a; intro a hS
  refine L_nil (n_then (c_seq (c_seq (c_region ?_))))
  refine L_e hS (e_move rfl) rfl ?_; clear hS a; intro a hS
  refine L_e hS (e_move rfl) rfl ?_; clear hS a; intro a hS
  refine L_e hS (e_move rfl) rfl ?_; clear hS a; intro a hS
  refine L_e hS (e_move rfl) rfl ?_; clear hS a; intro a hS
  refine L_op (s_callP hS (.cons rfl (.cons rfl (.cons rfl (.cons rfl .nil)))) cf36 rfl (lCheck0_P B s q c at_ memo _ (hS.get (X := ledA B s false) (by repeat constructor))) ?_); clear hS a; (try clear w); intro a w hS
  refine L_e hS (e_assign rfl) rfl ?_; clear hS a; intro a hS
  refine L_nil (n_then (c_seq (c_region ?_)))
  refine L_e hS (e_move rfl) rfl ?_; clear hS a; intro a hS
  refine L_e hS (e_bin rfl rfl rfl) rfl ?_; clear hS a; intro a hS
  refine L_nil (n_then ?_)
  replace hS := hS.is (t := 20) (c := true) rfl ((decide_eq_true hn))
  refine c_if_t hS rfl ?_
  refine c_seq (c_region ?_)
  refine L_e hS (e_move rfl) rfl ?_; clear hS a; intro a hS
  refine L_e hS (e_assign rfl) rfl ?_; clear hS a; intro a hS
  refine L_e hS (e_assign rfl) rfl ?_; clear hS a; intro a hS
  refine L_nil (n_then (wp_ret (r_then ?_)))
  refine c_retN hS Tryz.results29 (.cons (.tmp rfl) (.cons (.tmp rfl) .nil)) rfl ?_
  exact ⟨by rw [hI], hS.chg⟩
end Go.Proofs.YtheofhegdjjfgaaGreat

namespace Go.Proofs.YtheofhegdjjfgaaGreat
theorem postE_zero {acs : List Acc} : ∀ (ps : List Pst) (seen : List ByteArray), postE acs ps seen = 0 → (∀ p ∈ ps, (findA acs p.acc).isSome = true ∧ ¬ p.acc ∈ seen ∧ inU p.u ∧ inU p.f) ∧ ps.Pairwise fun p q => p.acc ≠ q.acc
  | [], _, _ => ⟨fun p hp => (by cases hp), .nil⟩
  | x :: r, seen, h => by
    rw [postE_cons] at h
    split at h
    · cases h
    · rename_i h1
      split at h
      · cases h
      · rename_i h2
        split at h
        · cases h
        · rename_i h3
          obtain ⟨i1, i2⟩ := postE_zero r _ h
          have h1' : (findA acs x.acc).isSome = true := by
            cases e : (findA acs x.acc).isSome with
            | true => rfl
            | false => exact absurd e h1
          refine ⟨fun p hp => ?_, List.pairwise_cons.2 ⟨fun q hq e => (i1 q hq).2.1 (by rw [← e]; simp), i2⟩⟩
          rcases List.mem_cons.1 hp with rfl | hp
          · exact ⟨h1', h2, Classical.byContradiction fun e => h3 (.inl e), Classical.byContradiction fun e => h3 (.inr e)⟩
          · obtain ⟨a1, a2, a3⟩ := i1 p hp
            exact ⟨a1, fun e => a2 (List.mem_append.2 (.inl e)), a3⟩
def curSum (acs : List Acc) (c : ByteArray) (ps : List Pst) : Int := ps.foldl (fun g p => if curOf acs p.acc = c then g + p.u else g) 0
theorem cur_fold (acs : List Acc) (c : ByteArray) (ps : List Pst) : ∀ g : Int, ps.foldl (fun g p => if curOf acs p.acc = c then g + p.u else g) g = g + curSum acs c ps := by
  unfold curSum
  induction ps with
  | nil => intro g; simp
  | cons p r ih =>
    intro g
    rw [List.foldl_cons, List.foldl_cons, ih, ih (if curOf acs p.acc = c then 0 + p.u else 0)]
    split <;> omega
theorem curSum_cons (acs : List Acc) (c : ByteArray) (p : Pst) (r : List Pst) : curSum acs c (p :: r) = (if curOf acs p.acc = c then p.u else 0) + curSum acs c r := by
  have h := cur_fold acs c r (if curOf acs p.acc = c then 0 + p.u else 0)
  unfold curSum at h ⊢
  rw [List.foldl_cons, h]
  split <;> omega
theorem by_cur (acs : List Acc) (c : ByteArray) (ps : List Pst) : ∀ t, (totOf (ps.foldl (byStep acs) t) c).1 = (totOf t c).1 + curSum acs c ps := by
  induction ps with
  | nil => intro t; simp [curSum]
  | cons p r ih =>
    intro t
    rw [List.foldl_cons, ih, curSum_cons]
    unfold byStep
    rw [totOf_put]
    by_cases e : curOf acs p.acc = c
    · rw [if_pos e, if_pos e, e]; unfold addS; simp only; omega
    · rw [if_neg e, if_neg e]; omega
theorem putT_keys (c : ByteArray) (s : SM) : ∀ t : List (ByteArray × SM), (t.map (·.1)).Nodup → ((putT t c s).map (·.1)).Nodup ∧ ∀ k, k ∈ (putT t c s).map (·.1) → k = c ∨ k ∈ t.map (·.1)
  | [], _ => ⟨by simp [putT], fun k hk => .inl (by simpa [putT] using hk)⟩
  | (k0, u) :: l, h => by
    have h2 := List.nodup_cons.1 h
    obtain ⟨i1, i2⟩ := putT_keys c s l h2.2
    unfold putT
    by_cases e : k0 = c
    · rw [if_pos e]
      refine ⟨by rw [List.map_cons, ← e]; exact h, fun k hk => ?_⟩
      rw [List.map_cons] at hk
      rcases List.mem_cons.1 hk with hk | hk
      · exact .inl hk
      · exact .inr (.tail _ hk)
    · rw [if_neg e]
      refine ⟨List.nodup_cons.2 ⟨fun hm => ?_, i1⟩, fun k hk => ?_⟩
      · rcases i2 k0 hm with q | q
        · exact e q
        · exact h2.1 q
      · rw [List.map_cons] at hk
        rcases List.mem_cons.1 hk with hk | hk
        · exact .inr (by rw [hk]; exact .head _)
        · rcases i2 k hk with q | q
          · exact .inl q
          · exact .inr (.tail _ q)
theorem by_keys (acs : List Acc) (ps : List Pst) : ∀ t : List (ByteArray × SM), (t.map (·.1)).Nodup → ((ps.foldl (byStep acs) t).map (·.1)).Nodup := by
  induction ps with
  | nil => intro t h; exact h
  | cons p r ih => intro t h; exact ih _ (putT_keys _ _ t h).1
theorem totOf_entry {t : List (ByteArray × SM)} (h : (t.map (·.1)).Nodup) {e : ByteArray × SM} (he : e ∈ t) : totOf t e.1 = e.2 := by
  induction t with
  | nil => cases he
  | cons a r ih =>
    have h2 := List.nodup_cons.1 h
    unfold totOf
    rw [List.find?_cons]
    rcases List.mem_cons.1 he with rfl | he
    · simp
    · have hne : ¬ a.1 = e.1 := fun e2 => h2.1 (by show a.1 ∈ _; rw [e2]; exact List.mem_map.2 ⟨e, he, rfl⟩)
      simp only [hne, decide_false]
      exact ih h2.2 he
theorem even_iff (acs : List Acc) (ps : List Pst) : evenF acs ps ↔ (∀ c, curSum acs c ps = 0) ∧ sumFn ps = 0 := by
  unfold evenF
  constructor
  · rintro ⟨h1, h2⟩
    refine ⟨fun c => ?_, h2⟩
    have h3 := by_cur acs c ps []
    have h4 : (totOf (byF acs ps) c).1 = 0 := by
      rcases totOf_mem (byF acs ps) c with e | ⟨e, he, _, e2⟩
      · rw [e]
      · rw [← e2]; exact h1 e he
    have h5 : (totOf ([] : List (ByteArray × SM)) c).1 = 0 := rfl
    unfold byF at h4
    omega
  · rintro ⟨h1, h2⟩
    refine ⟨fun e he => ?_, h2⟩
    have h3 := by_cur acs e.1 ps []
    have h4 := totOf_entry (by_keys acs ps [] .nil) (show e ∈ ps.foldl (byStep acs) [] from he)
    have h5 : (totOf ([] : List (ByteArray × SM)) e.1).1 = 0 := rfl
    have h6 := h1 e.1
    rw [h4] at h3
    omega
structure goodE (acs : List Acc) (ps : List Pst) : Prop where
  each : ∀ p ∈ ps, (findA acs p.acc).isSome = true ∧ inU p.u ∧ inU p.f
  apart : ps.Pairwise fun p q => p.acc ≠ q.acc
  even : (∀ c, curSum acs c ps = 0) ∧ sumFn ps = 0
structure wfP (P : PL) (n : Nat) : Prop where
  fit : ∀ x ∈ P.es, ∀ p ∈ x.ps, p.fits
  le : P.es.length ≤ n
  ps : ∀ x ∈ P.es, x.ps.length ≤ 50
  bal : balT P.tot
  la : P.acs.length ≤ n + 4
  at_ : ∀ x ∈ P.es, inst x.at_
  nod : (codesA P.acs).Nodup
  sum : ∀ c, totOf P.tot c = (P.es.flatMap (·.ps)).foldl (balStep c) (0, 0)
  evn : ∀ x ∈ P.es, goodE P.acs x.ps
theorem wfP.fitL {P : PL} {n : Nat} (h : wfP P n) (hn : n ≤ 100000) : fitL P := ⟨h.fit, by have := h.le; omega, h.ps⟩
def openEP (P : PL) (a : Acc) : Int :=
  if ¬ ValidN a.code.data.toList then 1 else if (scaleR a.cur).2 ≠ 0 then 18 else if a.kind < 1 ∨ 5 < a.kind then 7 else if (findA P.acs a.code).isSome = true then 3 else if 200 ≤ P.acs.length then 9 else 0
def openP (P : PL) (a : Acc) : PL := if openEP P a = 0 then { P with acs := P.acs ++ [a] } else P
def closeEP (P : PL) (at_ : Int) : Int := if ¬ inst at_ then 6 else if at_ ≤ P.closed then 34 else 0
def closeP (P : PL) (at_ : Int) : PL := if closeEP P at_ = 0 then { P with closed := at_ } else P
theorem pl_open (s : LS) (a : Acc) : pl (openL s a) = openP (pl s) a := by
  show pl (if openE s a = 0 then _ else _) = if openEP (pl s) a = 0 then _ else _
  have e : openE s a = openEP (pl s) a := rfl
  rw [e]
  split <;> rfl
theorem pl_close (s : LS) (at_ : Int) : pl (closeL s at_) = closeP (pl s) at_ := by
  show pl (if closeE s at_ = 0 then _ else _) = if closeEP (pl s) at_ = 0 then _ else _
  have e : closeE s at_ = closeEP (pl s) at_ := rfl
  rw [e]
  split <;> rfl
def stepP (P : PL) (o : LO) : PL := if o.kind = 0 then openP P o.a else if o.kind = 1 then postP P o.at_ o.memo o.ps else if o.kind = 2 then closeP P o.at_ else P
theorem find_grow {acs : List Acc} {a : Acc} {c : ByteArray} (h : (findA acs c).isSome = true) : findA (acs ++ [a]) c = findA acs c := by
  unfold findA at *
  rw [List.find?_append]
  obtain ⟨x, hx⟩ := Option.isSome_iff_exists.1 h
  rw [hx]; rfl
theorem cur_grow {acs : List Acc} {a : Acc} {ps : List Pst} (h : ∀ p ∈ ps, (findA acs p.acc).isSome = true) (c : ByteArray) : curSum (acs ++ [a]) c ps = curSum acs c ps := by
  induction ps with
  | nil => rfl
  | cons p r ih =>
    rw [curSum_cons, curSum_cons, ih (fun q hq => h q (.tail _ hq))]
    have e : curOf (acs ++ [a]) p.acc = curOf acs p.acc := by unfold curOf accOf; rw [find_grow (h p (.head _))]
    rw [e]
theorem goodE.grow {acs : List Acc} {a : Acc} {ps : List Pst} (h : goodE acs ps) : goodE (acs ++ [a]) ps :=
  ⟨fun p hp => ⟨by rw [find_grow (h.each p hp).1]; exact (h.each p hp).1, (h.each p hp).2⟩, h.apart, fun c => by rw [cur_grow (fun p hp => (h.each p hp).1)]; exact h.even.1 c, h.even.2⟩
theorem wf_open {P : PL} {n : Nat} (h : wfP P n) (a : Acc) : wfP (openP P a) (n + 1) := by
  unfold openP
  split
  · rename_i hE
    have hnf : (findA P.acs a.code).isSome = false := by
      unfold openEP at hE
      split at hE
      · cases hE
      · split at hE
        · cases hE
        · split at hE
          · cases hE
          · split at hE
            · cases hE
            · rename_i h4
              cases e : (findA P.acs a.code).isSome with
              | false => rfl
              | true => exact absurd e h4
    refine ⟨h.fit, Nat.le_succ_of_le h.le, h.ps, h.bal, by have := h.la; simp; omega, h.at_, ?_, h.sum, fun x hx => (h.evn x hx).grow⟩
    unfold codesA
    rw [List.map_append]
    refine List.nodup_append.2 ⟨h.nod, by simp, fun c hc d hd e => ?_⟩
    obtain rfl : d = a.code := by simpa using hd
    obtain ⟨y, hy, hyc⟩ := List.mem_map.1 hc
    unfold findA at hnf
    rw [Option.isSome_eq_false_iff, Option.isNone_iff_eq_none] at hnf
    have := List.find?_eq_none.1 hnf y hy
    exact this (by simp; rw [hyc, e])
  · exact ⟨h.fit, Nat.le_succ_of_le h.le, h.ps, h.bal, by have := h.la; omega, h.at_, h.nod, h.sum, h.evn⟩
theorem wf_close {P : PL} {n : Nat} (h : wfP P n) (at_ : Int) : wfP (closeP P at_) (n + 1) := by
  unfold closeP
  split
  · exact ⟨h.fit, Nat.le_succ_of_le h.le, h.ps, h.bal, by have := h.la; simp only; omega, h.at_, h.nod, h.sum, h.evn⟩
  · exact ⟨h.fit, Nat.le_succ_of_le h.le, h.ps, h.bal, by have := h.la; omega, h.at_, h.nod, h.sum, h.evn⟩
theorem bal_post {ps : List Pst} : ∀ {t : List (ByteArray × SM)}, balT t → (ps.Pairwise fun p q => p.acc ≠ q.acc) → (∀ p ∈ ps, okS (addS (totOf t p.acc) p)) → balT (totS t ps) := by
  induction ps with
  | nil => intro t h _ _; exact h
  | cons p r ih =>
    intro t h hp hk
    have hp2 := List.pairwise_cons.1 hp
    refine ih (t := putT t p.acc (addS (totOf t p.acc) p)) (fun e he => ?_) hp2.2 (fun q hq => ?_)
    · rcases putT_mem he with rfl | he
      · exact hk p (.head _)
      · exact h e he
    · rw [totOf_put, if_neg (hp2.1 q hq)]; exact hk q (.tail _ hq)
structure checkOk (P : PL) (at_ : Int) (memo : ByteArray) (ps : List Pst) : Prop where
  inst : inst at_
  open_ : P.closed < at_
  memo : memo.size ≤ 100
  few : 2 ≤ ps.length ∧ ps.length ≤ 50
  es : P.es.length < 2000
  post : postE P.acs ps [] = 0
  even : evenF P.acs ps
  bal : ∀ x ∈ ps, okS (addS (totOf P.tot x.acc) x)
theorem check_iff (P : PL) (at_ : Int) (memo : ByteArray) (ps : List Pst) : checkE P at_ memo ps = 0 ↔ checkOk P at_ memo ps := by
  constructor
  · intro h
    unfold checkE at h
    split at h
    · cases h
    · rename_i h1
      split at h
      · cases h
      · rename_i h2
        split at h
        · cases h
        · rename_i h3
          split at h
          · cases h
          · rename_i h4
            split at h
            · rename_i h5; exact absurd h h5
            · rename_i h5
              split at h
              · cases h
              · rename_i h6
                split at h
                · cases h
                · rename_i h7
                  exact ⟨Classical.not_not.1 h1, by omega, by omega, by omega, by omega, Classical.not_not.1 h5, Classical.not_not.1 h6, fun x hx => Classical.byContradiction fun e => h7 ⟨x, hx, e⟩⟩
  · intro h
    obtain ⟨a1, a2, a3, a4, a5, a6, a7, a8⟩ := h
    unfold checkE
    rw [if_neg (fun e => e a1), if_neg (by omega), if_neg (by omega), if_neg (by omega), if_neg (fun e => e a6), if_neg (fun e => e a7), if_neg (fun ⟨x, hx, e⟩ => e (a8 x hx))]
theorem totS_tri (t : List (ByteArray × SM)) (ps : List Pst) : totS t ps = ps.foldl triStep t := rfl
theorem wf_post {P : PL} {n : Nat} (h : wfP P n) (at_ : Int) (memo : ByteArray) (ps : List Pst) (hf : ∀ p ∈ ps, p.fits) : wfP (postP P at_ memo ps) (n + 1) := by
  unfold postP
  split
  · rename_i hE
    have hc := (check_iff P at_ memo ps).1 hE
    obtain ⟨g1, g2⟩ := postE_zero ps [] hc.post
    have hg : goodE P.acs ps := ⟨fun p hp => ⟨(g1 p hp).1, (g1 p hp).2.2⟩, g2, (even_iff P.acs ps).1 hc.even⟩
    refine ⟨fun x hx => ?_, by have := h.le; simp; omega, fun x hx => ?_, bal_post h.bal g2 hc.bal, by have := h.la; simp only; omega, fun x hx => ?_, h.nod, fun c => ?_, fun x hx => ?_⟩
    · rcases List.mem_append.1 hx with hx | hx
      · exact h.fit x hx
      · obtain rfl := List.mem_singleton.1 hx; exact hf
    · rcases List.mem_append.1 hx with hx | hx
      · exact h.ps x hx
      · obtain rfl := List.mem_singleton.1 hx; exact hc.few.2
    · rcases List.mem_append.1 hx with hx | hx
      · exact h.at_ x hx
      · obtain rfl := List.mem_singleton.1 hx; exact hc.inst
    · simp only
      rw [totS_tri, tri_sum, h.sum c, List.flatMap_append, List.foldl_append]
      simp
    · rcases List.mem_append.1 hx with hx | hx
      · exact h.evn x hx
      · obtain rfl := List.mem_singleton.1 hx; exact hg
  · exact ⟨h.fit, Nat.le_succ_of_le h.le, h.ps, h.bal, by have := h.la; omega, h.at_, h.nod, h.sum, h.evn⟩
theorem wf_step {P : PL} {n : Nat} (h : wfP P n) (o : LO) (ho : o.fits) : wfP (stepP P o) (n + 1) := by
  unfold stepP
  split
  · exact wf_open h o.a
  · split
    · exact wf_post h o.at_ o.memo o.ps ho.ps.1
    · split
      · exact wf_close h o.at_
      · exact ⟨h.fit, Nat.le_succ_of_le h.le, h.ps, h.bal, by have := h.la; omega, h.at_, h.nod, h.sum, h.evn⟩
end Go.Proofs.YtheofhegdjjfgaaGreat

namespace Go.Proofs.YtheofhegdjjfgaaGreat
open Go.RowKit
def usdL : ByteArray := ⟨#[85, 83, 68]⟩
def eurL : ByteArray := ⟨#[69, 85, 82]⟩
def aBank : Acc := ⟨⟨#[98, 97, 110, 107]⟩, usdL, 1, true⟩
def aSales : Acc := ⟨⟨#[115, 97, 108, 101, 115]⟩, usdL, 4, false⟩
def aTill : Acc := ⟨⟨#[116, 105, 108, 108]⟩, eurL, 1, true⟩
def aFees : Acc := ⟨⟨#[102, 101, 101, 115]⟩, eurL, 4, false⟩
def chartL : List Acc := [aBank, aSales, aTill, aFees]
set_option maxRecDepth 100000 in
theorem lChart_P (w0 : World) : NewC Tryz.prog 17 [] w0 (fun b : Nat => .slice (some ⟨b, 0, none⟩) 4 4) (fun b => .blk b (chartL.flatMap encAc) 35) := by
  refine c_enter [] [] noB Tryz.func17 rfl Tryz.ntmps17 trivial rfl (by simp) (by simp) (by simp) ?_
  intro a hS
  refine c_seq (c_region ?_)
  refine L_e hS (e_assign rfl) rfl ?_; clear hS a; intro a hS
  refine L_nil (n_then (c_seq (c_region ?_)))
  refine L_e hS (e_build ty_z35 ty_pl35 (.one rfl rfl rfl (by repeat constructor) (.one rfl rfl rfl (by repeat constructor) (.one rfl rfl rfl (by repeat constructor) (.one rfl rfl rfl (by repeat constructor) .nil))))) rfl ?_; clear hS a; intro a hS
  refine L_e hS (e_build ty_z35 ty_pl35 (.one rfl rfl rfl (by repeat constructor) (.one rfl rfl rfl (by repeat constructor) (.one rfl rfl rfl (by repeat constructor) .nil)))) rfl ?_; clear hS a; intro a hS
  refine L_e hS (e_build ty_z35 ty_pl35 (.one rfl rfl rfl (by repeat constructor) (.one rfl rfl rfl (by repeat constructor) (.one rfl rfl rfl (by repeat constructor) (.one rfl rfl rfl (by repeat constructor) .nil))))) rfl ?_; clear hS a; intro a hS
  refine L_e hS (e_build ty_z35 ty_pl35 (.one rfl rfl rfl (by repeat constructor) (.one rfl rfl rfl (by repeat constructor) (.one rfl rfl rfl (by repeat constructor) .nil)))) rfl ?_; clear hS a; intro a hS
  refine L_op (s_bslice hS ty_sl48 ty_sz35 ty_z35 rfl rfl rfl rfl (.agg rfl rfl (.agg rfl rfl (.agg rfl rfl (.agg rfl rfl .nil)))) rfl ?_); clear hS a; (try clear w); intro a w b5 hS
  refine L_e hS (e_assign rfl) rfl ?_; clear hS a; intro a hS
  refine L_nil (n_then (wp_ret ?_))
  refine c_ret1 hS Tryz.results17 (.tmp rfl) ?_
  exact ⟨b5, rfl, hS.chg, hS.new (.head _) rfl⟩
theorem blkrow_getL {Γ : List Asn} {α : Type} {enc : α → List Value} {s E b : Nat} {xs : List α} (hm : Asn.blk b (xs.flatMap enc) E ∈ Γ) (hl : ∀ x, (enc x).length = s) {i : Nat} {x : α} (hx : xs[i]? = some x) : ∀ w, Hd Γ w → ∀ j v, (enc x)[j]? = some v → w.cell? ⟨b, 0 + i * s + j, none⟩ = some v := fun w hh j v hj =>
  cell_of_blk (E := E) (hh _ hm) (by rw [Nat.zero_add]; exact flat_get enc s hl xs i x hx j v hj)
def P0 : PL := ⟨usdL, [], [], [], -1⟩
def P4 : PL := ⟨usdL, chartL, [], [], -1⟩
theorem chart_made : chartL.foldl openP P0 = P4 := by
  have e1 : openEP P0 aBank = 0 := by decide +kernel
  have e2 : openEP ⟨usdL, [aBank], [], [], -1⟩ aSales = 0 := by decide +kernel
  have e3 : openEP ⟨usdL, [aBank, aSales], [], [], -1⟩ aTill = 0 := by decide +kernel
  have e4 : openEP ⟨usdL, [aBank, aSales, aTill], [], [], -1⟩ aFees = 0 := by decide +kernel
  have s1 : openP P0 aBank = ⟨usdL, [aBank], [], [], -1⟩ := if_pos e1
  have s2 : openP ⟨usdL, [aBank], [], [], -1⟩ aSales = ⟨usdL, [aBank, aSales], [], [], -1⟩ := if_pos e2
  have s3 : openP ⟨usdL, [aBank, aSales], [], [], -1⟩ aTill = ⟨usdL, [aBank, aSales, aTill], [], [], -1⟩ := if_pos e3
  have s4 : openP ⟨usdL, [aBank, aSales, aTill], [], [], -1⟩ aFees = P4 := if_pos e4
  show openP (openP (openP (openP P0 aBank) aSales) aTill) aFees = P4
  rw [s1, s2, s3, s4]
theorem pure_mutL {γ : Type} {P : Program} {f : FuncId} {args : List Value} {w : World} {v : Value} {X : Asn} {V : γ → Value} {Y : γ → Asn} (h : PureC P f args w v) (hX : X.ok w) (g : γ) (hv : V g = v) (hY : Y g = X) : MutC P f args w X V Y :=
  h.mono fun e w' ⟨he, hc⟩ => ⟨g, by rw [hv]; exact he, hc.mono (fun _ hf => hf.elim), by rw [hY]; exact hX.keep hc (fun _ _ hf => hf), fun b hb => .inl (by rw [hY] at hb; exact hb)⟩
theorem postAny_P (B : LB) (s : LS) (pv : Value) (at_ : Int) (memo : ByteArray) (ps : List Pst) (hlen : ps.length ≤ 4611686018427387904) (hfit : ∀ x ∈ ps, x.fits) (hbt : balT s.tot) (hes : s.es.length ≤ 100000) (w0 : World) (h : ledφ B s w0) (hp : PsAt pv ps w0) (hd : ∀ k, ps ≠ [] → pv.ownBlock = some k → ¬ ledF B s k) :
    MutC Tryz.prog 29 [.pointer (some ⟨B.lb, 0, none⟩), .int .i64 at_, .string memo, pv] w0 (ledA B s true) (fun _ : { y : LS // pl y = postP (pl s) at_ memo ps } => .tuple [.int .i64 (postI (pl s) at_ memo ps), .int .i64 (checkE (pl s) at_ memo ps)].toArray) (fun y => ledA B y.1 true) := by
  by_cases hne : ps = []
  · subst hne
    obtain ⟨a, c, rfl⟩ := hp.shape
    exact pure_mutL (lPost0_P B s a c at_ memo w0 h) (led_ok true h) ⟨s, (if_neg (check_nil (pl s) at_ memo)).symm⟩ rfl rfl
  · obtain ⟨b, off, c, rfl, hr, hb⟩ := hp.some hne
    exact lPost_P B s (some (b, off)) c at_ memo ps hlen hfit hbt hes w0 h hr (fun q hq => by cases hq; exact hb) (fun q hq => by cases hq; exact hd b hne rfl)
end Go.Proofs.YtheofhegdjjfgaaGreat

namespace Go.Proofs.YtheofhegdjjfgaaGreat
open Go.RowKit
structure RS where
  cur : ByteArray
  acs : List Acc
  es : List EA
  closed : Int
  av : Value
  ev : Value
def rlC (s : RS) : List Value := [.string s.cur, s.av, s.ev, .int .i64 s.closed]
def rowRA (s : RS) : Asn := ownA 51 4 s.av s.acs.length (s.acs.flatMap encAc)
def rowRE (s : RS) : Asn := ownA 104 4 s.ev s.es.length (s.es.flatMap encE)
def rpOk (x : EA) (w : World) : Prop := w.ownsRow 0 124 3 (psV x) x.v.ps.length (x.v.ps.flatMap encP)
def rpAll (es : List EA) : Asn := .any (fun k => ∃ x ∈ es, k = x.b) (fun w => ∀ x ∈ es, rpOk x w) true
structure rlφ (b : Nat) (s : RS) (w : World) : Prop where
  bk : w.heap[b]? = some (.cells (rlC s).toArray 66 (0, 0))
  ra : w.ownsRow 0 51 4 s.av s.acs.length (s.acs.flatMap encAc)
  re : w.ownsRow 0 104 4 s.ev s.es.length (s.es.flatMap encE)
  ps : ∀ x ∈ s.es, rpOk x w
def rlF (b : Nat) (s : RS) (k : Nat) : Prop := k = b ∨ s.av.ownBlock = some k ∨ s.ev.ownBlock = some k ∨ ∃ x ∈ s.es, k = x.b
def rlA (b : Nat) (s : RS) (m : Bool) : Asn := .any (rlF b s) (rlφ b s) m
theorem rpOk.own {x : EA} {w : World} (h : rpOk x w) : x.b < w.heap.size := (World.ownsRow.lt h x.b rfl).2
theorem rpOk.keep {x : EA} {w w' : World} (h : rpOk x w) (hw : w'.heap[x.b]? = w.heap[x.b]?) : rpOk x w' := owns_keepL h (fun b hb => by
  simp [psV, Value.ownBlock] at hb; subst hb; exact hw)
theorem rp_ok {es : List EA} {w : World} (h : ∀ x ∈ es, rpOk x w) : (rpAll es).ok w :=
  ⟨fun b hb => by obtain ⟨x, hx, rfl⟩ := hb; exact (h x hx).own, fun w' hw x hx => (h x hx).keep (hw x.b ⟨x, hx, rfl⟩)⟩
theorem rl_ok {b : Nat} {s : RS} {w : World} (m : Bool) (h : rlφ b s w) : (rlA b s m).ok w := by
  refine ⟨fun k hk => ?_, fun w' hw => ⟨?_, owns_keepL h.ra (fun k hk => hw k (.inr (.inl hk))), owns_keepL h.re (fun k hk => hw k (.inr (.inr (.inl hk)))), fun x hx => (h.ps x hx).keep (hw x.b (.inr (.inr (.inr ⟨x, hx, rfl⟩))))⟩⟩
  · rcases hk with rfl | hk | hk | ⟨x, hx, rfl⟩
    · exact (Array.getElem?_eq_some_iff.1 h.bk).1
    · exact (World.ownsRow.lt h.ra k hk).2
    · exact (World.ownsRow.lt h.re k hk).2
    · exact (h.ps x hx).own
  · rw [hw b (.inl rfl)]; exact h.bk
theorem rl_okP {b : Nat} {s : RS} {w : World} (h : rlφ b s w) : ∀ X ∈ [.blk b (rlC s) 66, rowRA s, rowRE s, rpAll s.es], X.ok w :=
  okC (ok_blk h.bk) (okC (ok_own h.ra) (okC (ok_own h.re) (okC (rp_ok h.ps) okN)))
theorem rl_apart {b : Nat} {s : RS} {w : World} (h : rlφ b s w) : s.av.ownBlock ≠ some b ∧ s.ev.ownBlock ≠ some b ∧ (∀ k, s.av.ownBlock = some k → s.ev.ownBlock = some k → False) ∧ ∀ x ∈ s.es, x.b ≠ b ∧ s.av.ownBlock ≠ some x.b ∧ s.ev.ownBlock ≠ some x.b := by
  have hT1 : (51 : Nat) ≠ 66 := by decide
  have hT2 : (104 : Nat) ≠ 66 := by decide
  have hT3 : (51 : Nat) ≠ 104 := by decide
  have hT4 : (124 : Nat) ≠ 66 := by decide
  have hT5 : (124 : Nat) ≠ 51 := by decide
  have hT6 : (124 : Nat) ≠ 104 := by decide
  have key : ∀ {k : Nat} {c1 c2 : Array Value} {E1 E2 : Nat}, w.heap[k]? = some (.cells c1 E1 (0, 0)) → w.heap[k]? = some (.cells c2 E2 (0, 0)) → E1 = E2 := fun h1 h2 => by
    rw [h1] at h2; injection h2 with h2; injection h2
  refine ⟨fun e => ?_, fun e => ?_, fun k e1 e2 => ?_, fun x hx => ?_⟩
  · obtain ⟨cs, h1⟩ := row_objL h.ra e
    exact hT1 (key h1 h.bk)
  · obtain ⟨cs, h1⟩ := row_objL h.re e
    exact hT2 (key h1 h.bk)
  · obtain ⟨cs, h1⟩ := row_objL h.ra e1
    obtain ⟨cs2, h2⟩ := row_objL h.re e2
    exact hT3 (key h1 h2)
  · obtain ⟨cs, h1⟩ := row_objL (h.ps x hx) (g := x.b) rfl
    refine ⟨fun e => ?_, fun e => ?_, fun e => ?_⟩
    · rw [e] at h1; exact hT4 (key h1 h.bk)
    · obtain ⟨cs2, h2⟩ := row_objL h.ra e
      exact hT5 (key h1 h2)
    · obtain ⟨cs2, h2⟩ := row_objL h.re e
      exact hT6 (key h1 h2)
theorem rl_dis {b : Nat} {s : RS} {w : World} (h : rlφ b s w) : [.blk b (rlC s) 66, rowRA s, rowRE s, rpAll s.es].Pairwise (fun X Y => ∀ k, X.F k → ¬ Y.F k) := by
  obtain ⟨a1, a2, a3, a4⟩ := rl_apart h
  have hb : ∀ {k c : Nat} {cs : List Value} {E : Nat}, (Asn.blk c cs E).F k → k = c := fun h => h
  have h1 : ∀ {k : Nat}, (rowRA s).F k → s.av.ownBlock = some k := fun h => h
  have h2 : ∀ {k : Nat}, (rowRE s).F k → s.ev.ownBlock = some k := fun h => h
  have h3 : ∀ {k : Nat}, (rpAll s.es).F k → ∃ x ∈ s.es, k = x.b := fun h => h
  exact disC (sepC (fun k e1 e2 => a1 (by rw [← hb e1]; exact h1 e2)) (sepC (fun k e1 e2 => a2 (by rw [← hb e1]; exact h2 e2)) (sepC (fun k e1 e2 => by obtain ⟨x, hx, e⟩ := h3 e2; exact (a4 x hx).1 (e.symm.trans (hb e1))) sepN)))
    (disC (sepC (fun k e1 e2 => a3 k (h1 e1) (h2 e2)) (sepC (fun k e1 e2 => by obtain ⟨x, hx, e⟩ := h3 e2; exact (a4 x hx).2.1 (by rw [← e]; exact h1 e1)) sepN))
    (disC (sepC (fun k e1 e2 => by obtain ⟨x, hx, e⟩ := h3 e2; exact (a4 x hx).2.2 (by rw [← e]; exact h2 e1)) sepN) dis1))
theorem rl_mine {b : Nat} {s : RS} {w : World} : ∀ X ∈ [.blk b (rlC s) 66, rowRA s, rowRE s, rpAll s.es], X.mine = true → ∀ k, X.F k → w.heap.size ≤ k ∨ rlF b s k :=
  mineO (fun _ hb => .inl hb) (mineO (fun _ hb => .inr (.inl hb)) (mineO (fun _ hb => .inr (.inr (.inl hb))) (mineO (fun _ hb => .inr (.inr (.inr hb))) mineN)))
theorem rl_end {n : Nat} {w0 w : World} {a : Act} {L : List (Nat × Value)} {Γ : List Asn} {b : Nat} {s s' : RS} (hS : St n (rlF b s) w0 a w L Γ) (h1 : .blk b (rlC s') 66 ∈ Γ) (h2 : rowRA s' ∈ Γ) (h3 : rowRE s' ∈ Γ) (h4 : rpAll s'.es ∈ Γ) :
    (rlA b s' true).ok w ∧ ∀ k, (rlA b s' true).F k → (rlA b s true).F k ∨ w0.heap.size ≤ k := by
  refine ⟨rl_ok true ⟨hS.get h1, hS.get h2, hS.get h3, hS.get h4⟩, fun k hb => ?_⟩
  rcases hb with hb | hb | hb | hb
  · exact (hS.mine _ h1 rfl k hb).symm
  · exact (hS.mine _ h2 rfl k hb).symm
  · exact (hS.mine _ h3 rfl k hb).symm
  · exact (hS.mine _ h4 rfl k hb).symm
theorem rl_cell {b : Nat} {s : RS} {m : Bool} {Γ : List Asn} (hm : rlA b s m ∈ Γ) {k : Nat} {v : Value} (hv : (rlC s)[k]? = some v) : ∀ w, Hd Γ w → w.cell? ⟨b, k, none⟩ = some v := fun _ hh => cell_of_blk (hh _ hm).bk hv
theorem rl_rowA {Γ : List Asn} {b : Nat} {s : RS} {m : Bool} {g c : Nat} (hsv : s.av = .slice (some ⟨g, 0, none⟩) s.acs.length c) (hm : rlA b s m ∈ Γ) {i : Nat} {x : Acc} (hx : s.acs[i]? = some x) : ∀ w, Hd Γ w → ∀ j v, (encAc x)[j]? = some v → w.cell? ⟨g, 0 + i * 4 + j, none⟩ = some v := by
  intro w hh j v hj
  have h := rlφ.ra (hh _ hm)
  rw [hsv] at h
  have h1 := flat_get encAc 4 (fun _ => rfl) s.acs i x hx j v hj
  have h2 := World.ownsRow.cells h (g := g) rfl _ _ h1
  rw [addr_add] at h2
  rw [← h2]; congr 2; omega
theorem rl_rowE {Γ : List Asn} {b : Nat} {s : RS} {m : Bool} {g c : Nat} (hsv : s.ev = .slice (some ⟨g, 0, none⟩) s.es.length c) (hm : rlA b s m ∈ Γ) {i : Nat} {x : EA} (hx : s.es[i]? = some x) : ∀ w, Hd Γ w → ∀ j v, (encE x)[j]? = some v → w.cell? ⟨g, 0 + i * 4 + j, none⟩ = some v := by
  intro w hh j v hj
  have h := rlφ.re (hh _ hm)
  rw [hsv] at h
  have h1 := flat_get encE 4 (fun _ => rfl) s.es i x hx j v hj
  have h2 := World.ownsRow.cells h (g := g) rfl _ _ h1
  rw [addr_add] at h2
  rw [← h2]; congr 2; omega
theorem rl_ps {Γ : List Asn} {b : Nat} {s : RS} {m : Bool} (hm : rlA b s m ∈ Γ) {x : EA} (hx : x ∈ s.es) {j : Nat} {p : Pst} (hp : x.v.ps[j]? = some p) : ∀ w, Hd Γ w → ∀ k v, (encP p)[k]? = some v → w.cell? ⟨x.b, 0 + j * 3 + k, none⟩ = some v := by
  intro w hh k v hk
  have h := rlφ.ps (hh _ hm) x hx
  have h1 := flat_get encP 3 (fun _ => rfl) x.v.ps j p hp k v hk
  have h2 := World.ownsRow.cells h (g := x.b) rfl _ _ h1
  rw [addr_add] at h2
  rw [← h2]; congr 2; omega
theorem rl_shA {b : Nat} {s : RS} {w : World} (h : rlφ b s w) : ∃ p c, s.av = .slice p s.acs.length c ∧ (p = none ∧ s.acs.length = 0 ∨ ∃ g, p = some ⟨g, 0, none⟩) := by
  obtain ⟨p, c, e0⟩ := own_slice h.ra
  refine ⟨p, c, e0, ?_⟩
  have h1 := h.ra
  rw [e0] at h1
  rcases h1.2 with ⟨e, e2⟩ | ⟨g, cap, cur, e, _⟩
  · injection e with e1; exact .inl ⟨e1, e2⟩
  · injection e with e1; exact .inr ⟨g, e1⟩
theorem rl_shE {b : Nat} {s : RS} {w : World} (h : rlφ b s w) : ∃ p c, s.ev = .slice p s.es.length c ∧ (p = none ∧ s.es.length = 0 ∨ ∃ g, p = some ⟨g, 0, none⟩) := by
  obtain ⟨p, c, e0⟩ := own_slice h.re
  refine ⟨p, c, e0, ?_⟩
  have h1 := h.re
  rw [e0] at h1
  rcases h1.2 with ⟨e, e2⟩ | ⟨g, cap, cur, e, _⟩
  · injection e with e1; exact .inl ⟨e1, e2⟩
  · injection e with e1; exact .inr ⟨g, e1⟩
end Go.Proofs.YtheofhegdjjfgaaGreat

namespace Go.Proofs.YtheofhegdjjfgaaGreat
open Go.RowKit
def ltE (x y : EA) : Prop := x.v.at_ < y.v.at_ ∨ (x.v.at_ = y.v.at_ ∧ x.v.id < y.v.id)
def cmpI (u v : Int) : Int := if u < v then -1 else if v < u then 1 else 0
theorem cmpI_neg {u v : Int} : cmpI u v < 0 ↔ u < v := by unfold cmpI; split <;> (try split) <;> omega
structure IsS (orig S : List EA) : Prop where
  perm : S.Perm orig
  srt : S.Pairwise ltE
theorem IsS.len {o S : List EA} (h : IsS o S) : S.length = o.length := h.perm.length_eq
def Ids (l : List EA) : Prop := l.Pairwise fun x y => x.v.id < y.v.id
section
variable {α : Type}
theorem swap_mid (P R S : List α) (x y : α) (l : List α) (hl : l = P ++ x :: (R ++ y :: S)) :
    l[P.length]? = some x ∧ l[P.length + 1 + R.length]? = some y ∧ (l.set P.length y).set (P.length + 1 + R.length) x = P ++ y :: (R ++ x :: S) := by
  subst hl
  refine ⟨by simp, ?_, ?_⟩
  · rw [List.getElem?_append_right (by omega), show P.length + 1 + R.length - P.length = R.length + 1 from by omega, List.getElem?_cons_succ, List.getElem?_append_right (by omega), Nat.sub_self]; rfl
  · rw [List.set_append_right _ _ (by omega), Nat.sub_self, List.set_cons_zero, List.set_append_right _ _ (by omega), show P.length + 1 + R.length - P.length = R.length + 1 from by omega, List.set_cons_succ, List.set_append_right _ _ (by omega), Nat.sub_self, List.set_cons_zero]
theorem swap_mid2 (P R S : List α) (x y : α) (l : List α) (hl : l = P ++ x :: (R ++ y :: S)) : (l.set (P.length + 1 + R.length) x).set P.length y = P ++ y :: (R ++ x :: S) := by
  rw [List.set_comm _ _ (by omega)]
  exact (swap_mid P R S x y l hl).2.2
def swapS (A X M Y B : List α) (i : Nat) : List α := A ++ (Y.take i ++ (X.drop i ++ (M ++ (X.take i ++ (Y.drop i ++ B)))))
theorem swapS_zero (A X M Y B : List α) : swapS A X M Y B 0 = A ++ (X ++ (M ++ (Y ++ B))) := by simp [swapS]
theorem swapS_end (A X M Y B : List α) (h : X.length = Y.length) : swapS A X M Y B X.length = A ++ (Y ++ (M ++ (X ++ B))) := by
  unfold swapS
  rw [List.drop_of_length_le (Nat.le_refl X.length), List.take_of_length_le (Nat.le_refl X.length), List.drop_of_length_le (by omega : Y.length ≤ X.length), List.take_of_length_le (by omega : Y.length ≤ X.length)]
  simp
theorem swapS_step (A X M Y B : List α) (h : X.length = Y.length) {i : Nat} {x y : α} (hx : X[i]? = some x) (hy : Y[i]? = some y) :
    (swapS A X M Y B i)[A.length + i]? = some x ∧ (swapS A X M Y B i)[A.length + X.length + M.length + i]? = some y ∧ ((swapS A X M Y B i).set (A.length + i) y).set (A.length + X.length + M.length + i) x = swapS A X M Y B (i + 1) := by
  obtain ⟨h1, h2⟩ := List.getElem?_eq_some_iff.1 hx
  obtain ⟨h3, h4⟩ := List.getElem?_eq_some_iff.1 hy
  have dx : X.drop i = x :: X.drop (i + 1) := by rw [← h2, List.getElem_cons_drop]
  have dy : Y.drop i = y :: Y.drop (i + 1) := by rw [← h4, List.getElem_cons_drop]
  have tx : X.take (i + 1) = X.take i ++ [x] := by rw [List.take_add_one, hx]; rfl
  have ty : Y.take (i + 1) = Y.take i ++ [y] := by rw [List.take_add_one, hy]; rfl
  have e : swapS A X M Y B i = (A ++ Y.take i) ++ x :: ((X.drop (i + 1) ++ (M ++ X.take i)) ++ y :: (Y.drop (i + 1) ++ B)) := by
    unfold swapS; rw [dx, dy]; simp
  have e2 : swapS A X M Y B (i + 1) = (A ++ Y.take i) ++ y :: ((X.drop (i + 1) ++ (M ++ X.take i)) ++ x :: (Y.drop (i + 1) ++ B)) := by
    unfold swapS; rw [tx, ty]; simp
  have l1 : (A ++ Y.take i).length = A.length + i := by simp; omega
  have l2 : (X.drop (i + 1) ++ (M ++ X.take i)).length = X.length - (i + 1) + (M.length + i) := by simp; omega
  have h5 := swap_mid _ _ _ _ _ _ e
  rw [l1, l2, show A.length + i + 1 + (X.length - (i + 1) + (M.length + i)) = A.length + X.length + M.length + i from by omega, ← e2] at h5
  exact h5
end
theorem ltE.le {x y : EA} (h : ltE x y) : x.v.at_ ≤ y.v.at_ := by unfold ltE at h; omega
theorem srt_le {S : List EA} (h : S.Pairwise ltE) {i j : Nat} {x y : EA} (hx : S[i]? = some x) (hy : S[j]? = some y) (hij : i ≤ j) : x.v.at_ ≤ y.v.at_ := by
  obtain ⟨h1, rfl⟩ := List.getElem?_eq_some_iff.1 hx
  obtain ⟨h2, rfl⟩ := List.getElem?_eq_some_iff.1 hy
  by_cases e : i = j
  · subst e; omega
  · exact (List.pairwise_iff_getElem.1 h i j h1 h2 (by omega)).le
theorem mem_take_get {α : Type} {l : List α} {k : Nat} {x : α} (h : x ∈ l.take k) : ∃ i, i < k ∧ l[i]? = some x := by
  obtain ⟨i, hi, rfl⟩ := List.mem_iff_getElem.1 h
  rw [List.length_take] at hi
  exact ⟨i, by omega, by rw [List.getElem_take]; exact List.getElem?_eq_getElem (by omega)⟩
theorem mem_drop_get {α : Type} {l : List α} {k : Nat} {x : α} (h : x ∈ l.drop k) : ∃ i, k ≤ i ∧ l[i]? = some x := by
  obtain ⟨i, hi, rfl⟩ := List.mem_iff_getElem.1 h
  rw [List.length_drop] at hi
  exact ⟨k + i, by omega, by rw [List.getElem_drop]; exact List.getElem?_eq_getElem (by omega)⟩
theorem put_srt {S1 S2 : List EA} {y : EA} (h : (S1 ++ S2).Pairwise ltE) (h1 : ∀ x ∈ S1, ltE x y) (h2 : ∀ x ∈ S2, ltE y x) : (S1 ++ y :: S2).Pairwise ltE := by
  obtain ⟨a1, a2, a3⟩ := List.pairwise_append.1 h
  refine List.pairwise_append.2 ⟨a1, List.pairwise_cons.2 ⟨h2, a2⟩, fun x hx z hz => ?_⟩
  rcases List.mem_cons.1 hz with rfl | hz
  · exact h1 x hx
  · exact a3 x hx z hz
def Cross (X Y : List EA) : Prop := ∀ x ∈ X, ∀ y ∈ Y, x.v.at_ = y.v.at_ → x.v.id < y.v.id
theorem Cross.lt {X Y : List EA} (h : Cross X Y) {x y : EA} (hx : x ∈ X) (hy : y ∈ Y) (hle : x.v.at_ ≤ y.v.at_) : ltE x y := by
  by_cases e : x.v.at_ = y.v.at_
  · exact .inr ⟨e, h x hx y hy e⟩
  · exact .inl (by omega)
theorem one_left {x : EA} {Y : List EA} {k : Nat} (hY : Y.Pairwise ltE) (hc : Cross [x] Y) (_ : k ≤ Y.length) (h1 : ∀ j y, j < k → Y[j]? = some y → y.v.at_ < x.v.at_) (h2 : ∀ j y, k ≤ j → Y[j]? = some y → ¬ y.v.at_ < x.v.at_) : IsS ([x] ++ Y) (Y.take k ++ x :: Y.drop k) := by
  refine ⟨?_, put_srt (by rw [List.take_append_drop]; exact hY) (fun y hy => ?_) (fun y hy => ?_)⟩
  · refine List.perm_middle.trans ?_
    rw [List.take_append_drop]; exact .refl _
  · obtain ⟨i, hi, hg⟩ := mem_take_get hy
    exact .inl (h1 i y hi hg)
  · obtain ⟨i, hi, hg⟩ := mem_drop_get hy
    exact hc.lt (.head _) (List.mem_of_getElem? hg) (by have := h2 i y hi hg; omega)
theorem one_right {y : EA} {X : List EA} {k : Nat} (hX : X.Pairwise ltE) (hc : Cross X [y]) (_ : k ≤ X.length) (h1 : ∀ j x, j < k → X[j]? = some x → ¬ y.v.at_ < x.v.at_) (h2 : ∀ j x, k ≤ j → X[j]? = some x → y.v.at_ < x.v.at_) : IsS (X ++ [y]) (X.take k ++ y :: X.drop k) := by
  refine ⟨?_, put_srt (by rw [List.take_append_drop]; exact hX) (fun x hx => ?_) (fun x hx => ?_)⟩
  · refine List.perm_middle.trans ?_
    rw [List.take_append_drop]
    exact (List.perm_append_comm (l₁ := [y]) (l₂ := X))
  · obtain ⟨i, hi, hg⟩ := mem_take_get hx
    exact hc.lt (List.mem_of_getElem? hg) (.head _) (by have := h1 i x hi hg; omega)
  · obtain ⟨i, hi, hg⟩ := mem_drop_get hx
    exact .inl (h2 i x hi hg)
structure CutOk (X Y : List EA) (u v : Nat) : Prop where
  hu : u ≤ X.length
  hv : v ≤ Y.length
  lo : ∀ x ∈ X.take u, ∀ y ∈ Y.drop v, x.v.at_ ≤ y.v.at_
  hi : ∀ x ∈ X.drop u, ∀ y ∈ Y.take v, y.v.at_ < x.v.at_
theorem merge_halves {X Y S1 S2 : List EA} {u v : Nat} (hX : X.Pairwise ltE) (hY : Y.Pairwise ltE) (hc : Cross X Y) (hk : CutOk X Y u v) (h1 : IsS (X.take u ++ Y.take v) S1) (h2 : IsS (X.drop u ++ Y.drop v) S2) : IsS (X ++ Y) (S1 ++ S2) := by
  constructor
  · refine (h1.perm.append h2.perm).trans ?_
    rw [List.append_assoc]
    have e : X ++ Y = X.take u ++ (X.drop u ++ (Y.take v ++ Y.drop v)) := by
      rw [List.take_append_drop v Y, ← List.append_assoc, List.take_append_drop]
    rw [e]
    refine List.Perm.append_left _ ?_
    rw [← List.append_assoc, ← List.append_assoc]
    exact List.Perm.append_right _ List.perm_append_comm
  · refine List.pairwise_append.2 ⟨h1.srt, h2.srt, fun a ha b hb => ?_⟩
    have ha := h1.perm.mem_iff.1 ha
    have hb := h2.perm.mem_iff.1 hb
    have mX : ∀ {x}, x ∈ X.take u → x ∈ X := fun h => List.mem_of_mem_take h
    have eX := List.take_append_drop u X
    have eY := List.take_append_drop v Y
    rcases List.mem_append.1 ha with ha | ha <;> rcases List.mem_append.1 hb with hb | hb
    · rw [← eX] at hX; exact (List.pairwise_append.1 hX).2.2 a ha b hb
    · exact hc.lt (List.mem_of_mem_take ha) (List.mem_of_mem_drop hb) (hk.lo a ha b hb)
    · exact .inl (hk.hi b hb a ha)
    · rw [← eY] at hY; exact (List.pairwise_append.1 hY).2.2 a ha b hb
theorem Cross.sub {X Y X' Y' : List EA} (h : Cross X Y) (h1 : ∀ x ∈ X', x ∈ X) (h2 : ∀ y ∈ Y', y ∈ Y) : Cross X' Y' := fun x hx y hy => h x (h1 x hx) y (h2 y hy)
structure InsOk (seg : List EA) (u : Nat) (P1 P2 : List EA) (y : EA) : Prop where
  is : IsS (seg.take u) (P1 ++ P2)
  at_ : seg[u]? = some y
  lt : ∀ x ∈ P2, y.v.at_ < x.v.at_
theorem ins_done {seg P1 P2 : List EA} {u : Nat} {y : EA} (hids : Ids seg) (h : InsOk seg u P1 P2 y) (hstop : P1 = [] ∨ ∃ z, P1.getLast? = some z ∧ ¬ y.v.at_ < z.v.at_) : IsS (seg.take (u + 1)) (P1 ++ y :: P2) := by
  obtain ⟨hs, hy, hlt⟩ := h
  have et : seg.take (u + 1) = seg.take u ++ [y] := by rw [List.take_add_one, hy]; rfl
  constructor
  · refine List.perm_middle.trans ?_
    rw [et]
    exact (List.Perm.cons y hs.perm).trans (List.perm_append_comm (l₁ := [y]))
  · refine put_srt hs.srt (fun x hx => ?_) (fun x hx => .inl (hlt x hx))
    have hxle : x.v.at_ ≤ y.v.at_ := by
      rcases hstop with e | ⟨z, hz, hle⟩
      · rw [e] at hx; cases hx
      · have hzx : x.v.at_ ≤ z.v.at_ := by
          have hp := (List.pairwise_append.1 hs.srt).1
          rw [List.getLast?_eq_getElem?] at hz
          obtain ⟨i, hi, rfl⟩ := List.mem_iff_getElem.1 hx
          exact srt_le hp (List.getElem?_eq_getElem hi) hz (by omega)
        omega
    have hxid : x.v.id < y.v.id := by
      have hm : x ∈ seg.take u := hs.perm.mem_iff.1 (List.mem_append.2 (.inl hx))
      obtain ⟨i, hi, hg⟩ := mem_take_get hm
      obtain ⟨h1, rfl⟩ := List.getElem?_eq_some_iff.1 hg
      obtain ⟨h2, rfl⟩ := List.getElem?_eq_some_iff.1 hy
      exact List.pairwise_iff_getElem.1 hids i u h1 h2 hi
    by_cases e : x.v.at_ = y.v.at_
    · exact .inr ⟨e, hxid⟩
    · exact .inl (by omega)
theorem ins_back {seg P1 P2 : List EA} {u : Nat} {y z : EA} (h : InsOk seg u (P1 ++ [z]) P2 y) (hlt : y.v.at_ < z.v.at_) : InsOk seg u P1 (z :: P2) y := by
  obtain ⟨hs, hy, h1⟩ := h
  refine ⟨by simpa using hs, hy, fun x hx => ?_⟩
  rcases List.mem_cons.1 hx with rfl | hx
  · exact hlt
  · exact h1 x hx
def blkE (s t : Nat) (l : List EA) : List EA := (l.drop (t * s)).take s
theorem blk_left {s t : Nat} {A R R' : List EA} (h : t * s + s ≤ A.length) : blkE s t (A ++ R) = blkE s t (A ++ R') := by
  unfold blkE
  rw [List.drop_append_of_le_length (by omega), List.drop_append_of_le_length (by omega), List.take_append_of_le_length (by rw [List.length_drop]; omega), List.take_append_of_le_length (by rw [List.length_drop]; omega)]
theorem blk_right {s t : Nat} {A A' R : List EA} (hl : A.length = A'.length) (h : A.length ≤ t * s) : blkE s t (A ++ R) = blkE s t (A' ++ R) := by
  unfold blkE
  have e1 : A.drop (t * s) = [] := List.drop_of_length_le h
  have e2 : A'.drop (t * s) = [] := List.drop_of_length_le (by omega)
  rw [List.drop_append (l₁ := A), List.drop_append (l₁ := A'), e1, e2, hl]
structure Half (s T : Nat) (orig zs : List EA) : Prop where
  len : zs.length = orig.length
  two : ∀ t, t < T → IsS (blkE (2 * s) t orig) (blkE (2 * s) t zs)
  one : ∀ t, 2 * T ≤ t → IsS (blkE s t orig) (blkE s t zs)
theorem blk_split (s T : Nat) (l : List EA) : blkE (2 * s) T l = blkE s (2 * T) l ++ blkE s (2 * T + 1) l := by
  unfold blkE
  rw [show (2 * T + 1) * s = 2 * T * s + s from by rw [Nat.add_mul]; omega, ← List.drop_drop, show T * (2 * s) = 2 * T * s from by rw [Nat.mul_comm 2 T, Nat.mul_assoc], show 2 * s = s + s from by omega, List.take_add]
theorem Half.step {s T : Nat} {orig zs zs' A S B : List EA} (h : Half s T orig zs) (hA : A.length = T * (2 * s)) (hz : zs = A ++ (blkE (2 * s) T zs ++ B)) (hz' : zs' = A ++ (S ++ B)) (hB : B.length = 0 ∨ (blkE (2 * s) T zs).length = 2 * s) (hS : IsS (blkE (2 * s) T zs) S) : Half s (T + 1) orig zs' := by
  have hsl := hS.len
  have hzl : zs.length = A.length + ((blkE (2 * s) T zs).length + B.length) := by
    have := congrArg List.length hz
    rw [List.length_append, List.length_append] at this; exact this
  have hlen : zs'.length = zs.length := by rw [hz', List.length_append, List.length_append]; omega
  have hcut : blkE (2 * s) T zs' = S := by
    rw [hz']
    unfold blkE
    rw [← hA, List.drop_left']
    · rcases hB with hb | hb
      · rw [List.eq_nil_of_length_eq_zero hb, List.append_nil]
        exact List.take_of_length_le (by rw [hsl]; unfold blkE; rw [List.length_take]; omega)
      · rw [List.take_left' (by omega)]
    · rfl
  refine ⟨hlen.trans h.len, fun t ht => ?_, fun t ht => ?_⟩
  · by_cases e : t = T
    · subst e
      rw [hcut]
      refine ⟨hS.perm.trans ?_, hS.srt⟩
      rw [blk_split, blk_split]
      exact (h.one (2 * t) (Nat.le_refl _)).perm.append (h.one (2 * t + 1) (by omega)).perm
    · have h1 := h.two t (by omega)
      have h2 : t * (2 * s) + 2 * s ≤ A.length := by
        rw [hA]
        have := Nat.mul_le_mul_right (2 * s) (show t + 1 ≤ T from by omega)
        rw [Nat.add_mul] at this; omega
      rw [hz, blk_left (R' := S ++ B) h2, ← hz'] at h1
      exact h1
  · have h1 := h.one t (by omega)
    rcases hB with hb | hb
    · have hn : orig.length ≤ t * s := by
        have e2 : (blkE (2 * s) T zs).length ≤ 2 * s := by unfold blkE; rw [List.length_take]; omega
        have := Nat.mul_le_mul_right s (show 2 * T + 2 ≤ t from by omega)
        rw [Nat.add_mul, Nat.mul_comm 2 T, Nat.mul_assoc] at this
        have := h.len
        omega
      unfold blkE
      rw [List.drop_of_length_le hn, List.drop_of_length_le (by rw [hlen, h.len]; exact hn)]
      exact ⟨.refl _, by simp⟩
    · have hAl : (A ++ blkE (2 * s) T zs).length ≤ t * s := by
        rw [List.length_append, hb, hA]
        have := Nat.mul_le_mul_right s (show 2 * T + 2 ≤ t from by omega)
        rw [Nat.add_mul, Nat.mul_comm 2 T, Nat.mul_assoc] at this
        omega
      have e3 : zs' = (A ++ S) ++ B := by rw [hz', List.append_assoc]
      have e4 : zs = (A ++ blkE (2 * s) T zs) ++ B := by rw [List.append_assoc]; exact hz
      rw [e4, blk_right (A' := A ++ S) (by rw [List.length_append, List.length_append, hsl]) hAl, ← e3] at h1
      exact h1
theorem Half.short {s T : Nat} {orig zs : List EA} (h : Half s T orig zs) (hs : orig.length ≤ T * (2 * s) + s) : Half s (T + 1) orig zs := by
  refine ⟨h.len, fun t ht => ?_, fun t ht => h.one t (by omega)⟩
  by_cases e : t = T
  · subst e
    have e2 : ∀ l : List EA, l.length ≤ t * (2 * s) + s → blkE s (2 * t + 1) l = [] := fun l hl => by
      unfold blkE
      rw [List.drop_of_length_le (by rw [Nat.add_mul, Nat.mul_comm 2 t, Nat.mul_assoc]; omega)]; simp
    rw [blk_split, blk_split, e2 _ hs, e2 _ (by rw [h.len]; exact hs), List.append_nil, List.append_nil]
    exact h.one (2 * t) (Nat.le_refl _)
  · exact h.two t (by omega)
theorem Half.next {s T : Nat} {orig zs : List EA} (h : Half s T orig zs) (hT : orig.length ≤ T * (2 * s)) : Half (2 * s) 0 orig zs := by
  refine ⟨h.len, fun t ht => absurd ht (Nat.not_lt_zero t), fun t _ => ?_⟩
  by_cases e : t < T
  · exact h.two t e
  · have hn : orig.length ≤ t * (2 * s) := Nat.le_trans hT (Nat.mul_le_mul_right _ (by omega))
    unfold blkE
    rw [List.drop_of_length_le hn, List.drop_of_length_le (by rw [h.len]; exact hn)]
    exact ⟨.refl _, by simp⟩
theorem Half.all {s : Nat} {orig zs : List EA} (h : Half s 0 orig zs) (hs : orig.length ≤ s) : IsS orig zs := by
  have h1 := h.one 0 (Nat.le_refl _)
  unfold blkE at h1
  rw [Nat.zero_mul, List.drop_zero, List.drop_zero, List.take_of_length_le hs, List.take_of_length_le (by rw [h.len]; exact hs)] at h1
  exact h1
theorem blk_cross {s T : Nat} {orig zs : List EA} (hids : Ids orig) (h : Half s T orig zs) : Cross (blkE s (2 * T) zs) (blkE s (2 * T + 1) zs) := by
  intro x hx y hy _
  have hx := (h.one (2 * T) (Nat.le_refl _)).perm.mem_iff.1 hx
  have hy := (h.one (2 * T + 1) (by omega)).perm.mem_iff.1 hy
  unfold blkE at hx hy
  obtain ⟨i, hi, hgx⟩ := mem_take_get hx
  obtain ⟨j, hj, hgy⟩ := mem_take_get hy
  rw [List.getElem?_drop] at hgx hgy
  obtain ⟨h1, rfl⟩ := List.getElem?_eq_some_iff.1 hgx
  obtain ⟨h2, rfl⟩ := List.getElem?_eq_some_iff.1 hgy
  exact List.pairwise_iff_getElem.1 hids _ _ h1 h2 (by rw [Nat.add_mul]; omega)
structure Ins (s T : Nat) (orig zs : List EA) : Prop where
  len : zs.length = orig.length
  one : ∀ t, t < T → IsS (blkE s t orig) (blkE s t zs)
  rest : zs.drop (T * s) = orig.drop (T * s)
theorem Ins.step {s T : Nat} {orig zs zs' A seg S B : List EA} (h : Ins s T orig zs) (hA : A.length = T * s) (hz : zs = A ++ (seg ++ B)) (hz' : zs' = A ++ (S ++ B)) (hseg : seg.length = s ∨ (B = [] ∧ seg.length ≤ s)) (hS : IsS seg S) : Ins s (T + 1) orig zs' := by
  have hsl := hS.len
  have hlen : zs'.length = zs.length := by rw [hz', hz]; simp only [List.length_append]; omega
  have ho : orig.drop (T * s) = seg ++ B := by rw [← h.rest, hz, ← hA, List.drop_left']; rfl
  refine ⟨hlen.trans h.len, fun t ht => ?_, ?_⟩
  · by_cases e : t = T
    · subst e
      have e1 : blkE s t orig = seg := by
        unfold blkE
        rw [ho]
        rcases hseg with e | ⟨rfl, e⟩
        · rw [List.take_left' e]
        · rw [List.append_nil, List.take_of_length_le e]
      have e2 : blkE s t zs' = S := by
        unfold blkE
        rw [hz', ← hA, List.drop_left' rfl]
        rcases hseg with e | ⟨rfl, e⟩
        · rw [List.take_left' (by omega)]
        · rw [List.append_nil, List.take_of_length_le (by omega)]
      rw [e1, e2]; exact hS
    · have h1 := h.one t (by omega)
      have h2 : t * s + s ≤ A.length := by
        rw [hA]
        have := Nat.mul_le_mul_right s (show t + 1 ≤ T from by omega)
        rw [Nat.add_mul] at this; omega
      rw [hz, blk_left (R' := S ++ B) h2, ← hz'] at h1
      exact h1
  · have e1 : ∀ l : List EA, l.drop ((T + 1) * s) = (l.drop (T * s)).drop s := fun l => by rw [List.drop_drop, Nat.add_mul, Nat.one_mul]
    rw [e1, e1, ho, hz', ← hA, List.drop_left' rfl]
    rcases hseg with e | ⟨rfl, e⟩
    · rw [List.drop_left' (by omega), List.drop_left' e]
    · rw [List.append_nil, List.append_nil, List.drop_of_length_le (by omega), List.drop_of_length_le e]
theorem Ins.all {s T : Nat} {orig zs : List EA} (h : Ins s T orig zs) (hT : orig.length ≤ T * s) : Half s 0 orig zs := by
  refine ⟨h.len, fun t ht => absurd ht (Nat.not_lt_zero t), fun t _ => ?_⟩
  by_cases e : t < T
  · exact h.one t e
  · have hn : orig.length ≤ t * s := Nat.le_trans hT (Nat.mul_le_mul_right _ (by omega))
    unfold blkE
    rw [List.drop_of_length_le hn, List.drop_of_length_le (by rw [h.len]; exact hn)]
    exact ⟨.refl _, by simp⟩
end Go.Proofs.YtheofhegdjjfgaaGreat

namespace Go.Proofs.YtheofhegdjjfgaaGreat
open Go.RowKit
variable {P : Program} {n : Nat} {F0 : Nat → Prop} {w0 w : World} {a : Act} {L : List (Nat × Value)} {Γ : List Asn} {dst : Option Nat}
variable {ty : Nat} {pos : String} {af : Array Edge} {g : Option (Nat × Bool)} {K : Act → World → Prop} {Q : Exit → Act → World → Prop} {d : Nat}
def setMany : List Value → Nat → List Value → List Value
  | xs, _, [] => xs
  | xs, j, v :: vs => setMany (xs.set j v) (j + 1) vs
theorem setMany_mid : ∀ (vs A B C : List Value), B.length = vs.length → setMany (A ++ (B ++ C)) A.length vs = A ++ (vs ++ C)
  | [], A, B, C, h => by
    have : B = [] := List.eq_nil_of_length_eq_zero (by simpa using h)
    subst this; rfl
  | v :: vs, A, [], C, h => by simp at h
  | v :: vs, A, b :: B, C, h => by
    have h1 : (A ++ (b :: B ++ C)).set A.length v = (A ++ [v]) ++ (B ++ C) := by simp
    show setMany ((A ++ (b :: B ++ C)).set A.length v) (A.length + 1) vs = _
    rw [h1]
    have h2 := setMany_mid vs (A ++ [v]) B C (by simpa using h)
    simp only [List.length_append, List.length_cons, List.length_nil, Nat.zero_add] at h2
    rw [h2]; simp
theorem flat_put {α : Type} {enc : α → List Value} {s : Nat} (hl : ∀ x, (enc x).length = s) {xs : List α} {i : Nat} {x y : α} (hx : xs[i]? = some x) : setMany (xs.flatMap enc) (i * s) (enc y) = (xs.set i y).flatMap enc := by
  obtain ⟨hi, e⟩ := List.getElem?_eq_some_iff.1 hx
  have e1 : xs = xs.take i ++ x :: xs.drop (i + 1) := by rw [← e, List.getElem_cons_drop, List.take_append_drop]
  have e2 : (xs.take i).length = i := by simp; omega
  have e3 : ((xs.take i).flatMap enc).length = i * s := by rw [flat_len enc s hl, e2]
  have e4 : xs.set i y = xs.take i ++ y :: xs.drop (i + 1) := by rw [List.set_eq_take_append_cons_drop, if_pos hi]
  rw [e4]
  conv => lhs; rw [e1]
  rw [List.flatMap_append, List.flatMap_cons, List.flatMap_append, List.flatMap_cons, ← e3]
  exact setMany_mid (enc y) _ (enc x) _ (by rw [hl, hl])
theorem storeOwn_run {E s gb m c o : Nat} : ∀ (vs : List Value) (i : Nat) (w : World) (xs : List Value), w.ownsRow 0 E s (.slice (some ⟨gb, 0, none⟩) m c) m xs → o + i + vs.length ≤ m * s → (∀ v ∈ vs, isOne v = true) →
    ∃ w', (storeCells ⟨gb, o, none⟩ vs i).run P w = .ok () w' ∧ w'.ownsRow 0 E s (.slice (some ⟨gb, 0, none⟩) m c) m (setMany xs (o + i) vs) ∧ Chg (fun k => k = gb) w w' := by
  intro vs
  induction vs with
  | nil => intro i w xs h _ _; exact ⟨w, by simp [storeCells], h, Chg.refl _ _⟩
  | cons v vs ih =>
    intro i w xs h hb h1
    have hv := h1 v (by simp)
    simp only [List.length_cons] at hb
    have hcell : w.cell? ⟨gb, o + i, none⟩ = xs[o + i]? := World.ownsRow.cellAt h (o + i) (by omega)
    rw [List.getElem?_eq_getElem (by rw [h.1]; omega)] at hcell
    have hfz := World.ownsRow.frozenAt h (o + i)
    have hst := (World.ownsRow.stored h (o + i) v).1
    obtain ⟨w', h2, h3, h4⟩ := ih (i + 1) _ _ hst (by omega) (fun u hu => h1 u (by simp [hu]))
    refine ⟨w', ?_, by rw [← Nat.add_assoc] at h3; exact h3, (Chg.setCell w ⟨gb, o + i, none⟩ v).trans h4 (fun i hi _ => hi)⟩
    simp [storeCells, addr_add, run_store _ _ _ _ _ (isOne_oneCell hv), hcell, hfz, h2]
theorem s_storeOA {α : Type} {enc : α → List Value} {T gb i s m c E : Nat} {x y : Operand} {xs : List α} {u v : α} {Γ' : List Asn} (hS : St n F0 w0 a w L Γ) (hx : ev L x = some (.pointer (some ⟨gb, 0 + i * s, none⟩))) (hy : ev L y = some (.agg (enc v).toArray)) (hl : ∀ x, (enc x).length = s)
    (h1 : (enc v).all isOne = true) (hz : szOf P T = some s) (hu : xs[i]? = some u) (hm : xs.length = m) (hr : Rep (ownA E s (.slice (some ⟨gb, 0, none⟩) m c) m (xs.flatMap enc)) (ownA E s (.slice (some ⟨gb, 0, none⟩) m c) m ((xs.set i v).flatMap enc)) Γ Γ') (h : ∀ w', St n F0 w0 a w' L Γ' → K a w') : OW P ⟨none, .store T x y, ty, pos, af, g⟩ a w K Q := by
  have hown : w.ownsRow 0 E s (.slice (some ⟨gb, 0, none⟩) m c) m (xs.flatMap enc) := hS.get hr.mem
  have hi : i < m := by rw [← hm]; exact (List.getElem?_eq_some_iff.1 hu).1
  obtain ⟨w', h2, h3, h4⟩ := storeOwn_run (P := P) (o := 0 + i * s) (enc v) 0 w _ hown (by rw [hl]; have := Nat.mul_le_mul_right s (show i + 1 ≤ m from hi); rw [Nat.add_mul] at this; omega) (by simpa using h1)
  rw [Nat.zero_add, Nat.add_zero, flat_put hl hu] at h3
  rw [Nat.zero_add] at h2
  have he : (execOp a.eval (⟨none, .store T x y, ty, pos, af, g⟩ : Oper)).run P w = .ok .skip w' := by
    simp [execOp, hS.sl.ev hx, hS.sl.ev hy, Instr.storeAt, Instr.sureAddr, storeVar, sizeOf_run hz, Value.cells, hl, h2]
  refine ⟨?_⟩
  unfold Oper.wp
  rw [he]
  exact h _ (hS.upd hr (h4.mono (fun k hk => by rw [hk]; rfl)) (ok_own h3) (fun k hk => .inl hk) rfl)
end Go.Proofs.YtheofhegdjjfgaaGreat

namespace Go.Proofs.YtheofhegdjjfgaaGreat
open Go.RowKit
set_option maxRecDepth 100000 in
theorem isNaN_P (x : Int) (w0 : World) : PureC Tryz.prog 112 [.int .i64 x] w0 (.bool false) := by
  refine c_enter [(0, .int .i64 x)] [] noB Tryz.func112 rfl Tryz.ntmps112 ⟨rfl, trivial⟩ rfl (by simp) (by simp) (by simp) ?_
  intro a hS
  refine c_seq (c_region ?_)
  refine L_e hS (e_assign rfl) rfl ?_; clear hS a; intro a hS
  refine L_nil (n_then (c_seq (c_region ?_)))
  refine L_e hS (e_move rfl) rfl ?_; clear hS a; intro a hS
  refine L_e hS (e_move rfl) rfl ?_; clear hS a; intro a hS
  refine L_e hS (e_bin rfl rfl rfl) rfl ?_; clear hS a; intro a hS
  refine L_e hS (e_assign rfl) rfl ?_; clear hS a; intro a hS
  refine L_nil (n_then (wp_ret ?_))
  refine c_ret1 hS Tryz.results112 (.tmp rfl) ?_
  exact ⟨by simp, hS.chg⟩
set_option maxRecDepth 100000 in
theorem cmpInt_P (u v : Int) (w0 : World) : PureC Tryz.prog 86 [.int .i64 u, .int .i64 v] w0 (.int .i64 (cmpI u v)) := by
  refine c_enter [(0, .int .i64 u), (1, .int .i64 v)] [] noB Tryz.func86 rfl Tryz.ntmps86 ⟨rfl, rfl, trivial⟩ rfl (by simp) (by simp) (by simp) ?_
  intro a hS
  refine c_seq (c_region ?_)
  refine L_e hS (e_assign rfl) rfl ?_; clear hS a; intro a hS
  refine L_nil (n_then (c_seq (c_region ?_)))
  refine L_e hS (e_move rfl) rfl ?_; clear hS a; intro a hS
  refine L_op (s_callP hS (.cons rfl .nil) cf112 rfl (isNaN_P u _) ?_); clear hS a; (try clear w); intro a w hS
  refine L_e hS (e_assign rfl) rfl ?_; clear hS a; intro a hS
  refine L_nil (n_then (c_seq (c_region ?_)))
  refine L_e hS (e_move rfl) rfl ?_; clear hS a; intro a hS
  refine L_op (s_callP hS (.cons rfl .nil) cf112 rfl (isNaN_P v _) ?_); clear hS a; (try clear w); intro a w hS
  refine L_e hS (e_assign rfl) rfl ?_; clear hS a; intro a hS
  refine L_nil (n_then (c_seq (c_seq (c_region ?_))))
  refine L_e hS (e_move rfl) rfl ?_; clear hS a; intro a hS
  refine L_nil (n_then ?_)
  replace hS := hS.is (t := 11) (c := false) rfl (rfl)
  refine c_if_f hS rfl ?_
  refine wp_skip (n_then (c_seq (c_seq (c_region ?_))))
  refine L_e hS (e_move rfl) rfl ?_; clear hS a; intro a hS
  refine L_nil (n_then ?_)
  replace hS := hS.is (t := 13) (c := false) rfl (rfl)
  refine c_if_f hS rfl ?_
  refine wp_skip (n_then (c_seq (c_seq (c_region ?_))))
  refine L_e hS (e_move rfl) rfl ?_; clear hS a; intro a hS
  refine L_e hS (e_move rfl) rfl ?_; clear hS a; intro a hS
  refine L_e hS (e_bin rfl rfl rfl) rfl ?_; clear hS a; intro a hS
  refine L_nil (n_then ?_)
  first | refine c_ifD hS rfl (fun hc16 => ?_) (fun hc16 => ?_) | refine c_if hS rfl (fun hc16 => ?_) (fun hc16 => ?_)
  ·
    refine c_seq (c_region ?_)
    refine L_e hS (e_assign rfl) rfl ?_; clear hS a; intro a hS
    refine L_nil (n_then (wp_ret (r_then ?_)))
    refine c_ret1 hS Tryz.results86 (.tmp rfl) ?_
    exact ⟨by rw [show cmpI u v = -1 from if_pos (by omega)], hS.chg⟩
  refine wp_skip (n_then (c_seq (c_seq (c_region ?_))))
  refine L_e hS (e_move rfl) rfl ?_; clear hS a; intro a hS
  refine L_e hS (e_move rfl) rfl ?_; clear hS a; intro a hS
  refine L_e hS (e_bin rfl rfl rfl) rfl ?_; clear hS a; intro a hS
  refine L_nil (n_then ?_)
  first | refine c_ifD hS rfl (fun hc19 => ?_) (fun hc19 => ?_) | refine c_if hS rfl (fun hc19 => ?_) (fun hc19 => ?_)
  ·
    refine c_seq (c_region ?_)
    refine L_e hS (e_assign rfl) rfl ?_; clear hS a; intro a hS
    refine L_nil (n_then (wp_ret (r_then ?_)))
    refine c_ret1 hS Tryz.results86 (.tmp rfl) ?_
    exact ⟨by rw [show cmpI u v = 1 by unfold cmpI; rw [if_neg (by omega), if_pos (by omega)]], hS.chg⟩
  refine wp_skip (n_then (c_seq (c_region ?_)))
  refine L_e hS (e_assign rfl) rfl ?_; clear hS a; intro a hS
  refine L_nil (n_then (wp_ret ?_))
  refine c_ret1 hS Tryz.results86 (.tmp rfl) ?_
  exact ⟨by rw [show cmpI u v = 0 by unfold cmpI; rw [if_neg (by omega), if_neg (by omega)]], hS.chg⟩
set_option maxRecDepth 100000 in
theorem lE1_P (x y : EA) (w0 : World) : PureC Tryz.prog 85 ([.agg (encE x).toArray, .agg (encE y).toArray] ++ []) w0 (.int .i64 (cmpI x.v.at_ y.v.at_)) := by
  refine c_enter [(0, .agg (encE x).toArray), (1, .agg (encE y).toArray)] [] noB Tryz.func85 rfl Tryz.ntmps85 ⟨rfl, rfl, trivial⟩ rfl (by simp) (by simp) (by simp) ?_
  intro a hS
  refine c_seq (c_region ?_)
  refine L_op (s_boxA hS rfl rfl ?_); clear hS a; (try clear w); intro a w b2 hS
  refine L_op (s_boxA hS rfl rfl ?_); clear hS a; (try clear w); intro a w b3 hS
  refine L_e hS (e_assign rfl) rfl ?_; clear hS a; intro a hS
  refine L_nil (n_then (c_seq (c_region ?_)))
  (first | refine L_e hS (e_fa0 rfl ty_fo102_1) rfl ?_ | refine L_e hS (e_faK rfl ty_fo102_1) rfl ?_); clear hS a; intro a hS
  refine L_e hS (e_load rfl (by repeat constructor) ty_sc3 (by rfl)) rfl ?_; clear hS a; intro a hS
  (first | refine L_e hS (e_fa0 rfl ty_fo102_1) rfl ?_ | refine L_e hS (e_faK rfl ty_fo102_1) rfl ?_); clear hS a; intro a hS
  refine L_e hS (e_load rfl (by repeat constructor) ty_sc3 (by rfl)) rfl ?_; clear hS a; intro a hS
  refine L_op (s_callP hS (.cons rfl (.cons rfl .nil)) cf86 rfl (cmpInt_P x.v.at_ y.v.at_ _) ?_); clear hS a; (try clear w); intro a w hS
  refine L_e hS (e_assign rfl) rfl ?_; clear hS a; intro a hS
  refine L_nil (n_then (wp_ret ?_))
  refine c_ret1 hS Tryz.results85 (.tmp rfl) ?_
  exact ⟨rfl, hS.chg⟩
abbrev cmpV : Value := .func (.func 85) #[] #[]
set_option maxHeartbeats 1000000 in
set_option maxRecDepth 100000 in
theorem swapR_P (g n c p q k : Nat) (A X M Y B zs zs' : List EA) (hz : zs = A ++ (X ++ (M ++ (Y ++ B)))) (hz' : zs' = A ++ (Y ++ (M ++ (X ++ B)))) (hxy : X.length = Y.length) (ha : p = A.length) (hb : q = p + X.length + M.length) (hk : k = X.length) (hn : zs.length = n) (hN : n ≤ 1000000) (w0 : World) (h : (ownA 102 4 (.slice (some ⟨g, 0, none⟩) n c) n ((zs).flatMap encE)).ok w0) :
    MutC Tryz.prog 154 [.slice (some ⟨g, 0, none⟩) n c, .int .i64 (p : Int), .int .i64 (q : Int), .int .i64 (k : Int), cmpV] w0 (ownA 102 4 (.slice (some ⟨g, 0, none⟩) n c) n ((zs).flatMap encE)) (fun _ : Unit => .tuple #[]) (fun _ => (ownA 102 4 (.slice (some ⟨g, 0, none⟩) n c) n ((zs').flatMap encE))) := by
  have hlen : ∀ i, (swapS A X M Y B i).length = n := fun i => by
    rw [← hn, hz]; unfold swapS; simp only [List.length_append, List.length_take, List.length_drop]; omega
  have hnn : p + X.length + M.length + Y.length ≤ n := by rw [← hn, hz]; simp only [List.length_append]; omega
  have hz0 : zs = swapS A X M Y B 0 := by rw [swapS_zero, hz]
  have hze : zs' = swapS A X M Y B X.length := by rw [swapS_end _ _ _ _ _ hxy, hz']
  refine c_enter [(0, .slice (some ⟨g, 0, none⟩) n c), (1, .int .i64 (p : Int)), (2, .int .i64 (q : Int)), (3, .int .i64 (k : Int)), (4, cmpV)] [(ownA 102 4 (.slice (some ⟨g, 0, none⟩) n c) n ((zs).flatMap encE))] (ownA 102 4 (.slice (some ⟨g, 0, none⟩) n c) n ((zs).flatMap encE)).F Tryz.func154 rfl Tryz.ntmps154 ⟨rfl, rfl, rfl, rfl, rfl, trivial⟩ rfl (okC h okN) dis1 (mineO (fun _ hb => hb) mineN) ?_
  intro a hS
  refine c_seq (c_region ?_)
  refine L_e hS (e_assign rfl) rfl ?_; clear hS a; intro a hS
  refine L_nil (n_then (wp_block ?_))
  skip
  refine c_loop (γ := Nat) (fun i a w => St 38 (ownA 102 4 (.slice (some ⟨g, 0, none⟩) n c) n ((zs).flatMap encE)).F w0 a w [(10, .int .i64 (i : Int)), (0, .slice (some ⟨g, 0, none⟩) n c), (1, .int .i64 (p : Int)), (2, .int .i64 (q : Int)), (3, .int .i64 (k : Int))] [(ownA 102 4 (.slice (some ⟨g, 0, none⟩) n c) n ((swapS A X M Y B i).flatMap encE))] ∧ i ≤ k) (fun i => k - i) 0 ⟨by rw [← hz0]; exact (hS.slots (by repeat (first | exact trivial | refine ⟨rfl, ?_⟩))).pick (by repeat (first | exact Pick.nil | (refine Pick.cons (by repeat (first | exact Rem.head | apply Rem.tail)) ?_))), Nat.zero_le _⟩ ?_
  clear hS a; (try clear w); intro i a w hI
  obtain ⟨hS, hi⟩ := hI
  refine c_seq (c_seq (c_region ?_))
  refine L_e hS (e_move rfl) rfl ?_; clear hS a; intro a hS
  refine L_e hS (e_move rfl) rfl ?_; clear hS a; intro a hS
  refine L_e hS (e_bin rfl rfl rfl) rfl ?_; clear hS a; intro a hS
  refine L_nil (n_then ?_)
  first | refine c_ifD hS rfl (fun hc13 => ?_) (fun hc13 => ?_) | refine c_if hS rfl (fun hc13 => ?_) (fun hc13 => ?_)
  ·
    obtain ⟨x, hx⟩ : ∃ x, X[i]? = some x := ⟨X[i]'(by omega), List.getElem?_eq_getElem (by omega)⟩
    obtain ⟨y, hy⟩ : ∃ y, Y[i]? = some y := ⟨Y[i]'(by omega), List.getElem?_eq_getElem (by omega)⟩
    have hs := swapS_step A X M Y B hxy hx hy
    rw [← ha, ← hb] at hs
    obtain ⟨s1, s2, s3⟩ := hs
    have s4 : ((swapS A X M Y B i).set (p + i) y)[q + i]? = some y := by rw [List.getElem?_set_ne (by omega)]; exact s2
    refine wp_skip (n_then (c_seq (wp_block ?_)))
    refine c_drawS [21, 23] (by kernel_rfl) hS (sub_cons (X := (ownA 102 4 (.slice (some ⟨g, 0, none⟩) n c) n ((swapS A X M Y B i).flatMap encE))) (by repeat constructor) sub_nil) ?_; clear hS; (try clear w); intro w hS
    simp only [List.length_cons, List.length_nil, Nat.zero_add, Nat.reduceAdd, List.replicate]
    refine Zt0 0 (tf 1 23) hS rfl want_none (e_move rfl) rfl (by kernel_rfl) rfl ?_; clear hS a; intro a hS
    refine Zt0 1 (tf 2 22) hS rfl want_none (e_move rfl) rfl (by kernel_rfl) rfl ?_; clear hS a; intro a hS
    refine Zt0 2 (tf 3 21) hS rfl want_none (e_move rfl) rfl (by kernel_rfl) rfl ?_; clear hS a; intro a hS
    (first | refine Zt0 3 (tf 4 20) hS rfl want_none (e_binN rfl rfl rfl (by omega)) rfl (by kernel_rfl) rfl ?_ | refine Zt0 3 (tf 4 20) hS rfl want_none (e_bin rfl rfl rfl) rfl (by kernel_rfl) rfl ?_); clear hS a; intro a hS
    rw [show (p : Int) + (i : Int) = ((p + i : Nat) : Int) from by omega] at hS
    refine Zt0 4 (tf 5 19) hS rfl want_none (e_move rfl) rfl (by kernel_rfl) rfl ?_; clear hS a; intro a hS
    refine Zt0 5 (tf 6 18) hS rfl want_none (e_move rfl) rfl (by kernel_rfl) rfl ?_; clear hS a; intro a hS
    refine Zt0 6 (tf 7 17) hS rfl want_none (e_move rfl) rfl (by kernel_rfl) rfl ?_; clear hS a; intro a hS
    (first | refine Zt0 7 (tf 8 16) hS rfl want_none (e_binN rfl rfl rfl (by omega)) rfl (by kernel_rfl) rfl ?_ | refine Zt0 7 (tf 8 16) hS rfl want_none (e_bin rfl rfl rfl) rfl (by kernel_rfl) rfl ?_); clear hS a; intro a hS
    rw [show (q : Int) + (i : Int) = ((q + i : Nat) : Int) from by omega] at hS
    refine Zt0 8 (tf 9 15) hS rfl want_none (e_move rfl) rfl (by kernel_rfl) rfl ?_; clear hS a; intro a hS
    refine Zt0 9 (tf 10 14) hS rfl want_none (e_move rfl) rfl (by kernel_rfl) rfl ?_; clear hS a; intro a hS
    refine Zt0 10 (tf 11 13) hS rfl want_none (e_move rfl) rfl (by kernel_rfl) rfl ?_; clear hS a; intro a hS
    (first | refine Zt0 11 (tf 12 12) hS rfl want_none (e_binN rfl rfl rfl (by omega)) rfl (by kernel_rfl) rfl ?_ | refine Zt0 11 (tf 12 12) hS rfl want_none (e_bin rfl rfl rfl) rfl (by kernel_rfl) rfl ?_); clear hS a; intro a hS
    rw [show (q : Int) + (i : Int) = ((q + i : Nat) : Int) from by omega] at hS
    refine Zt0 12 (tf 13 11) hS rfl want_none (e_ixN rfl rfl ty_sl86 ty_sz102 (by omega)) rfl (by kernel_rfl) rfl ?_; clear hS a; intro a hS
    refine Zt 13 (tf 14 10) hS rfl want_none (e_loadAC (l := encE y) rfl ty_st102 ty_sz102 (own_getL (enc := encE) (s := 4) (fun _ => rfl) (by repeat constructor) s2)) rfl (by kernel_rfl) (sub_cons (by repeat constructor) sub_nil) rfl ?_; clear hS a; intro a hS
    refine Zt0 14 (tf 15 9) hS rfl want_none (e_move rfl) rfl (by kernel_rfl) rfl ?_; clear hS a; intro a hS
    refine Zt0 15 (tf 16 8) hS rfl want_none (e_move rfl) rfl (by kernel_rfl) rfl ?_; clear hS a; intro a hS
    refine Zt0 16 (tf 17 7) hS rfl want_none (e_move rfl) rfl (by kernel_rfl) rfl ?_; clear hS a; intro a hS
    (first | refine Zt0 17 (tf 18 6) hS rfl want_none (e_binN rfl rfl rfl (by omega)) rfl (by kernel_rfl) rfl ?_ | refine Zt0 17 (tf 18 6) hS rfl want_none (e_bin rfl rfl rfl) rfl (by kernel_rfl) rfl ?_); clear hS a; intro a hS
    rw [show (p : Int) + (i : Int) = ((p + i : Nat) : Int) from by omega] at hS
    refine Zt0 18 (tf 19 5) hS rfl want_none (e_ixN rfl rfl ty_sl86 ty_sz102 (by omega)) rfl (by kernel_rfl) rfl ?_; clear hS a; intro a hS
    refine Zt 19 (tf 20 4) hS rfl want_none (e_loadAC (l := encE x) rfl ty_st102 ty_sz102 (own_getL (enc := encE) (s := 4) (fun _ => rfl) (by repeat constructor) s1)) rfl (by kernel_rfl) (sub_cons (by repeat constructor) sub_nil) rfl ?_; clear hS a; intro a hS
    refine Zt0 20 (tf 21 3) hS rfl want_none (e_ixN rfl rfl ty_sl86 ty_sz102 (by omega)) rfl (by kernel_rfl) rfl ?_; clear hS a; intro a hS
    refine Z_one (i := 21) rfl (want_none a hS.sl) (listed' := (tf 22 2)) rfl (by kernel_rfl) (s_storeOA (enc := encE) (s := 4) (m := n) (c := c) (v := y) (u := x) hS rfl rfl (fun _ => rfl) rfl ty_sz102 s1 (hlen i) (by repeat constructor) ?_); clear hS; (try clear w); intro w hS
    refine Z_last (by simp) ?_
    refine Zt0 22 (tf 23 1) hS rfl want_none (e_ixN rfl rfl ty_sl86 ty_sz102 (by omega)) rfl (by kernel_rfl) rfl ?_; clear hS a; intro a hS
    refine Z_one (i := 23) rfl (want_none a hS.sl) (listed' := (tf 24 0)) rfl (by kernel_rfl) (s_storeOA (enc := encE) (s := 4) (m := n) (c := c) (v := x) (u := y) hS rfl rfl (fun _ => rfl) rfl ty_sz102 s4 (by rw [List.length_set]; exact hlen i) (by repeat constructor) ?_); clear hS; (try clear w); intro w hS
    refine Z_last (by simp) ?_
    refine Z_done (by kernel_rfl) ?_
    refine n_block (n_then (c_region ?_))
    refine L_e hS (e_move rfl) rfl ?_; clear hS a; intro a hS
    (first | refine L_e hS (e_binN rfl rfl rfl (by omega)) rfl ?_ | refine L_e hS (e_bin rfl rfl rfl) rfl ?_); clear hS a; intro a hS
    refine L_e hS (e_assign rfl) rfl ?_; clear hS a; intro a hS
    refine L_nil ?_
    rw [s3] at hS
    exact ⟨i + 1, by omega, (hS.slots (by repeat (first | exact trivial | refine ⟨rfl, ?_⟩))).pick (by repeat (first | exact Pick.nil | (refine Pick.cons (by repeat (first | exact Rem.head | apply Rem.tail)) ?_))), by omega⟩
  refine wp_exit ?_
  refine x_then (x_then (x_hit ?_))
  refine r_norm ?_
  refine c_retN hS Tryz.results154 .nil rfl ?_
  obtain rfl : i = k := by omega
  rw [hk, ← hze] at hS
  exact ⟨(), rfl, hS.chg, hS.ok (ownA 102 4 (.slice (some ⟨g, 0, none⟩) n c) n ((zs').flatMap encE)) (by repeat constructor), fun b hb => (hS.mine (ownA 102 4 (.slice (some ⟨g, 0, none⟩) n c) n ((zs').flatMap encE)) (by repeat constructor) rfl b hb).symm⟩
end Go.Proofs.YtheofhegdjjfgaaGreat

namespace Go.Proofs.YtheofhegdjjfgaaGreat
open Go.RowKit
set_option maxHeartbeats 1000000 in
set_option maxRecDepth 100000 in
theorem rotate_P (g n c p m e : Nat) (A X Y B zs zs' : List EA) (hz : zs = A ++ (X ++ (Y ++ B))) (hz' : zs' = A ++ (Y ++ (X ++ B))) (hp : p = A.length) (hm : m = p + X.length) (he : e = m + Y.length) (hX : X.length ≠ 0) (hY : Y.length ≠ 0) (hn : zs.length = n) (hN : n ≤ 1000000) (w0 : World) (h : (ownA 102 4 (.slice (some ⟨g, 0, none⟩) n c) n ((zs).flatMap encE)).ok w0) :
    MutC Tryz.prog 145 [.slice (some ⟨g, 0, none⟩) n c, .int .i64 (p : Int), .int .i64 (m : Int), .int .i64 (e : Int), cmpV] w0 (ownA 102 4 (.slice (some ⟨g, 0, none⟩) n c) n ((zs).flatMap encE)) (fun _ : Unit => .tuple #[]) (fun _ => (ownA 102 4 (.slice (some ⟨g, 0, none⟩) n c) n ((zs').flatMap encE))) := by
  have hnn : p + X.length + Y.length + B.length = n := by rw [← hn, hz]; simp only [List.length_append]; omega
  refine c_enter [(0, .slice (some ⟨g, 0, none⟩) n c), (1, .int .i64 (p : Int)), (2, .int .i64 (m : Int)), (3, .int .i64 (e : Int)), (4, cmpV)] [(ownA 102 4 (.slice (some ⟨g, 0, none⟩) n c) n ((zs).flatMap encE))] (ownA 102 4 (.slice (some ⟨g, 0, none⟩) n c) n ((zs).flatMap encE)).F Tryz.func145 rfl Tryz.ntmps145 ⟨rfl, rfl, rfl, rfl, rfl, trivial⟩ rfl (okC h okN) dis1 (mineO (fun _ hb => hb) mineN) ?_
  intro a hS
  refine c_seq (c_region ?_)
  refine L_e hS (e_move rfl) rfl ?_; clear hS a; intro a hS
  refine L_e hS (e_move rfl) rfl ?_; clear hS a; intro a hS
  (first | refine L_e hS (e_binN rfl rfl rfl (by omega)) rfl ?_ | refine L_e hS (e_bin rfl rfl rfl) rfl ?_); clear hS a; intro a hS
  rw [show (m : Int) - (p : Int) = (X.length : Int) from by omega] at hS
  refine L_e hS (e_assign rfl) rfl ?_; clear hS a; intro a hS
  refine L_nil (n_then (c_seq (c_region ?_)))
  refine L_e hS (e_move rfl) rfl ?_; clear hS a; intro a hS
  refine L_e hS (e_move rfl) rfl ?_; clear hS a; intro a hS
  (first | refine L_e hS (e_binN rfl rfl rfl (by omega)) rfl ?_ | refine L_e hS (e_bin rfl rfl rfl) rfl ?_); clear hS a; intro a hS
  rw [show (e : Int) - (m : Int) = (Y.length : Int) from by omega] at hS
  refine L_e hS (e_assign rfl) rfl ?_; clear hS a; intro a hS
  refine L_nil (n_then (c_seq (wp_block ?_)))
  skip
  refine c_loop (γ := (List EA × List EA) × (List EA × List EA)) (fun G a w => St 58 (ownA 102 4 (.slice (some ⟨g, 0, none⟩) n c) n ((zs).flatMap encE)).F w0 a w [(10, .int .i64 (G.1.2.length : Int)), (11, .int .i64 (G.2.1.length : Int)), (0, .slice (some ⟨g, 0, none⟩) n c), (2, .int .i64 (m : Int)), (4, cmpV)] [(ownA 102 4 (.slice (some ⟨g, 0, none⟩) n c) n ((G.1.1 ++ (G.1.2 ++ (G.2.1 ++ G.2.2))).flatMap encE))] ∧ G.1.1.length + G.1.2.length = m ∧ m + G.2.1.length + G.2.2.length = n ∧ G.1.1 ++ (G.2.1 ++ (G.1.2 ++ G.2.2)) = zs' ∧ G.1.2.length ≠ 0 ∧ G.2.1.length ≠ 0) (fun G => G.1.2.length + G.2.1.length) ((A, X), (Y, B)) ⟨by rw [hz] at hS; exact (hS.slots (by repeat (first | exact trivial | refine ⟨rfl, ?_⟩))).pick (by repeat (first | exact Pick.nil | (refine Pick.cons (by repeat (first | exact Rem.head | apply Rem.tail)) ?_))), by simp only; omega, by simp only; omega, hz'.symm, hX, hY⟩ ?_
  clear hS a; (try clear w); intro G a w hI
  obtain ⟨⟨A1, X1⟩, ⟨Y1, B1⟩⟩ := G
  obtain ⟨hS, h1, h2, h3, h4, h5⟩ := hI
  simp only at hS h1 h2 h3 h4 h5
  have hl1 : (A1 ++ (X1 ++ (Y1 ++ B1))).length = n := by simp only [List.length_append]; omega
  refine c_seq (c_seq (c_region ?_))
  refine L_e hS (e_move rfl) rfl ?_; clear hS a; intro a hS
  refine L_e hS (e_move rfl) rfl ?_; clear hS a; intro a hS
  refine L_e hS (e_bin rfl rfl rfl) rfl ?_; clear hS a; intro a hS
  refine L_nil (n_then ?_)
  first | refine c_ifD hS rfl (fun hc20 => ?_) (fun hc20 => ?_) | refine c_if hS rfl (fun hc20 => ?_) (fun hc20 => ?_)
  ·
    refine wp_skip (n_then (wp_block (c_seq (c_region ?_))))
    refine L_e hS (e_move rfl) rfl ?_; clear hS a; intro a hS
    refine L_e hS (e_move rfl) rfl ?_; clear hS a; intro a hS
    refine L_e hS (e_bin rfl rfl rfl) rfl ?_; clear hS a; intro a hS
    refine L_nil (n_then ?_)
    first | refine c_ifD hS rfl (fun hc23 => ?_) (fun hc23 => ?_) | refine c_if hS rfl (fun hc23 => ?_) (fun hc23 => ?_)
    ·
      refine c_seq (c_region ?_)
      refine L_e hS (e_move rfl) rfl ?_; clear hS a; intro a hS
      refine L_e hS (e_move rfl) rfl ?_; clear hS a; intro a hS
      refine L_e hS (e_move rfl) rfl ?_; clear hS a; intro a hS
      (first | refine L_e hS (e_binN rfl rfl rfl (by omega)) rfl ?_ | refine L_e hS (e_bin rfl rfl rfl) rfl ?_); clear hS a; intro a hS
      rw [show (m : Int) - (X1.length : Int) = ((A1.length : Nat) : Int) from by omega] at hS
      refine L_e hS (e_move rfl) rfl ?_; clear hS a; intro a hS
      refine L_e hS (e_move rfl) rfl ?_; clear hS a; intro a hS
      refine L_e hS (e_move rfl) rfl ?_; clear hS a; intro a hS
      refine L_op (s_callM hS (.cons rfl (.cons rfl (.cons rfl (.cons rfl (.cons rfl .nil))))) cf154 rfl (swapR_P g n c A1.length m Y1.length A1 (X1.take Y1.length) (X1.drop Y1.length) Y1 B1 (A1 ++ (X1 ++ (Y1 ++ B1))) ((A1 ++ Y1) ++ (X1.drop Y1.length ++ (X1.take Y1.length ++ B1))) (by rw [← List.append_assoc (X1.take Y1.length), List.take_append_drop]) (by rw [List.append_assoc]) (by rw [List.length_take]; omega) rfl (by rw [List.length_take, List.length_drop]; omega) (by rw [List.length_take]; omega) hl1 hN _ (hS.ok (ownA 102 4 (.slice (some ⟨g, 0, none⟩) n c) n ((A1 ++ (X1 ++ (Y1 ++ B1))).flatMap encE)) (by repeat constructor))) (fun x => (by repeat constructor)) rfl ?_); clear hS a; (try clear w); intro x31 a w hS
      refine L_nil (n_then (c_region ?_))
      refine L_e hS (e_move rfl) rfl ?_; clear hS a; intro a hS
      refine L_e hS (e_move rfl) rfl ?_; clear hS a; intro a hS
      (first | refine L_e hS (e_binN rfl rfl rfl (by omega)) rfl ?_ | refine L_e hS (e_bin rfl rfl rfl) rfl ?_); clear hS a; intro a hS
      rw [show (X1.length : Int) - (Y1.length : Int) = (((X1.drop Y1.length).length : Nat) : Int) from by rw [List.length_drop]; omega] at hS
      refine L_e hS (e_assign rfl) rfl ?_; clear hS a; intro a hS
      refine L_nil (n_block ?_)
      first
      | (have e1 : (X1.take Y1.length).length = Y1.length := by rw [List.length_take]; omega
         refine ⟨((A1 ++ Y1, X1.drop Y1.length), (X1.take Y1.length, B1)), by simp only [List.length_take, List.length_drop]; omega, ?_, by simp only [List.length_append, List.length_drop]; omega, by simp only; rw [e1]; omega, ?_, by simp only [List.length_drop]; omega, by simp only; rw [e1]; omega⟩
         · simp only; rw [e1]; exact (hS.slots (by repeat (first | exact trivial | refine ⟨rfl, ?_⟩))).pick (by repeat (first | exact Pick.nil | (refine Pick.cons (by repeat (first | exact Rem.head | apply Rem.tail)) ?_)))
         · simp only; rw [← h3, List.append_assoc]; congr 2; rw [← List.append_assoc, List.take_append_drop])
      | (have e1 : (Y1.drop (Y1.length - X1.length)).length = X1.length := by rw [List.length_drop]; omega
         refine ⟨((A1, Y1.drop (Y1.length - X1.length)), (Y1.take (Y1.length - X1.length), X1 ++ B1)), by simp only [List.length_take, List.length_drop]; omega, ?_, by simp only; rw [e1]; omega, by simp only [List.length_append, List.length_take]; omega, ?_, by simp only; rw [e1]; omega, by simp only [List.length_take]; omega⟩
         · simp only; rw [e1]; exact (hS.slots (by repeat (first | exact trivial | refine ⟨rfl, ?_⟩))).pick (by repeat (first | exact Pick.nil | (refine Pick.cons (by repeat (first | exact Rem.head | apply Rem.tail)) ?_)))
         · simp only; rw [← h3]; congr 1; rw [← List.append_assoc, List.take_append_drop])
    refine c_seq (c_region ?_)
    refine L_e hS (e_move rfl) rfl ?_; clear hS a; intro a hS
    refine L_e hS (e_move rfl) rfl ?_; clear hS a; intro a hS
    refine L_e hS (e_move rfl) rfl ?_; clear hS a; intro a hS
    (first | refine L_e hS (e_binN rfl rfl rfl (by omega)) rfl ?_ | refine L_e hS (e_bin rfl rfl rfl) rfl ?_); clear hS a; intro a hS
    rw [show (m : Int) - (X1.length : Int) = ((A1.length : Nat) : Int) from by omega] at hS
    refine L_e hS (e_move rfl) rfl ?_; clear hS a; intro a hS
    refine L_e hS (e_move rfl) rfl ?_; clear hS a; intro a hS
    (first | refine L_e hS (e_binN rfl rfl rfl (by omega)) rfl ?_ | refine L_e hS (e_bin rfl rfl rfl) rfl ?_); clear hS a; intro a hS
    refine L_e hS (e_move rfl) rfl ?_; clear hS a; intro a hS
    (first | refine L_e hS (e_binN rfl rfl rfl (by omega)) rfl ?_ | refine L_e hS (e_bin rfl rfl rfl) rfl ?_); clear hS a; intro a hS
    rw [show (m : Int) + (Y1.length : Int) - (X1.length : Int) = ((m + (Y1.length - X1.length) : Nat) : Int) from by omega] at hS
    refine L_e hS (e_move rfl) rfl ?_; clear hS a; intro a hS
    refine L_e hS (e_move rfl) rfl ?_; clear hS a; intro a hS
    refine L_op (s_callM hS (.cons rfl (.cons rfl (.cons rfl (.cons rfl (.cons rfl .nil))))) cf154 rfl (swapR_P g n c A1.length (m + (Y1.length - X1.length)) X1.length A1 X1 (Y1.take (Y1.length - X1.length)) (Y1.drop (Y1.length - X1.length)) B1 (A1 ++ (X1 ++ (Y1 ++ B1))) (A1 ++ (Y1.drop (Y1.length - X1.length) ++ (Y1.take (Y1.length - X1.length) ++ (X1 ++ B1)))) (by rw [← List.append_assoc (Y1.take (Y1.length - X1.length)), List.take_append_drop]) rfl (by rw [List.length_drop]; omega) rfl (by rw [List.length_take]; omega) rfl hl1 hN _ (hS.ok (ownA 102 4 (.slice (some ⟨g, 0, none⟩) n c) n ((A1 ++ (X1 ++ (Y1 ++ B1))).flatMap encE)) (by repeat constructor))) (fun x => (by repeat constructor)) rfl ?_); clear hS a; (try clear w); intro x46 a w hS
    refine L_nil (n_then (c_region ?_))
    refine L_e hS (e_move rfl) rfl ?_; clear hS a; intro a hS
    refine L_e hS (e_move rfl) rfl ?_; clear hS a; intro a hS
    (first | refine L_e hS (e_binN rfl rfl rfl (by omega)) rfl ?_ | refine L_e hS (e_bin rfl rfl rfl) rfl ?_); clear hS a; intro a hS
    rw [show (Y1.length : Int) - (X1.length : Int) = (((Y1.take (Y1.length - X1.length)).length : Nat) : Int) from by rw [List.length_take]; omega] at hS
    refine L_e hS (e_assign rfl) rfl ?_; clear hS a; intro a hS
    refine L_nil (n_block ?_)
    first
    | (have e1 : (X1.take Y1.length).length = Y1.length := by rw [List.length_take]; omega
       refine ⟨((A1 ++ Y1, X1.drop Y1.length), (X1.take Y1.length, B1)), by simp only [List.length_take, List.length_drop]; omega, ?_, by simp only [List.length_append, List.length_drop]; omega, by simp only; rw [e1]; omega, ?_, by simp only [List.length_drop]; omega, by simp only; rw [e1]; omega⟩
       · simp only; rw [e1]; exact (hS.slots (by repeat (first | exact trivial | refine ⟨rfl, ?_⟩))).pick (by repeat (first | exact Pick.nil | (refine Pick.cons (by repeat (first | exact Rem.head | apply Rem.tail)) ?_)))
       · simp only; rw [← h3, List.append_assoc]; congr 2; rw [← List.append_assoc, List.take_append_drop])
    | (have e1 : (Y1.drop (Y1.length - X1.length)).length = X1.length := by rw [List.length_drop]; omega
       refine ⟨((A1, Y1.drop (Y1.length - X1.length)), (Y1.take (Y1.length - X1.length), X1 ++ B1)), by simp only [List.length_take, List.length_drop]; omega, ?_, by simp only; rw [e1]; omega, by simp only [List.length_append, List.length_take]; omega, ?_, by simp only; rw [e1]; omega, by simp only [List.length_take]; omega⟩
       · simp only; rw [e1]; exact (hS.slots (by repeat (first | exact trivial | refine ⟨rfl, ?_⟩))).pick (by repeat (first | exact Pick.nil | (refine Pick.cons (by repeat (first | exact Rem.head | apply Rem.tail)) ?_)))
       · simp only; rw [← h3]; congr 1; rw [← List.append_assoc, List.take_append_drop])
  have hxy : X1.length = Y1.length := by omega
  refine wp_exit ?_
  refine x_then (x_then (x_hit ?_))
  refine n_then (c_region ?_)
  refine L_e hS (e_move rfl) rfl ?_; clear hS a; intro a hS
  refine L_e hS (e_move rfl) rfl ?_; clear hS a; intro a hS
  refine L_e hS (e_move rfl) rfl ?_; clear hS a; intro a hS
  (first | refine L_e hS (e_binN rfl rfl rfl (by omega)) rfl ?_ | refine L_e hS (e_bin rfl rfl rfl) rfl ?_); clear hS a; intro a hS
  rw [show (m : Int) - (X1.length : Int) = ((A1.length : Nat) : Int) from by omega] at hS
  refine L_e hS (e_move rfl) rfl ?_; clear hS a; intro a hS
  refine L_e hS (e_move rfl) rfl ?_; clear hS a; intro a hS
  refine L_e hS (e_move rfl) rfl ?_; clear hS a; intro a hS
  refine L_op (s_callM hS (.cons rfl (.cons rfl (.cons rfl (.cons rfl (.cons rfl .nil))))) cf154 rfl (swapR_P g n c A1.length m X1.length A1 X1 [] Y1 B1 (A1 ++ (X1 ++ (Y1 ++ B1))) zs' (by simp) (by rw [← h3]; simp) hxy rfl (by simp; omega) rfl hl1 hN _ (hS.ok (ownA 102 4 (.slice (some ⟨g, 0, none⟩) n c) n ((A1 ++ (X1 ++ (Y1 ++ B1))).flatMap encE)) (by repeat constructor))) (fun x => (by repeat constructor)) rfl ?_); clear hS a; (try clear w); intro x57 a w hS
  refine L_nil (r_norm ?_)
  refine c_retN hS Tryz.results145 .nil rfl ?_
  exact ⟨(), rfl, hS.chg, hS.ok (ownA 102 4 (.slice (some ⟨g, 0, none⟩) n c) n ((zs').flatMap encE)) (by repeat constructor), fun b hb => (hS.mine (ownA 102 4 (.slice (some ⟨g, 0, none⟩) n c) n ((zs').flatMap encE)) (by repeat constructor) rfl b hb).symm⟩
def lastLt (P1 : List EA) (y : EA) : Prop := match P1.getLast? with | some z => y.v.at_ < z.v.at_ | none => False
instance (P1 : List EA) (y : EA) : Decidable (lastLt P1 y) := by unfold lastLt; split <;> infer_instance
theorem lastLt_snoc (Q : List EA) (z y : EA) : lastLt (Q ++ [z]) y ↔ y.v.at_ < z.v.at_ := by unfold lastLt; simp
theorem snoc_of {P1 : List EA} (h : P1.length ≠ 0) : ∃ Q z, P1 = Q ++ [z] := by
  rcases List.eq_nil_or_concat P1 with e | ⟨Q, z, e⟩
  · rw [e] at h; exact absurd rfl h
  · exact ⟨Q, z, by rw [e]; simp⟩
theorem at_mid {α : Type} (P S : List α) (x : α) : (P ++ x :: S)[P.length]? = some x := by simp
set_option maxHeartbeats 1000000 in
set_option maxRecDepth 100000 in
theorem insort_P (g n c p e : Nat) (A seg B zs : List EA) (hz : zs = A ++ (seg ++ B)) (hids : Ids seg) (hp : p = A.length) (he : e = p + seg.length) (hn : zs.length = n) (hN : n ≤ 1000000) (w0 : World) (h : (ownA 102 4 (.slice (some ⟨g, 0, none⟩) n c) n ((zs).flatMap encE)).ok w0) :
    MutC Tryz.prog 127 [.slice (some ⟨g, 0, none⟩) n c, .int .i64 (p : Int), .int .i64 (e : Int), cmpV] w0 (ownA 102 4 (.slice (some ⟨g, 0, none⟩) n c) n ((zs).flatMap encE)) (fun _ : { S // IsS seg S } => .tuple #[]) (fun S => (ownA 102 4 (.slice (some ⟨g, 0, none⟩) n c) n ((A ++ (S.1 ++ B)).flatMap encE))) := by
  have hnn : p + seg.length + B.length = n := by rw [← hn, hz]; simp only [List.length_append]; omega
  refine c_enter [(0, .slice (some ⟨g, 0, none⟩) n c), (1, .int .i64 (p : Int)), (2, .int .i64 (e : Int)), (3, cmpV)] [(ownA 102 4 (.slice (some ⟨g, 0, none⟩) n c) n ((zs).flatMap encE))] (ownA 102 4 (.slice (some ⟨g, 0, none⟩) n c) n ((zs).flatMap encE)).F Tryz.func127 rfl Tryz.ntmps127 ⟨rfl, rfl, rfl, rfl, trivial⟩ rfl (okC h okN) dis1 (mineO (fun _ hb => hb) mineN) ?_
  intro a hS
  refine c_seq (c_region ?_)
  refine L_e hS (e_move rfl) rfl ?_; clear hS a; intro a hS
  (first | refine L_e hS (e_binN rfl rfl rfl (by omega)) rfl ?_ | refine L_e hS (e_bin rfl rfl rfl) rfl ?_); clear hS a; intro a hS
  rw [show (p : Int) + 1 = ((p + 1 : Nat) : Int) from by omega] at hS
  refine L_e hS (e_assign rfl) rfl ?_; clear hS a; intro a hS
  refine L_nil (n_then (wp_block ?_))
  skip
  refine c_loop (γ := Nat × List EA) (fun G a w => St 53 (ownA 102 4 (.slice (some ⟨g, 0, none⟩) n c) n ((zs).flatMap encE)).F w0 a w [(8, .int .i64 ((p + G.1 : Nat) : Int)), (0, .slice (some ⟨g, 0, none⟩) n c), (1, .int .i64 (p : Int)), (2, .int .i64 (e : Int)), (3, cmpV)] [(ownA 102 4 (.slice (some ⟨g, 0, none⟩) n c) n ((A ++ (G.2 ++ (seg.drop G.1 ++ B))).flatMap encE))] ∧ IsS (seg.take G.1) G.2 ∧ (G.1 ≤ seg.length ∨ G.1 = 1)) (fun G => seg.length - G.1) (1, seg.take 1) ⟨by simp only; rw [← List.append_assoc (seg.take 1), List.take_append_drop, ← hz]; exact (hS.slots (by repeat (first | exact trivial | refine ⟨rfl, ?_⟩))).pick (by repeat (first | exact Pick.nil | (refine Pick.cons (by repeat (first | exact Rem.head | apply Rem.tail)) ?_))), ⟨.refl _, by cases seg <;> simp⟩, .inr rfl⟩ ?_
  clear hS a; (try clear w); intro G a w hI
  obtain ⟨u, P0⟩ := G
  obtain ⟨hS, his, hu⟩ := hI
  simp only at hS his hu
  refine c_seq (c_seq (c_region ?_))
  refine L_e hS (e_move rfl) rfl ?_; clear hS a; intro a hS
  refine L_e hS (e_move rfl) rfl ?_; clear hS a; intro a hS
  refine L_e hS (e_bin rfl rfl rfl) rfl ?_; clear hS a; intro a hS
  refine L_nil (n_then ?_)
  first | refine c_ifD hS rfl (fun hc14 => ?_) (fun hc14 => ?_) | refine c_if hS rfl (fun hc14 => ?_) (fun hc14 => ?_)
  ·
    have hul : u < seg.length := by omega
    obtain ⟨y, hy⟩ : ∃ y, seg[u]? = some y := ⟨seg[u], List.getElem?_eq_getElem hul⟩
    have hdu : seg.drop u = y :: seg.drop (u + 1) := by
      obtain ⟨_, h2⟩ := List.getElem?_eq_some_iff.1 hy
      rw [← h2, List.getElem_cons_drop]
    have hpl := his.len
    rw [List.length_take] at hpl
    rw [hdu] at hS
    refine wp_skip (n_then (c_seq (wp_block (c_seq (c_region ?_)))))
    refine L_e hS (e_move rfl) rfl ?_; clear hS a; intro a hS
    refine L_e hS (e_assign rfl) rfl ?_; clear hS a; intro a hS
    refine L_nil (n_then (wp_block ?_))
    skip
    refine c_loop (γ := List EA × List EA) (fun H a w => St 53 (ownA 102 4 (.slice (some ⟨g, 0, none⟩) n c) n ((zs).flatMap encE)).F w0 a w [(9, .int .i64 ((p + H.1.length : Nat) : Int)), (8, .int .i64 ((p + u : Nat) : Int)), (0, .slice (some ⟨g, 0, none⟩) n c), (1, .int .i64 (p : Int)), (2, .int .i64 (e : Int)), (3, cmpV)] [(ownA 102 4 (.slice (some ⟨g, 0, none⟩) n c) n (((A ++ H.1) ++ y :: (H.2 ++ (seg.drop (u + 1) ++ B))).flatMap encE))] ∧ InsOk seg u H.1 H.2 y) (fun H => H.1.length) (P0, []) ⟨by simp only; rw [show P0.length = u from by omega, List.append_assoc]; exact (hS.slots (by repeat (first | exact trivial | refine ⟨rfl, ?_⟩))).pick (by repeat (first | exact Pick.nil | (refine Pick.cons (by repeat (first | exact Rem.head | apply Rem.tail)) ?_))), ⟨by simpa using his, hy, fun x hx => (by cases hx)⟩⟩ ?_
    clear hS a; (try clear w); intro H a w hI
    obtain ⟨P1, P2⟩ := H
    obtain ⟨hS, hio⟩ := hI
    simp only at hS hio
    have hil := hio.is.len
    rw [List.length_append, List.length_take] at hil
    have hll : ((A ++ P1) ++ y :: (P2 ++ (seg.drop (u + 1) ++ B))).length = n := by simp only [List.length_append, List.length_cons, List.length_drop]; omega
    have hat : ((A ++ P1) ++ y :: (P2 ++ (seg.drop (u + 1) ++ B)))[p + P1.length]? = some y := by rw [show p + P1.length = (A ++ P1).length from by rw [List.length_append]; omega]; exact at_mid _ _ _
    refine c_seq (c_seq ?_)
    refine c_drawS [] (by kernel_rfl) hS (sub_cons (X := (ownA 102 4 (.slice (some ⟨g, 0, none⟩) n c) n (((A ++ P1) ++ y :: (P2 ++ (seg.drop (u + 1) ++ B))).flatMap encE))) (by repeat constructor) sub_nil) ?_; clear hS; (try clear w); intro w hS
    simp only [List.length_cons, List.length_nil, Nat.zero_add, Nat.reduceAdd, List.replicate]
    refine Zt0 0 (tf 1 16) hS rfl want_none (e_move rfl) rfl (by kernel_rfl) rfl ?_; clear hS a; intro a hS
    refine Zt0 1 (tf 2 15) hS rfl want_none (e_move rfl) rfl (by kernel_rfl) rfl ?_; clear hS a; intro a hS
    refine Zt0 2 (tf 3 14) hS rfl want_none (e_bin rfl rfl rfl) rfl (by kernel_rfl) rfl ?_; clear hS a; intro a hS
    refine Zt0 3 (tf 4 13) hS rfl want_none (e_move rfl) rfl (by kernel_rfl) rfl ?_; clear hS a; intro a hS
    refine Z_merge 0 (tf 17 0) 34 (.bool (decide (lastLt P1 y))) hS ?_ ?_
    · intro hcM34
      (first | refine g_splitD (t := 21) hS rfl ?_ ?_ | refine g_split (t := 21) hS rfl ?_ ?_) <;> (clear hS; intro hg21 hS)
      ·
        obtain ⟨Q, z, hQ⟩ := snoc_of (P1 := P1) (by omega)
        have hQl : P1.length = Q.length + 1 := by rw [hQ]; simp
        have hzt : ((A ++ P1) ++ y :: (P2 ++ (seg.drop (u + 1) ++ B)))[p + P1.length - 1]? = some z := by
          rw [show p + P1.length - 1 = (A ++ Q).length from by rw [List.length_append]; omega, hQ, ← List.append_assoc, List.append_assoc (A ++ Q)]
          exact at_mid _ _ _
        refine Zt0 4 (tf 5 12) hS rfl (want_go rfl rfl) (e_move rfl) rfl (by kernel_rfl) rfl ?_; clear hS a; intro a hS
        refine Zt0 5 (tf 6 11) hS rfl (want_go rfl rfl) (e_move rfl) rfl (by kernel_rfl) rfl ?_; clear hS a; intro a hS
        refine Zt0 6 (tf 7 10) hS rfl (want_go rfl rfl) (e_move rfl) rfl (by kernel_rfl) rfl ?_; clear hS a; intro a hS
        refine Zt0 7 (tf 8 9) hS rfl (want_go rfl rfl) (e_ixN rfl rfl ty_sl86 ty_sz102 (by omega)) rfl (by kernel_rfl) rfl ?_; clear hS a; intro a hS
        refine Zt 8 (tf 9 8) hS rfl (want_go rfl rfl) (e_loadAC (l := encE y) rfl ty_st102 ty_sz102 (own_getL (enc := encE) (s := 4) (fun _ => rfl) (by repeat constructor) hat)) rfl (by kernel_rfl) (sub_cons (by repeat constructor) sub_nil) rfl ?_; clear hS a; intro a hS
        refine Zt0 9 (tf 10 7) hS rfl (want_go rfl rfl) (e_move rfl) rfl (by kernel_rfl) rfl ?_; clear hS a; intro a hS
        refine Zt0 10 (tf 11 6) hS rfl (want_go rfl rfl) (e_move rfl) rfl (by kernel_rfl) rfl ?_; clear hS a; intro a hS
        (first | refine Zt0 11 (tf 12 5) hS rfl (want_go rfl rfl) (e_binN rfl rfl rfl (by omega)) rfl (by kernel_rfl) rfl ?_ | refine Zt0 11 (tf 12 5) hS rfl (want_go rfl rfl) (e_bin rfl rfl rfl) rfl (by kernel_rfl) rfl ?_); clear hS a; intro a hS
        rw [show ((p + P1.length : Nat) : Int) - 1 = ((p + P1.length - 1 : Nat) : Int) from by omega] at hS
        refine Zt0 12 (tf 13 4) hS rfl (want_go rfl rfl) (e_ixN rfl rfl ty_sl86 ty_sz102 (by omega)) rfl (by kernel_rfl) rfl ?_; clear hS a; intro a hS
        refine Zt 13 (tf 14 3) hS rfl (want_go rfl rfl) (e_loadAC (l := encE z) rfl ty_st102 ty_sz102 (own_getL (enc := encE) (s := 4) (fun _ => rfl) (by repeat constructor) hzt)) rfl (by kernel_rfl) (sub_cons (by repeat constructor) sub_nil) rfl ?_; clear hS a; intro a hS
        refine Z_one (i := 14) rfl (want_go rfl rfl a hS.sl) (listed' := (tf 15 2)) rfl (by kernel_rfl) (s_callvP (cs := []) hS rfl (.cons rfl (.cons rfl .nil)) cf85 rfl (lE1_P y z _) ?_); clear hS a; (try clear w); intro a w hS
        refine Z_and hS (sub_cons (by repeat constructor) sub_nil) ?_
        refine Zt0 15 (tf 16 1) hS rfl (want_go rfl rfl) (e_bin rfl rfl rfl) rfl (by kernel_rfl) rfl ?_; clear hS a; intro a hS
        refine Zt0 16 (tf 17 0) hS rfl want_none (e_pk rfl rfl) rfl (by kernel_rfl) rfl ?_; clear hS a; intro a hS
        exact hcM34 _ _ (hS.ends 14 34 21 rfl (congrArg Value.bool (by rw [decide_eq_decide, cmpI_neg, hQ, lastLt_snoc])) rfl rfl (by first | exact congrArg Value.bool (decide_eq_true hg21).symm | exact congrArg Value.bool hg21.symm | simp [hg21]) rfl)
      refine Zn_t 4 (tf 5 12) hS rfl rfl rfl rfl (by kernel_rfl) rfl ?_; clear hS a; intro a hS
      refine Zn_t 5 (tf 6 11) hS rfl rfl rfl rfl (by kernel_rfl) rfl ?_; clear hS a; intro a hS
      refine Zn_t 6 (tf 7 10) hS rfl rfl rfl rfl (by kernel_rfl) rfl ?_; clear hS a; intro a hS
      refine Zn_t 7 (tf 8 9) hS rfl rfl rfl rfl (by kernel_rfl) rfl ?_; clear hS a; intro a hS
      refine Zn_t 8 (tf 9 8) hS rfl rfl rfl rfl (by kernel_rfl) rfl ?_; clear hS a; intro a hS
      refine Zn_t 9 (tf 10 7) hS rfl rfl rfl rfl (by kernel_rfl) rfl ?_; clear hS a; intro a hS
      refine Zn_t 10 (tf 11 6) hS rfl rfl rfl rfl (by kernel_rfl) rfl ?_; clear hS a; intro a hS
      refine Zn_t 11 (tf 12 5) hS rfl rfl rfl rfl (by kernel_rfl) rfl ?_; clear hS a; intro a hS
      refine Zn_t 12 (tf 13 4) hS rfl rfl rfl rfl (by kernel_rfl) rfl ?_; clear hS a; intro a hS
      refine Zn_t 13 (tf 14 3) hS rfl rfl rfl rfl (by kernel_rfl) rfl ?_; clear hS a; intro a hS
      refine Zn_t 14 (tf 15 2) hS rfl rfl rfl rfl (by kernel_rfl) rfl ?_; clear hS a; intro a hS
      refine Zn_t 15 (tf 16 1) hS rfl rfl rfl rfl (by kernel_rfl) rfl ?_; clear hS a; intro a hS
      refine Zt0 16 (tf 17 0) hS rfl want_none (e_pk rfl rfl) rfl (by kernel_rfl) rfl ?_; clear hS a; intro a hS
      exact hcM34 _ _ (hS.ends 14 34 21 rfl (congrArg Value.bool (by symm; rw [decide_eq_false_iff_not, List.eq_nil_of_length_eq_zero (show P1.length = 0 from by omega)]; exact fun e => e)) rfl rfl (by first | exact congrArg Value.bool (decide_eq_false hg21).symm | exact congrArg Value.bool hg21.symm | simp [hg21]) rfl)
    · clear hS a; (try clear w); intro a w hS
      refine Z_done (by kernel_rfl) ?_
      refine n_then ?_
      first | refine c_ifD hS rfl (fun hc34 => ?_) (fun hc34 => ?_) | refine c_if hS rfl (fun hc34 => ?_) (fun hc34 => ?_)
      ·
        obtain ⟨Q, z, hQ⟩ := snoc_of (P1 := P1) (fun e => by rw [List.eq_nil_of_length_eq_zero e] at hc34; exact hc34)
        subst hQ
        have hlt : y.v.at_ < z.v.at_ := (lastLt_snoc Q z y).1 hc34
        have hQl : (Q ++ [z]).length = Q.length + 1 := by simp
        have hAQ : (A ++ Q).length = p + Q.length := by rw [List.length_append]; omega
        have hlist : (A ++ (Q ++ [z])) ++ y :: (P2 ++ (seg.drop (u + 1) ++ B)) = (A ++ Q) ++ z :: ([] ++ y :: (P2 ++ (seg.drop (u + 1) ++ B))) := by simp
        have hsw := swap_mid2 (A ++ Q) [] (P2 ++ (seg.drop (u + 1) ++ B)) z y _ hlist
        have hg := swap_mid (A ++ Q) [] (P2 ++ (seg.drop (u + 1) ++ B)) z y _ hlist
        rw [hAQ] at hsw hg
        simp only [List.length_nil, Nat.add_zero] at hsw hg
        obtain ⟨hg1, hg2, _⟩ := hg
        rw [hQl] at hS hil
        generalize hL : (A ++ (Q ++ [z])) ++ y :: (P2 ++ (seg.drop (u + 1) ++ B)) = L at hS hsw hg1 hg2 hll
        rw [show ((p + (Q.length + 1) : Nat) : Int) = ((p + Q.length + 1 : Nat) : Int) from by omega] at hS
        have hg3 : (L.set (p + Q.length + 1) z)[p + Q.length]? = some z := by rw [List.getElem?_set_ne (by omega)]; exact hg1
        refine wp_skip (n_then (c_seq (wp_block ?_)))
        refine c_drawS [15, 17] (by kernel_rfl) hS (sub_cons (X := (ownA 102 4 (.slice (some ⟨g, 0, none⟩) n c) n ((L).flatMap encE))) (by repeat constructor) sub_nil) ?_; clear hS; (try clear w); intro w hS
        simp only [List.length_cons, List.length_nil, Nat.zero_add, Nat.reduceAdd, List.replicate]
        refine Zt0 0 (tf 1 17) hS rfl want_none (e_move rfl) rfl (by kernel_rfl) rfl ?_; clear hS a; intro a hS
        refine Zt0 1 (tf 2 16) hS rfl want_none (e_move rfl) rfl (by kernel_rfl) rfl ?_; clear hS a; intro a hS
        refine Zt0 2 (tf 3 15) hS rfl want_none (e_move rfl) rfl (by kernel_rfl) rfl ?_; clear hS a; intro a hS
        refine Zt0 3 (tf 4 14) hS rfl want_none (e_move rfl) rfl (by kernel_rfl) rfl ?_; clear hS a; intro a hS
        (first | refine Zt0 4 (tf 5 13) hS rfl want_none (e_binN rfl rfl rfl (by omega)) rfl (by kernel_rfl) rfl ?_ | refine Zt0 4 (tf 5 13) hS rfl want_none (e_bin rfl rfl rfl) rfl (by kernel_rfl) rfl ?_); clear hS a; intro a hS
        rw [show ((p + Q.length + 1 : Nat) : Int) - 1 = ((p + Q.length : Nat) : Int) from by omega] at hS
        refine Zt0 5 (tf 6 12) hS rfl want_none (e_move rfl) rfl (by kernel_rfl) rfl ?_; clear hS a; intro a hS
        refine Zt0 6 (tf 7 11) hS rfl want_none (e_move rfl) rfl (by kernel_rfl) rfl ?_; clear hS a; intro a hS
        (first | refine Zt0 7 (tf 8 10) hS rfl want_none (e_binN rfl rfl rfl (by omega)) rfl (by kernel_rfl) rfl ?_ | refine Zt0 7 (tf 8 10) hS rfl want_none (e_bin rfl rfl rfl) rfl (by kernel_rfl) rfl ?_); clear hS a; intro a hS
        rw [show ((p + Q.length + 1 : Nat) : Int) - 1 = ((p + Q.length : Nat) : Int) from by omega] at hS
        refine Zt0 8 (tf 9 9) hS rfl want_none (e_ixN rfl rfl ty_sl86 ty_sz102 (by omega)) rfl (by kernel_rfl) rfl ?_; clear hS a; intro a hS
        refine Zt 9 (tf 10 8) hS rfl want_none (e_loadAC (l := encE z) rfl ty_st102 ty_sz102 (own_getL (enc := encE) (s := 4) (fun _ => rfl) (by repeat constructor) hg1)) rfl (by kernel_rfl) (sub_cons (by repeat constructor) sub_nil) rfl ?_; clear hS a; intro a hS
        refine Zt0 10 (tf 11 7) hS rfl want_none (e_move rfl) rfl (by kernel_rfl) rfl ?_; clear hS a; intro a hS
        refine Zt0 11 (tf 12 6) hS rfl want_none (e_move rfl) rfl (by kernel_rfl) rfl ?_; clear hS a; intro a hS
        refine Zt0 12 (tf 13 5) hS rfl want_none (e_ixN rfl rfl ty_sl86 ty_sz102 (by omega)) rfl (by kernel_rfl) rfl ?_; clear hS a; intro a hS
        refine Zt 13 (tf 14 4) hS rfl want_none (e_loadAC (l := encE y) rfl ty_st102 ty_sz102 (own_getL (enc := encE) (s := 4) (fun _ => rfl) (by repeat constructor) hg2)) rfl (by kernel_rfl) (sub_cons (by repeat constructor) sub_nil) rfl ?_; clear hS a; intro a hS
        refine Zt0 14 (tf 15 3) hS rfl want_none (e_ixN rfl rfl ty_sl86 ty_sz102 (by omega)) rfl (by kernel_rfl) rfl ?_; clear hS a; intro a hS
        refine Z_one (i := 15) rfl (want_none a hS.sl) (listed' := (tf 16 2)) rfl (by kernel_rfl) (s_storeOA (enc := encE) (s := 4) (m := n) (c := c) (v := z) (u := y) hS rfl rfl (fun _ => rfl) rfl ty_sz102 hg2 hll (by repeat constructor) ?_); clear hS; (try clear w); intro w hS
        refine Z_last (by simp) ?_
        refine Zt0 16 (tf 17 1) hS rfl want_none (e_ixN rfl rfl ty_sl86 ty_sz102 (by omega)) rfl (by kernel_rfl) rfl ?_; clear hS a; intro a hS
        refine Z_one (i := 17) rfl (want_none a hS.sl) (listed' := (tf 18 0)) rfl (by kernel_rfl) (s_storeOA (enc := encE) (s := 4) (m := n) (c := c) (v := y) (u := z) hS rfl rfl (fun _ => rfl) rfl ty_sz102 hg3 (by rw [List.length_set]; exact hll) (by repeat constructor) ?_); clear hS; (try clear w); intro w hS
        refine Z_last (by simp) ?_
        refine Z_done (by kernel_rfl) ?_
        refine n_block (n_then (c_region ?_))
        refine L_e hS (e_move rfl) rfl ?_; clear hS a; intro a hS
        (first | refine L_e hS (e_binN rfl rfl rfl (by omega)) rfl ?_ | refine L_e hS (e_bin rfl rfl rfl) rfl ?_); clear hS a; intro a hS
        rw [show ((p + Q.length + 1 : Nat) : Int) - 1 = ((p + Q.length : Nat) : Int) from by omega] at hS
        refine L_e hS (e_assign rfl) rfl ?_; clear hS a; intro a hS
        refine L_nil ?_
        rw [hsw] at hS
        refine ⟨(Q, z :: P2), by simp only; omega, ?_, ins_back hio hlt⟩
        exact (hS.slots (by repeat (first | exact trivial | refine ⟨rfl, ?_⟩))).pick (by repeat (first | exact Pick.nil | (refine Pick.cons (by repeat (first | exact Rem.head | apply Rem.tail)) ?_)))
      refine wp_exit ?_
      refine x_then (x_then (x_hit ?_))
      refine n_block (n_then (c_region ?_))
      refine L_e hS (e_move rfl) rfl ?_; clear hS a; intro a hS
      (first | refine L_e hS (e_binN rfl rfl rfl (by omega)) rfl ?_ | refine L_e hS (e_bin rfl rfl rfl) rfl ?_); clear hS a; intro a hS
      refine L_e hS (e_assign rfl) rfl ?_; clear hS a; intro a hS
      refine L_nil ?_
      have hd := ins_done hids hio (by
        rcases List.eq_nil_or_concat P1 with e | ⟨Q, z, e⟩
        · exact .inl e
        · refine .inr ⟨z, by rw [e]; simp, fun hlt => hc34 ?_⟩
          rw [e, List.concat_eq_append]; exact (lastLt_snoc Q z y).2 hlt)
      refine ⟨(u + 1, P1 ++ y :: P2), by simp only; omega, ?_, hd, by simp only; omega⟩
      simp only
      rw [show A ++ ((P1 ++ y :: P2) ++ (seg.drop (u + 1) ++ B)) = (A ++ P1) ++ y :: (P2 ++ (seg.drop (u + 1) ++ B)) from by simp, show ((p + (u + 1) : Nat) : Int) = ((p + u : Nat) : Int) + 1 from by omega]
      exact (hS.slots (by repeat (first | exact trivial | refine ⟨rfl, ?_⟩))).pick (by repeat (first | exact Pick.nil | (refine Pick.cons (by repeat (first | exact Rem.head | apply Rem.tail)) ?_)))
  refine wp_exit ?_
  refine x_then (x_then (x_hit ?_))
  refine r_norm ?_
  refine c_retN hS Tryz.results127 .nil rfl ?_
  have hge : seg.length ≤ u := by omega
  rw [List.drop_of_length_le hge, List.nil_append] at hS
  rw [List.take_of_length_le hge] at his
  exact ⟨⟨P0, his⟩, rfl, hS.chg, hS.ok (ownA 102 4 (.slice (some ⟨g, 0, none⟩) n c) n ((A ++ (P0 ++ B)).flatMap encE)) (by repeat constructor), fun b hb => (hS.mine (ownA 102 4 (.slice (some ⟨g, 0, none⟩) n c) n ((A ++ (P0 ++ B)).flatMap encE)) (by repeat constructor) rfl b hb).symm⟩
end Go.Proofs.YtheofhegdjjfgaaGreat

namespace Go.Proofs.YtheofhegdjjfgaaGreat
open Go.RowKit
theorem get_at {α : Type} {A X R zs : List α} {p t : Nat} {x : α} (hz : zs = A ++ (X ++ R)) (hp : p = A.length) (hx : X[t]? = some x) : zs[p + t]? = some x := by
  have ht := (List.getElem?_eq_some_iff.1 hx).1
  rw [hz, hp, List.getElem?_append_right (by omega), Nat.add_sub_cancel_left, List.getElem?_append_left ht]; exact hx
def cutR (P Q md lo hi : Nat) : Prop := (md < P ∧ lo = md - Q ∧ hi = md) ∨ (P ≤ md ∧ lo = 0 ∧ hi = P)
theorem cut_ok {X Y : List EA} (hX : X.Pairwise ltE) (hY : Y.Pairwise ltE) {md lo hi u : Nat} (hmd : md = (X.length + Y.length) / 2) (hlh : cutR X.length Y.length md lo hi) (h1 : lo ≤ u) (h2 : u ≤ hi)
    (hL : ∀ t x y, lo ≤ t → t < u → X[t]? = some x → Y[md - 1 - t]? = some y → ¬ y.v.at_ < x.v.at_) (hH : ∀ t x y, u ≤ t → t < hi → X[t]? = some x → Y[md - 1 - t]? = some y → y.v.at_ < x.v.at_) : CutOk X Y u (md - u) := by
  unfold cutR at hlh
  refine ⟨by omega, by omega, fun x hx y hy => ?_, fun x hx y hy => ?_⟩
  · obtain ⟨i, hi1, hgx⟩ := mem_take_get hx
    obtain ⟨j, hj1, hgy⟩ := mem_drop_get hy
    have hjl := (List.getElem?_eq_some_iff.1 hgy).1
    have hx' : X[u - 1]? = some (X[u - 1]'(by omega)) := List.getElem?_eq_getElem (by omega)
    have hy' : Y[md - 1 - (u - 1)]? = some (Y[md - 1 - (u - 1)]'(by omega)) := List.getElem?_eq_getElem (by omega)
    have q1 := hL (u - 1) _ _ (by omega) (by omega) hx' hy'
    have q2 := srt_le hX hgx hx' (by omega)
    have q3 := srt_le hY hy' hgy (by omega)
    omega
  · obtain ⟨i, hi1, hgx⟩ := mem_drop_get hx
    obtain ⟨j, hj1, hgy⟩ := mem_take_get hy
    have hil := (List.getElem?_eq_some_iff.1 hgx).1
    have hx' : X[u]? = some (X[u]'(by omega)) := List.getElem?_eq_getElem (by omega)
    have hy' : Y[md - 1 - u]? = some (Y[md - 1 - u]'(by omega)) := List.getElem?_eq_getElem (by omega)
    have q1 := hH u _ _ (by omega) (by omega) hx' hy'
    have q2 := srt_le hX hx' hgx (by omega)
    have q3 := srt_le hY hgy hy' (by omega)
    omega
def SymmAt (g n c N : Nat) : Prop := ∀ (p m e : Nat) (A X Y B zs : List EA), zs = A ++ (X ++ (Y ++ B)) → X.length ≠ 0 → Y.length ≠ 0 → X.Pairwise ltE → Y.Pairwise ltE → Cross X Y → p = A.length → m = p + X.length → e = m + Y.length → X.length + Y.length ≤ N → zs.length = n → ∀ w0, (ownA 102 4 (.slice (some ⟨g, 0, none⟩) n c) n ((zs).flatMap encE)).ok w0 →
    MutC Tryz.prog 128 [.slice (some ⟨g, 0, none⟩) n c, .int .i64 (p : Int), .int .i64 (m : Int), .int .i64 (e : Int), cmpV] w0 (ownA 102 4 (.slice (some ⟨g, 0, none⟩) n c) n ((zs).flatMap encE)) (fun _ : { S // IsS (X ++ Y) S } => .tuple #[]) (fun S => (ownA 102 4 (.slice (some ⟨g, 0, none⟩) n c) n ((A ++ (S.1 ++ B)).flatMap encE)))
set_option maxHeartbeats 4000000 in
set_option maxRecDepth 100000 in
theorem symm_step (g n c N : Nat) (hN : n ≤ 1000000) (ih : SymmAt g n c N) : SymmAt g n c (N + 1) := by
  intro p m e A X Y B zs hz hX0 hY0 hX hY hc hp hm he hNl hn w0 h
  have hnn : p + X.length + Y.length + B.length = n := by rw [← hn, hz]; simp only [List.length_append]; omega
  have hzY : zs = (A ++ X) ++ (Y ++ B) := by rw [hz, List.append_assoc]
  have hAX : m = (A ++ X).length := by rw [List.length_append]; omega
  obtain ⟨md, hmd⟩ : ∃ md, md = (X.length + Y.length) / 2 := ⟨_, rfl⟩
  refine c_enter [(0, .slice (some ⟨g, 0, none⟩) n c), (1, .int .i64 (p : Int)), (2, .int .i64 (m : Int)), (3, .int .i64 (e : Int)), (4, cmpV)] [(ownA 102 4 (.slice (some ⟨g, 0, none⟩) n c) n ((zs).flatMap encE))] (ownA 102 4 (.slice (some ⟨g, 0, none⟩) n c) n ((zs).flatMap encE)).F Tryz.func128 rfl Tryz.ntmps128 ⟨rfl, rfl, rfl, rfl, rfl, trivial⟩ rfl (okC h okN) dis1 (mineO (fun _ hb => hb) mineN) ?_
  intro a hS
  refine c_seq (c_seq (c_region ?_))
  refine L_e hS (e_move rfl) rfl ?_; clear hS a; intro a hS
  refine L_e hS (e_move rfl) rfl ?_; clear hS a; intro a hS
  (first | refine L_e hS (e_binN rfl rfl rfl (by omega)) rfl ?_ | refine L_e hS (e_bin rfl rfl rfl) rfl ?_); clear hS a; intro a hS
  rw [show (m : Int) - (p : Int) = (X.length : Int) from by omega] at hS
  refine L_e hS (e_bin rfl rfl rfl) rfl ?_; clear hS a; intro a hS
  refine L_nil (n_then ?_)
  first | refine c_ifD hS rfl (fun hc28 => ?_) (fun hc28 => ?_) | refine c_if hS rfl (fun hc28 => ?_) (fun hc28 => ?_)
  ·
    have hX1 : X.length = 1 := by omega
    obtain ⟨x, rfl⟩ : ∃ x, X = [x] := by
      match X, hX1 with
      | [x], _ => exact ⟨x, rfl⟩
    have hm1 : m = p + 1 := hm
    refine c_seq (c_region ?_)
    refine L_e hS (e_move rfl) rfl ?_; clear hS a; intro a hS
    refine L_e hS (e_assign rfl) rfl ?_; clear hS a; intro a hS
    refine L_nil (n_then (c_seq (c_region ?_)))
    refine L_e hS (e_move rfl) rfl ?_; clear hS a; intro a hS
    refine L_e hS (e_assign rfl) rfl ?_; clear hS a; intro a hS
    refine L_nil (n_then (c_seq (wp_block ?_)))
    skip
    refine c_loop (γ := Nat × Nat) (fun G a w => St 220 (ownA 102 4 (.slice (some ⟨g, 0, none⟩) n c) n ((zs).flatMap encE)).F w0 a w [(10, .int .i64 ((m + G.1 : Nat) : Int)), (11, .int .i64 ((m + G.2 : Nat) : Int)), (0, .slice (some ⟨g, 0, none⟩) n c), (1, .int .i64 (p : Int)), (4, cmpV)] [(ownA 102 4 (.slice (some ⟨g, 0, none⟩) n c) n ((zs).flatMap encE))] ∧ (G.1 ≤ G.2 ∧ G.2 ≤ Y.length) ∧ (∀ j y, j < G.1 → Y[j]? = some y → y.v.at_ < x.v.at_) ∧ ∀ j y, G.2 ≤ j → Y[j]? = some y → ¬ y.v.at_ < x.v.at_) (fun G => G.2 - G.1) (0, Y.length) ⟨by simp only; rw [Nat.add_zero, ← he]; exact (hS.slots (by repeat (first | exact trivial | refine ⟨rfl, ?_⟩))).pick (by repeat (first | exact Pick.nil | (refine Pick.cons (by repeat (first | exact Rem.head | apply Rem.tail)) ?_))), ⟨Nat.zero_le _, Nat.le_refl _⟩, fun j y hj => absurd hj (Nat.not_lt_zero j), fun j y hj hy => absurd (List.getElem?_eq_some_iff.1 hy).1 (by simp only at hj; omega)⟩ ?_
    clear hS a; (try clear w); intro G a w hI
    obtain ⟨k, l⟩ := G
    obtain ⟨hS, ⟨hkl, hlY⟩, q1, q2⟩ := hI
    simp only at hS hkl hlY q1 q2
    refine c_seq (c_seq (c_region ?_))
    refine L_e hS (e_move rfl) rfl ?_; clear hS a; intro a hS
    refine L_e hS (e_move rfl) rfl ?_; clear hS a; intro a hS
    refine L_e hS (e_bin rfl rfl rfl) rfl ?_; clear hS a; intro a hS
    refine L_nil (n_then ?_)
    first | refine c_ifD hS rfl (fun hc33 => ?_) (fun hc33 => ?_) | refine c_if hS rfl (fun hc33 => ?_) (fun hc33 => ?_)
    ·
      have hk2 : k < l := by omega
      obtain ⟨r, hr⟩ : ∃ r, r = (k + l) / 2 := ⟨_, rfl⟩
      obtain ⟨yr, hyr⟩ : ∃ y, Y[r]? = some y := ⟨Y[r]'(by omega), List.getElem?_eq_getElem (by omega)⟩
      have g1 := get_at (zs := zs) hzY hAX hyr
      have g2 : zs[p]? = some x := get_at (t := 0) (zs := zs) hz hp rfl
      refine wp_skip (n_then (wp_block (c_seq (c_region ?_))))
      refine L_e hS (e_move rfl) rfl ?_; clear hS a; intro a hS
      refine L_e hS (e_move rfl) rfl ?_; clear hS a; intro a hS
      (first | refine L_e hS (e_binN rfl rfl rfl (by omega)) rfl ?_ | refine L_e hS (e_bin rfl rfl rfl) rfl ?_); clear hS a; intro a hS
      rw [show ((m + k : Nat) : Int) + ((m + l : Nat) : Int) = ((m + k + (m + l) : Nat) : Int) from by omega] at hS
      (first | refine L_e hS (e_convN rfl ty_u3 ty_u189 (by omega)) rfl ?_ | refine L_e hS (e_conv rfl ty_u3 ty_u189) rfl ?_); clear hS a; intro a hS
      rw [IntWalk.u64_in _ (by omega)] at hS
      refine L_e hS (e_shr (j := 1) rfl (by decide)) rfl ?_; clear hS a; intro a hS
      rw [show ((m + k + (m + l) : Nat) : Int) / 2 ^ 1 = ((m + r : Nat) : Int) from by omega] at hS
      (first | refine L_e hS (e_convN rfl ty_u189 ty_u3 (by omega)) rfl ?_ | refine L_e hS (e_conv rfl ty_u189 ty_u3) rfl ?_); clear hS a; intro a hS
      refine L_e hS (e_assign rfl) rfl ?_; clear hS a; intro a hS
      refine L_nil (n_then (c_seq ?_))
      refine c_drawS [] (by kernel_rfl) hS (sub_cons (X := (ownA 102 4 (.slice (some ⟨g, 0, none⟩) n c) n ((zs).flatMap encE))) (by repeat constructor) sub_nil) ?_; clear hS; (try clear w); intro w hS
      simp only [List.length_cons, List.length_nil, Nat.zero_add, Nat.reduceAdd, List.replicate]
      refine Zt0 0 (tf 1 10) hS rfl want_none (e_move rfl) rfl (by kernel_rfl) rfl ?_; clear hS a; intro a hS
      refine Zt0 1 (tf 2 9) hS rfl want_none (e_move rfl) rfl (by kernel_rfl) rfl ?_; clear hS a; intro a hS
      refine Zt0 2 (tf 3 8) hS rfl want_none (e_move rfl) rfl (by kernel_rfl) rfl ?_; clear hS a; intro a hS
      refine Zt0 3 (tf 4 7) hS rfl want_none (e_ixN rfl rfl ty_sl86 ty_sz102 (by omega)) rfl (by kernel_rfl) rfl ?_; clear hS a; intro a hS
      refine Zt 4 (tf 5 6) hS rfl want_none (e_loadAC (l := encE yr) rfl ty_st102 ty_sz102 (own_getL (enc := encE) (s := 4) (fun _ => rfl) (by repeat constructor) g1)) rfl (by kernel_rfl) (sub_cons (by repeat constructor) sub_nil) rfl ?_; clear hS a; intro a hS
      refine Zt0 5 (tf 6 5) hS rfl want_none (e_move rfl) rfl (by kernel_rfl) rfl ?_; clear hS a; intro a hS
      refine Zt0 6 (tf 7 4) hS rfl want_none (e_move rfl) rfl (by kernel_rfl) rfl ?_; clear hS a; intro a hS
      refine Zt0 7 (tf 8 3) hS rfl want_none (e_ixN rfl rfl ty_sl86 ty_sz102 (by omega)) rfl (by kernel_rfl) rfl ?_; clear hS a; intro a hS
      refine Zt 8 (tf 9 2) hS rfl want_none (e_loadAC (l := encE x) rfl ty_st102 ty_sz102 (own_getL (enc := encE) (s := 4) (fun _ => rfl) (by repeat constructor) g2)) rfl (by kernel_rfl) (sub_cons (by repeat constructor) sub_nil) rfl ?_; clear hS a; intro a hS
      refine Z_one (i := 9) rfl (want_none a hS.sl) (listed' := (tf 10 1)) rfl (by kernel_rfl) (s_callvP (cs := []) hS rfl (.cons rfl (.cons rfl .nil)) cf85 rfl (lE1_P yr x _) ?_); clear hS a; (try clear w); intro a w hS
      refine Z_and hS (sub_cons (by repeat constructor) sub_nil) ?_
      refine Zt0 10 (tf 11 0) hS rfl want_none (e_bin rfl rfl rfl) rfl (by kernel_rfl) rfl ?_; clear hS a; intro a hS
      refine Z_done (by kernel_rfl) ?_
      refine n_then ?_
      first | refine c_ifD hS rfl (fun hc50 => ?_) (fun hc50 => ?_) | refine c_if hS rfl (fun hc50 => ?_) (fun hc50 => ?_)
      ·
        refine c_region ?_
        refine L_e hS (e_move rfl) rfl ?_; clear hS a; intro a hS
        (first | refine L_e hS (e_binN rfl rfl rfl (by omega)) rfl ?_ | refine L_e hS (e_bin rfl rfl rfl) rfl ?_); clear hS a; intro a hS
        refine L_e hS (e_assign rfl) rfl ?_; clear hS a; intro a hS
        refine L_nil (n_block ?_)
        first
        | (have hlt : yr.v.at_ < x.v.at_ := cmpI_neg.1 hc50
           refine ⟨(r + 1, l), by simp only; omega, ?_, ⟨by simp only; omega, hlY⟩, fun j y hj hy => ?_, q2⟩
           · simp only
             rw [show ((m + (r + 1) : Nat) : Int) = ((m + r : Nat) : Int) + 1 from by omega]
             exact (hS.slots (by repeat (first | exact trivial | refine ⟨rfl, ?_⟩))).pick (by repeat (first | exact Pick.nil | (refine Pick.cons (by repeat (first | exact Rem.head | apply Rem.tail)) ?_)))
           · have := srt_le hY hy hyr (by simp only at hj; omega); omega)
        | (have hlt : ¬ yr.v.at_ < x.v.at_ := fun e => hc50 (cmpI_neg.2 e)
           refine ⟨(k, r), by simp only; omega, (hS.slots (by repeat (first | exact trivial | refine ⟨rfl, ?_⟩))).pick (by repeat (first | exact Pick.nil | (refine Pick.cons (by repeat (first | exact Rem.head | apply Rem.tail)) ?_))), ⟨by simp only; omega, by simp only; omega⟩, q1, fun j y hj hy => ?_⟩
           have := srt_le hY hyr hy (by simp only at hj; omega); omega)
      refine c_region ?_
      refine L_e hS (e_move rfl) rfl ?_; clear hS a; intro a hS
      refine L_e hS (e_assign rfl) rfl ?_; clear hS a; intro a hS
      refine L_nil (n_block ?_)
      first
      | (have hlt : yr.v.at_ < x.v.at_ := cmpI_neg.1 hc50
         refine ⟨(r + 1, l), by simp only; omega, ?_, ⟨by simp only; omega, hlY⟩, fun j y hj hy => ?_, q2⟩
         · simp only
           rw [show ((m + (r + 1) : Nat) : Int) = ((m + r : Nat) : Int) + 1 from by omega]
           exact (hS.slots (by repeat (first | exact trivial | refine ⟨rfl, ?_⟩))).pick (by repeat (first | exact Pick.nil | (refine Pick.cons (by repeat (first | exact Rem.head | apply Rem.tail)) ?_)))
         · have := srt_le hY hy hyr (by simp only at hj; omega); omega)
      | (have hlt : ¬ yr.v.at_ < x.v.at_ := fun e => hc50 (cmpI_neg.2 e)
         refine ⟨(k, r), by simp only; omega, (hS.slots (by repeat (first | exact trivial | refine ⟨rfl, ?_⟩))).pick (by repeat (first | exact Pick.nil | (refine Pick.cons (by repeat (first | exact Rem.head | apply Rem.tail)) ?_))), ⟨by simp only; omega, by simp only; omega⟩, q1, fun j y hj hy => ?_⟩
         have := srt_le hY hyr hy (by simp only at hj; omega); omega)
    obtain rfl : k = l := by omega
    refine wp_exit ?_
    refine x_then (x_then (x_hit ?_))
    refine n_then (c_seq (c_seq (c_region ?_)))
    refine L_e hS (e_move rfl) rfl ?_; clear hS a; intro a hS
    refine L_e hS (e_assign rfl) rfl ?_; clear hS a; intro a hS
    refine L_nil (n_then (wp_block ?_))
    skip
    refine c_loop (γ := Nat) (fun t a w => St 220 (ownA 102 4 (.slice (some ⟨g, 0, none⟩) n c) n ((zs).flatMap encE)).F w0 a w [(13, .int .i64 ((p + t : Nat) : Int)), (10, .int .i64 ((m + k : Nat) : Int)), (0, .slice (some ⟨g, 0, none⟩) n c)] [(ownA 102 4 (.slice (some ⟨g, 0, none⟩) n c) n (((A ++ Y.take t) ++ x :: (Y.drop t ++ B)).flatMap encE))] ∧ t ≤ k) (fun t => k - t) 0 ⟨by rw [show (A ++ Y.take 0) ++ x :: (Y.drop 0 ++ B) = zs from by rw [hz]; simp]; exact (hS.slots (by repeat (first | exact trivial | refine ⟨rfl, ?_⟩))).pick (by repeat (first | exact Pick.nil | (refine Pick.cons (by repeat (first | exact Rem.head | apply Rem.tail)) ?_))), Nat.zero_le _⟩ ?_
    clear hS a; (try clear w); intro t a w hI
    obtain ⟨hS, ht⟩ := hI
    refine c_seq (c_seq (c_region ?_))
    refine L_e hS (e_move rfl) rfl ?_; clear hS a; intro a hS
    refine L_e hS (e_move rfl) rfl ?_; clear hS a; intro a hS
    (first | refine L_e hS (e_binN rfl rfl rfl (by omega)) rfl ?_ | refine L_e hS (e_bin rfl rfl rfl) rfl ?_); clear hS a; intro a hS
    rw [show ((m + k : Nat) : Int) - 1 = ((p + k : Nat) : Int) from by omega] at hS
    refine L_e hS (e_bin rfl rfl rfl) rfl ?_; clear hS a; intro a hS
    refine L_nil (n_then ?_)
    first | refine c_ifD hS rfl (fun hc58 => ?_) (fun hc58 => ?_) | refine c_if hS rfl (fun hc58 => ?_) (fun hc58 => ?_)
    ·
      have htk : t < k := by omega
      obtain ⟨y, hy⟩ : ∃ y, Y[t]? = some y := ⟨Y[t]'(by omega), List.getElem?_eq_getElem (by omega)⟩
      have dy : Y.drop t = y :: Y.drop (t + 1) := by obtain ⟨_, h4⟩ := List.getElem?_eq_some_iff.1 hy; rw [← h4, List.getElem_cons_drop]
      have ty : Y.take (t + 1) = Y.take t ++ [y] := by rw [List.take_add_one, hy]; rfl
      have hAt : (A ++ Y.take t).length = p + t := by rw [List.length_append, List.length_take]; omega
      have hsw := swap_mid (A ++ Y.take t) [] (Y.drop (t + 1) ++ B) x y _ rfl
      rw [hAt] at hsw
      simp only [List.length_nil, Nat.add_zero] at hsw
      rw [show (A ++ Y.take t) ++ x :: (Y.drop t ++ B) = (A ++ Y.take t) ++ x :: ([] ++ y :: (Y.drop (t + 1) ++ B)) from by rw [dy]; rfl] at hS
      have hll : ((A ++ Y.take t) ++ x :: ([] ++ y :: (Y.drop (t + 1) ++ B))).length = n := by simp only [List.length_append, List.length_cons, List.length_nil, List.length_take, List.length_drop]; simp only [List.length_cons, List.length_nil] at hnn; omega
      generalize hL : (A ++ Y.take t) ++ x :: ([] ++ y :: (Y.drop (t + 1) ++ B)) = L at hS hsw hll
      obtain ⟨s1, s2, s3⟩ := hsw
      have s4 : (L.set (p + t) y)[p + t + 1]? = some y := by rw [List.getElem?_set_ne (by omega)]; exact s2
      refine wp_skip (n_then (c_seq (wp_block ?_)))
      refine c_drawS [15, 17] (by kernel_rfl) hS (sub_cons (X := (ownA 102 4 (.slice (some ⟨g, 0, none⟩) n c) n ((L).flatMap encE))) (by repeat constructor) sub_nil) ?_; clear hS; (try clear w); intro w hS
      simp only [List.length_cons, List.length_nil, Nat.zero_add, Nat.reduceAdd, List.replicate]
      refine Zt0 0 (tf 1 17) hS rfl want_none (e_move rfl) rfl (by kernel_rfl) rfl ?_; clear hS a; intro a hS
      refine Zt0 1 (tf 2 16) hS rfl want_none (e_move rfl) rfl (by kernel_rfl) rfl ?_; clear hS a; intro a hS
      refine Zt0 2 (tf 3 15) hS rfl want_none (e_move rfl) rfl (by kernel_rfl) rfl ?_; clear hS a; intro a hS
      refine Zt0 3 (tf 4 14) hS rfl want_none (e_move rfl) rfl (by kernel_rfl) rfl ?_; clear hS a; intro a hS
      (first | refine Zt0 4 (tf 5 13) hS rfl want_none (e_binN rfl rfl rfl (by omega)) rfl (by kernel_rfl) rfl ?_ | refine Zt0 4 (tf 5 13) hS rfl want_none (e_bin rfl rfl rfl) rfl (by kernel_rfl) rfl ?_); clear hS a; intro a hS
      rw [show ((p + t : Nat) : Int) + 1 = ((p + t + 1 : Nat) : Int) from by omega] at hS
      refine Zt0 5 (tf 6 12) hS rfl want_none (e_move rfl) rfl (by kernel_rfl) rfl ?_; clear hS a; intro a hS
      refine Zt0 6 (tf 7 11) hS rfl want_none (e_move rfl) rfl (by kernel_rfl) rfl ?_; clear hS a; intro a hS
      (first | refine Zt0 7 (tf 8 10) hS rfl want_none (e_binN rfl rfl rfl (by omega)) rfl (by kernel_rfl) rfl ?_ | refine Zt0 7 (tf 8 10) hS rfl want_none (e_bin rfl rfl rfl) rfl (by kernel_rfl) rfl ?_); clear hS a; intro a hS
      rw [show ((p + t : Nat) : Int) + 1 = ((p + t + 1 : Nat) : Int) from by omega] at hS
      refine Zt0 8 (tf 9 9) hS rfl want_none (e_ixN rfl rfl ty_sl86 ty_sz102 (by omega)) rfl (by kernel_rfl) rfl ?_; clear hS a; intro a hS
      refine Zt 9 (tf 10 8) hS rfl want_none (e_loadAC (l := encE y) rfl ty_st102 ty_sz102 (own_getL (enc := encE) (s := 4) (fun _ => rfl) (by repeat constructor) s2)) rfl (by kernel_rfl) (sub_cons (by repeat constructor) sub_nil) rfl ?_; clear hS a; intro a hS
      refine Zt0 10 (tf 11 7) hS rfl want_none (e_move rfl) rfl (by kernel_rfl) rfl ?_; clear hS a; intro a hS
      refine Zt0 11 (tf 12 6) hS rfl want_none (e_move rfl) rfl (by kernel_rfl) rfl ?_; clear hS a; intro a hS
      refine Zt0 12 (tf 13 5) hS rfl want_none (e_ixN rfl rfl ty_sl86 ty_sz102 (by omega)) rfl (by kernel_rfl) rfl ?_; clear hS a; intro a hS
      refine Zt 13 (tf 14 4) hS rfl want_none (e_loadAC (l := encE x) rfl ty_st102 ty_sz102 (own_getL (enc := encE) (s := 4) (fun _ => rfl) (by repeat constructor) s1)) rfl (by kernel_rfl) (sub_cons (by repeat constructor) sub_nil) rfl ?_; clear hS a; intro a hS
      refine Zt0 14 (tf 15 3) hS rfl want_none (e_ixN rfl rfl ty_sl86 ty_sz102 (by omega)) rfl (by kernel_rfl) rfl ?_; clear hS a; intro a hS
      refine Z_one (i := 15) rfl (want_none a hS.sl) (listed' := (tf 16 2)) rfl (by kernel_rfl) (s_storeOA (enc := encE) (s := 4) (m := n) (c := c) (v := y) (u := x) hS rfl rfl (fun _ => rfl) rfl ty_sz102 s1 hll (by repeat constructor) ?_); clear hS; (try clear w); intro w hS
      refine Z_last (by simp) ?_
      refine Zt0 16 (tf 17 1) hS rfl want_none (e_ixN rfl rfl ty_sl86 ty_sz102 (by omega)) rfl (by kernel_rfl) rfl ?_; clear hS a; intro a hS
      refine Z_one (i := 17) rfl (want_none a hS.sl) (listed' := (tf 18 0)) rfl (by kernel_rfl) (s_storeOA (enc := encE) (s := 4) (m := n) (c := c) (v := x) (u := y) hS rfl rfl (fun _ => rfl) rfl ty_sz102 s4 (by rw [List.length_set]; exact hll) (by repeat constructor) ?_); clear hS; (try clear w); intro w hS
      refine Z_last (by simp) ?_
      refine Z_done (by kernel_rfl) ?_
      refine n_block (n_then (c_region ?_))
      refine L_e hS (e_move rfl) rfl ?_; clear hS a; intro a hS
      (first | refine L_e hS (e_binN rfl rfl rfl (by omega)) rfl ?_ | refine L_e hS (e_bin rfl rfl rfl) rfl ?_); clear hS a; intro a hS
      refine L_e hS (e_assign rfl) rfl ?_; clear hS a; intro a hS
      refine L_nil ?_
      rw [s3] at hS
      refine ⟨t + 1, by omega, ?_, by omega⟩
      rw [show (A ++ Y.take (t + 1)) ++ x :: (Y.drop (t + 1) ++ B) = (A ++ Y.take t) ++ y :: ([] ++ x :: (Y.drop (t + 1) ++ B)) from by rw [ty]; simp, show ((p + (t + 1) : Nat) : Int) = ((p + t : Nat) : Int) + 1 from by omega]
      exact (hS.slots (by repeat (first | exact trivial | refine ⟨rfl, ?_⟩))).pick (by repeat (first | exact Pick.nil | (refine Pick.cons (by repeat (first | exact Rem.head | apply Rem.tail)) ?_)))
    obtain rfl : t = k := by omega
    rw [show (A ++ Y.take t) ++ x :: (Y.drop t ++ B) = A ++ ((Y.take t ++ x :: Y.drop t) ++ B) from by simp] at hS
    refine wp_exit ?_
    refine x_then (x_then (x_hit ?_))
    refine n_then (wp_ret (r_then ?_))
    refine c_retN hS Tryz.results128 .nil rfl ?_
    exact ⟨⟨Y.take t ++ x :: Y.drop t, one_left hY hc (by omega) q1 q2⟩, rfl, hS.chg, hS.ok (ownA 102 4 (.slice (some ⟨g, 0, none⟩) n c) n ((A ++ ((Y.take t ++ x :: Y.drop t) ++ B)).flatMap encE)) (by repeat constructor), fun b hb => (hS.mine (ownA 102 4 (.slice (some ⟨g, 0, none⟩) n c) n ((A ++ ((Y.take t ++ x :: Y.drop t) ++ B)).flatMap encE)) (by repeat constructor) rfl b hb).symm⟩
  have hX2 : 2 ≤ X.length := by omega
  refine wp_skip (n_then (c_seq (c_seq (c_region ?_))))
  refine L_e hS (e_move rfl) rfl ?_; clear hS a; intro a hS
  refine L_e hS (e_move rfl) rfl ?_; clear hS a; intro a hS
  (first | refine L_e hS (e_binN rfl rfl rfl (by omega)) rfl ?_ | refine L_e hS (e_bin rfl rfl rfl) rfl ?_); clear hS a; intro a hS
  rw [show (e : Int) - (m : Int) = (Y.length : Int) from by omega] at hS
  refine L_e hS (e_bin rfl rfl rfl) rfl ?_; clear hS a; intro a hS
  refine L_nil (n_then ?_)
  first | refine c_ifD hS rfl (fun hc80 => ?_) (fun hc80 => ?_) | refine c_if hS rfl (fun hc80 => ?_) (fun hc80 => ?_)
  ·
    have hY1 : Y.length = 1 := by omega
    obtain ⟨y, rfl⟩ : ∃ y, Y = [y] := by
      match Y, hY1 with
      | [y], _ => exact ⟨y, rfl⟩
    refine c_seq (c_region ?_)
    refine L_e hS (e_move rfl) rfl ?_; clear hS a; intro a hS
    refine L_e hS (e_assign rfl) rfl ?_; clear hS a; intro a hS
    refine L_nil (n_then (c_seq (c_region ?_)))
    refine L_e hS (e_move rfl) rfl ?_; clear hS a; intro a hS
    refine L_e hS (e_assign rfl) rfl ?_; clear hS a; intro a hS
    refine L_nil (n_then (c_seq (wp_block ?_)))
    skip
    refine c_loop (γ := Nat × Nat) (fun G a w => St 220 (ownA 102 4 (.slice (some ⟨g, 0, none⟩) n c) n ((zs).flatMap encE)).F w0 a w [(14, .int .i64 ((p + G.1 : Nat) : Int)), (15, .int .i64 ((p + G.2 : Nat) : Int)), (0, .slice (some ⟨g, 0, none⟩) n c), (2, .int .i64 (m : Int)), (4, cmpV)] [(ownA 102 4 (.slice (some ⟨g, 0, none⟩) n c) n ((zs).flatMap encE))] ∧ (G.1 ≤ G.2 ∧ G.2 ≤ X.length) ∧ (∀ j x, j < G.1 → X[j]? = some x → ¬ y.v.at_ < x.v.at_) ∧ ∀ j x, G.2 ≤ j → X[j]? = some x → y.v.at_ < x.v.at_) (fun G => G.2 - G.1) (0, X.length) ⟨by simp only; rw [Nat.add_zero, ← hm]; exact (hS.slots (by repeat (first | exact trivial | refine ⟨rfl, ?_⟩))).pick (by repeat (first | exact Pick.nil | (refine Pick.cons (by repeat (first | exact Rem.head | apply Rem.tail)) ?_))), ⟨Nat.zero_le _, Nat.le_refl _⟩, fun j x hj => absurd hj (Nat.not_lt_zero j), fun j x hj hx => absurd (List.getElem?_eq_some_iff.1 hx).1 (by simp only at hj; omega)⟩ ?_
    clear hS a; (try clear w); intro G a w hI
    obtain ⟨k, l⟩ := G
    obtain ⟨hS, ⟨hkl, hlX⟩, q1, q2⟩ := hI
    simp only at hS hkl hlX q1 q2
    refine c_seq (c_seq (c_region ?_))
    refine L_e hS (e_move rfl) rfl ?_; clear hS a; intro a hS
    refine L_e hS (e_move rfl) rfl ?_; clear hS a; intro a hS
    refine L_e hS (e_bin rfl rfl rfl) rfl ?_; clear hS a; intro a hS
    refine L_nil (n_then ?_)
    first | refine c_ifD hS rfl (fun hc85 => ?_) (fun hc85 => ?_) | refine c_if hS rfl (fun hc85 => ?_) (fun hc85 => ?_)
    ·
      have hk2 : k < l := by omega
      obtain ⟨r, hr⟩ : ∃ r, r = (k + l) / 2 := ⟨_, rfl⟩
      obtain ⟨xr, hxr⟩ : ∃ x, X[r]? = some x := ⟨X[r]'(by omega), List.getElem?_eq_getElem (by omega)⟩
      have g1 := get_at (zs := zs) hz hp hxr
      have g2 : zs[m]? = some y := get_at (t := 0) (zs := zs) hzY hAX rfl
      refine wp_skip (n_then (wp_block (c_seq (c_region ?_))))
      refine L_e hS (e_move rfl) rfl ?_; clear hS a; intro a hS
      refine L_e hS (e_move rfl) rfl ?_; clear hS a; intro a hS
      (first | refine L_e hS (e_binN rfl rfl rfl (by omega)) rfl ?_ | refine L_e hS (e_bin rfl rfl rfl) rfl ?_); clear hS a; intro a hS
      rw [show ((p + k : Nat) : Int) + ((p + l : Nat) : Int) = ((p + k + (p + l) : Nat) : Int) from by omega] at hS
      (first | refine L_e hS (e_convN rfl ty_u3 ty_u189 (by omega)) rfl ?_ | refine L_e hS (e_conv rfl ty_u3 ty_u189) rfl ?_); clear hS a; intro a hS
      rw [IntWalk.u64_in _ (by omega)] at hS
      refine L_e hS (e_shr (j := 1) rfl (by decide)) rfl ?_; clear hS a; intro a hS
      rw [show ((p + k + (p + l) : Nat) : Int) / 2 ^ 1 = ((p + r : Nat) : Int) from by omega] at hS
      (first | refine L_e hS (e_convN rfl ty_u189 ty_u3 (by omega)) rfl ?_ | refine L_e hS (e_conv rfl ty_u189 ty_u3) rfl ?_); clear hS a; intro a hS
      refine L_e hS (e_assign rfl) rfl ?_; clear hS a; intro a hS
      refine L_nil (n_then (c_seq ?_))
      refine c_drawS [] (by kernel_rfl) hS (sub_cons (X := (ownA 102 4 (.slice (some ⟨g, 0, none⟩) n c) n ((zs).flatMap encE))) (by repeat constructor) sub_nil) ?_; clear hS; (try clear w); intro w hS
      simp only [List.length_cons, List.length_nil, Nat.zero_add, Nat.reduceAdd, List.replicate]
      refine Zt0 0 (tf 1 11) hS rfl want_none (e_move rfl) rfl (by kernel_rfl) rfl ?_; clear hS a; intro a hS
      refine Zt0 1 (tf 2 10) hS rfl want_none (e_move rfl) rfl (by kernel_rfl) rfl ?_; clear hS a; intro a hS
      refine Zt0 2 (tf 3 9) hS rfl want_none (e_move rfl) rfl (by kernel_rfl) rfl ?_; clear hS a; intro a hS
      refine Zt0 3 (tf 4 8) hS rfl want_none (e_ixN rfl rfl ty_sl86 ty_sz102 (by omega)) rfl (by kernel_rfl) rfl ?_; clear hS a; intro a hS
      refine Zt 4 (tf 5 7) hS rfl want_none (e_loadAC (l := encE y) rfl ty_st102 ty_sz102 (own_getL (enc := encE) (s := 4) (fun _ => rfl) (by repeat constructor) g2)) rfl (by kernel_rfl) (sub_cons (by repeat constructor) sub_nil) rfl ?_; clear hS a; intro a hS
      refine Zt0 5 (tf 6 6) hS rfl want_none (e_move rfl) rfl (by kernel_rfl) rfl ?_; clear hS a; intro a hS
      refine Zt0 6 (tf 7 5) hS rfl want_none (e_move rfl) rfl (by kernel_rfl) rfl ?_; clear hS a; intro a hS
      refine Zt0 7 (tf 8 4) hS rfl want_none (e_ixN rfl rfl ty_sl86 ty_sz102 (by omega)) rfl (by kernel_rfl) rfl ?_; clear hS a; intro a hS
      refine Zt 8 (tf 9 3) hS rfl want_none (e_loadAC (l := encE xr) rfl ty_st102 ty_sz102 (own_getL (enc := encE) (s := 4) (fun _ => rfl) (by repeat constructor) g1)) rfl (by kernel_rfl) (sub_cons (by repeat constructor) sub_nil) rfl ?_; clear hS a; intro a hS
      refine Z_one (i := 9) rfl (want_none a hS.sl) (listed' := (tf 10 2)) rfl (by kernel_rfl) (s_callvP (cs := []) hS rfl (.cons rfl (.cons rfl .nil)) cf85 rfl (lE1_P y xr _) ?_); clear hS a; (try clear w); intro a w hS
      refine Z_and hS (sub_cons (by repeat constructor) sub_nil) ?_
      refine Zt0 10 (tf 11 1) hS rfl want_none (e_bin rfl rfl rfl) rfl (by kernel_rfl) rfl ?_; clear hS a; intro a hS
      refine Zt0 11 (tf 12 0) hS rfl want_none (e_not rfl) rfl (by kernel_rfl) rfl ?_; clear hS a; intro a hS
      refine Z_done (by kernel_rfl) ?_
      refine n_then ?_
      first | refine c_ifD hS rfl (fun hc103 => ?_) (fun hc103 => ?_) | refine c_if hS rfl (fun hc103 => ?_) (fun hc103 => ?_)
      ·
        have hge : ¬ y.v.at_ < xr.v.at_ := fun e => by
          rw [decide_eq_true (cmpI_neg.2 e)] at hc103; cases hc103
        refine c_region ?_
        refine L_e hS (e_move rfl) rfl ?_; clear hS a; intro a hS
        (first | refine L_e hS (e_binN rfl rfl rfl (by omega)) rfl ?_ | refine L_e hS (e_bin rfl rfl rfl) rfl ?_); clear hS a; intro a hS
        refine L_e hS (e_assign rfl) rfl ?_; clear hS a; intro a hS
        refine L_nil (n_block ?_)
        first
        | (have hlt := hge
           refine ⟨(r + 1, l), by simp only; omega, ?_, ⟨by simp only; omega, hlX⟩, fun j x hj hx => ?_, q2⟩
           · simp only
             rw [show ((p + (r + 1) : Nat) : Int) = ((p + r : Nat) : Int) + 1 from by omega]
             exact (hS.slots (by repeat (first | exact trivial | refine ⟨rfl, ?_⟩))).pick (by repeat (first | exact Pick.nil | (refine Pick.cons (by repeat (first | exact Rem.head | apply Rem.tail)) ?_)))
           · have := srt_le hX hx hxr (by simp only at hj; omega); omega)
        | (have hl2 := hlt
           refine ⟨(k, r), by simp only; omega, (hS.slots (by repeat (first | exact trivial | refine ⟨rfl, ?_⟩))).pick (by repeat (first | exact Pick.nil | (refine Pick.cons (by repeat (first | exact Rem.head | apply Rem.tail)) ?_))), ⟨by simp only; omega, by simp only; omega⟩, q1, fun j x hj hx => ?_⟩
           have := srt_le hX hxr hx (by simp only at hj; omega); omega)
      have hlt : y.v.at_ < xr.v.at_ := cmpI_neg.1 (by simpa using hc103)
      refine c_region ?_
      refine L_e hS (e_move rfl) rfl ?_; clear hS a; intro a hS
      refine L_e hS (e_assign rfl) rfl ?_; clear hS a; intro a hS
      refine L_nil (n_block ?_)
      first
      | (have hlt := hge
         refine ⟨(r + 1, l), by simp only; omega, ?_, ⟨by simp only; omega, hlX⟩, fun j x hj hx => ?_, q2⟩
         · simp only
           rw [show ((p + (r + 1) : Nat) : Int) = ((p + r : Nat) : Int) + 1 from by omega]
           exact (hS.slots (by repeat (first | exact trivial | refine ⟨rfl, ?_⟩))).pick (by repeat (first | exact Pick.nil | (refine Pick.cons (by repeat (first | exact Rem.head | apply Rem.tail)) ?_)))
         · have := srt_le hX hx hxr (by simp only at hj; omega); omega)
      | (have hl2 := hlt
         refine ⟨(k, r), by simp only; omega, (hS.slots (by repeat (first | exact trivial | refine ⟨rfl, ?_⟩))).pick (by repeat (first | exact Pick.nil | (refine Pick.cons (by repeat (first | exact Rem.head | apply Rem.tail)) ?_))), ⟨by simp only; omega, by simp only; omega⟩, q1, fun j x hj hx => ?_⟩
         have := srt_le hX hxr hx (by simp only at hj; omega); omega)
    obtain rfl : k = l := by omega
    refine wp_exit ?_
    refine x_then (x_then (x_hit ?_))
    refine n_then (c_seq (c_seq (c_region ?_)))
    refine L_e hS (e_move rfl) rfl ?_; clear hS a; intro a hS
    refine L_e hS (e_assign rfl) rfl ?_; clear hS a; intro a hS
    refine L_nil (n_then (wp_block ?_))
    skip
    refine c_loop (γ := Nat) (fun t a w => St 220 (ownA 102 4 (.slice (some ⟨g, 0, none⟩) n c) n ((zs).flatMap encE)).F w0 a w [(17, .int .i64 ((p + t : Nat) : Int)), (14, .int .i64 ((p + k : Nat) : Int)), (0, .slice (some ⟨g, 0, none⟩) n c)] [(ownA 102 4 (.slice (some ⟨g, 0, none⟩) n c) n (((A ++ X.take t) ++ y :: (X.drop t ++ B)).flatMap encE))] ∧ k ≤ t ∧ t ≤ X.length) (fun t => t - k) X.length ⟨by rw [show (A ++ X.take X.length) ++ y :: (X.drop X.length ++ B) = zs from by rw [hz]; simp, ← hm]; exact (hS.slots (by repeat (first | exact trivial | refine ⟨rfl, ?_⟩))).pick (by repeat (first | exact Pick.nil | (refine Pick.cons (by repeat (first | exact Rem.head | apply Rem.tail)) ?_))), hlX, Nat.le_refl _⟩ ?_
    clear hS a; (try clear w); intro t a w hI
    obtain ⟨hS, ht, ht2⟩ := hI
    refine c_seq (c_seq (c_region ?_))
    refine L_e hS (e_move rfl) rfl ?_; clear hS a; intro a hS
    refine L_e hS (e_move rfl) rfl ?_; clear hS a; intro a hS
    refine L_e hS (e_bin rfl rfl rfl) rfl ?_; clear hS a; intro a hS
    refine L_nil (n_then ?_)
    first | refine c_ifD hS rfl (fun hc110 => ?_) (fun hc110 => ?_) | refine c_if hS rfl (fun hc110 => ?_) (fun hc110 => ?_)
    ·
      obtain ⟨j, rfl⟩ : ∃ j, t = j + 1 := ⟨t - 1, by omega⟩
      obtain ⟨x, hx⟩ : ∃ x, X[j]? = some x := ⟨X[j]'(by omega), List.getElem?_eq_getElem (by omega)⟩
      have dx : X.drop j = x :: X.drop (j + 1) := by obtain ⟨_, h4⟩ := List.getElem?_eq_some_iff.1 hx; rw [← h4, List.getElem_cons_drop]
      have tx : X.take (j + 1) = X.take j ++ [x] := by rw [List.take_add_one, hx]; rfl
      have hAt : (A ++ X.take j).length = p + j := by rw [List.length_append, List.length_take]; omega
      have hsw := swap_mid2 (A ++ X.take j) [] (X.drop (j + 1) ++ B) x y _ rfl
      have hsg := swap_mid (A ++ X.take j) [] (X.drop (j + 1) ++ B) x y _ rfl
      rw [hAt] at hsw hsg
      simp only [List.length_nil, Nat.add_zero] at hsw hsg
      rw [show (A ++ X.take (j + 1)) ++ y :: (X.drop (j + 1) ++ B) = (A ++ X.take j) ++ x :: ([] ++ y :: (X.drop (j + 1) ++ B)) from by rw [tx]; simp] at hS
      have hll : ((A ++ X.take j) ++ x :: ([] ++ y :: (X.drop (j + 1) ++ B))).length = n := by simp only [List.length_append, List.length_cons, List.length_nil, List.length_take, List.length_drop]; simp only [List.length_cons, List.length_nil] at hnn; omega
      generalize hL : (A ++ X.take j) ++ x :: ([] ++ y :: (X.drop (j + 1) ++ B)) = L at hS hsw hsg hll
      obtain ⟨s1, s2, _⟩ := hsg
      have s4 : (L.set (p + j + 1) x)[p + j]? = some x := by rw [List.getElem?_set_ne (by omega)]; exact s1
      rw [show ((p + (j + 1) : Nat) : Int) = ((p + j + 1 : Nat) : Int) from by omega] at hS
      refine wp_skip (n_then (c_seq (wp_block ?_)))
      refine c_drawS [15, 17] (by kernel_rfl) hS (sub_cons (X := (ownA 102 4 (.slice (some ⟨g, 0, none⟩) n c) n ((L).flatMap encE))) (by repeat constructor) sub_nil) ?_; clear hS; (try clear w); intro w hS
      simp only [List.length_cons, List.length_nil, Nat.zero_add, Nat.reduceAdd, List.replicate]
      refine Zt0 0 (tf 1 17) hS rfl want_none (e_move rfl) rfl (by kernel_rfl) rfl ?_; clear hS a; intro a hS
      refine Zt0 1 (tf 2 16) hS rfl want_none (e_move rfl) rfl (by kernel_rfl) rfl ?_; clear hS a; intro a hS
      refine Zt0 2 (tf 3 15) hS rfl want_none (e_move rfl) rfl (by kernel_rfl) rfl ?_; clear hS a; intro a hS
      refine Zt0 3 (tf 4 14) hS rfl want_none (e_move rfl) rfl (by kernel_rfl) rfl ?_; clear hS a; intro a hS
      (first | refine Zt0 4 (tf 5 13) hS rfl want_none (e_binN rfl rfl rfl (by omega)) rfl (by kernel_rfl) rfl ?_ | refine Zt0 4 (tf 5 13) hS rfl want_none (e_bin rfl rfl rfl) rfl (by kernel_rfl) rfl ?_); clear hS a; intro a hS
      rw [show ((p + j + 1 : Nat) : Int) - 1 = ((p + j : Nat) : Int) from by omega] at hS
      refine Zt0 5 (tf 6 12) hS rfl want_none (e_move rfl) rfl (by kernel_rfl) rfl ?_; clear hS a; intro a hS
      refine Zt0 6 (tf 7 11) hS rfl want_none (e_move rfl) rfl (by kernel_rfl) rfl ?_; clear hS a; intro a hS
      (first | refine Zt0 7 (tf 8 10) hS rfl want_none (e_binN rfl rfl rfl (by omega)) rfl (by kernel_rfl) rfl ?_ | refine Zt0 7 (tf 8 10) hS rfl want_none (e_bin rfl rfl rfl) rfl (by kernel_rfl) rfl ?_); clear hS a; intro a hS
      rw [show ((p + j + 1 : Nat) : Int) - 1 = ((p + j : Nat) : Int) from by omega] at hS
      refine Zt0 8 (tf 9 9) hS rfl want_none (e_ixN rfl rfl ty_sl86 ty_sz102 (by omega)) rfl (by kernel_rfl) rfl ?_; clear hS a; intro a hS
      refine Zt 9 (tf 10 8) hS rfl want_none (e_loadAC (l := encE x) rfl ty_st102 ty_sz102 (own_getL (enc := encE) (s := 4) (fun _ => rfl) (by repeat constructor) s1)) rfl (by kernel_rfl) (sub_cons (by repeat constructor) sub_nil) rfl ?_; clear hS a; intro a hS
      refine Zt0 10 (tf 11 7) hS rfl want_none (e_move rfl) rfl (by kernel_rfl) rfl ?_; clear hS a; intro a hS
      refine Zt0 11 (tf 12 6) hS rfl want_none (e_move rfl) rfl (by kernel_rfl) rfl ?_; clear hS a; intro a hS
      refine Zt0 12 (tf 13 5) hS rfl want_none (e_ixN rfl rfl ty_sl86 ty_sz102 (by omega)) rfl (by kernel_rfl) rfl ?_; clear hS a; intro a hS
      refine Zt 13 (tf 14 4) hS rfl want_none (e_loadAC (l := encE y) rfl ty_st102 ty_sz102 (own_getL (enc := encE) (s := 4) (fun _ => rfl) (by repeat constructor) s2)) rfl (by kernel_rfl) (sub_cons (by repeat constructor) sub_nil) rfl ?_; clear hS a; intro a hS
      refine Zt0 14 (tf 15 3) hS rfl want_none (e_ixN rfl rfl ty_sl86 ty_sz102 (by omega)) rfl (by kernel_rfl) rfl ?_; clear hS a; intro a hS
      refine Z_one (i := 15) rfl (want_none a hS.sl) (listed' := (tf 16 2)) rfl (by kernel_rfl) (s_storeOA (enc := encE) (s := 4) (m := n) (c := c) (v := x) (u := y) hS rfl rfl (fun _ => rfl) rfl ty_sz102 s2 hll (by repeat constructor) ?_); clear hS; (try clear w); intro w hS
      refine Z_last (by simp) ?_
      refine Zt0 16 (tf 17 1) hS rfl want_none (e_ixN rfl rfl ty_sl86 ty_sz102 (by omega)) rfl (by kernel_rfl) rfl ?_; clear hS a; intro a hS
      refine Z_one (i := 17) rfl (want_none a hS.sl) (listed' := (tf 18 0)) rfl (by kernel_rfl) (s_storeOA (enc := encE) (s := 4) (m := n) (c := c) (v := y) (u := x) hS rfl rfl (fun _ => rfl) rfl ty_sz102 s4 (by rw [List.length_set]; exact hll) (by repeat constructor) ?_); clear hS; (try clear w); intro w hS
      refine Z_last (by simp) ?_
      refine Z_done (by kernel_rfl) ?_
      refine n_block (n_then (c_region ?_))
      refine L_e hS (e_move rfl) rfl ?_; clear hS a; intro a hS
      (first | refine L_e hS (e_binN rfl rfl rfl (by omega)) rfl ?_ | refine L_e hS (e_bin rfl rfl rfl) rfl ?_); clear hS a; intro a hS
      rw [show ((p + j + 1 : Nat) : Int) - 1 = ((p + j : Nat) : Int) from by omega] at hS
      refine L_e hS (e_assign rfl) rfl ?_; clear hS a; intro a hS
      refine L_nil ?_
      rw [hsw] at hS
      refine ⟨j, by omega, ?_, by omega, by omega⟩
      rw [show (A ++ X.take j) ++ y :: (X.drop j ++ B) = (A ++ X.take j) ++ y :: ([] ++ x :: (X.drop (j + 1) ++ B)) from by rw [dx]; simp]
      exact (hS.slots (by repeat (first | exact trivial | refine ⟨rfl, ?_⟩))).pick (by repeat (first | exact Pick.nil | (refine Pick.cons (by repeat (first | exact Rem.head | apply Rem.tail)) ?_)))
    obtain rfl : t = k := by omega
    rw [show (A ++ X.take t) ++ y :: (X.drop t ++ B) = A ++ ((X.take t ++ y :: X.drop t) ++ B) from by simp] at hS
    refine wp_exit ?_
    refine x_then (x_then (x_hit ?_))
    refine n_then (wp_ret (r_then ?_))
    refine c_retN hS Tryz.results128 .nil rfl ?_
    exact ⟨⟨X.take t ++ y :: X.drop t, one_right hX hc (by omega) q1 q2⟩, rfl, hS.chg, hS.ok (ownA 102 4 (.slice (some ⟨g, 0, none⟩) n c) n ((A ++ ((X.take t ++ y :: X.drop t) ++ B)).flatMap encE)) (by repeat constructor), fun b hb => (hS.mine (ownA 102 4 (.slice (some ⟨g, 0, none⟩) n c) n ((A ++ ((X.take t ++ y :: X.drop t) ++ B)).flatMap encE)) (by repeat constructor) rfl b hb).symm⟩
  have hY2 : 2 ≤ Y.length := by omega
  refine wp_skip (n_then (c_seq (c_region ?_)))
  refine L_e hS (e_move rfl) rfl ?_; clear hS a; intro a hS
  refine L_e hS (e_move rfl) rfl ?_; clear hS a; intro a hS
  (first | refine L_e hS (e_binN rfl rfl rfl (by omega)) rfl ?_ | refine L_e hS (e_bin rfl rfl rfl) rfl ?_); clear hS a; intro a hS
  rw [show (p : Int) + (e : Int) = ((p + e : Nat) : Int) from by omega] at hS
  (first | refine L_e hS (e_convN rfl ty_u3 ty_u189 (by omega)) rfl ?_ | refine L_e hS (e_conv rfl ty_u3 ty_u189) rfl ?_); clear hS a; intro a hS
  rw [IntWalk.u64_in _ (by omega)] at hS
  refine L_e hS (e_shr (j := 1) rfl (by decide)) rfl ?_; clear hS a; intro a hS
  rw [show ((p + e : Nat) : Int) / 2 ^ 1 = ((p + md : Nat) : Int) from by omega] at hS
  (first | refine L_e hS (e_convN rfl ty_u189 ty_u3 (by omega)) rfl ?_ | refine L_e hS (e_conv rfl ty_u189 ty_u3) rfl ?_); clear hS a; intro a hS
  refine L_e hS (e_assign rfl) rfl ?_; clear hS a; intro a hS
  refine L_nil (n_then (c_seq (c_region ?_)))
  refine L_e hS (e_move rfl) rfl ?_; clear hS a; intro a hS
  refine L_e hS (e_move rfl) rfl ?_; clear hS a; intro a hS
  (first | refine L_e hS (e_binN rfl rfl rfl (by omega)) rfl ?_ | refine L_e hS (e_bin rfl rfl rfl) rfl ?_); clear hS a; intro a hS
  rw [show ((p + md : Nat) : Int) + (m : Int) = ((p + md + m : Nat) : Int) from by omega] at hS
  refine L_e hS (e_assign rfl) rfl ?_; clear hS a; intro a hS
  refine L_nil (n_then (c_seq (c_region ?_)))
  refine L_e hS (e_assign rfl) rfl ?_; clear hS a; intro a hS
  refine L_e hS (e_assign rfl) rfl ?_; clear hS a; intro a hS
  refine L_nil (n_then ?_)
  refine c_cut (fun a w => ∃ lo hi : Nat, St 220 (ownA 102 4 (.slice (some ⟨g, 0, none⟩) n c) n ((zs).flatMap encE)).F w0 a w [(20, .int .i64 ((p + lo : Nat) : Int)), (21, .int .i64 ((p + hi : Nat) : Int)), (18, .int .i64 ((p + md : Nat) : Int)), (19, .int .i64 ((p + md + m : Nat) : Int)), (0, .slice (some ⟨g, 0, none⟩) n c), (1, .int .i64 (p : Int)), (2, .int .i64 (m : Int)), (3, .int .i64 (e : Int)), (4, cmpV)] [(ownA 102 4 (.slice (some ⟨g, 0, none⟩) n c) n ((zs).flatMap encE))] ∧ cutR X.length Y.length md lo hi) ?_ ?_
  ·
    refine c_seq (c_region ?_)
    refine L_e hS (e_move rfl) rfl ?_; clear hS a; intro a hS
    refine L_e hS (e_move rfl) rfl ?_; clear hS a; intro a hS
    refine L_e hS (e_bin rfl rfl rfl) rfl ?_; clear hS a; intro a hS
    refine L_nil (n_then ?_)
    first | refine c_ifD hS rfl (fun hc140 => ?_) (fun hc140 => ?_) | refine c_if hS rfl (fun hc140 => ?_) (fun hc140 => ?_)
    ·
      refine c_seq (c_region ?_)
      refine L_e hS (e_move rfl) rfl ?_; clear hS a; intro a hS
      refine L_e hS (e_move rfl) rfl ?_; clear hS a; intro a hS
      (first | refine L_e hS (e_binN rfl rfl rfl (by omega)) rfl ?_ | refine L_e hS (e_bin rfl rfl rfl) rfl ?_); clear hS a; intro a hS
      rw [show ((p + md + m : Nat) : Int) - (e : Int) = ((p + (md - Y.length) : Nat) : Int) from by omega] at hS
      refine L_e hS (e_assign rfl) rfl ?_; clear hS a; intro a hS
      refine L_nil (n_then (c_region ?_))
      refine L_e hS (e_move rfl) rfl ?_; clear hS a; intro a hS
      refine L_e hS (e_assign rfl) rfl ?_; clear hS a; intro a hS
      refine L_nil ?_
      first
      | exact ⟨md - Y.length, md, (hS.slots (by repeat (first | exact trivial | refine ⟨rfl, ?_⟩))).pick (by repeat (first | exact Pick.nil | (refine Pick.cons (by repeat (first | exact Rem.head | apply Rem.tail)) ?_))), .inl ⟨by omega, rfl, rfl⟩⟩
      | exact ⟨0, X.length, by rw [Nat.add_zero, ← hm]; exact (hS.slots (by repeat (first | exact trivial | refine ⟨rfl, ?_⟩))).pick (by repeat (first | exact Pick.nil | (refine Pick.cons (by repeat (first | exact Rem.head | apply Rem.tail)) ?_))), .inr ⟨by omega, rfl, rfl⟩⟩
    refine c_seq (c_region ?_)
    refine L_e hS (e_move rfl) rfl ?_; clear hS a; intro a hS
    refine L_e hS (e_assign rfl) rfl ?_; clear hS a; intro a hS
    refine L_nil (n_then (c_region ?_))
    refine L_e hS (e_move rfl) rfl ?_; clear hS a; intro a hS
    refine L_e hS (e_assign rfl) rfl ?_; clear hS a; intro a hS
    refine L_nil ?_
    first
    | exact ⟨md - Y.length, md, (hS.slots (by repeat (first | exact trivial | refine ⟨rfl, ?_⟩))).pick (by repeat (first | exact Pick.nil | (refine Pick.cons (by repeat (first | exact Rem.head | apply Rem.tail)) ?_))), .inl ⟨by omega, rfl, rfl⟩⟩
    | exact ⟨0, X.length, by rw [Nat.add_zero, ← hm]; exact (hS.slots (by repeat (first | exact trivial | refine ⟨rfl, ?_⟩))).pick (by repeat (first | exact Pick.nil | (refine Pick.cons (by repeat (first | exact Rem.head | apply Rem.tail)) ?_))), .inr ⟨by omega, rfl, rfl⟩⟩
  clear hS a; (try clear w); intro a w hS
  obtain ⟨lo, hi, hS, hlh⟩ := hS
  have hlh' := hlh
  unfold cutR at hlh'
  have hlohi : lo ≤ hi := by omega
  refine c_seq (c_region ?_)
  refine L_e hS (e_move rfl) rfl ?_; clear hS a; intro a hS
  (first | refine L_e hS (e_binN rfl rfl rfl (by omega)) rfl ?_ | refine L_e hS (e_bin rfl rfl rfl) rfl ?_); clear hS a; intro a hS
  rw [show ((p + md + m : Nat) : Int) - 1 = ((p + md + m - 1 : Nat) : Int) from by omega] at hS
  refine L_e hS (e_assign rfl) rfl ?_; clear hS a; intro a hS
  refine L_nil (n_then (c_seq (wp_block ?_)))
  skip
  refine c_loop (γ := Nat × Nat) (fun G a w => St 220 (ownA 102 4 (.slice (some ⟨g, 0, none⟩) n c) n ((zs).flatMap encE)).F w0 a w [(20, .int .i64 ((p + G.1 : Nat) : Int)), (21, .int .i64 ((p + G.2 : Nat) : Int)), (22, .int .i64 ((p + md + m - 1 : Nat) : Int)), (18, .int .i64 ((p + md : Nat) : Int)), (19, .int .i64 ((p + md + m : Nat) : Int)), (0, .slice (some ⟨g, 0, none⟩) n c), (1, .int .i64 (p : Int)), (2, .int .i64 (m : Int)), (3, .int .i64 (e : Int)), (4, cmpV)] [(ownA 102 4 (.slice (some ⟨g, 0, none⟩) n c) n ((zs).flatMap encE))] ∧ (lo ≤ G.1 ∧ G.1 ≤ G.2 ∧ G.2 ≤ hi) ∧ (∀ t x y, lo ≤ t → t < G.1 → X[t]? = some x → Y[md - 1 - t]? = some y → ¬ y.v.at_ < x.v.at_) ∧ ∀ t x y, G.2 ≤ t → t < hi → X[t]? = some x → Y[md - 1 - t]? = some y → y.v.at_ < x.v.at_) (fun G => G.2 - G.1) (lo, hi) ⟨(hS.slots (by repeat (first | exact trivial | refine ⟨rfl, ?_⟩))).pick (by repeat (first | exact Pick.nil | (refine Pick.cons (by repeat (first | exact Rem.head | apply Rem.tail)) ?_))), ⟨Nat.le_refl _, hlohi, Nat.le_refl _⟩, fun t x y h1 h2 => absurd h2 (by simp only; omega), fun t x y h1 h2 => absurd h2 (by simp only at h1; omega)⟩ ?_
  clear hS a; (try clear w); intro G a w hI
  obtain ⟨k, l⟩ := G
  obtain ⟨hS, ⟨hk1, hk2, hk3⟩, q1, q2⟩ := hI
  simp only at hS hk1 hk2 hk3 q1 q2
  refine c_seq (c_seq (c_region ?_))
  refine L_e hS (e_move rfl) rfl ?_; clear hS a; intro a hS
  refine L_e hS (e_move rfl) rfl ?_; clear hS a; intro a hS
  refine L_e hS (e_bin rfl rfl rfl) rfl ?_; clear hS a; intro a hS
  refine L_nil (n_then ?_)
  first | refine c_ifD hS rfl (fun hc151 => ?_) (fun hc151 => ?_) | refine c_if hS rfl (fun hc151 => ?_) (fun hc151 => ?_)
  ·
    have hkl : k < l := by omega
    obtain ⟨r, hr⟩ : ∃ r, r = (k + l) / 2 := ⟨_, rfl⟩
    obtain ⟨xr, hxr⟩ : ∃ x, X[r]? = some x := ⟨X[r]'(by omega), List.getElem?_eq_getElem (by omega)⟩
    obtain ⟨yr, hyr⟩ : ∃ y, Y[md - 1 - r]? = some y := ⟨Y[md - 1 - r]'(by omega), List.getElem?_eq_getElem (by omega)⟩
    have g1 := get_at (zs := zs) hz hp hxr
    have g2 := get_at (zs := zs) hzY hAX hyr
    refine wp_skip (n_then (wp_block (c_seq (c_region ?_))))
    refine L_e hS (e_move rfl) rfl ?_; clear hS a; intro a hS
    refine L_e hS (e_move rfl) rfl ?_; clear hS a; intro a hS
    (first | refine L_e hS (e_binN rfl rfl rfl (by omega)) rfl ?_ | refine L_e hS (e_bin rfl rfl rfl) rfl ?_); clear hS a; intro a hS
    rw [show ((p + k : Nat) : Int) + ((p + l : Nat) : Int) = ((p + k + (p + l) : Nat) : Int) from by omega] at hS
    (first | refine L_e hS (e_convN rfl ty_u3 ty_u189 (by omega)) rfl ?_ | refine L_e hS (e_conv rfl ty_u3 ty_u189) rfl ?_); clear hS a; intro a hS
    rw [IntWalk.u64_in _ (by omega)] at hS
    refine L_e hS (e_shr (j := 1) rfl (by decide)) rfl ?_; clear hS a; intro a hS
    rw [show ((p + k + (p + l) : Nat) : Int) / 2 ^ 1 = ((p + r : Nat) : Int) from by omega] at hS
    (first | refine L_e hS (e_convN rfl ty_u189 ty_u3 (by omega)) rfl ?_ | refine L_e hS (e_conv rfl ty_u189 ty_u3) rfl ?_); clear hS a; intro a hS
    refine L_e hS (e_assign rfl) rfl ?_; clear hS a; intro a hS
    refine L_nil (n_then (c_seq ?_))
    refine c_drawS [] (by kernel_rfl) hS (sub_cons (X := (ownA 102 4 (.slice (some ⟨g, 0, none⟩) n c) n ((zs).flatMap encE))) (by repeat constructor) sub_nil) ?_; clear hS; (try clear w); intro w hS
    simp only [List.length_cons, List.length_nil, Nat.zero_add, Nat.reduceAdd, List.replicate]
    refine Zt0 0 (tf 1 13) hS rfl want_none (e_move rfl) rfl (by kernel_rfl) rfl ?_; clear hS a; intro a hS
    refine Zt0 1 (tf 2 12) hS rfl want_none (e_move rfl) rfl (by kernel_rfl) rfl ?_; clear hS a; intro a hS
    refine Zt0 2 (tf 3 11) hS rfl want_none (e_move rfl) rfl (by kernel_rfl) rfl ?_; clear hS a; intro a hS
    refine Zt0 3 (tf 4 10) hS rfl want_none (e_move rfl) rfl (by kernel_rfl) rfl ?_; clear hS a; intro a hS
    (first | refine Zt0 4 (tf 5 9) hS rfl want_none (e_binN rfl rfl rfl (by omega)) rfl (by kernel_rfl) rfl ?_ | refine Zt0 4 (tf 5 9) hS rfl want_none (e_bin rfl rfl rfl) rfl (by kernel_rfl) rfl ?_); clear hS a; intro a hS
    rw [show ((p + md + m - 1 : Nat) : Int) - ((p + r : Nat) : Int) = ((m + (md - 1 - r) : Nat) : Int) from by omega] at hS
    refine Zt0 5 (tf 6 8) hS rfl want_none (e_ixN rfl rfl ty_sl86 ty_sz102 (by omega)) rfl (by kernel_rfl) rfl ?_; clear hS a; intro a hS
    refine Zt 6 (tf 7 7) hS rfl want_none (e_loadAC (l := encE yr) rfl ty_st102 ty_sz102 (own_getL (enc := encE) (s := 4) (fun _ => rfl) (by repeat constructor) g2)) rfl (by kernel_rfl) (sub_cons (by repeat constructor) sub_nil) rfl ?_; clear hS a; intro a hS
    refine Zt0 7 (tf 8 6) hS rfl want_none (e_move rfl) rfl (by kernel_rfl) rfl ?_; clear hS a; intro a hS
    refine Zt0 8 (tf 9 5) hS rfl want_none (e_move rfl) rfl (by kernel_rfl) rfl ?_; clear hS a; intro a hS
    refine Zt0 9 (tf 10 4) hS rfl want_none (e_ixN rfl rfl ty_sl86 ty_sz102 (by omega)) rfl (by kernel_rfl) rfl ?_; clear hS a; intro a hS
    refine Zt 10 (tf 11 3) hS rfl want_none (e_loadAC (l := encE xr) rfl ty_st102 ty_sz102 (own_getL (enc := encE) (s := 4) (fun _ => rfl) (by repeat constructor) g1)) rfl (by kernel_rfl) (sub_cons (by repeat constructor) sub_nil) rfl ?_; clear hS a; intro a hS
    refine Z_one (i := 11) rfl (want_none a hS.sl) (listed' := (tf 12 2)) rfl (by kernel_rfl) (s_callvP (cs := []) hS rfl (.cons rfl (.cons rfl .nil)) cf85 rfl (lE1_P yr xr _) ?_); clear hS a; (try clear w); intro a w hS
    refine Z_and hS (sub_cons (by repeat constructor) sub_nil) ?_
    refine Zt0 12 (tf 13 1) hS rfl want_none (e_bin rfl rfl rfl) rfl (by kernel_rfl) rfl ?_; clear hS a; intro a hS
    refine Zt0 13 (tf 14 0) hS rfl want_none (e_not rfl) rfl (by kernel_rfl) rfl ?_; clear hS a; intro a hS
    refine Z_done (by kernel_rfl) ?_
    refine n_then ?_
    first | refine c_ifD hS rfl (fun hc171 => ?_) (fun hc171 => ?_) | refine c_if hS rfl (fun hc171 => ?_) (fun hc171 => ?_)
    ·
      have hge : ¬ yr.v.at_ < xr.v.at_ := fun e => by
        rw [decide_eq_true (cmpI_neg.2 e)] at hc171; cases hc171
      refine c_region ?_
      refine L_e hS (e_move rfl) rfl ?_; clear hS a; intro a hS
      (first | refine L_e hS (e_binN rfl rfl rfl (by omega)) rfl ?_ | refine L_e hS (e_bin rfl rfl rfl) rfl ?_); clear hS a; intro a hS
      refine L_e hS (e_assign rfl) rfl ?_; clear hS a; intro a hS
      refine L_nil (n_block ?_)
      first
      | (have hlt := hge
         refine ⟨(r + 1, l), by simp only; omega, ?_, ⟨by simp only; omega, by simp only; omega, hk3⟩, fun t x y h1 h2 hx hy => ?_, q2⟩
         · simp only
           rw [show ((p + (r + 1) : Nat) : Int) = ((p + r : Nat) : Int) + 1 from by omega]
           exact (hS.slots (by repeat (first | exact trivial | refine ⟨rfl, ?_⟩))).pick (by repeat (first | exact Pick.nil | (refine Pick.cons (by repeat (first | exact Rem.head | apply Rem.tail)) ?_)))
         · simp only at h2
           have z1 := srt_le hX hx hxr (by omega)
           have z2 := srt_le hY hyr hy (by omega)
           omega)
      | (have hl2 := hlt
         refine ⟨(k, r), by simp only; omega, (hS.slots (by repeat (first | exact trivial | refine ⟨rfl, ?_⟩))).pick (by repeat (first | exact Pick.nil | (refine Pick.cons (by repeat (first | exact Rem.head | apply Rem.tail)) ?_))), ⟨hk1, by simp only; omega, by simp only; omega⟩, q1, fun t x y h1 h2 hx hy => ?_⟩
         simp only at h1
         have z1 := srt_le hX hxr hx (by omega)
         have z2 := srt_le hY hy hyr (by omega)
         omega)
    have hlt : yr.v.at_ < xr.v.at_ := cmpI_neg.1 (by simpa using hc171)
    refine c_region ?_
    refine L_e hS (e_move rfl) rfl ?_; clear hS a; intro a hS
    refine L_e hS (e_assign rfl) rfl ?_; clear hS a; intro a hS
    refine L_nil (n_block ?_)
    first
    | (have hlt := hge
       refine ⟨(r + 1, l), by simp only; omega, ?_, ⟨by simp only; omega, by simp only; omega, hk3⟩, fun t x y h1 h2 hx hy => ?_, q2⟩
       · simp only
         rw [show ((p + (r + 1) : Nat) : Int) = ((p + r : Nat) : Int) + 1 from by omega]
         exact (hS.slots (by repeat (first | exact trivial | refine ⟨rfl, ?_⟩))).pick (by repeat (first | exact Pick.nil | (refine Pick.cons (by repeat (first | exact Rem.head | apply Rem.tail)) ?_)))
       · simp only at h2
         have z1 := srt_le hX hx hxr (by omega)
         have z2 := srt_le hY hyr hy (by omega)
         omega)
    | (have hl2 := hlt
       refine ⟨(k, r), by simp only; omega, (hS.slots (by repeat (first | exact trivial | refine ⟨rfl, ?_⟩))).pick (by repeat (first | exact Pick.nil | (refine Pick.cons (by repeat (first | exact Rem.head | apply Rem.tail)) ?_))), ⟨hk1, by simp only; omega, by simp only; omega⟩, q1, fun t x y h1 h2 hx hy => ?_⟩
       simp only at h1
       have z1 := srt_le hX hxr hx (by omega)
       have z2 := srt_le hY hy hyr (by omega)
       omega)
  obtain rfl : k = l := by omega
  have hcut := cut_ok hX hY hmd hlh hk1 hk3 q1 q2
  have hcu := hcut.hu
  have hcv := hcut.hv
  have hkm : k ≤ md := by omega
  have hz1 : zs = (A ++ X.take k) ++ (X.drop k ++ (Y.take (md - k) ++ (Y.drop (md - k) ++ B))) := by
    rw [List.append_assoc, ← List.append_assoc (X.take k), List.take_append_drop, ← List.append_assoc (Y.take (md - k)), List.take_append_drop]; exact hz
  refine wp_exit ?_
  refine x_then (x_then (x_hit ?_))
  refine n_then (c_seq (c_region ?_))
  refine L_e hS (e_move rfl) rfl ?_; clear hS a; intro a hS
  refine L_e hS (e_move rfl) rfl ?_; clear hS a; intro a hS
  (first | refine L_e hS (e_binN rfl rfl rfl (by omega)) rfl ?_ | refine L_e hS (e_bin rfl rfl rfl) rfl ?_); clear hS a; intro a hS
  rw [show ((p + md + m : Nat) : Int) - ((p + k : Nat) : Int) = ((m + (md - k) : Nat) : Int) from by omega] at hS
  refine L_e hS (e_assign rfl) rfl ?_; clear hS a; intro a hS
  refine L_nil (n_then ?_)
  refine c_cut (fun a w => St 220 (ownA 102 4 (.slice (some ⟨g, 0, none⟩) n c) n ((zs).flatMap encE)).F w0 a w [(20, .int .i64 ((p + k : Nat) : Int)), (24, .int .i64 ((m + (md - k) : Nat) : Int)), (18, .int .i64 ((p + md : Nat) : Int)), (0, .slice (some ⟨g, 0, none⟩) n c), (1, .int .i64 (p : Int)), (2, .int .i64 (m : Int)), (3, .int .i64 (e : Int)), (4, cmpV)] [(ownA 102 4 (.slice (some ⟨g, 0, none⟩) n c) n ((A ++ ((X.take k ++ Y.take (md - k)) ++ ((X.drop k ++ Y.drop (md - k)) ++ B))).flatMap encE))]) ?_ ?_
  ·
    refine c_seq (c_region ?_)
    refine L_e hS (e_move rfl) rfl ?_; clear hS a; intro a hS
    refine L_e hS (e_move rfl) rfl ?_; clear hS a; intro a hS
    refine L_e hS (e_bin rfl rfl rfl) rfl ?_; clear hS a; intro a hS
    refine L_e hS (e_move rfl) rfl ?_; clear hS a; intro a hS
    refine L_merge 4 185 (.bool (decide (k < X.length ∧ k < md))) hS ?_ ?_
    · intro hcM185
      (first | refine g_splitD (t := 181) hS rfl ?_ ?_ | refine g_split (t := 181) hS rfl ?_ ?_) <;> (clear hS; intro hg181 hS)
      ·
        refine L_ge hS rfl rfl (e_move rfl) rfl ?_; clear hS a; intro a hS
        refine L_ge hS rfl rfl (e_move rfl) rfl ?_; clear hS a; intro a hS
        refine L_ge hS rfl rfl (e_bin rfl rfl rfl) rfl ?_; clear hS a; intro a hS
        refine L_e hS (e_pk rfl rfl) rfl ?_; clear hS a; intro a hS
        exact hcM185 _ _ (hS.ends 5 185 181 rfl (congrArg Value.bool (by rw [decide_eq_decide]; omega)) rfl rfl (by first | exact congrArg Value.bool (decide_eq_true hg181).symm | exact congrArg Value.bool hg181.symm | simp [hg181]) rfl)
      refine L_skip_t hS rfl rfl rfl ?_; clear hS a; intro a hS
      refine L_skip_t hS rfl rfl rfl ?_; clear hS a; intro a hS
      refine L_skip_t hS rfl rfl rfl ?_; clear hS a; intro a hS
      refine L_e hS (e_pk rfl rfl) rfl ?_; clear hS a; intro a hS
      exact hcM185 _ _ (hS.ends 5 185 181 rfl (congrArg Value.bool (by exact (decide_eq_false (by omega)).symm)) rfl rfl (by first | exact congrArg Value.bool (decide_eq_false hg181).symm | exact congrArg Value.bool hg181.symm | simp [hg181]) rfl)
    · clear hS a; (try clear w); intro a w hS
      simp only [List.drop_succ_cons, List.drop_zero]
      refine L_nil (n_then ?_)
      first | refine c_ifD hS rfl (fun hc185 => ?_) (fun hc185 => ?_) | refine c_if hS rfl (fun hc185 => ?_) (fun hc185 => ?_)
      ·
        refine c_region ?_
        refine L_e hS (e_move rfl) rfl ?_; clear hS a; intro a hS
        refine L_e hS (e_move rfl) rfl ?_; clear hS a; intro a hS
        refine L_e hS (e_move rfl) rfl ?_; clear hS a; intro a hS
        refine L_e hS (e_move rfl) rfl ?_; clear hS a; intro a hS
        refine L_e hS (e_move rfl) rfl ?_; clear hS a; intro a hS
        refine L_op (s_callM hS (.cons rfl (.cons rfl (.cons rfl (.cons rfl (.cons rfl .nil))))) cf145 rfl (rotate_P g n c (p + k) m (m + (md - k)) (A ++ X.take k) (X.drop k) (Y.take (md - k)) (Y.drop (md - k) ++ B) zs (A ++ ((X.take k ++ Y.take (md - k)) ++ ((X.drop k ++ Y.drop (md - k)) ++ B))) hz1 (by simp) (by rw [List.length_append, List.length_take]; omega) (by rw [List.length_drop]; omega) (by rw [List.length_take]; omega) (by rw [List.length_drop]; omega) (by rw [List.length_take]; omega) hn hN _ (hS.ok (ownA 102 4 (.slice (some ⟨g, 0, none⟩) n c) n ((zs).flatMap encE)) (by repeat constructor))) (fun x => (by repeat constructor)) rfl ?_); clear hS a; (try clear w); intro x191 a w hS
        refine L_nil ?_
        first
        | (have hx := x191
           exact (hS.slots (by repeat (first | exact trivial | refine ⟨rfl, ?_⟩))).pick (by repeat (first | exact Pick.nil | (refine Pick.cons (by repeat (first | exact Rem.head | apply Rem.tail)) ?_))))
        | (have ez : zs = A ++ ((X.take k ++ Y.take (md - k)) ++ ((X.drop k ++ Y.drop (md - k)) ++ B)) := by
             rw [hz1]
             by_cases e1 : k < X.length
             · rw [show md - k = 0 from by omega, List.take_zero, List.drop_zero]; simp
             · rw [List.drop_of_length_le (show X.length ≤ k by omega)]; simp
           rw [← ez]
           exact (hS.slots (by repeat (first | exact trivial | refine ⟨rfl, ?_⟩))).pick (by repeat (first | exact Pick.nil | (refine Pick.cons (by repeat (first | exact Rem.head | apply Rem.tail)) ?_))))
      refine wp_skip ?_
      first
      | (have hx := x191
         exact (hS.slots (by repeat (first | exact trivial | refine ⟨rfl, ?_⟩))).pick (by repeat (first | exact Pick.nil | (refine Pick.cons (by repeat (first | exact Rem.head | apply Rem.tail)) ?_))))
      | (have ez : zs = A ++ ((X.take k ++ Y.take (md - k)) ++ ((X.drop k ++ Y.drop (md - k)) ++ B)) := by
           rw [hz1]
           by_cases e1 : k < X.length
           · rw [show md - k = 0 from by omega, List.take_zero, List.drop_zero]; simp
           · rw [List.drop_of_length_le (show X.length ≤ k by omega)]; simp
         rw [← ez]
         exact (hS.slots (by repeat (first | exact trivial | refine ⟨rfl, ?_⟩))).pick (by repeat (first | exact Pick.nil | (refine Pick.cons (by repeat (first | exact Rem.head | apply Rem.tail)) ?_))))
  clear hS a; (try clear w); intro a w hS
  have lX1 : (X.take k).length = k := by rw [List.length_take]; omega
  have lY1 : (Y.take (md - k)).length = md - k := by rw [List.length_take]; omega
  have lX2 : (X.drop k).length = X.length - k := List.length_drop
  have lY2 : (Y.drop (md - k)).length = Y.length - (md - k) := List.length_drop
  have pX := hX
  have pY := hY
  rw [← List.take_append_drop k X] at pX
  rw [← List.take_append_drop (md - k) Y] at pY
  obtain ⟨pX1, pX2, _⟩ := List.pairwise_append.1 pX
  obtain ⟨pY1, pY2, _⟩ := List.pairwise_append.1 pY
  have lz2 : (A ++ ((X.take k ++ Y.take (md - k)) ++ ((X.drop k ++ Y.drop (md - k)) ++ B))).length = n := by simp only [List.length_append]; omega
  refine c_cut (fun a w => ∃ S1 : List EA, St 220 (ownA 102 4 (.slice (some ⟨g, 0, none⟩) n c) n ((zs).flatMap encE)).F w0 a w [(24, .int .i64 ((m + (md - k) : Nat) : Int)), (18, .int .i64 ((p + md : Nat) : Int)), (0, .slice (some ⟨g, 0, none⟩) n c), (3, .int .i64 (e : Int)), (4, cmpV)] [(ownA 102 4 (.slice (some ⟨g, 0, none⟩) n c) n ((A ++ (S1 ++ ((X.drop k ++ Y.drop (md - k)) ++ B))).flatMap encE))] ∧ IsS (X.take k ++ Y.take (md - k)) S1) ?_ ?_
  ·
    refine c_seq (c_region ?_)
    refine L_e hS (e_move rfl) rfl ?_; clear hS a; intro a hS
    refine L_e hS (e_move rfl) rfl ?_; clear hS a; intro a hS
    refine L_e hS (e_bin rfl rfl rfl) rfl ?_; clear hS a; intro a hS
    refine L_e hS (e_move rfl) rfl ?_; clear hS a; intro a hS
    refine L_merge 4 199 (.bool (decide (0 < k ∧ k < md))) hS ?_ ?_
    · intro hcM199
      (first | refine g_splitD (t := 195) hS rfl ?_ ?_ | refine g_split (t := 195) hS rfl ?_ ?_) <;> (clear hS; intro hg195 hS)
      ·
        refine L_ge hS rfl rfl (e_move rfl) rfl ?_; clear hS a; intro a hS
        refine L_ge hS rfl rfl (e_move rfl) rfl ?_; clear hS a; intro a hS
        refine L_ge hS rfl rfl (e_bin rfl rfl rfl) rfl ?_; clear hS a; intro a hS
        refine L_e hS (e_pk rfl rfl) rfl ?_; clear hS a; intro a hS
        exact hcM199 _ _ (hS.ends 5 199 195 rfl (congrArg Value.bool (by rw [decide_eq_decide]; omega)) rfl rfl (by first | exact congrArg Value.bool (decide_eq_true hg195).symm | exact congrArg Value.bool hg195.symm | simp [hg195]) rfl)
      refine L_skip_t hS rfl rfl rfl ?_; clear hS a; intro a hS
      refine L_skip_t hS rfl rfl rfl ?_; clear hS a; intro a hS
      refine L_skip_t hS rfl rfl rfl ?_; clear hS a; intro a hS
      refine L_e hS (e_pk rfl rfl) rfl ?_; clear hS a; intro a hS
      exact hcM199 _ _ (hS.ends 5 199 195 rfl (congrArg Value.bool (by exact (decide_eq_false (by omega)).symm)) rfl rfl (by first | exact congrArg Value.bool (decide_eq_false hg195).symm | exact congrArg Value.bool hg195.symm | simp [hg195]) rfl)
    · clear hS a; (try clear w); intro a w hS
      simp only [List.drop_succ_cons, List.drop_zero]
      refine L_nil (n_then ?_)
      first | refine c_ifD hS rfl (fun hc199 => ?_) (fun hc199 => ?_) | refine c_if hS rfl (fun hc199 => ?_) (fun hc199 => ?_)
      ·
        refine c_region ?_
        refine L_e hS (e_move rfl) rfl ?_; clear hS a; intro a hS
        refine L_e hS (e_move rfl) rfl ?_; clear hS a; intro a hS
        refine L_e hS (e_move rfl) rfl ?_; clear hS a; intro a hS
        refine L_e hS (e_move rfl) rfl ?_; clear hS a; intro a hS
        refine L_e hS (e_move rfl) rfl ?_; clear hS a; intro a hS
        refine L_op (s_callM hS (.cons rfl (.cons rfl (.cons rfl (.cons rfl (.cons rfl .nil))))) cf128 rfl (ih p (p + k) (p + md) A (X.take k) (Y.take (md - k)) ((X.drop k ++ Y.drop (md - k)) ++ B) _ (by simp) (by omega) (by omega) pX1 pY1 (hc.sub (fun _ h => List.mem_of_mem_take h) (fun _ h => List.mem_of_mem_take h)) hp (by omega) (by omega) (by omega) lz2 _ (hS.ok (ownA 102 4 (.slice (some ⟨g, 0, none⟩) n c) n ((A ++ ((X.take k ++ Y.take (md - k)) ++ ((X.drop k ++ Y.drop (md - k)) ++ B))).flatMap encE)) (by repeat constructor))) (fun x => (by repeat constructor)) rfl ?_); clear hS a; (try clear w); intro x205 a w hS
        refine L_nil ?_
        first
        | exact ⟨x205.1, (hS.slots (by repeat (first | exact trivial | refine ⟨rfl, ?_⟩))).pick (by repeat (first | exact Pick.nil | (refine Pick.cons (by repeat (first | exact Rem.head | apply Rem.tail)) ?_))), x205.2⟩
        | (refine ⟨X.take k ++ Y.take (md - k), (hS.slots (by repeat (first | exact trivial | refine ⟨rfl, ?_⟩))).pick (by repeat (first | exact Pick.nil | (refine Pick.cons (by repeat (first | exact Rem.head | apply Rem.tail)) ?_))), .refl _, ?_⟩
           by_cases e1 : 0 < k
           · rw [show md - k = 0 from by omega, List.take_zero, List.append_nil]; exact pX1
           · rw [show k = 0 from by omega, List.take_zero, List.nil_append]
             rw [show k = 0 from by omega] at pY1; exact pY1)
      refine wp_skip ?_
      first
      | exact ⟨x205.1, (hS.slots (by repeat (first | exact trivial | refine ⟨rfl, ?_⟩))).pick (by repeat (first | exact Pick.nil | (refine Pick.cons (by repeat (first | exact Rem.head | apply Rem.tail)) ?_))), x205.2⟩
      | (refine ⟨X.take k ++ Y.take (md - k), (hS.slots (by repeat (first | exact trivial | refine ⟨rfl, ?_⟩))).pick (by repeat (first | exact Pick.nil | (refine Pick.cons (by repeat (first | exact Rem.head | apply Rem.tail)) ?_))), .refl _, ?_⟩
         by_cases e1 : 0 < k
         · rw [show md - k = 0 from by omega, List.take_zero, List.append_nil]; exact pX1
         · rw [show k = 0 from by omega, List.take_zero, List.nil_append]
           rw [show k = 0 from by omega] at pY1; exact pY1)
  clear hS a; (try clear w); intro a w hS
  obtain ⟨S1, hS, hS1⟩ := hS
  have lS1 := hS1.len
  rw [List.length_append, lX1, lY1] at lS1
  refine c_seq (c_region ?_)
  refine L_e hS (e_move rfl) rfl ?_; clear hS a; intro a hS
  refine L_e hS (e_move rfl) rfl ?_; clear hS a; intro a hS
  refine L_e hS (e_bin rfl rfl rfl) rfl ?_; clear hS a; intro a hS
  refine L_e hS (e_move rfl) rfl ?_; clear hS a; intro a hS
  refine L_merge 4 213 (.bool (decide (k < X.length ∧ md - k < Y.length))) hS ?_ ?_
  · intro hcM213
    (first | refine g_splitD (t := 209) hS rfl ?_ ?_ | refine g_split (t := 209) hS rfl ?_ ?_) <;> (clear hS; intro hg209 hS)
    ·
      refine L_ge hS rfl rfl (e_move rfl) rfl ?_; clear hS a; intro a hS
      refine L_ge hS rfl rfl (e_move rfl) rfl ?_; clear hS a; intro a hS
      refine L_ge hS rfl rfl (e_bin rfl rfl rfl) rfl ?_; clear hS a; intro a hS
      refine L_e hS (e_pk rfl rfl) rfl ?_; clear hS a; intro a hS
      exact hcM213 _ _ (hS.ends 5 213 209 rfl (congrArg Value.bool (by rw [decide_eq_decide]; omega)) rfl rfl (by first | exact congrArg Value.bool (decide_eq_true hg209).symm | exact congrArg Value.bool hg209.symm | simp [hg209]) rfl)
    refine L_skip_t hS rfl rfl rfl ?_; clear hS a; intro a hS
    refine L_skip_t hS rfl rfl rfl ?_; clear hS a; intro a hS
    refine L_skip_t hS rfl rfl rfl ?_; clear hS a; intro a hS
    refine L_e hS (e_pk rfl rfl) rfl ?_; clear hS a; intro a hS
    exact hcM213 _ _ (hS.ends 5 213 209 rfl (congrArg Value.bool (by exact (decide_eq_false (by omega)).symm)) rfl rfl (by first | exact congrArg Value.bool (decide_eq_false hg209).symm | exact congrArg Value.bool hg209.symm | simp [hg209]) rfl)
  · clear hS a; (try clear w); intro a w hS
    simp only [List.drop_succ_cons, List.drop_zero]
    refine L_nil (n_then ?_)
    first | refine c_ifD hS rfl (fun hc213 => ?_) (fun hc213 => ?_) | refine c_if hS rfl (fun hc213 => ?_) (fun hc213 => ?_)
    ·
      refine c_region ?_
      refine L_e hS (e_move rfl) rfl ?_; clear hS a; intro a hS
      refine L_e hS (e_move rfl) rfl ?_; clear hS a; intro a hS
      refine L_e hS (e_move rfl) rfl ?_; clear hS a; intro a hS
      refine L_e hS (e_move rfl) rfl ?_; clear hS a; intro a hS
      refine L_e hS (e_move rfl) rfl ?_; clear hS a; intro a hS
      refine L_op (s_callM hS (.cons rfl (.cons rfl (.cons rfl (.cons rfl (.cons rfl .nil))))) cf128 rfl (ih (p + md) (m + (md - k)) e (A ++ S1) (X.drop k) (Y.drop (md - k)) B (A ++ (S1 ++ ((X.drop k ++ Y.drop (md - k)) ++ B))) (by simp) (by omega) (by omega) pX2 pY2 (hc.sub (fun _ h => List.mem_of_mem_drop h) (fun _ h => List.mem_of_mem_drop h)) (by rw [List.length_append]; omega) (by omega) (by omega) (by omega) (by simp only [List.length_append]; omega) _ (hS.ok (ownA 102 4 (.slice (some ⟨g, 0, none⟩) n c) n ((A ++ (S1 ++ ((X.drop k ++ Y.drop (md - k)) ++ B))).flatMap encE)) (by repeat constructor))) (fun x => (by repeat constructor)) rfl ?_); clear hS a; (try clear w); intro x219 a w hS
      refine L_nil (r_norm ?_)
      refine c_retN hS Tryz.results128 .nil rfl ?_
      first
      | (have hM := merge_halves hX hY hc hcut hS1 x219.2
         have hrow := hS.ok (ownA 102 4 (.slice (some ⟨g, 0, none⟩) n c) n (((A ++ S1) ++ (x219.1 ++ B)).flatMap encE)) (by repeat constructor)
         have hmine := hS.mine (ownA 102 4 (.slice (some ⟨g, 0, none⟩) n c) n (((A ++ S1) ++ (x219.1 ++ B)).flatMap encE)) (by repeat constructor) rfl
         rw [show (A ++ S1) ++ (x219.1 ++ B) = A ++ ((S1 ++ x219.1) ++ B) from by simp] at hrow hmine
         exact ⟨⟨S1 ++ x219.1, hM⟩, rfl, hS.chg, hrow, fun b hb => (hmine b hb).symm⟩)
      | (have hS2 : IsS (X.drop k ++ Y.drop (md - k)) (X.drop k ++ Y.drop (md - k)) := by
           refine ⟨.refl _, ?_⟩
           by_cases e1 : k < X.length
           · rw [List.drop_of_length_le (show Y.length ≤ md - k by omega), List.append_nil]; exact pX2
           · rw [List.drop_of_length_le (show X.length ≤ k by omega), List.nil_append]; exact pY2
         have hM := merge_halves hX hY hc hcut hS1 hS2
         have hrow := hS.ok (ownA 102 4 (.slice (some ⟨g, 0, none⟩) n c) n ((A ++ (S1 ++ ((X.drop k ++ Y.drop (md - k)) ++ B))).flatMap encE)) (by repeat constructor)
         have hmine := hS.mine (ownA 102 4 (.slice (some ⟨g, 0, none⟩) n c) n ((A ++ (S1 ++ ((X.drop k ++ Y.drop (md - k)) ++ B))).flatMap encE)) (by repeat constructor) rfl
         rw [show A ++ (S1 ++ ((X.drop k ++ Y.drop (md - k)) ++ B)) = A ++ ((S1 ++ (X.drop k ++ Y.drop (md - k))) ++ B) from by simp] at hrow hmine
         exact ⟨⟨S1 ++ (X.drop k ++ Y.drop (md - k)), hM⟩, rfl, hS.chg, hrow, fun b hb => (hmine b hb).symm⟩)
    refine wp_skip (r_norm ?_)
    refine c_retN hS Tryz.results128 .nil rfl ?_
    first
    | (have hM := merge_halves hX hY hc hcut hS1 x219.2
       have hrow := hS.ok (ownA 102 4 (.slice (some ⟨g, 0, none⟩) n c) n (((A ++ S1) ++ (x219.1 ++ B)).flatMap encE)) (by repeat constructor)
       have hmine := hS.mine (ownA 102 4 (.slice (some ⟨g, 0, none⟩) n c) n (((A ++ S1) ++ (x219.1 ++ B)).flatMap encE)) (by repeat constructor) rfl
       rw [show (A ++ S1) ++ (x219.1 ++ B) = A ++ ((S1 ++ x219.1) ++ B) from by simp] at hrow hmine
       exact ⟨⟨S1 ++ x219.1, hM⟩, rfl, hS.chg, hrow, fun b hb => (hmine b hb).symm⟩)
    | (have hS2 : IsS (X.drop k ++ Y.drop (md - k)) (X.drop k ++ Y.drop (md - k)) := by
         refine ⟨.refl _, ?_⟩
         by_cases e1 : k < X.length
         · rw [List.drop_of_length_le (show Y.length ≤ md - k by omega), List.append_nil]; exact pX2
         · rw [List.drop_of_length_le (show X.length ≤ k by omega), List.nil_append]; exact pY2
       have hM := merge_halves hX hY hc hcut hS1 hS2
       have hrow := hS.ok (ownA 102 4 (.slice (some ⟨g, 0, none⟩) n c) n ((A ++ (S1 ++ ((X.drop k ++ Y.drop (md - k)) ++ B))).flatMap encE)) (by repeat constructor)
       have hmine := hS.mine (ownA 102 4 (.slice (some ⟨g, 0, none⟩) n c) n ((A ++ (S1 ++ ((X.drop k ++ Y.drop (md - k)) ++ B))).flatMap encE)) (by repeat constructor) rfl
       rw [show A ++ (S1 ++ ((X.drop k ++ Y.drop (md - k)) ++ B)) = A ++ ((S1 ++ (X.drop k ++ Y.drop (md - k))) ++ B) from by simp] at hrow hmine
       exact ⟨⟨S1 ++ (X.drop k ++ Y.drop (md - k)), hM⟩, rfl, hS.chg, hrow, fun b hb => (hmine b hb).symm⟩)
theorem symm_P (g n c : Nat) (hN : n ≤ 1000000) : ∀ N, SymmAt g n c N
  | 0 => fun p m e A X Y B zs _ h1 _ _ _ _ _ _ _ h2 => absurd h2 (by omega)
  | N + 1 => symm_step g n c N hN (symm_P g n c hN N)
end Go.Proofs.YtheofhegdjjfgaaGreat

namespace Go.Proofs.YtheofhegdjjfgaaGreat
open Go.RowKit
theorem split3 {α : Type} (k s : Nat) (l : List α) : l = l.take k ++ ((l.drop k).take s ++ l.drop (k + s)) := by
  rw [← List.drop_drop, List.take_append_drop, List.take_append_drop]
theorem Ids.sub {l r : List EA} (h : Ids l) (hs : List.Sublist r l) : Ids r := List.Pairwise.sublist hs h
theorem blk_len (s t : Nat) (l : List EA) : (blkE s t l).length = min s (l.length - t * s) := by unfold blkE; rw [List.length_take, List.length_drop]
set_option maxHeartbeats 2000000 in
set_option maxRecDepth 100000 in
theorem stable_P (g n c : Nat) (orig : List EA) (hids : Ids orig) (hn : orig.length = n) (hN : n ≤ 1000000) (w0 : World) (h : (ownA 102 4 (.slice (some ⟨g, 0, none⟩) n c) n ((orig).flatMap encE)).ok w0) :
    MutC Tryz.prog 111 [.slice (some ⟨g, 0, none⟩) n c, .int .i64 (n : Int), cmpV] w0 (ownA 102 4 (.slice (some ⟨g, 0, none⟩) n c) n ((orig).flatMap encE)) (fun _ : { S // IsS orig S } => .tuple #[]) (fun S => (ownA 102 4 (.slice (some ⟨g, 0, none⟩) n c) n ((S.1).flatMap encE))) := by
  refine c_enter [(0, .slice (some ⟨g, 0, none⟩) n c), (1, .int .i64 (n : Int)), (2, cmpV)] [(ownA 102 4 (.slice (some ⟨g, 0, none⟩) n c) n ((orig).flatMap encE))] (ownA 102 4 (.slice (some ⟨g, 0, none⟩) n c) n ((orig).flatMap encE)).F Tryz.func111 rfl Tryz.ntmps111 ⟨rfl, rfl, rfl, trivial⟩ rfl (okC h okN) dis1 (mineO (fun _ hb => hb) mineN) ?_
  intro a hS
  refine c_seq (c_region ?_)
  refine L_e hS (e_assign rfl) rfl ?_; clear hS a; intro a hS
  refine L_nil (n_then (c_seq (c_region ?_)))
  refine L_e hS (e_move rfl) rfl ?_; clear hS a; intro a hS
  refine L_e hS (e_assign rfl) rfl ?_; clear hS a; intro a hS
  refine L_e hS (e_assign rfl) rfl ?_; clear hS a; intro a hS
  refine L_nil (n_then (c_seq (wp_block ?_)))
  skip
  refine c_loop (γ := Nat × List EA) (fun G a w => St 63 (ownA 102 4 (.slice (some ⟨g, 0, none⟩) n c) n ((orig).flatMap encE)).F w0 a w [(7, .int .i64 ((G.1 * 20 : Nat) : Int)), (8, .int .i64 ((G.1 * 20 + 20 : Nat) : Int)), (6, .int .i64 20), (0, .slice (some ⟨g, 0, none⟩) n c), (1, .int .i64 (n : Int)), (2, cmpV)] [(ownA 102 4 (.slice (some ⟨g, 0, none⟩) n c) n ((G.2).flatMap encE))] ∧ Ins 20 G.1 orig G.2 ∧ G.1 * 20 ≤ n) (fun G => n - G.1 * 20) (0, orig) ⟨(hS.slots (by repeat (first | exact trivial | refine ⟨rfl, ?_⟩))).pick (by repeat (first | exact Pick.nil | (refine Pick.cons (by repeat (first | exact Rem.head | apply Rem.tail)) ?_))), ⟨rfl, fun t ht => absurd ht (Nat.not_lt_zero t), rfl⟩, by simp⟩ ?_
  clear hS a; (try clear w); intro G a w hI
  obtain ⟨T, zs⟩ := G
  obtain ⟨hS, hio, hT⟩ := hI
  simp only at hS hio hT
  have hzl : zs.length = n := hio.len.trans hn
  refine c_seq (c_seq (c_region ?_))
  refine L_e hS (e_move rfl) rfl ?_; clear hS a; intro a hS
  refine L_e hS (e_move rfl) rfl ?_; clear hS a; intro a hS
  refine L_e hS (e_bin rfl rfl rfl) rfl ?_; clear hS a; intro a hS
  refine L_nil (n_then ?_)
  first | refine c_ifD hS rfl (fun hc13 => ?_) (fun hc13 => ?_) | refine c_if hS rfl (fun hc13 => ?_) (fun hc13 => ?_)
  ·
    have hb : T * 20 + 20 ≤ n := by omega
    have hz := split3 (T * 20) 20 zs
    have hsg : Ids ((zs.drop (T * 20)).take 20) := by rw [hio.rest]; exact hids.sub ((List.take_sublist _ _).trans (List.drop_sublist _ _))
    have hlA : (zs.take (T * 20)).length = T * 20 := by rw [List.length_take]; omega
    have hlS : ((zs.drop (T * 20)).take 20).length = 20 := by rw [List.length_take, List.length_drop]; omega
    refine wp_skip (n_then (wp_block (c_seq (c_region ?_))))
    refine L_e hS (e_move rfl) rfl ?_; clear hS a; intro a hS
    refine L_e hS (e_move rfl) rfl ?_; clear hS a; intro a hS
    refine L_e hS (e_move rfl) rfl ?_; clear hS a; intro a hS
    refine L_e hS (e_move rfl) rfl ?_; clear hS a; intro a hS
    refine L_op (s_callM hS (.cons rfl (.cons rfl (.cons rfl (.cons rfl .nil)))) cf127 rfl (insort_P g n c (T * 20) (T * 20 + 20) (zs.take (T * 20)) ((zs.drop (T * 20)).take 20) (zs.drop (T * 20 + 20)) zs hz hsg hlA.symm (by rw [hlS]) hzl hN _ (hS.ok (ownA 102 4 (.slice (some ⟨g, 0, none⟩) n c) n ((zs).flatMap encE)) (by repeat constructor))) (fun x => (by repeat constructor)) rfl ?_); clear hS a; (try clear w); intro x18 a w hS
    refine L_nil (n_then (c_seq (c_region ?_)))
    refine L_e hS (e_move rfl) rfl ?_; clear hS a; intro a hS
    refine L_e hS (e_assign rfl) rfl ?_; clear hS a; intro a hS
    refine L_nil (n_then (c_region ?_))
    refine L_e hS (e_move rfl) rfl ?_; clear hS a; intro a hS
    refine L_e hS (e_move rfl) rfl ?_; clear hS a; intro a hS
    (first | refine L_e hS (e_binN rfl rfl rfl (by omega)) rfl ?_ | refine L_e hS (e_bin rfl rfl rfl) rfl ?_); clear hS a; intro a hS
    refine L_e hS (e_assign rfl) rfl ?_; clear hS a; intro a hS
    refine L_nil (n_block ?_)
    have hst := hio.step hlA hz (zs' := zs.take (T * 20) ++ (x18.1 ++ zs.drop (T * 20 + 20))) rfl (.inl hlS) x18.2
    refine ⟨(T + 1, zs.take (T * 20) ++ (x18.1 ++ zs.drop (T * 20 + 20))), by simp only; omega, ?_, hst, by simp only; omega⟩
    simp only
    rw [show (((T + 1) * 20 : Nat) : Int) = ((T * 20 + 20 : Nat) : Int) from by omega, show (((T + 1) * 20 + 20 : Nat) : Int) = ((T * 20 + 20 : Nat) : Int) + 20 from by omega]
    exact (hS.slots (by repeat (first | exact trivial | refine ⟨rfl, ?_⟩))).pick (by repeat (first | exact Pick.nil | (refine Pick.cons (by repeat (first | exact Rem.head | apply Rem.tail)) ?_)))
  have hb : n < T * 20 + 20 := by omega
  have hlA : (zs.take (T * 20)).length = T * 20 := by rw [List.length_take]; omega
  have hsg : Ids (zs.drop (T * 20)) := by rw [hio.rest]; exact hids.sub (List.drop_sublist _ _)
  have hlS : (zs.drop (T * 20)).length = n - T * 20 := by rw [List.length_drop]; omega
  have hz : zs = zs.take (T * 20) ++ (zs.drop (T * 20) ++ []) := by rw [List.append_nil, List.take_append_drop]
  refine wp_exit ?_
  refine x_then (x_then (x_hit ?_))
  refine n_then (c_seq (c_region ?_))
  refine L_e hS (e_move rfl) rfl ?_; clear hS a; intro a hS
  refine L_e hS (e_move rfl) rfl ?_; clear hS a; intro a hS
  refine L_e hS (e_move rfl) rfl ?_; clear hS a; intro a hS
  refine L_e hS (e_move rfl) rfl ?_; clear hS a; intro a hS
  refine L_op (s_callM hS (.cons rfl (.cons rfl (.cons rfl (.cons rfl .nil)))) cf127 rfl (insort_P g n c (T * 20) n (zs.take (T * 20)) (zs.drop (T * 20)) [] zs hz hsg hlA.symm (by omega) hzl hN _ (hS.ok (ownA 102 4 (.slice (some ⟨g, 0, none⟩) n c) n ((zs).flatMap encE)) (by repeat constructor))) (fun x => (by repeat constructor)) rfl ?_); clear hS a; (try clear w); intro x27 a w hS
  have hst := hio.step hlA hz (zs' := zs.take (T * 20) ++ (x27.1 ++ [])) rfl (.inr ⟨rfl, by omega⟩) x27.2
  have hha := hst.all (by omega)
  generalize zs.take (T * 20) ++ (x27.1 ++ []) = z1 at hS hha
  refine L_nil (n_then (wp_block ?_))
  skip
  refine c_loop (γ := Nat × List EA) (fun G a w => St 63 (ownA 102 4 (.slice (some ⟨g, 0, none⟩) n c) n ((orig).flatMap encE)).F w0 a w [(6, .int .i64 (G.1 : Int)), (0, .slice (some ⟨g, 0, none⟩) n c), (1, .int .i64 (n : Int)), (2, cmpV)] [(ownA 102 4 (.slice (some ⟨g, 0, none⟩) n c) n ((G.2).flatMap encE))] ∧ Half G.1 0 orig G.2 ∧ 0 < G.1 ∧ G.1 ≤ 2000040) (fun G => n - G.1) (20, z1) ⟨(hS.slots (by repeat (first | exact trivial | refine ⟨rfl, ?_⟩))).pick (by repeat (first | exact Pick.nil | (refine Pick.cons (by repeat (first | exact Rem.head | apply Rem.tail)) ?_))), hha, by simp, by simp⟩ ?_
  clear hS a; (try clear w); intro G a w hI
  obtain ⟨s, z2⟩ := G
  obtain ⟨hS, hh, hs0, hs1⟩ := hI
  simp only at hS hh hs0 hs1
  refine c_seq (c_seq (c_region ?_))
  refine L_e hS (e_move rfl) rfl ?_; clear hS a; intro a hS
  refine L_e hS (e_move rfl) rfl ?_; clear hS a; intro a hS
  refine L_e hS (e_bin rfl rfl rfl) rfl ?_; clear hS a; intro a hS
  refine L_nil (n_then ?_)
  first | refine c_ifD hS rfl (fun hc30 => ?_) (fun hc30 => ?_) | refine c_if hS rfl (fun hc30 => ?_) (fun hc30 => ?_)
  ·
    have hsn : s < n := by omega
    refine wp_skip (n_then (wp_block (c_seq (c_region ?_))))
    refine L_e hS (e_move rfl) rfl ?_; clear hS a; intro a hS
    (first | refine L_e hS (e_binN rfl rfl rfl (by omega)) rfl ?_ | refine L_e hS (e_bin rfl rfl rfl) rfl ?_); clear hS a; intro a hS
    rw [show (2 : Int) * (s : Int) = ((2 * s : Nat) : Int) from by omega] at hS
    refine L_e hS (e_assign rfl) rfl ?_; clear hS a; intro a hS
    refine L_e hS (e_assign rfl) rfl ?_; clear hS a; intro a hS
    refine L_nil (n_then (c_seq (wp_block ?_)))
    skip
    refine c_loop (γ := Nat × List EA) (fun G a w => St 63 (ownA 102 4 (.slice (some ⟨g, 0, none⟩) n c) n ((orig).flatMap encE)).F w0 a w [(7, .int .i64 ((G.1 * (2 * s) : Nat) : Int)), (8, .int .i64 ((G.1 * (2 * s) + 2 * s : Nat) : Int)), (6, .int .i64 (s : Int)), (0, .slice (some ⟨g, 0, none⟩) n c), (1, .int .i64 (n : Int)), (2, cmpV)] [(ownA 102 4 (.slice (some ⟨g, 0, none⟩) n c) n ((G.2).flatMap encE))] ∧ Half s G.1 orig G.2 ∧ G.1 * (2 * s) ≤ n) (fun G => n - G.1 * (2 * s)) (0, z2) ⟨by simp only; rw [Nat.zero_mul, Nat.zero_add]; exact (hS.slots (by repeat (first | exact trivial | refine ⟨rfl, ?_⟩))).pick (by repeat (first | exact Pick.nil | (refine Pick.cons (by repeat (first | exact Rem.head | apply Rem.tail)) ?_))), hh, by simp⟩ ?_
    clear hS a; (try clear w); intro G a w hI
    obtain ⟨T, z3⟩ := G
    obtain ⟨hS, hh3, hT⟩ := hI
    simp only at hS hh3 hT
    have hzl : z3.length = n := hh3.len.trans hn
    have hst2 : T * (2 * s) = 2 * T * s := by rw [Nat.mul_comm 2 T, Nat.mul_assoc]
    have hst3 : (2 * T + 1) * s = T * (2 * s) + s := by rw [Nat.add_mul, hst2]; omega
    have hT1 : (T + 1) * (2 * s) = T * (2 * s) + 2 * s := by rw [Nat.add_mul]; omega
    have hlA : (z3.take (T * (2 * s))).length = T * (2 * s) := by rw [List.length_take]; omega
    have hlX : (blkE s (2 * T) z3).length = min s (n - T * (2 * s)) := by rw [blk_len, hzl, hst2]
    have hlY : (blkE s (2 * T + 1) z3).length = min s (n - (T * (2 * s) + s)) := by rw [blk_len, hzl, hst3]
    have hcr := blk_cross hids hh3
    have hsX := (hh3.one (2 * T) (Nat.le_refl _)).srt
    have hsY := (hh3.one (2 * T + 1) (by omega)).srt
    have hzz : z3 = z3.take (T * (2 * s)) ++ (blkE (2 * s) T z3 ++ z3.drop (T * (2 * s) + 2 * s)) := split3 (T * (2 * s)) (2 * s) z3
    have hz4 : z3 = z3.take (T * (2 * s)) ++ (blkE s (2 * T) z3 ++ (blkE s (2 * T + 1) z3 ++ z3.drop (T * (2 * s) + 2 * s))) := by
      rw [← List.append_assoc (blkE s (2 * T) z3), ← blk_split]; exact hzz
    generalize haN : T * (2 * s) = aN at *
    refine c_seq (c_seq (c_region ?_))
    refine L_e hS (e_move rfl) rfl ?_; clear hS a; intro a hS
    refine L_e hS (e_move rfl) rfl ?_; clear hS a; intro a hS
    refine L_e hS (e_bin rfl rfl rfl) rfl ?_; clear hS a; intro a hS
    refine L_nil (n_then ?_)
    first | refine c_ifD hS rfl (fun hc35 => ?_) (fun hc35 => ?_) | refine c_if hS rfl (fun hc35 => ?_) (fun hc35 => ?_)
    ·
      have hb : aN + 2 * s ≤ n := by omega
      refine wp_skip (n_then (wp_block (c_seq (c_region ?_))))
      refine L_e hS (e_move rfl) rfl ?_; clear hS a; intro a hS
      refine L_e hS (e_move rfl) rfl ?_; clear hS a; intro a hS
      refine L_e hS (e_move rfl) rfl ?_; clear hS a; intro a hS
      refine L_e hS (e_move rfl) rfl ?_; clear hS a; intro a hS
      (first | refine L_e hS (e_binN rfl rfl rfl (by omega)) rfl ?_ | refine L_e hS (e_bin rfl rfl rfl) rfl ?_); clear hS a; intro a hS
      rw [show (aN : Int) + (s : Int) = ((aN + s : Nat) : Int) from by omega] at hS
      refine L_e hS (e_move rfl) rfl ?_; clear hS a; intro a hS
      refine L_e hS (e_move rfl) rfl ?_; clear hS a; intro a hS
      refine L_op (s_callM hS (.cons rfl (.cons rfl (.cons rfl (.cons rfl (.cons rfl .nil))))) cf128 rfl (symm_P g n c hN (2 * s) aN (aN + s) (aN + 2 * s) (z3.take aN) (blkE s (2 * T) z3) (blkE s (2 * T + 1) z3) (z3.drop (aN + 2 * s)) z3 hz4 (by omega) (by omega) hsX hsY hcr hlA.symm (by omega) (by omega) (by omega) hzl _ (hS.ok (ownA 102 4 (.slice (some ⟨g, 0, none⟩) n c) n ((z3).flatMap encE)) (by repeat constructor))) (fun x => (by repeat constructor)) rfl ?_); clear hS a; (try clear w); intro x43 a w hS
      refine L_nil (n_then (c_seq (c_region ?_)))
      refine L_e hS (e_move rfl) rfl ?_; clear hS a; intro a hS
      refine L_e hS (e_assign rfl) rfl ?_; clear hS a; intro a hS
      refine L_nil (n_then (c_region ?_))
      refine L_e hS (e_move rfl) rfl ?_; clear hS a; intro a hS
      refine L_e hS (e_move rfl) rfl ?_; clear hS a; intro a hS
      (first | refine L_e hS (e_binN rfl rfl rfl (by omega)) rfl ?_ | refine L_e hS (e_bin rfl rfl rfl) rfl ?_); clear hS a; intro a hS
      rw [show (2 : Int) * (s : Int) = ((2 * s : Nat) : Int) from by omega] at hS
      (first | refine L_e hS (e_binN rfl rfl rfl (by omega)) rfl ?_ | refine L_e hS (e_bin rfl rfl rfl) rfl ?_); clear hS a; intro a hS
      refine L_e hS (e_assign rfl) rfl ?_; clear hS a; intro a hS
      refine L_nil (n_block ?_)
      have hS1 : IsS (blkE (2 * s) T z3) x43.1 := by rw [blk_split]; exact x43.2
      have hbl : (blkE (2 * s) T z3).length = 2 * s := by rw [blk_len, haN]; omega
      have hstp := hh3.step (A := z3.take aN) (S := x43.1) (B := z3.drop (aN + 2 * s)) (by rw [hlA, haN]) hzz (zs' := z3.take aN ++ (x43.1 ++ z3.drop (aN + 2 * s))) rfl (.inr hbl) hS1
      refine ⟨(T + 1, z3.take aN ++ (x43.1 ++ z3.drop (aN + 2 * s))), by simp only; omega, ?_, hstp, by simp only; omega⟩
      simp only
      rw [hT1, show ((aN + 2 * s + 2 * s : Nat) : Int) = ((aN + 2 * s : Nat) : Int) + ((2 * s : Nat) : Int) from by omega]
      exact (hS.slots (by repeat (first | exact trivial | refine ⟨rfl, ?_⟩))).pick (by repeat (first | exact Pick.nil | (refine Pick.cons (by repeat (first | exact Rem.head | apply Rem.tail)) ?_)))
    have hb : n < aN + 2 * s := by omega
    refine wp_exit ?_
    refine x_then (x_then (x_hit ?_))
    refine n_then ?_
    refine c_cut (fun a w => ∃ z5 : List EA, St 63 (ownA 102 4 (.slice (some ⟨g, 0, none⟩) n c) n ((orig).flatMap encE)).F w0 a w [(6, .int .i64 (s : Int)), (0, .slice (some ⟨g, 0, none⟩) n c), (1, .int .i64 (n : Int)), (2, cmpV)] [(ownA 102 4 (.slice (some ⟨g, 0, none⟩) n c) n ((z5).flatMap encE))] ∧ Half s (T + 1) orig z5) ?_ ?_
    ·
      refine c_seq (c_region ?_)
      refine L_e hS (e_move rfl) rfl ?_; clear hS a; intro a hS
      refine L_e hS (e_move rfl) rfl ?_; clear hS a; intro a hS
      (first | refine L_e hS (e_binN rfl rfl rfl (by omega)) rfl ?_ | refine L_e hS (e_bin rfl rfl rfl) rfl ?_); clear hS a; intro a hS
      rw [show (aN : Int) + (s : Int) = ((aN + s : Nat) : Int) from by omega] at hS
      refine L_e hS (e_assign rfl) rfl ?_; clear hS a; intro a hS
      refine L_nil (n_then (c_seq (c_region ?_)))
      refine L_e hS (e_move rfl) rfl ?_; clear hS a; intro a hS
      refine L_e hS (e_move rfl) rfl ?_; clear hS a; intro a hS
      refine L_e hS (e_bin rfl rfl rfl) rfl ?_; clear hS a; intro a hS
      refine L_nil (n_then ?_)
      first | refine c_ifD hS rfl (fun hc54 => ?_) (fun hc54 => ?_) | refine c_if hS rfl (fun hc54 => ?_) (fun hc54 => ?_)
      ·
        have hmn : aN + s < n := by omega
        have hdn : z3.drop (aN + 2 * s) = [] := List.drop_of_length_le (by omega)
        rw [hdn] at hz4 hzz
        refine c_region ?_
        refine L_e hS (e_move rfl) rfl ?_; clear hS a; intro a hS
        refine L_e hS (e_move rfl) rfl ?_; clear hS a; intro a hS
        refine L_e hS (e_move rfl) rfl ?_; clear hS a; intro a hS
        refine L_e hS (e_move rfl) rfl ?_; clear hS a; intro a hS
        refine L_e hS (e_move rfl) rfl ?_; clear hS a; intro a hS
        refine L_op (s_callM hS (.cons rfl (.cons rfl (.cons rfl (.cons rfl (.cons rfl .nil))))) cf128 rfl (symm_P g n c hN (2 * s) aN (aN + s) n (z3.take aN) (blkE s (2 * T) z3) (blkE s (2 * T + 1) z3) [] z3 hz4 (by omega) (by omega) hsX hsY hcr hlA.symm (by omega) (by omega) (by omega) hzl _ (hS.ok (ownA 102 4 (.slice (some ⟨g, 0, none⟩) n c) n ((z3).flatMap encE)) (by repeat constructor))) (fun x => (by repeat constructor)) rfl ?_); clear hS a; (try clear w); intro x60 a w hS
        refine L_nil ?_
        first
        | (have hx := x60
           have hS1 : IsS (blkE (2 * s) T z3) x60.1 := by rw [blk_split]; exact x60.2
           exact ⟨_, (hS.slots (by repeat (first | exact trivial | refine ⟨rfl, ?_⟩))).pick (by repeat (first | exact Pick.nil | (refine Pick.cons (by repeat (first | exact Rem.head | apply Rem.tail)) ?_))), hh3.step (A := z3.take aN) (S := x60.1) (B := []) (by rw [hlA, haN]) hzz rfl (.inl rfl) hS1⟩)
        | exact ⟨z3, (hS.slots (by repeat (first | exact trivial | refine ⟨rfl, ?_⟩))).pick (by repeat (first | exact Pick.nil | (refine Pick.cons (by repeat (first | exact Rem.head | apply Rem.tail)) ?_))), hh3.short (by rw [haN]; omega)⟩
      refine wp_skip ?_
      first
      | (have hx := x60
         have hS1 : IsS (blkE (2 * s) T z3) x60.1 := by rw [blk_split]; exact x60.2
         exact ⟨_, (hS.slots (by repeat (first | exact trivial | refine ⟨rfl, ?_⟩))).pick (by repeat (first | exact Pick.nil | (refine Pick.cons (by repeat (first | exact Rem.head | apply Rem.tail)) ?_))), hh3.step (A := z3.take aN) (S := x60.1) (B := []) (by rw [hlA, haN]) hzz rfl (.inl rfl) hS1⟩)
      | exact ⟨z3, (hS.slots (by repeat (first | exact trivial | refine ⟨rfl, ?_⟩))).pick (by repeat (first | exact Pick.nil | (refine Pick.cons (by repeat (first | exact Rem.head | apply Rem.tail)) ?_))), hh3.short (by rw [haN]; omega)⟩
    clear hS a; (try clear w); intro a w hS
    obtain ⟨z5, hS, hh5⟩ := hS
    refine c_region ?_
    refine L_e hS (e_move rfl) rfl ?_; clear hS a; intro a hS
    (first | refine L_e hS (e_binN rfl rfl rfl (by omega)) rfl ?_ | refine L_e hS (e_bin rfl rfl rfl) rfl ?_); clear hS a; intro a hS
    refine L_e hS (e_assign rfl) rfl ?_; clear hS a; intro a hS
    refine L_nil (n_block ?_)
    refine ⟨(2 * s, z5), by simp only; omega, ?_, hh5.next (by rw [hT1]; omega), by simp only; omega, by simp only; omega⟩
    simp only
    rw [show ((2 * s : Nat) : Int) = (s : Int) * 2 from by omega]
    exact (hS.slots (by repeat (first | exact trivial | refine ⟨rfl, ?_⟩))).pick (by repeat (first | exact Pick.nil | (refine Pick.cons (by repeat (first | exact Rem.head | apply Rem.tail)) ?_)))
  refine wp_exit ?_
  refine x_then (x_then (x_hit ?_))
  refine r_norm ?_
  refine c_retN hS Tryz.results111 .nil rfl ?_
  exact ⟨⟨z2, hh.all (by omega)⟩, rfl, hS.chg, hS.ok (ownA 102 4 (.slice (some ⟨g, 0, none⟩) n c) n ((z2).flatMap encE)) (by repeat constructor), fun b hb => (hS.mine (ownA 102 4 (.slice (some ⟨g, 0, none⟩) n c) n ((z2).flatMap encE)) (by repeat constructor) rfl b hb).symm⟩
set_option maxRecDepth 100000 in
theorem insort0_P (q : Option Addr) (c : Nat) (w0 : World) : PureC Tryz.prog 127 [.slice q 0 c, .int .i64 0, .int .i64 0, cmpV] w0 (.tuple #[]) := by
  refine c_enter [(0, .slice q 0 c), (1, .int .i64 0), (2, .int .i64 0), (3, cmpV)] [] noB Tryz.func127 rfl Tryz.ntmps127 ⟨rfl, rfl, rfl, rfl, trivial⟩ rfl (by simp) (by simp) (by simp) ?_
  intro a hS
  refine c_seq (c_region ?_)
  refine L_e hS (e_move rfl) rfl ?_; clear hS a; intro a hS
  (first | refine L_e hS (e_binN rfl rfl rfl (by omega)) rfl ?_ | refine L_e hS (e_bin rfl rfl rfl) rfl ?_); clear hS a; intro a hS
  refine L_e hS (e_assign rfl) rfl ?_; clear hS a; intro a hS
  refine L_nil (n_then (wp_block ?_))
  skip
  refine c_loop (γ := Unit) (fun G a w => St 53 noB w0 a w [(8, .int .i64 1), (2, .int .i64 0)] []) (fun G => 0) () (hS.slots (by repeat (first | exact trivial | refine ⟨rfl, ?_⟩))) ?_
  clear hS a; (try clear w); intro G a w hI
  rename St _ _ _ _ _ _ _ => hS
  refine c_seq (c_seq (c_region ?_))
  refine L_e hS (e_move rfl) rfl ?_; clear hS a; intro a hS
  refine L_e hS (e_move rfl) rfl ?_; clear hS a; intro a hS
  refine L_e hS (e_bin rfl rfl rfl) rfl ?_; clear hS a; intro a hS
  refine L_nil (n_then ?_)
  replace hS := hS.is (t := 14) (c := false) rfl (rfl)
  refine c_if_f hS rfl ?_
  refine wp_exit ?_
  refine x_then (x_then (x_hit ?_))
  refine r_norm ?_
  refine c_retN hS Tryz.results127 .nil rfl ?_
  exact ⟨rfl, hS.chg⟩
set_option maxRecDepth 100000 in
theorem stable0_P (q : Option Addr) (c : Nat) (w0 : World) : PureC Tryz.prog 111 [.slice q 0 c, .int .i64 0, cmpV] w0 (.tuple #[]) := by
  refine c_enter [(0, .slice q 0 c), (1, .int .i64 0), (2, cmpV)] [] noB Tryz.func111 rfl Tryz.ntmps111 ⟨rfl, rfl, rfl, trivial⟩ rfl (by simp) (by simp) (by simp) ?_
  intro a hS
  refine c_seq (c_region ?_)
  refine L_e hS (e_assign rfl) rfl ?_; clear hS a; intro a hS
  refine L_nil (n_then (c_seq (c_region ?_)))
  refine L_e hS (e_move rfl) rfl ?_; clear hS a; intro a hS
  refine L_e hS (e_assign rfl) rfl ?_; clear hS a; intro a hS
  refine L_e hS (e_assign rfl) rfl ?_; clear hS a; intro a hS
  refine L_nil (n_then (c_seq (wp_block ?_)))
  skip
  refine c_loop (γ := Unit) (fun G a w => St 63 noB w0 a w [(7, .int .i64 0), (8, .int .i64 20), (6, .int .i64 20), (0, .slice q 0 c), (1, .int .i64 0), (2, cmpV)] []) (fun G => 0) () (hS.slots (by repeat (first | exact trivial | refine ⟨rfl, ?_⟩))) ?_
  clear hS a; (try clear w); intro G a w hI
  rename St _ _ _ _ _ _ _ => hS
  refine c_seq (c_seq (c_region ?_))
  refine L_e hS (e_move rfl) rfl ?_; clear hS a; intro a hS
  refine L_e hS (e_move rfl) rfl ?_; clear hS a; intro a hS
  refine L_e hS (e_bin rfl rfl rfl) rfl ?_; clear hS a; intro a hS
  refine L_nil (n_then ?_)
  replace hS := hS.is (t := 13) (c := false) rfl (rfl)
  refine c_if_f hS rfl ?_
  refine wp_exit ?_
  refine x_then (x_then (x_hit ?_))
  refine n_then (c_seq (c_region ?_))
  refine L_e hS (e_move rfl) rfl ?_; clear hS a; intro a hS
  refine L_e hS (e_move rfl) rfl ?_; clear hS a; intro a hS
  refine L_e hS (e_move rfl) rfl ?_; clear hS a; intro a hS
  refine L_e hS (e_move rfl) rfl ?_; clear hS a; intro a hS
  refine L_op (s_callP hS (.cons rfl (.cons rfl (.cons rfl (.cons rfl .nil)))) cf127 rfl (insort0_P q c _) ?_); clear hS a; (try clear w); intro a w hS
  refine L_nil (n_then (wp_block ?_))
  skip
  refine c_loop (γ := Unit) (fun G a w => St 63 noB w0 a w [(6, .int .i64 20), (1, .int .i64 0)] []) (fun G => 0) () (hS.slots (by repeat (first | exact trivial | refine ⟨rfl, ?_⟩))) ?_
  clear hS a; (try clear w); intro G a w hI
  rename St _ _ _ _ _ _ _ => hS
  refine c_seq (c_seq (c_region ?_))
  refine L_e hS (e_move rfl) rfl ?_; clear hS a; intro a hS
  refine L_e hS (e_move rfl) rfl ?_; clear hS a; intro a hS
  refine L_e hS (e_bin rfl rfl rfl) rfl ?_; clear hS a; intro a hS
  refine L_nil (n_then ?_)
  replace hS := hS.is (t := 30) (c := false) rfl (rfl)
  refine c_if_f hS rfl ?_
  refine wp_exit ?_
  refine x_then (x_then (x_hit ?_))
  refine r_norm ?_
  refine c_retN hS Tryz.results111 .nil rfl ?_
  exact ⟨rfl, hS.chg⟩
set_option maxRecDepth 100000 in
theorem sort0_P (q : Option Addr) (c : Nat) (w0 : World) : PureC Tryz.prog 84 [.slice q 0 c, cmpV] w0 (.tuple #[]) := by
  refine c_enter [(0, .slice q 0 c), (1, cmpV)] [] noB Tryz.func84 rfl Tryz.ntmps84 ⟨rfl, rfl, trivial⟩ rfl (by simp) (by simp) (by simp) ?_
  intro a hS
  refine c_region ?_
  refine L_e hS (e_move rfl) rfl ?_; clear hS a; intro a hS
  refine L_e hS (e_move rfl) rfl ?_; clear hS a; intro a hS
  refine L_e hS (e_len rfl rfl ty_sl86) rfl ?_; clear hS a; intro a hS
  refine L_e hS (e_move rfl) rfl ?_; clear hS a; intro a hS
  refine L_op (s_callP hS (.cons rfl (.cons rfl (.cons rfl .nil))) cf111 rfl (stable0_P q c _) ?_); clear hS a; (try clear w); intro a w hS
  refine L_nil (r_norm ?_)
  refine c_retN hS Tryz.results84 .nil rfl ?_
  exact ⟨rfl, hS.chg⟩
set_option maxRecDepth 100000 in
theorem sort1_P (g n c : Nat) (orig : List EA) (hids : Ids orig) (hn : orig.length = n) (hN : n ≤ 1000000) (w0 : World) (h : (ownA 102 4 (.slice (some ⟨g, 0, none⟩) n c) n ((orig).flatMap encE)).ok w0) :
    MutC Tryz.prog 84 [.slice (some ⟨g, 0, none⟩) n c, cmpV] w0 (ownA 102 4 (.slice (some ⟨g, 0, none⟩) n c) n ((orig).flatMap encE)) (fun _ : { S // IsS orig S } => .tuple #[]) (fun S => (ownA 102 4 (.slice (some ⟨g, 0, none⟩) n c) n ((S.1).flatMap encE))) := by
  refine c_enter [(0, .slice (some ⟨g, 0, none⟩) n c), (1, cmpV)] [(ownA 102 4 (.slice (some ⟨g, 0, none⟩) n c) n ((orig).flatMap encE))] (ownA 102 4 (.slice (some ⟨g, 0, none⟩) n c) n ((orig).flatMap encE)).F Tryz.func84 rfl Tryz.ntmps84 ⟨rfl, rfl, trivial⟩ rfl (okC h okN) dis1 (mineO (fun _ hb => hb) mineN) ?_
  intro a hS
  refine c_region ?_
  refine L_e hS (e_move rfl) rfl ?_; clear hS a; intro a hS
  refine L_e hS (e_move rfl) rfl ?_; clear hS a; intro a hS
  refine L_e hS (e_len rfl rfl ty_sl86) rfl ?_; clear hS a; intro a hS
  refine L_e hS (e_move rfl) rfl ?_; clear hS a; intro a hS
  refine L_op (s_callM hS (.cons rfl (.cons rfl (.cons rfl .nil))) cf111 rfl (stable_P g n c orig hids hn hN _ (hS.ok (ownA 102 4 (.slice (some ⟨g, 0, none⟩) n c) n ((orig).flatMap encE)) (by repeat constructor))) (fun x => (by repeat constructor)) rfl ?_); clear hS a; (try clear w); intro x8 a w hS
  refine L_nil (r_norm ?_)
  refine c_retN hS Tryz.results84 .nil rfl ?_
  exact ⟨x8, rfl, hS.chg, hS.ok (ownA 102 4 (.slice (some ⟨g, 0, none⟩) n c) n ((x8.1).flatMap encE)) (by repeat constructor), fun b hb => (hS.mine (ownA 102 4 (.slice (some ⟨g, 0, none⟩) n c) n ((x8.1).flatMap encE)) (by repeat constructor) rfl b hb).symm⟩
theorem sort_P (v : Value) (L : List EA) (hids : Ids L) (hN : L.length ≤ 1000000) (w0 : World) (h : (ownA 102 4 v L.length (L.flatMap encE)).ok w0) :
    MutC Tryz.prog 84 [v, cmpV] w0 (ownA 102 4 v L.length (L.flatMap encE)) (fun _ : { S // IsS L S } => .tuple #[]) (fun S => ownA 102 4 v L.length (S.1.flatMap encE)) := by
  have h0 : w0.ownsRow 0 102 4 v L.length (L.flatMap encE) := h.now
  rcases h0.2 with ⟨e1, e2⟩ | ⟨g, cap, cur, e1, _⟩
  · obtain rfl := List.eq_nil_of_length_eq_zero e2
    subst e1
    exact pure_mutL (sort0_P none 0 w0) h ⟨[], .refl _, .nil⟩ rfl rfl
  · subst e1
    exact sort1_P g L.length cap L hids rfl hN w0 h
end Go.Proofs.YtheofhegdjjfgaaGreat

namespace Go.Proofs.YtheofhegdjjfgaaGreat
open Go.RowKit
def ltV (x y : Ent) : Prop := x.at_ < y.at_ ∨ (x.at_ = y.at_ ∧ x.id < y.id)
structure EntsOf (es : List Ent) (from_ to_ : Int) (vs : List Ent) : Prop where
  perm : vs.Perm (es.filter fun e => decide (from_ ≤ e.at_ ∧ e.at_ < to_))
  srt : vs.Pairwise ltV
structure entsφ (v : Value) (L : List EA) (w : World) : Prop where
  row : w.ownsRow 0 102 4 v L.length (L.flatMap encE)
  ps : ∀ x ∈ L, psOk x w
  apart : L.Pairwise fun x y => x.b ≠ y.b
  out : ∀ x ∈ L, v.ownBlock ≠ some x.b
def entsF (v : Value) (L : List EA) (k : Nat) : Prop := v.ownBlock = some k ∨ ∃ x ∈ L, k = x.b
def entsA (v : Value) (L : List EA) : Asn := .any (entsF v L) (entsφ v L) true
theorem ents_ok {v : Value} {L : List EA} {w : World} (h : entsφ v L w) : (entsA v L).ok w := by
  refine ⟨fun k hk => ?_, fun w' hw => ⟨?_, fun x hx => ?_, h.apart, h.out⟩⟩
  · rcases hk with hk | ⟨x, hx, rfl⟩
    · exact (World.ownsRow.lt h.row k hk).2
    · exact (h.ps x hx).own
  · exact owns_keepL h.row (fun b hb => hw b (.inl hb))
  · exact (h.ps x hx).keep (hw x.b (.inr ⟨x, hx, rfl⟩))
theorem psx_ok {x : EA} {w : World} (h : psOk x w) : (Asn.any (fun k => k = x.b) (psOk x) false).ok w :=
  ⟨fun k hk => by rw [hk]; exact h.own, fun w' hw => h.keep (hw x.b rfl)⟩
set_option maxRecDepth 100000 in
theorem lown_P (x : EA) (hlen : x.v.ps.length ≤ 1000000) (w0 : World) (h : psOk x w0) :
    NewC Tryz.prog 83 [.agg (encE x).toArray] w0 (fun y : Nat × Nat => .agg (encE ⟨x.v, y.1, y.2⟩).toArray) (fun y => ownA 82 3 (psO x.v.ps y) x.v.ps.length (x.v.ps.flatMap encP)) := by
  refine c_enter [(0, .agg (encE x).toArray)] [Asn.any (fun k => k = x.b) (psOk x) false] noB Tryz.func83 rfl Tryz.ntmps83 ⟨rfl, trivial⟩ rfl (okC (psx_ok h) okN) dis1 (mineC (by rfl) mineN) ?_
  intro a hS
  refine c_seq (c_region ?_)
  refine L_op (s_boxA hS rfl rfl ?_); clear hS a; (try clear w); intro a w b1 hS
  refine L_op (s_alloc hS ty_z102 rfl ?_); clear hS a; (try clear w); intro a w b2 hS
  refine L_nil (n_then (c_seq (c_region ?_)))
  (first | refine L_e hS (e_fa0 rfl ty_fo102_3) rfl ?_ | refine L_e hS (e_faK rfl ty_fo102_3) rfl ?_); clear hS a; intro a hS
  refine L_e hS (e_load rfl (by repeat constructor) ty_sc36 (by rfl)) rfl ?_; clear hS a; intro a hS
  refine L_op (s_callN hS (.cons rfl .nil) cf73 rfl (lfresh_P (some (x.b, 0)) x.c x.v.ps hlen _ (row_of_own (enc := encP) (s := 3) (fun _ => rfl) (hS.get (X := Asn.any (fun k => k = x.b) (psOk x) false) (by repeat constructor))) (fun q hq => by cases hq; exact (hS.get (X := Asn.any (fun k => k = x.b) (psOk x) false) (by repeat constructor)).own)) ?_); clear hS a; (try clear w); intro x5 a w hS
  (first | refine L_e hS (e_fa0 rfl ty_fo102_3) rfl ?_ | refine L_e hS (e_faK rfl ty_fo102_3) rfl ?_); clear hS a; intro a hS
  refine L_op (s_store hS rfl rfl rfl ty_sz36 (by repeat constructor) (by repeat constructor) ?_); clear hS; (try clear w); intro w hS
  refine L_nil (n_then (c_seq (c_region ?_)))
  refine L_e hS (e_loadA rfl (by repeat constructor) ty_st102 ty_sz102 (by rfl)) rfl ?_; clear hS a; intro a hS
  refine L_op (s_storeA hS rfl rfl ty_sz102 (by repeat constructor) (by rfl) (by rfl) (by rfl) ?_); clear hS; (try clear w); intro w hS
  refine L_nil (n_then (wp_ret ?_))
  refine c_ret1 hS Tryz.results83 (.cellA rfl (by repeat constructor) ty_st102 ty_sz102 (by rfl)) ?_
  exact ⟨x5, rfl, hS.chg, hS.new (X := ownA 82 3 (psO x.v.ps x5) x.v.ps.length (x.v.ps.flatMap encP)) (by repeat constructor) rfl⟩
def inT (from_ to_ : Int) (e : Ent) : Prop := from_ ≤ e.at_ ∧ e.at_ < to_
instance (from_ to_ : Int) (e : Ent) : Decidable (inT from_ to_ e) := by unfold inT; infer_instance
def inTs (from_ to_ : Int) (es : List Ent) : List Ent := es.filter fun e => decide (inT from_ to_ e)
theorem inTs_take {from_ to_ : Int} {es : List Ent} {i : Nat} {x : Ent} (hx : es[i]? = some x) : inTs from_ to_ (es.take (i + 1)) = inTs from_ to_ (es.take i) ++ if inT from_ to_ x then [x] else [] := by
  unfold inTs
  rw [List.take_add_one, hx, List.filter_append]
  by_cases h : inT from_ to_ x
  · simp [h]
  · simp [h]
def idsP (es : List Ent) : Prop := es.Pairwise fun x y => x.id < y.id
theorem ids_of {L : List EA} (h : idsP (L.map (·.v))) : Ids L := by unfold idsP at h; rw [List.pairwise_map] at h; exact h
set_option maxHeartbeats 1000000 in
set_option maxRecDepth 100000 in
theorem lEntries_P (B : LB) (s : LS) (from_ to_ : Int) (hids : idsP (pl s).es) (hes : s.es.length ≤ 100000) (hps : ∀ x ∈ s.es, x.v.ps.length ≤ 50) (w0 : World) (h : ledφ B s w0) :
    NewC Tryz.prog 41 [.pointer (some ⟨B.lb, 0, none⟩), .int .i64 from_, .int .i64 to_] w0 (fun y : { y : Value × List EA // EntsOf (pl s).es from_ to_ (y.2.map (·.v)) } => y.1.1) (fun y => entsA y.1.1 y.1.2) := by
  obtain ⟨qs, cs, hsv⟩ := own_slice h.row
  have hsh : s.es.length = 0 ∨ ∃ g, qs = some ⟨g, 0, none⟩ := by
    have h1 := h.row
    rw [hsv] at h1
    rcases h1.2 with ⟨e1, e2⟩ | ⟨g, cap, cur, e1, _⟩
    · exact .inl e2
    · injection e1 with e3; exact .inr ⟨g, e3⟩
  have hel : (pl s).es.length = s.es.length := by simp [pl]
  refine c_enter [(0, .pointer (some ⟨B.lb, 0, none⟩)), (1, .int .i64 from_), (2, .int .i64 to_)] [ledA B s false] noB Tryz.func41 rfl Tryz.ntmps41 ⟨rfl, rfl, rfl, trivial⟩ rfl (okC (led_ok false h) okN) dis1 (mineC (by rfl) mineN) ?_
  intro a hS
  refine c_seq (c_region ?_)
  refine L_e hS (e_assign rfl) rfl ?_; clear hS a; intro a hS
  refine L_nil (n_then (c_seq (c_region ?_)))
  refine L_e hS (e_assign rfl) rfl ?_; clear hS a; intro a hS
  refine L_nil (n_then (c_seq (c_seq (c_region ?_))))
  refine L_e hS (e_move rfl) rfl ?_; clear hS a; intro a hS
  refine L_e hS (e_nilCheck rfl) rfl ?_; clear hS a; intro a hS
  (first | refine L_e hS (e_fa0 rfl ty_fo88_2) rfl ?_ | refine L_e hS (e_faK rfl ty_fo88_2) rfl ?_); clear hS a; intro a hS
  refine L_e hS (e_loadC rfl ty_sc86 (led_cell (k := 2) (by repeat constructor) rfl)) rfl ?_; clear hS a; intro a hS
  rw [hsv] at hS
  refine L_e hS (e_len rfl rfl ty_sl86) rfl ?_; clear hS a; intro a hS
  refine L_e hS (e_move rfl) rfl ?_; clear hS a; intro a hS
  refine L_nil (n_then (wp_block ?_))
  replace hS := hS.own_nil 102 4
  replace hS := hS.more (Y := psAll []) (ps_ok (fun x hx => by cases hx)) (fun b hb => by obtain ⟨x, hx, _⟩ := hb; cases hx)
  refine c_loop (γ := Nat × (Value × List EA)) (fun G a w => St 38 noB w0 a w [(15, .int .i64 (G.1 : Int)), (14, .int .i64 (s.es.length : Int)), (13, .slice qs s.es.length cs), (7, G.2.1), (1, .int .i64 from_), (2, .int .i64 to_)] [psAll G.2.2, ownA 102 4 G.2.1 G.2.2.length (G.2.2.flatMap encE), ledA B s false] ∧ G.1 ≤ s.es.length ∧ G.2.2.map (·.v) = inTs from_ to_ ((pl s).es.take G.1) ∧ (G.2.2.Pairwise fun x y => x.b ≠ y.b)) (fun G => s.es.length - G.1) (0, (.slice none 0 0, [])) ⟨(hS.slots (by repeat (first | exact trivial | refine ⟨rfl, ?_⟩))).pick (by repeat (first | exact Pick.nil | (refine Pick.cons (by repeat (first | exact Rem.head | apply Rem.tail)) ?_))), Nat.zero_le _, rfl, .nil⟩ ?_
  clear hS a; (try clear w); intro G a w hI
  obtain ⟨i, ov, L⟩ := G
  obtain ⟨hS, hi, hL, hap⟩ := hI
  simp only at hS hi hL hap
  have hLl : L.length ≤ i := by
    have h1 := congrArg List.length hL
    rw [List.length_map] at h1
    have h2 := List.length_filter_le (fun e => decide (inT from_ to_ e)) ((pl s).es.take i)
    rw [List.length_take] at h2
    unfold inTs at h1
    omega
  refine c_seq (c_region ?_)
  refine L_e hS (e_bin rfl rfl rfl) rfl ?_; clear hS a; intro a hS
  refine L_nil (n_then (c_seq ?_))
  first | refine c_ifD hS rfl (fun hc16 => ?_) (fun hc16 => ?_) | refine c_if hS rfl (fun hc16 => ?_) (fun hc16 => ?_)
  ·
    have hil : i < s.es.length := by omega
    obtain ⟨x, hx⟩ : ∃ x, s.es[i]? = some x := ⟨s.es[i], List.getElem?_eq_getElem hil⟩
    have hxm := List.mem_of_getElem? hx
    have hxp : (pl s).es[i]? = some x.v := by unfold pl; simp [hx]
    obtain ⟨gs, rfl⟩ : ∃ g, qs = some ⟨g, 0, none⟩ := hsh.resolve_left (by omega)
    have htk := inTs_take (from_ := from_) (to_ := to_) hxp
    have hpl := hps x hxm
    refine wp_skip (n_then (c_seq (wp_block (c_seq (c_region ?_)))))
    refine L_e hS (e_ixN rfl rfl ty_sl86 ty_sz102 (by omega)) rfl ?_; clear hS a; intro a hS
    refine L_e hS (e_loadAC (l := encE x) rfl ty_st102 ty_sz102 (row_getE hsv (by repeat constructor) hx)) rfl ?_; clear hS a; intro a hS
    refine L_op (s_alloc hS ty_z102 rfl ?_); clear hS a; (try clear w); intro a w b9 hS
    refine L_op (s_storeA hS rfl rfl ty_sz102 (by repeat constructor) (by rfl) (by rfl) (by rfl) ?_); clear hS; (try clear w); intro w hS
    refine L_nil (n_then (c_seq (c_region ?_)))
    (first | refine L_e hS (e_fa0 rfl ty_fo102_1) rfl ?_ | refine L_e hS (e_faK rfl ty_fo102_1) rfl ?_); clear hS a; intro a hS
    refine L_e hS (e_load rfl (by repeat constructor) ty_sc3 (by rfl)) rfl ?_; clear hS a; intro a hS
    refine L_e hS (e_move rfl) rfl ?_; clear hS a; intro a hS
    refine L_e hS (e_bin rfl rfl rfl) rfl ?_; clear hS a; intro a hS
    refine L_e hS (e_move rfl) rfl ?_; clear hS a; intro a hS
    refine L_merge 5 28 (.bool (decide (inT from_ to_ x.v))) hS ?_ ?_
    · intro hcM28
      (first | refine g_splitD (t := 23) hS rfl ?_ ?_ | refine g_split (t := 23) hS rfl ?_ ?_) <;> (clear hS; intro hg23 hS)
      ·
        (first | refine L_ge hS rfl rfl (e_fa0 rfl ty_fo102_1) rfl ?_ | refine L_ge hS rfl rfl (e_faK rfl ty_fo102_1) rfl ?_); clear hS a; intro a hS
        refine L_ge hS rfl rfl (e_load rfl (by repeat constructor) ty_sc3 (by rfl)) rfl ?_; clear hS a; intro a hS
        refine L_ge hS rfl rfl (e_move rfl) rfl ?_; clear hS a; intro a hS
        refine L_ge hS rfl rfl (e_bin rfl rfl rfl) rfl ?_; clear hS a; intro a hS
        refine L_e hS (e_pk rfl rfl) rfl ?_; clear hS a; intro a hS
        exact hcM28 _ _ (hS.ends 6 28 23 rfl (congrArg Value.bool (by rw [decide_eq_decide]; exact ⟨fun h2 => ⟨hg23, h2⟩, fun h2 => h2.2⟩)) rfl rfl (by first | exact congrArg Value.bool (decide_eq_true hg23).symm | exact congrArg Value.bool hg23.symm | simp [hg23]) rfl)
      refine L_skip_t hS rfl rfl rfl ?_; clear hS a; intro a hS
      refine L_skip_t hS rfl rfl rfl ?_; clear hS a; intro a hS
      refine L_skip_t hS rfl rfl rfl ?_; clear hS a; intro a hS
      refine L_skip_t hS rfl rfl rfl ?_; clear hS a; intro a hS
      refine L_e hS (e_pk rfl rfl) rfl ?_; clear hS a; intro a hS
      exact hcM28 _ _ (hS.ends 6 28 23 rfl (congrArg Value.bool (by exact (decide_eq_false (fun h2 => hg23 h2.1)).symm)) rfl rfl (by first | exact congrArg Value.bool (decide_eq_false hg23).symm | exact congrArg Value.bool hg23.symm | simp [hg23]) rfl)
    · clear hS a; (try clear w); intro a w hS
      simp only [List.drop_succ_cons, List.drop_zero]
      refine L_nil (n_then ?_)
      first | refine c_ifD hS rfl (fun hc28 => ?_) (fun hc28 => ?_) | refine c_if hS rfl (fun hc28 => ?_) (fun hc28 => ?_)
      ·
        refine c_region ?_
        refine L_e hS (e_move rfl) rfl ?_; clear hS a; intro a hS
        refine L_e hS (e_loadA rfl (by repeat constructor) ty_st102 ty_sz102 (by rfl)) rfl ?_; clear hS a; intro a hS
        refine L_op (s_callN hS (.cons rfl .nil) cf83 rfl (lown_P x (by omega) _ ((hS.get (X := ledA B s false) (by repeat constructor)).ps x hxm)) ?_); clear hS a; (try clear w); intro x31 a w hS
        have hfr : ∀ y ∈ L, y.b ≠ x31.1 := fun y hy e => hS.sep (X := ownA 82 3 (psO x.v.ps x31) x.v.ps.length (x.v.ps.flatMap encP)) (Y := psAll L) (by repeat (first | exact Rem.head | apply Rem.tail)) (by repeat constructor) x31.1 rfl ⟨y, hy, e.symm⟩
        have hp1 : psOk ⟨x.v, x31.1, x31.2⟩ w := hS.get (X := ownA 82 3 (psO x.v.ps x31) x.v.ps.length (x.v.ps.flatMap encP)) (by repeat constructor)
        have hp2 : ∀ y ∈ L, psOk y w := hS.get (X := psAll L) (by repeat constructor)
        replace hS := hS.join (Y := psAll L) (Z := psAll (L ++ [⟨x.v, x31.1, x31.2⟩])) (by repeat constructor) (ps_ok (fun y hy => by
          rcases List.mem_append.1 hy with hy | hy
          · exact hp2 y hy
          · obtain rfl := List.mem_singleton.1 hy; exact hp1)) (fun b hb => by
          obtain ⟨y, hy, e⟩ := hb
          rcases List.mem_append.1 hy with hy | hy
          · exact .inr ⟨y, hy, e⟩
          · obtain rfl := List.mem_singleton.1 hy; exact .inl (by rw [e]; rfl)) (fun _ => ⟨rfl, rfl⟩)
        refine L_op (s_bslice hS ty_sl86 ty_sz102 ty_z102 rfl rfl rfl rfl (.agg rfl rfl .nil) rfl ?_); clear hS a; (try clear w); intro a w b32 hS
        refine L_op (s_append1 hS rfl rfl ty_sl86 ty_sz102 ty_by102 ty_z102 rfl rfl rfl (by repeat constructor) (by repeat constructor) (by rfl) (by rfl) (fun _ => (by repeat constructor)) (by omega) ?_); clear hS a; (try clear w); intro v33 a w hv33 hS
        refine L_e hS (e_assign rfl) rfl ?_; clear hS a; intro a hS
        refine L_nil (n_block (n_then (c_region ?_)))
        (first | refine L_e hS (e_binN rfl rfl rfl (by omega)) rfl ?_ | refine L_e hS (e_bin rfl rfl rfl) rfl ?_); clear hS a; intro a hS
        refine L_e hS (e_move rfl) rfl ?_; clear hS a; intro a hS
        refine L_nil ?_
        first
        | (have hy := x31
           rw [if_pos hc28] at htk
           refine ⟨(i + 1, (v33, L ++ [⟨x.v, x31.1, x31.2⟩])), by simp only; omega, ?_, by simp only; omega, by simp only; rw [htk, List.map_append, hL]; rfl, ?_⟩
           · simp only
             rw [List.length_append, List.flatMap_append]
             exact (hS.slots (by repeat (first | exact trivial | refine ⟨rfl, ?_⟩))).pick (by repeat (first | exact Pick.nil | (refine Pick.cons (by repeat (first | exact Rem.head | apply Rem.tail)) ?_)))
           · exact List.pairwise_append.2 ⟨hap, List.pairwise_singleton _ _, fun y hy z hz => by obtain rfl := List.mem_singleton.1 hz; exact hfr y hy⟩)
        | (rw [if_neg hc28, List.append_nil] at htk
           exact ⟨(i + 1, (ov, L)), by simp only; omega, (hS.slots (by repeat (first | exact trivial | refine ⟨rfl, ?_⟩))).pick (by repeat (first | exact Pick.nil | (refine Pick.cons (by repeat (first | exact Rem.head | apply Rem.tail)) ?_))), by simp only; omega, by simp only; rw [htk]; exact hL, hap⟩)
      refine wp_skip (n_block (n_then (c_region ?_)))
      (first | refine L_e hS (e_binN rfl rfl rfl (by omega)) rfl ?_ | refine L_e hS (e_bin rfl rfl rfl) rfl ?_); clear hS a; intro a hS
      refine L_e hS (e_move rfl) rfl ?_; clear hS a; intro a hS
      refine L_nil ?_
      first
      | (have hy := x31
         rw [if_pos hc28] at htk
         refine ⟨(i + 1, (v33, L ++ [⟨x.v, x31.1, x31.2⟩])), by simp only; omega, ?_, by simp only; omega, by simp only; rw [htk, List.map_append, hL]; rfl, ?_⟩
         · simp only
           rw [List.length_append, List.flatMap_append]
           exact (hS.slots (by repeat (first | exact trivial | refine ⟨rfl, ?_⟩))).pick (by repeat (first | exact Pick.nil | (refine Pick.cons (by repeat (first | exact Rem.head | apply Rem.tail)) ?_)))
         · exact List.pairwise_append.2 ⟨hap, List.pairwise_singleton _ _, fun y hy z hz => by obtain rfl := List.mem_singleton.1 hz; exact hfr y hy⟩)
      | (rw [if_neg hc28, List.append_nil] at htk
         exact ⟨(i + 1, (ov, L)), by simp only; omega, (hS.slots (by repeat (first | exact trivial | refine ⟨rfl, ?_⟩))).pick (by repeat (first | exact Pick.nil | (refine Pick.cons (by repeat (first | exact Rem.head | apply Rem.tail)) ?_))), by simp only; omega, by simp only; rw [htk]; exact hL, hap⟩)
  obtain rfl : i = s.es.length := by omega
  rw [← hel, List.take_length] at hL
  have hLi : Ids L := ids_of (by rw [hL]; exact List.Pairwise.sublist List.filter_sublist hids)
  refine wp_exit ?_
  refine x_then (x_then (x_hit ?_))
  refine n_then (c_seq (c_region ?_))
  refine L_e hS (e_move rfl) rfl ?_; clear hS a; intro a hS
  refine L_op (s_callM hS (.cons rfl (.cons rfl .nil)) cf84 rfl (sort_P ov L hLi (by omega) _ (hS.ok (ownA 102 4 ov L.length (L.flatMap encE)) (by repeat constructor))) (fun x => (by repeat constructor)) rfl ?_); clear hS a; (try clear w); intro x36 a w hS
  refine L_nil (n_then (c_seq (c_region ?_)))
  refine L_e hS (e_move rfl) rfl ?_; clear hS a; intro a hS
  refine L_e hS (e_assign rfl) rfl ?_; clear hS a; intro a hS
  refine L_nil (n_then (wp_ret ?_))
  refine c_ret1 hS Tryz.results41 (.tmp rfl) ?_
  obtain ⟨S, hSS⟩ := x36
  simp only at hS
  have hsl := hSS.len
  have hrow : w.ownsRow 0 102 4 ov L.length (S.flatMap encE) := hS.get (X := ownA 102 4 ov L.length (S.flatMap encE)) (by repeat constructor)
  rw [← hsl] at hrow
  have hpa : ∀ y ∈ L, psOk y w := hS.get (X := psAll L) (by repeat constructor)
  have hmem : ∀ y, y ∈ S ↔ y ∈ L := fun y => hSS.perm.mem_iff
  have hE : EntsOf (pl s).es from_ to_ (S.map (·.v)) := by
    refine ⟨?_, ?_⟩
    · refine (hSS.perm.map _).trans ?_
      rw [hL]; exact .refl _
    · rw [List.pairwise_map]; exact hSS.srt
  refine ⟨⟨(ov, S), hE⟩, rfl, hS.chg, ents_ok ⟨hrow, fun y hy => hpa y ((hmem y).1 hy), ?_, fun y hy e => ?_⟩, fun b hb => ?_⟩
  · exact (hSS.perm.pairwise_iff (fun h2 e => h2 e.symm)).2 hap
  · exact hS.sep (X := psAll L) (Y := ownA 102 4 ov L.length (S.flatMap encE)) (by repeat (first | exact Rem.head | apply Rem.tail)) (by repeat constructor) y.b ⟨y, (hmem y).1 hy, rfl⟩ e
  · rcases hb with hb | ⟨y, hy, e⟩
    · exact (hS.mine (ownA 102 4 ov L.length (S.flatMap encE)) (by repeat constructor) rfl b hb).resolve_right (fun h2 => h2)
    · exact (hS.mine (psAll L) (by repeat constructor) rfl b ⟨y, (hmem y).1 hy, e⟩).resolve_right (fun h2 => h2)
end Go.Proofs.YtheofhegdjjfgaaGreat
