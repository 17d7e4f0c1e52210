/- FxWorth: for every argument the law returns true, and each argument reads afterwards as it read before. No conditions. (text 4 of 5) -/
import Derived.Test.YtheofhegdjjfgaaGreatLWoC3
import Derived.ChangeKeysEq
import Derived.Sort.Walk0
import Derived.Laws.BytesArg
namespace Go.Proofs.YtheofhegdjjfgaaGreat
open Go.RowKit
theorem own_getL {Γ : List Asn} {α : Type} {enc : α → List Value} {s E g c m : Nat} {xs : List α} (hl : ∀ x, (enc x).length = s) (hm : ownA E s (.slice (some ⟨g, 0, none⟩) m c) m (xs.flatMap enc) ∈ Γ) {i : Nat} {x : α} (hx : xs[i]? = some x) : ∀ w, Hd Γ w → ∀ j v, (enc x)[j]? = some v → w.cell? ⟨g, 0 + i * s + j, none⟩ = some v := by
  intro w hh j v hj
  have h : w.ownsRow 0 E s (.slice (some ⟨g, 0, none⟩) m c) m (xs.flatMap enc) := hh _ hm
  have h1 := flat_get enc s hl xs i x hx j v hj
  have h2 := World.ownsRow.cells h (g := g) rfl _ _ h1
  rw [addr_add] at h2
  rw [← h2]; congr 2; omega
def codesA (acs : List Acc) : List ByteArray := acs.map (·.code)
def accsL (acs : List Acc) : List Acc := (srt (codesA acs)).map (accOf acs)
theorem accs_len (acs : List Acc) : (accsL acs).length = acs.length := by simp [accsL, srt_len, codesA]
set_option maxRecDepth 100000 in
theorem lAccs_P (B : LB) (s : LS) (hacs : s.acs.length ≤ 1000) (w0 : World) (h : ledφ B s w0) :
    NewC Tryz.prog 27 [.pointer (some ⟨B.lb, 0, none⟩)] w0 (fun v : Value => v) (fun v => ownA 35 4 v (accsL s.acs).length ((accsL s.acs).flatMap encAc)) := by
  have hkm : keysM (entAc s.acs) = codesA s.acs := by simp [keysM, entAc, codesA, Function.comp_def]
  have hel : (entAc s.acs).length = s.acs.length := by simp [entAc]
  refine c_enter [(0, .pointer (some ⟨B.lb, 0, none⟩))] [ledA B s false] noB Tryz.func27 rfl Tryz.ntmps27 ⟨rfl, trivial⟩ rfl (okC (led_ok false h) okN) dis1 (mineC (by rfl) mineN) ?_
  intro a hS
  refine c_seq (c_region ?_)
  refine L_e hS (e_assign rfl) rfl ?_; clear hS a; intro a hS
  refine L_nil (n_then (c_seq (c_region ?_)))
  refine L_e hS (e_assign rfl) rfl ?_; clear hS a; intro a hS
  refine L_nil (n_then (c_seq (c_seq (c_region ?_))))
  refine L_e hS (e_move rfl) rfl ?_; clear hS a; intro a hS
  refine L_e hS (e_nilCheck rfl) rfl ?_; clear hS a; intro a hS
  (first | refine L_e hS (e_fa0 rfl ty_fo88_1) rfl ?_ | refine L_e hS (e_faK rfl ty_fo88_1) rfl ?_); clear hS a; intro a hS
  refine L_e hS (e_loadC rfl ty_sc84 (led_cell (k := 1) (by repeat constructor) rfl)) rfl ?_; clear hS a; intro a hS
  refine L_op (s_callN hS (.cons rfl .nil) cf71 rfl (KeysLed_P B.ma _) ?_); clear hS a; (try clear w); intro x10 a w hS
  refine L_op (s_callN hS (.cons rfl .nil) cf70 rfl (SortedS_P cf108 (N := (entAc s.acs).length) (by omega) (fun xs hx => by rw [hx.length_eq]; simp [keysM]) (keysA x10 B.ma 84 (entAc s.acs)) rfl (Keys_Led_seq x10 B.ma (entAc s.acs)) _ (keys_ok ⟨hS.get (X := .blk x10 [.map (some B.ma)] 84) (by repeat constructor), (hS.get (X := ledA B s false) (by repeat constructor)).am⟩)) ?_); clear hS a; (try clear w); intro x11 a w hS
  obtain ⟨⟨v11, ks⟩, xs, hxs, hks⟩ := x11
  simp only at hks hS
  have hk2 : ks = srt (codesA s.acs) := by rw [hks, ← hkm]; exact srt_perm hxs
  have hkl : ks.length = s.acs.length := by rw [hk2, srt_len]; simp [codesA]
  obtain ⟨q11, c11, rfl⟩ := own_slice (hS.get (X := strA v11 ks) (by repeat constructor))
  have hsh : ks.length = 0 ∨ ∃ g, q11 = some ⟨g, 0, none⟩ := by
    have h0 : World.ownsRow w 0 9 1 (.slice q11 ks.length c11) ks.length (ks.map .string) := hS.get (X := strA (.slice q11 ks.length c11) ks) (by repeat constructor)
    rcases h0.2 with ⟨e1, e2⟩ | ⟨g, cap, cur, e1, _⟩
    · exact .inl e2
    · injection e1 with e3; exact .inr ⟨g, e3⟩
  refine L_e hS (e_len rfl rfl ty_sl154) rfl ?_; clear hS a; intro a hS
  refine L_e hS (e_move rfl) rfl ?_; clear hS a; intro a hS
  refine L_nil (n_then (wp_block ?_))
  replace hS := hS.own_nil 35 4
  refine c_loop (γ := Nat × Value) (fun G a w => St 28 noB w0 a w [(13, .int .i64 (G.1 : Int)), (12, .int .i64 (ks.length : Int)), (11, .slice q11 ks.length c11), (3, G.2), (0, .pointer (some ⟨B.lb, 0, none⟩))] [ownA 35 4 G.2 ((ks.take G.1).map (accOf s.acs)).length (((ks.take G.1).map (accOf s.acs)).flatMap encAc), strA (.slice q11 ks.length c11) ks, ledA B s false] ∧ G.1 ≤ ks.length) (fun G => ks.length - G.1) (0, .slice none 0 0) ⟨(hS.slots (by repeat (first | exact trivial | refine ⟨rfl, ?_⟩))).pick (by repeat (first | exact Pick.nil | (refine Pick.cons (by repeat (first | exact Rem.head | apply Rem.tail)) ?_))), Nat.zero_le _⟩ ?_
  clear hS a; (try clear w); intro G a w hI
  obtain ⟨i, out⟩ := G
  obtain ⟨hS, hi⟩ := hI
  simp only at hS hi
  refine c_seq (c_region ?_)
  refine L_e hS (e_bin rfl rfl rfl) rfl ?_; clear hS a; intro a hS
  refine L_nil (n_then (c_seq ?_))
  first | refine c_ifD hS rfl (fun hc14 => ?_) (fun hc14 => ?_) | refine c_if hS rfl (fun hc14 => ?_) (fun hc14 => ?_)
  ·
    have hik : i < ks.length := by omega
    obtain ⟨c, hx⟩ : ∃ c, ks[i]? = some c := ⟨ks[i], List.getElem?_eq_getElem hik⟩
    obtain ⟨g, rfl⟩ : ∃ g, q11 = some ⟨g, 0, none⟩ := hsh.resolve_left (by omega)
    have htk : (ks.take (i + 1)).map (accOf s.acs) = (ks.take i).map (accOf s.acs) ++ [accOf s.acs c] := by rw [List.take_add_one, hx]; simp
    have hml : ((ks.take i).map (accOf s.acs)).length = i := by rw [List.length_map, List.length_take]; omega
    refine wp_skip (n_then (c_seq (wp_block (c_seq (c_region ?_)))))
    refine L_e hS (e_ixN rfl rfl ty_sl154 ty_sz9 (by omega)) rfl ?_; clear hS a; intro a hS
    refine L_e hS (e_loadC rfl ty_sc9 (str_getL (by repeat constructor) hx)) rfl ?_; clear hS a; intro a hS
    refine L_e hS (e_assign rfl) rfl ?_; clear hS a; intro a hS
    refine L_nil (n_then (c_region ?_))
    refine L_e hS (e_move rfl) rfl ?_; clear hS a; intro a hS
    refine L_e hS (e_move rfl) rfl ?_; clear hS a; intro a hS
    refine L_e hS (e_nilCheck rfl) rfl ?_; clear hS a; intro a hS
    (first | refine L_e hS (e_fa0 rfl ty_fo88_1) rfl ?_ | refine L_e hS (e_faK rfl ty_fo88_1) rfl ?_); clear hS a; intro a hS
    refine L_e hS (e_loadC rfl ty_sc84 (led_cell (k := 1) (by repeat constructor) rfl)) rfl ?_; clear hS a; intro a hS
    refine L_e hS (e_move rfl) rfl ?_; clear hS a; intro a hS
    refine L_e hS (e_lookupC rfl rfl ty_mp84 ty_u9 ty_zv35 (fun w hh => (hh (ledA B s false) (by repeat constructor)).am)) rfl ?_; clear hS a; intro a hS
    rw [lk_acc] at hS
    refine L_op (s_bslice hS ty_sl48 ty_sz35 ty_z35 rfl rfl rfl rfl (.agg rfl rfl .nil) rfl ?_); clear hS a; (try clear w); intro a w b24 hS
    refine L_op (s_append1 hS rfl rfl ty_sl48 ty_sz35 ty_by35 ty_z35 rfl rfl rfl (by repeat constructor) (by repeat constructor) (by rfl) (by rfl) (fun _ => (by repeat constructor)) (by omega) ?_); clear hS a; (try clear w); intro v25 a w hv25 hS
    refine L_e hS (e_assign rfl) rfl ?_; clear hS a; intro a hS
    refine L_nil (n_block (n_then (c_region ?_)))
    (first | refine L_e hS (e_binN rfl rfl rfl (by omega)) rfl ?_ | refine L_e hS (e_bin rfl rfl rfl) rfl ?_); clear hS a; intro a hS
    refine L_e hS (e_move rfl) rfl ?_; clear hS a; intro a hS
    refine L_nil ?_
    have e1 : ((ks.take (i + 1)).map (accOf s.acs)).length = ((ks.take i).map (accOf s.acs)).length + 1 := by rw [htk]; simp
    have e2 : ((ks.take (i + 1)).map (accOf s.acs)).flatMap encAc = ((ks.take i).map (accOf s.acs)).flatMap encAc ++ encAc (accOf s.acs c) := by rw [htk, List.flatMap_append]; simp
    refine ⟨(i + 1, v25), by simp only; omega, ?_, by simp only; omega⟩
    simp only
    rw [e1, e2]
    exact (hS.slots (by repeat (first | exact trivial | refine ⟨rfl, ?_⟩))).pick (by repeat (first | exact Pick.nil | (refine Pick.cons (by repeat (first | exact Rem.head | apply Rem.tail)) ?_)))
  obtain rfl : i = ks.length := by omega
  have hall : (ks.take ks.length).map (accOf s.acs) = accsL s.acs := by rw [List.take_length, hk2]; rfl
  rw [hall] at hS
  refine wp_exit ?_
  refine x_then (x_then (x_hit ?_))
  refine n_then (c_seq (c_region ?_))
  refine L_e hS (e_move rfl) rfl ?_; clear hS a; intro a hS
  refine L_e hS (e_assign rfl) rfl ?_; clear hS a; intro a hS
  refine L_nil (n_then (wp_ret ?_))
  refine c_ret1 hS Tryz.results27 (.tmp rfl) ?_
  exact ⟨out, rfl, hS.chg, hS.new (X := ownA 35 4 out (accsL s.acs).length ((accsL s.acs).flatMap encAc)) (by repeat constructor) rfl⟩
def triZ (bx m : Nat) (t : List (ByteArray × SM)) : Asn := .any (fun k => k = bx ∨ k = m) (fun w => w.heap[bx]? = some (.cells [Value.map (some m)].toArray 85 (0, 0)) ∧ w.heap[m]? = some (.map (mkM 0 (entSm t)).toArray (entSm t).length)) true
theorem triZ_ok {bx m : Nat} {t : List (ByteArray × SM)} {w : World} (h1 : w.heap[bx]? = some (.cells [Value.map (some m)].toArray 85 (0, 0))) (h2 : w.heap[m]? = some (.map (mkM 0 (entSm t)).toArray (entSm t).length)) : (triZ bx m t).ok w := by
  refine ⟨fun k hk => ?_, fun w' hw => ⟨?_, ?_⟩⟩
  · rcases hk with rfl | rfl
    · exact (Array.getElem?_eq_some_iff.1 h1).1
    · exact (Array.getElem?_eq_some_iff.1 h2).1
  · rw [hw bx (.inl rfl)]; exact h1
  · rw [hw m (.inr rfl)]; exact h2
def triStep (t : List (ByteArray × SM)) (p : Pst) : List (ByteArray × SM) := putT t p.acc (addS (totOf t p.acc) p)
theorem map_ok {b : Nat} {l : List (ByteArray × Value)} {w : World} (hb : w.heap[b]? = some (.map (mkM 0 l).toArray l.length)) : (smapA b l).ok w :=
  ⟨fun k hk => by obtain rfl : k = b := hk; exact (Array.getElem?_eq_some_iff.1 hb).1, fun w' hw => by show w'.heap[b]? = _; rw [hw b rfl]; exact hb⟩
set_option maxRecDepth 100000 in
theorem lTrial1_P (bx m : Nat) (t : List (ByteArray × SM)) (p : Pst) (hg : fitS (totOf t p.acc)) (hp : p.fits) (hr : fitS (addS (totOf t p.acc) p)) (hne : bx ≠ m) (w0 : World) (h : (triZ bx m t).ok w0) :
    MutC Tryz.prog 67 [.agg (encP p).toArray, .pointer (some ⟨bx, 0, none⟩)] w0 (triZ bx m t) (fun _ : Unit => .tuple #[]) (fun _ => triZ bx m (triStep t p)) := by
  have h1 := h.now.1
  have h2 := h.now.2
  refine c_enter [(0, .agg (encP p).toArray), (1, .pointer (some ⟨bx, 0, none⟩))] [.blk bx [.map (some m)] 85, smapA m (entSm t)] (triZ bx m t).F Tryz.func67 rfl Tryz.ntmps67 ⟨rfl, rfl, trivial⟩ rfl (okC (ok_blk h1) (okC (map_ok h2) okN)) (disC (sepC (fun b e1 e2 => hne (Eq.trans (Eq.symm e1) e2)) sepN) dis1) (mineO (fun _ hb => .inl hb) (mineO (fun _ hb => .inr hb) mineN)) ?_
  intro a hS
  refine c_seq (c_region ?_)
  refine L_op (s_boxA hS rfl rfl ?_); clear hS a; (try clear w); intro a w b2 hS
  refine L_nil (n_then ?_)
  refine c_drawS [9] (by kernel_rfl) hS (sub_cons (X := .blk b2 _ _) (by repeat constructor) (sub_cons (X := .blk bx [.map (some m)] 85) (by repeat constructor) (sub_cons (X := smapA m (entSm t)) (by repeat constructor) sub_nil))) ?_; clear hS; (try clear w); intro w hS
  simp only [List.length_cons, List.length_nil, Nat.zero_add, Nat.reduceAdd, List.replicate]
  refine Zt 0 (tf 1 9) hS rfl want_none (e_load rfl (by repeat constructor) ty_sc85 (by rfl)) rfl (by kernel_rfl) (sub_cons (by repeat constructor) (sub_cons (by repeat constructor) (sub_cons (by repeat constructor) sub_nil))) rfl ?_; clear hS a; intro a hS
  (first | refine Zt0 1 (tf 2 8) hS rfl want_none (e_fa0 rfl ty_fo82_0) rfl (by kernel_rfl) rfl ?_ | refine Zt0 1 (tf 2 8) hS rfl want_none (e_faK rfl ty_fo82_0) rfl (by kernel_rfl) rfl ?_); clear hS a; intro a hS
  refine Zt 2 (tf 3 7) hS rfl want_none (e_load rfl (by repeat constructor) ty_sc9 (by rfl)) rfl (by kernel_rfl) (sub_cons (by repeat constructor) (sub_cons (by repeat constructor) (sub_cons (by repeat constructor) sub_nil))) rfl ?_; clear hS a; intro a hS
  refine Zt 3 (tf 4 6) hS rfl want_none (e_load rfl (by repeat constructor) ty_sc85 (by rfl)) rfl (by kernel_rfl) (sub_cons (by repeat constructor) (sub_cons (by repeat constructor) (sub_cons (by repeat constructor) sub_nil))) rfl ?_; clear hS a; intro a hS
  (first | refine Zt0 4 (tf 5 5) hS rfl want_none (e_fa0 rfl ty_fo82_0) rfl (by kernel_rfl) rfl ?_ | refine Zt0 4 (tf 5 5) hS rfl want_none (e_faK rfl ty_fo82_0) rfl (by kernel_rfl) rfl ?_); clear hS a; intro a hS
  refine Zt 5 (tf 6 4) hS rfl want_none (e_load rfl (by repeat constructor) ty_sc9 (by rfl)) rfl (by kernel_rfl) (sub_cons (by repeat constructor) (sub_cons (by repeat constructor) (sub_cons (by repeat constructor) sub_nil))) rfl ?_; clear hS a; intro a hS
  refine Zt 6 (tf 7 3) hS rfl want_none (e_lookupS rfl rfl ty_mp85 ty_u9 ty_zv149 (by repeat constructor)) rfl (by kernel_rfl) (sub_cons (by repeat constructor) (sub_cons (by repeat constructor) (sub_cons (by repeat constructor) sub_nil))) rfl ?_; clear hS a; intro a hS
  rw [lk_tot] at hS
  refine Zt 7 (tf 8 2) hS rfl want_none (e_loadA rfl (by repeat constructor) ty_st82 ty_sz82 (by rfl)) rfl (by kernel_rfl) (sub_cons (by repeat constructor) (sub_cons (by repeat constructor) (sub_cons (by repeat constructor) sub_nil))) rfl ?_; clear hS a; intro a hS
  refine Z_one (i := 8) rfl (want_none a hS.sl) (listed' := (tf 9 1)) rfl (by kernel_rfl) (s_callP hS (.cons rfl (.cons rfl .nil)) cf68 rfl (sadd_P (totOf t p.acc) p hg hp hr _) ?_); clear hS a; (try clear w); intro a w hS
  refine Z_and hS (sub_cons (by repeat constructor) (sub_cons (by repeat constructor) (sub_cons (by repeat constructor) sub_nil))) ?_
  refine Z_one (i := 9) rfl (want_none a hS.sl) (listed' := (tf 10 0)) rfl (by kernel_rfl) (s_mapUp hS rfl rfl rfl ty_mp85 ty_u9 (by repeat constructor) ?_); clear hS; (try clear w); intro w hS
  refine Z_last (by simp) ?_
  refine Z_done (by kernel_rfl) ?_
  refine r_norm ?_
  refine c_retN hS Tryz.results67 .nil rfl ?_
  rw [putT_set] at hS
  exact ⟨(), rfl, hS.chg, triZ_ok (hS.get (X := .blk bx [.map (some m)] 85) (by repeat constructor)) (hS.get (X := smapA m (entSm (triStep t p))) (by repeat constructor)), fun b hb => .inl hb⟩
theorem tri_fold (l : List Pst) : ∀ (t : List (ByteArray × SM)) (n : Nat), (∀ p ∈ l, p.fits) → bdT t n → bdT (l.foldl triStep t) (n + l.length) := by
  induction l with
  | nil => intro t n _ h; exact h
  | cons p r ih =>
    intro t n hf h
    have h2 := ih (triStep t p) (n + 1) (fun q hq => hf q (.tail _ hq)) (bdT_put h (hf p (.head _)))
    rw [List.foldl_cons, List.length_cons, show n + (r.length + 1) = n + 1 + r.length by omega]; exact h2
theorem tri_sum (code : ByteArray) (l : List Pst) : ∀ (t : List (ByteArray × SM)), totOf (l.foldl triStep t) code = l.foldl (balStep code) (totOf t code) := by
  induction l with
  | nil => intro t; rfl
  | cons p r ih =>
    intro t
    rw [List.foldl_cons, List.foldl_cons, ih]
    congr 1
    unfold triStep balStep
    rw [totOf_put]
    by_cases e : p.acc = code
    · rw [if_pos e, if_pos e, e]
    · rw [if_neg e, if_neg e]
def triT (P : PL) (at_ : Int) : List (ByteArray × SM) := if inst at_ then (postsAt P.es at_).foldl triStep [] else []
def triB (P : PL) (at_ : Int) (a : Acc) : BL := (a.code, balV (totOf (triT P at_) a.code))
def trialF (P : PL) (at_ : Int) : List BL := (accsL P.acs).map (triB P at_)
theorem tri_bd {P : PL} (h : fitL P) (at_ : Int) : bdT (triT P at_) 5000000 := by
  unfold triT
  split
  · have h1 := tri_fold (postsAt P.es at_) [] 0 (posts_fit h at_) (fun e he => (by cases he))
    have h2 := posts_len P.es at_ h.ps
    have h3 := h.few
    intro e he
    have h4 := h1 e he
    omega
  · intro e he; cases he
set_option maxHeartbeats 1000000 in
set_option maxRecDepth 100000 in
theorem lTrial_P (B : LB) (s : LS) (at_ : Int) (hacs : s.acs.length ≤ 1000) (hfl : fitL (pl s)) (w0 : World) (h : ledφ B s w0) :
     NewC Tryz.prog 26 [.pointer (some ⟨B.lb, 0, none⟩), .int .i64 at_] w0 (fun v : Value => v) (fun v => ownA 71 3 v (trialF (pl s) at_).length ((trialF (pl s) at_).flatMap encBl)) := by
   have hes : s.es.length ≤ 100000 := by have := hfl.few; simpa [pl] using this
   have hps : ∀ x ∈ s.es, x.v.ps.length ≤ 50 := fun x hx => hfl.ps x.v (by unfold pl; exact List.mem_map.2 ⟨x, hx, rfl⟩)
   have htb := tri_bd hfl at_
   have hal := accs_len s.acs
   refine c_enter [(0, .pointer (some ⟨B.lb, 0, none⟩)), (1, .int .i64 at_)] [ledA B s false] noB Tryz.func26 rfl Tryz.ntmps26 ⟨rfl, rfl, trivial⟩ rfl (okC (led_ok false h) okN) dis1 (mineC (by rfl) mineN) ?_
   intro a hS
   refine c_seq (c_region ?_)
   refine L_e hS (e_assign rfl) rfl ?_; clear hS a; intro a hS
   refine L_nil (n_then (c_seq (c_region ?_)))
   refine L_op (s_makeMapS hS rfl ?_); clear hS a; (try clear w); intro a w b11 hS
   refine L_op (s_alloc hS ty_z85 rfl ?_); clear hS a; (try clear w); intro a w b5 hS
   refine L_op (s_store hS rfl rfl rfl ty_sz85 (by repeat constructor) (by repeat constructor) ?_); clear hS; (try clear w); intro w hS
   refine L_nil (n_then ?_)
   refine c_cut (fun a w => St 41 noB w0 a w [(5, .pointer (some ⟨b5, 0, none⟩)), (0, .pointer (some ⟨B.lb, 0, none⟩))] [triZ b5 b11 (triT (pl s) at_), ledA B s false]) ?_ ?_
   ·
     refine c_seq ?_
     have hne : b5 ≠ b11 := fun e => hS.sep (X := .blk b5 [.map (some b11)] 85) (Y := smapA b11 []) (by repeat (first | exact Rem.head | apply Rem.tail)) (by repeat constructor) b5 rfl e
     replace hS := hS.join (Y := smapA b11 []) (Z := triZ b5 b11 []) (by repeat constructor) (triZ_ok (hS.get (X := .blk b5 [.map (some b11)] 85) (by repeat constructor)) (hS.get (X := smapA b11 []) (by repeat constructor))) (fun b hb => hb) (fun _ => ⟨rfl, rfl⟩)
     refine c_region ?_
     refine L_e hS (e_move rfl) rfl ?_; clear hS a; intro a hS
     refine L_op (s_callP hS (.cons rfl .nil) cf65 rfl (linst_P at_ _) ?_); clear hS a; (try clear w); intro a w hS
     refine L_nil (n_then ?_)
     first | refine c_ifD hS rfl (fun hc13 => ?_) (fun hc13 => ?_) | refine c_if hS rfl (fun hc13 => ?_) (fun hc13 => ?_)
     ·
       refine c_region ?_
       refine L_e hS (e_move rfl) rfl ?_; clear hS a; intro a hS
       refine L_e hS (e_move rfl) rfl ?_; clear hS a; intro a hS
       refine L_e hS (e_makeFunc .nil (.cons rfl .nil)) rfl ?_; clear hS a; intro a hS
       refine L_op (s_callM hS (.cons rfl (.cons rfl (.cons rfl .nil))) cf66 rfl (leach_P B s at_ 67 [.pointer (some ⟨b5, 0, none⟩)] (triZ b5 b11) (fun _ => rfl) triStep [] cf67 (by omega) (fun x hx => by have := hps x hx; omega) (fun pre p post hsp w hok => by
 have hm : p ∈ postsAt (pl s).es at_ := by rw [hsp]; simp
 have hpf := posts_fit hfl at_ p hm
 have hpre : ∀ q ∈ pre, q.fits := fun q hq => posts_fit hfl at_ q (by rw [hsp]; simp [hq])
 have hb := bdT_of (tri_fold pre [] 0 hpre (fun e he => (by cases he))) p.acc
 have hl := posts_len (pl s).es at_ hfl.ps
 have hfw := hfl.few
 rw [hsp, List.length_append, List.length_cons] at hl
 have hu := hpf.u
 have hff := hpf.f
 have e : (pre ++ [p]).foldl triStep [] = triStep (pre.foldl triStep []) p := by rw [List.foldl_append]; rfl
 rw [e]
 exact lTrial1_P b5 b11 _ p (by unfold fitS Wd.fit; omega) hpf (by unfold fitS addS Wd.fit; simp only; omega) hne w hok) _ (hS.get (X := ledA B s false) (by repeat constructor)) (hS.ok (triZ b5 b11 []) (by repeat constructor)) (fun b hb hl => hS.sep (X := triZ b5 b11 []) (Y := ledA B s false) (by repeat (first | exact Rem.head | apply Rem.tail)) (by repeat constructor) b hb hl)) (fun x => (by repeat constructor)) rfl ?_); clear hS a; (try clear w); intro x17 a w hS
       refine L_nil ?_
       first
       | (rw [show triT (pl s) at_ = (postsAt (pl s).es at_).foldl triStep [] from if_pos hc13]; exact (hS.slots (by repeat (first | exact trivial | refine ⟨rfl, ?_⟩))).pick (by repeat (first | exact Pick.nil | (refine Pick.cons (by repeat (first | exact Rem.head | apply Rem.tail)) ?_))))
       | (rw [show triT (pl s) at_ = [] from if_neg hc13]; exact (hS.slots (by repeat (first | exact trivial | refine ⟨rfl, ?_⟩))).pick (by repeat (first | exact Pick.nil | (refine Pick.cons (by repeat (first | exact Rem.head | apply Rem.tail)) ?_))))
     refine wp_skip ?_
     first
     | (rw [show triT (pl s) at_ = (postsAt (pl s).es at_).foldl triStep [] from if_pos hc13]; exact (hS.slots (by repeat (first | exact trivial | refine ⟨rfl, ?_⟩))).pick (by repeat (first | exact Pick.nil | (refine Pick.cons (by repeat (first | exact Rem.head | apply Rem.tail)) ?_))))
     | (rw [show triT (pl s) at_ = [] from if_neg hc13]; exact (hS.slots (by repeat (first | exact trivial | refine ⟨rfl, ?_⟩))).pick (by repeat (first | exact Pick.nil | (refine Pick.cons (by repeat (first | exact Rem.head | apply Rem.tail)) ?_))))
   clear hS a; (try clear w); intro a w hS
   skip
   refine c_seq (c_region ?_)
   refine L_e hS (e_assign rfl) rfl ?_; clear hS a; intro a hS
   refine L_nil (n_then (c_seq (c_seq (c_region ?_))))
   refine L_e hS (e_move rfl) rfl ?_; clear hS a; intro a hS
   refine L_op (s_callN hS (.cons rfl .nil) cf27 rfl (lAccs_P B s hacs _ (hS.get (X := ledA B s false) (by repeat constructor))) ?_); clear hS a; (try clear w); intro x19 a w hS
   obtain ⟨q19, c19, rfl⟩ := own_slice (hS.get (X := ownA 35 4 x19 (accsL s.acs).length ((accsL s.acs).flatMap encAc)) (by repeat constructor))
   have hsh : (accsL s.acs).length = 0 ∨ ∃ g, q19 = some ⟨g, 0, none⟩ := by
     have h0 : World.ownsRow w 0 35 4 (.slice q19 (accsL s.acs).length c19) (accsL s.acs).length ((accsL s.acs).flatMap encAc) := hS.get (X := ownA 35 4 (.slice q19 (accsL s.acs).length c19) (accsL s.acs).length ((accsL s.acs).flatMap encAc)) (by repeat constructor)
     rcases h0.2 with ⟨e1, e2⟩ | ⟨g, cap, cur, e1, _⟩
     · exact .inl e2
     · injection e1 with e3; exact .inr ⟨g, e3⟩
   refine L_e hS (e_len rfl rfl ty_sl48) rfl ?_; clear hS a; intro a hS
   refine L_e hS (e_move rfl) rfl ?_; clear hS a; intro a hS
   refine L_nil (n_then (wp_block ?_))
   replace hS := hS.own_nil 71 3
   refine c_loop (γ := Nat × Value) (fun G a w => St 41 noB w0 a w [(21, .int .i64 (G.1 : Int)), (20, .int .i64 ((accsL s.acs).length : Int)), (19, .slice q19 (accsL s.acs).length c19), (6, G.2), (5, .pointer (some ⟨b5, 0, none⟩))] [ownA 71 3 G.2 (((accsL s.acs).take G.1).map (triB (pl s) at_)).length ((((accsL s.acs).take G.1).map (triB (pl s) at_)).flatMap encBl), ownA 35 4 (.slice q19 (accsL s.acs).length c19) (accsL s.acs).length ((accsL s.acs).flatMap encAc), triZ b5 b11 (triT (pl s) at_)] ∧ G.1 ≤ (accsL s.acs).length) (fun G => (accsL s.acs).length - G.1) (0, .slice none 0 0) ⟨(hS.slots (by repeat (first | exact trivial | refine ⟨rfl, ?_⟩))).pick (by repeat (first | exact Pick.nil | (refine Pick.cons (by repeat (first | exact Rem.head | apply Rem.tail)) ?_))), Nat.zero_le _⟩ ?_
   clear hS a; (try clear w); intro G a w hI
   obtain ⟨i, out⟩ := G
   obtain ⟨hS, hi⟩ := hI
   simp only at hS hi
   refine c_seq (c_region ?_)
   refine L_e hS (e_bin rfl rfl rfl) rfl ?_; clear hS a; intro a hS
   refine L_nil (n_then (c_seq ?_))
   first | refine c_ifD hS rfl (fun hc22 => ?_) (fun hc22 => ?_) | refine c_if hS rfl (fun hc22 => ?_) (fun hc22 => ?_)
   ·
     have hik : i < (accsL s.acs).length := by omega
     obtain ⟨x, hx⟩ : ∃ x, (accsL s.acs)[i]? = some x := ⟨(accsL s.acs)[i], List.getElem?_eq_getElem hik⟩
     obtain ⟨g, rfl⟩ : ∃ g, q19 = some ⟨g, 0, none⟩ := hsh.resolve_left (by omega)
     have htk : ((accsL s.acs).take (i + 1)).map (triB (pl s) at_) = ((accsL s.acs).take i).map (triB (pl s) at_) ++ [triB (pl s) at_ x] := by rw [List.take_add_one, hx]; simp
     have hml : (((accsL s.acs).take i).map (triB (pl s) at_)).length = i := by rw [List.length_map, List.length_take]; omega
     have hb1 := bdT_of htb x.code
     have ft : fitS (totOf (triT (pl s) at_) x.code) := by unfold fitS Wd.fit; omega
     refine wp_skip (n_then (c_seq (wp_block (c_seq (c_region ?_)))))
     refine L_e hS (e_ixN rfl rfl ty_sl48 ty_sz35 (by omega)) rfl ?_; clear hS a; intro a hS
     refine L_e hS (e_loadAC (l := encAc x) rfl ty_st35 ty_sz35 (own_getL (enc := encAc) (s := 4) (fun _ => rfl) (by repeat constructor) hx)) rfl ?_; clear hS a; intro a hS
     refine L_op (s_alloc hS ty_z35 rfl ?_); clear hS a; (try clear w); intro a w b8 hS
     refine L_op (s_storeA hS rfl rfl ty_sz35 (by repeat constructor) (by rfl) (by rfl) (by rfl) ?_); clear hS; (try clear w); intro w hS
     refine L_nil (n_then (c_seq (c_region ?_)))
     refine L_e hS (e_loadC rfl ty_sc85 (fun w hh => cell_of_blk (cs := [.map (some b11)]) (hh (triZ b5 b11 (triT (pl s) at_)) (by repeat constructor)).1 rfl)) rfl ?_; clear hS a; intro a hS
     (first | refine L_e hS (e_fa0 rfl ty_fo35_0) rfl ?_ | refine L_e hS (e_faK rfl ty_fo35_0) rfl ?_); clear hS a; intro a hS
     refine L_e hS (e_load rfl (by repeat constructor) ty_sc9 (by rfl)) rfl ?_; clear hS a; intro a hS
     refine L_e hS (e_lookupC rfl rfl ty_mp85 ty_u9 ty_zv149 (fun w hh => (hh (triZ b5 b11 (triT (pl s) at_)) (by repeat constructor)).2)) rfl ?_; clear hS a; intro a hS
     rw [lk_tot] at hS
     (first | refine L_e hS (e_fa0 rfl ty_fo35_0) rfl ?_ | refine L_e hS (e_faK rfl ty_fo35_0) rfl ?_); clear hS a; intro a hS
     refine L_e hS (e_load rfl (by repeat constructor) ty_sc9 (by rfl)) rfl ?_; clear hS a; intro a hS
     refine L_op (s_callP hS (.cons rfl (.cons rfl .nil)) cf69 rfl (sbal_P (totOf (triT (pl s) at_) x.code) x.code ft _) ?_); clear hS a; (try clear w); intro a w hS
     refine L_e hS (e_move rfl) rfl ?_; clear hS a; intro a hS
     refine L_e hS (e_extract rfl rfl) rfl ?_; clear hS a; intro a hS
     refine L_e hS (e_extract rfl rfl) rfl ?_; clear hS a; intro a hS
     refine L_op (s_alloc hS ty_z71 rfl ?_); clear hS a; (try clear w); intro a w b9 hS
     refine L_op (s_storeA hS rfl rfl ty_sz71 (by repeat constructor) (by rfl) (by rfl) (by rfl) ?_); clear hS; (try clear w); intro w hS
     refine L_e hS (e_assign rfl) rfl ?_; clear hS a; intro a hS
     refine L_nil (n_then (c_region ?_))
     refine L_e hS (e_move rfl) rfl ?_; clear hS a; intro a hS
     refine L_e hS (e_loadA rfl (by repeat constructor) ty_st71 ty_sz71 (by rfl)) rfl ?_; clear hS a; intro a hS
     refine L_op (s_bslice hS ty_sl68 ty_sz71 ty_z71 rfl rfl rfl rfl (.agg rfl rfl .nil) rfl ?_); clear hS a; (try clear w); intro a w b37 hS
     refine L_op (s_append1 hS rfl rfl ty_sl68 ty_sz71 ty_by71 ty_z71 rfl rfl rfl (by repeat constructor) (by repeat constructor) (by rfl) (by rfl) (fun _ => (by repeat constructor)) (by omega) ?_); clear hS a; (try clear w); intro v38 a w hv38 hS
     refine L_e hS (e_assign rfl) rfl ?_; clear hS a; intro a hS
     refine L_nil (n_block (n_then (c_region ?_)))
     (first | refine L_e hS (e_binN rfl rfl rfl (by omega)) rfl ?_ | refine L_e hS (e_bin rfl rfl rfl) rfl ?_); clear hS a; intro a hS
     refine L_e hS (e_move rfl) rfl ?_; clear hS a; intro a hS
     refine L_nil ?_
     have e1 : (((accsL s.acs).take (i + 1)).map (triB (pl s) at_)).length = (((accsL s.acs).take i).map (triB (pl s) at_)).length + 1 := by rw [htk]; simp
     have e2 : (((accsL s.acs).take (i + 1)).map (triB (pl s) at_)).flatMap encBl = (((accsL s.acs).take i).map (triB (pl s) at_)).flatMap encBl ++ encBl (triB (pl s) at_ x) := by rw [htk, List.flatMap_append]; simp
     refine ⟨(i + 1, v38), by simp only; omega, ?_, by simp only; omega⟩
     simp only
     rw [e1, e2]
     exact (hS.slots (by repeat (first | exact trivial | refine ⟨rfl, ?_⟩))).pick (by repeat (first | exact Pick.nil | (refine Pick.cons (by repeat (first | exact Rem.head | apply Rem.tail)) ?_)))
   obtain rfl : i = (accsL s.acs).length := by omega
   have hall : ((accsL s.acs).take (accsL s.acs).length).map (triB (pl s) at_) = trialF (pl s) at_ := by rw [List.take_length]; rfl
   rw [hall] at hS
   refine wp_exit ?_
   refine x_then (x_then (x_hit ?_))
   refine n_then (c_seq (c_region ?_))
   refine L_e hS (e_move rfl) rfl ?_; clear hS a; intro a hS
   refine L_e hS (e_assign rfl) rfl ?_; clear hS a; intro a hS
   refine L_nil (n_then (wp_ret ?_))
   refine c_ret1 hS Tryz.results26 (.tmp rfl) ?_
   exact ⟨out, rfl, hS.chg, hS.new (X := ownA 71 3 out (trialF (pl s) at_).length ((trialF (pl s) at_).flatMap encBl)) (by repeat constructor) rfl⟩
end Go.Proofs.YtheofhegdjjfgaaGreat

namespace Go.Proofs.YtheofhegdjjfgaaGreat
open Go.RowKit
def PsAt (v : Value) (l : List Pst) (w : World) : Prop :=
  (l = [] ∧ ∃ a c, v = .slice a 0 c) ∨ ∃ b off c, l ≠ [] ∧ v = sliceV (some (b, off)) l.length c ∧ RowAt b off 3 (l.map encP) w ∧ b < w.heap.size
structure LO where
  kind : Int
  at_ : Int
  a : Acc
  memo : ByteArray
  ps : List Pst
  pv : Value
def encLO (x : LO) : List Value := [.int .i64 x.kind, .int .i64 x.at_, .string x.a.code, .string x.a.cur, .int .i64 x.a.kind, .bool x.a.mon, .string x.memo, x.pv]
structure LO.fits (x : LO) : Prop where
  at_ : -9223372036854775808 ≤ x.at_ ∧ x.at_ ≤ 9223372036854775807
  code : x.a.code.size ≤ 4611686018427387904
  cur : x.a.cur.size ≤ 4611686018427387904
  memo : x.memo.size ≤ 4611686018427387904
  ps : (∀ y ∈ x.ps, y.fits) ∧ x.ps.length ≤ 4611686018427387904
def losφ (p : Option (Nat × Nat)) (l : List LO) (w : World) : Prop := RowP p 8 (l.map encLO) w ∧ ∀ x ∈ l, PsAt x.pv x.ps w
def losF (p : Option (Nat × Nat)) (l : List LO) (k : Nat) : Prop := (∃ off, p = some (k, off)) ∨ ∃ x ∈ l, x.ps ≠ [] ∧ x.pv.ownBlock = some k
def losA (p : Option (Nat × Nat)) (l : List LO) : Asn := .any (losF p l) (losφ p l) false
theorem heap_lt_ofL {w w' : World} {b : Nat} (h : b < w.heap.size) (hw : w'.heap[b]? = w.heap[b]?) : b < w'.heap.size := by
  rw [Array.getElem?_eq_getElem h] at hw
  exact (Array.getElem?_eq_some_iff.1 hw).1
theorem PsAt.keep {v : Value} {l : List Pst} {w w' : World} (h : PsAt v l w) (hw : ∀ k, l ≠ [] → v.ownBlock = some k → w'.heap[k]? = w.heap[k]?) : PsAt v l w' := by
  rcases h with h | ⟨b, off, c, h1, rfl, h2, h3⟩
  · exact .inl h
  · exact .inr ⟨b, off, c, h1, rfl, h2.keep (hw b h1 rfl), heap_lt_ofL h3 (hw b h1 rfl)⟩
theorem los_ok {p : Option (Nat × Nat)} {l : List LO} {w : World} (h : losφ p l w) (hb : ∀ q, p = some q → q.1 < w.heap.size) : (losA p l).ok w := by
  refine ⟨fun k hk => ?_, fun w' hw => ⟨(ok_rowP h.1 hb).hold w' (fun k hk => hw k (.inl hk)), fun x hx => (h.2 x hx).keep (fun k hk hk2 => hw k (.inr ⟨x, hx, hk, hk2⟩))⟩⟩
  rcases hk with ⟨off, e⟩ | ⟨x, hx, hne, e⟩
  · exact hb _ e
  · rcases h.2 x hx with ⟨h0, _⟩ | ⟨b, off, c, _, ev, _, h3⟩
    · exact absurd h0 hne
    · rw [ev] at e; cases e; exact h3
theorem PsAt.shape {v : Value} {l : List Pst} {w : World} (h : PsAt v l w) : ∃ a c, v = .slice a l.length c := by
  rcases h with ⟨rfl, a, c, rfl⟩ | ⟨b, off, c, _, rfl, _, _⟩
  · exact ⟨a, c, rfl⟩
  · exact ⟨_, c, rfl⟩
theorem PsAt.some {v : Value} {l : List Pst} {w : World} (h : PsAt v l w) (hne : l ≠ []) : ∃ b off c, v = sliceV (some (b, off)) l.length c ∧ RowAt b off 3 (l.map encP) w ∧ b < w.heap.size := by
  rcases h with ⟨h0, _⟩ | ⟨b, off, c, _, h1, h2, h3⟩
  · exact absurd h0 hne
  · exact ⟨b, off, c, h1, h2, h3⟩
theorem los_get {Γ : List Asn} {b off : Nat} {l : List LO} (hm : losA (some (b, off)) l ∈ Γ) {i : Nat} {x : LO} (hx : l[i]? = some x) : ∀ w, Hd Γ w → ∀ j v, (encLO x)[j]? = some v → w.cell? ⟨b, off + i * 8 + j, none⟩ = some v :=
  fun _ hh j v hj => (hh _ hm).1 i (encLO x) (by simp [hx]) j v hj
theorem los_pos {p : Option (Nat × Nat)} {l : List LO} {w : World} (h : losφ p l w) {i : Nat} {x : LO} (hx : l[i]? = some x) : ∃ b off, p = some (b, off) :=
  rowP_some h.1 (i := i) (x := encLO x) (by simp [hx])
def fewLO (o : LO) : Prop := o.a.code.size ≤ 300 ∧ o.a.cur.size ≤ 300 ∧ o.memo.size ≤ 300 ∧ o.ps.length ≤ 60 ∧ ∀ y ∈ o.ps, y.acc.size ≤ 300
instance (o : LO) : Decidable (fewLO o) := by unfold fewLO; infer_instance
def fewLs (l : List LO) : Prop := l.length ≤ 60 ∧ ∀ o ∈ l, fewLO o
instance (l : List LO) : Decidable (fewLs l) := by unfold fewLs; infer_instance
theorem not_fewL {l : List LO} {i : Nat} {x : LO} (hx : l[i]? = some x) (h : ¬ fewLO x) : decide (fewLs l) = false := decide_eq_false (fun hh => h (hh.2 x (List.mem_of_getElem? hx)))
set_option maxRecDepth 100000 in
theorem lFew_P (p : Option (Nat × Nat)) (c : Nat) (l : List LO) (hlen : l.length ≤ 4611686018427387904) (hfit : ∀ x ∈ l, x.fits) (w0 : World) (h : losφ p l w0) (hb : ∀ q, p = some q → q.1 < w0.heap.size) :
     PureC Tryz.prog 7 [sliceV p l.length c] w0 (.bool (decide (fewLs l))) := by
   refine c_enter [(0, sliceV p l.length c)] [losA p l] noB Tryz.func7 rfl Tryz.ntmps7 ⟨rfl, trivial⟩ rfl (okC (los_ok h hb) okN) dis1 (mineC (by rfl) mineN) ?_
   intro a hS
   refine c_seq (c_region ?_)
   refine L_e hS (e_assign rfl) rfl ?_; clear hS a; intro a hS
   refine L_nil (n_then (c_seq (c_seq (c_region ?_))))
   refine L_e hS (e_assign rfl) rfl ?_; clear hS a; intro a hS
   refine L_nil (n_then (wp_block ?_))
   skip
   refine c_loop (γ := Nat) (fun k a w => St 75 noB w0 a w [(3, .int .i64 (k : Int)), (0, sliceV p l.length c)] [losA p l] ∧ k ≤ l.length ∧ ∀ j, j < k → ∀ y, l[j]? = some y → fewLO y) (fun k => l.length - k) 0 ⟨hS.slots (by repeat (first | exact trivial | refine ⟨rfl, ?_⟩)), Nat.zero_le _, fun j hj => by omega⟩ ?_
   clear hS a; (try clear w); intro k a w hI
   obtain ⟨hS, hk, hno⟩ := hI
   refine c_seq (c_seq (c_region ?_))
   refine L_e hS (e_move rfl) rfl ?_; clear hS a; intro a hS
   refine L_e hS (e_move rfl) rfl ?_; clear hS a; intro a hS
   refine L_e hS (e_len rfl rfl ty_sl22) rfl ?_; clear hS a; intro a hS
   refine L_e hS (e_bin rfl rfl rfl) rfl ?_; clear hS a; intro a hS
   refine L_e hS (e_move rfl) rfl ?_; clear hS a; intro a hS
   refine L_merge 3 12 (.bool (decide (k < l.length ∧ k ≤ 60))) hS ?_ ?_
   · intro hcM12
     (first | refine g_splitD (t := 9) hS rfl ?_ ?_ | refine g_split (t := 9) hS rfl ?_ ?_) <;> (clear hS; intro hg9 hS)
     ·
       refine L_ge hS rfl rfl (e_move rfl) rfl ?_; clear hS a; intro a hS
       refine L_ge hS rfl rfl (e_bin rfl rfl rfl) rfl ?_; clear hS a; intro a hS
       refine L_e hS (e_pk rfl rfl) rfl ?_; clear hS a; intro a hS
       exact hcM12 _ _ (hS.ends 4 12 9 rfl (congrArg Value.bool (by rw [decide_eq_decide]; omega)) rfl rfl (by first | exact congrArg Value.bool (decide_eq_true hg9).symm | exact congrArg Value.bool hg9.symm | simp [hg9]) rfl)
     refine L_skip_t hS rfl rfl rfl ?_; clear hS a; intro a hS
     refine L_skip_t hS rfl rfl rfl ?_; clear hS a; intro a hS
     refine L_e hS (e_pk rfl rfl) rfl ?_; clear hS a; intro a hS
     exact hcM12 _ _ (hS.ends 4 12 9 rfl (congrArg Value.bool (by exact (decide_eq_false (by omega)).symm)) rfl rfl (by first | exact congrArg Value.bool (decide_eq_false hg9).symm | exact congrArg Value.bool hg9.symm | simp [hg9]) rfl)
   · clear hS a; (try clear w); intro a w hS
     simp only [List.drop_succ_cons, List.drop_zero]
     refine L_nil (n_then ?_)
     first | refine c_ifD hS rfl (fun hc12 => ?_) (fun hc12 => ?_) | refine c_if hS rfl (fun hc12 => ?_) (fun hc12 => ?_)
     ·
       obtain ⟨x, hx⟩ : ∃ x, l[k]? = some x := ⟨l[k]'(by omega), List.getElem?_eq_getElem (by omega)⟩
       obtain ⟨b, off, rfl⟩ := los_pos (hS.get (X := losA p l) (by repeat constructor)) hx
       have hxm := List.mem_of_getElem? hx
       obtain ⟨la, lc, hlv⟩ := PsAt.shape ((hS.get (X := losA (some (b, off)) l) (by repeat constructor)).2 x hxm)
       have hxf := hfit x hxm
       have hxl := hxf.ps.2
       refine wp_skip (n_then (c_seq (wp_block (c_seq (c_seq (c_region ?_))))))
       refine L_e hS (e_move rfl) rfl ?_; clear hS a; intro a hS
       refine L_e hS (e_move rfl) rfl ?_; clear hS a; intro a hS
       refine L_e hS (e_ixN rfl rfl ty_sl22 ty_sz38 (by omega)) rfl ?_; clear hS a; intro a hS
       (first | refine L_e hS (e_fa0 rfl ty_fo38_2) rfl ?_ | refine L_e hS (e_faK rfl ty_fo38_2) rfl ?_); clear hS a; intro a hS
       (first | refine L_e hS (e_fa0 rfl ty_fo35_0) rfl ?_ | refine L_e hS (e_faK rfl ty_fo35_0) rfl ?_); clear hS a; intro a hS
       refine L_e hS (e_loadC rfl ty_sc9 (fun w hh => los_get (by repeat constructor) hx w hh 2 (.string x.a.code) rfl)) rfl ?_; clear hS a; intro a hS
       refine L_e hS (e_lenS rfl rfl ty_u9) rfl ?_; clear hS a; intro a hS
       refine L_e hS (e_bin rfl rfl rfl) rfl ?_; clear hS a; intro a hS
       refine L_e hS (e_move rfl) rfl ?_; clear hS a; intro a hS
       (first | refine g_splitD (t := 23) hS rfl ?_ ?_ | refine g_split (t := 23) hS rfl ?_ ?_) <;> (clear hS; intro hg23 hS)
       ·
         refine L_skip_f hS rfl rfl rfl ?_; clear hS a; intro a hS
         refine L_skip_f hS rfl rfl rfl ?_; clear hS a; intro a hS
         refine L_skip_f hS rfl rfl rfl ?_; clear hS a; intro a hS
         refine L_skip_f hS rfl rfl rfl ?_; clear hS a; intro a hS
         refine L_skip_f hS rfl rfl rfl ?_; clear hS a; intro a hS
         refine L_skip_f hS rfl rfl rfl ?_; clear hS a; intro a hS
         refine L_skip_f hS rfl rfl rfl ?_; clear hS a; intro a hS
         refine L_skip_f hS rfl rfl rfl ?_; clear hS a; intro a hS
         refine L_e hS (e_pk rfl rfl) rfl ?_; clear hS a; intro a hS
         refine L_e hS (e_move rfl) rfl ?_; clear hS a; intro a hS
         refine L_skip_f hS rfl rfl rfl ?_; clear hS a; intro a hS
         refine L_skip_f hS rfl rfl rfl ?_; clear hS a; intro a hS
         refine L_skip_f hS rfl rfl rfl ?_; clear hS a; intro a hS
         refine L_skip_f hS rfl rfl rfl ?_; clear hS a; intro a hS
         refine L_skip_f hS rfl rfl rfl ?_; clear hS a; intro a hS
         refine L_skip_f hS rfl rfl rfl ?_; clear hS a; intro a hS
         refine L_skip_f hS rfl rfl rfl ?_; clear hS a; intro a hS
         refine L_e hS (e_pk rfl rfl) rfl ?_; clear hS a; intro a hS
         refine L_e hS (e_move rfl) rfl ?_; clear hS a; intro a hS
         refine L_skip_f hS rfl rfl rfl ?_; clear hS a; intro a hS
         refine L_skip_f hS rfl rfl rfl ?_; clear hS a; intro a hS
         refine L_skip_f hS rfl rfl rfl ?_; clear hS a; intro a hS
         refine L_skip_f hS rfl rfl rfl ?_; clear hS a; intro a hS
         refine L_skip_f hS rfl rfl rfl ?_; clear hS a; intro a hS
         refine L_skip_f hS rfl rfl rfl ?_; clear hS a; intro a hS
         refine L_skip_f hS rfl rfl rfl ?_; clear hS a; intro a hS
         refine L_e hS (e_pk rfl rfl) rfl ?_; clear hS a; intro a hS
         refine L_nil (n_then ?_)
         refine c_if_t hS rfl ?_
         refine c_seq (c_region ?_)
         refine L_e hS (e_assign rfl) rfl ?_; clear hS a; intro a hS
         refine L_nil (n_then (wp_ret ?_))
         refine r_then (r_block (r_then (r_then (r_block (r_then ?_)))))
         refine c_ret1 hS Tryz.results7 (.tmp rfl) ?_
         exact ⟨by rw [not_fewL hx (by unfold fewLO; omega)], hS.chg⟩
       refine L_ge hS rfl rfl (e_move rfl) rfl ?_; clear hS a; intro a hS
       refine L_ge hS rfl rfl (e_move rfl) rfl ?_; clear hS a; intro a hS
       refine L_ge hS rfl rfl (e_ixN rfl rfl ty_sl22 ty_sz38 (by omega)) rfl ?_; clear hS a; intro a hS
       (first | refine L_ge hS rfl rfl (e_fa0 rfl ty_fo38_2) rfl ?_ | refine L_ge hS rfl rfl (e_faK rfl ty_fo38_2) rfl ?_); clear hS a; intro a hS
       (first | refine L_ge hS rfl rfl (e_fa0 rfl ty_fo35_1) rfl ?_ | refine L_ge hS rfl rfl (e_faK rfl ty_fo35_1) rfl ?_); clear hS a; intro a hS
       refine L_ge hS rfl rfl (e_loadC rfl ty_sc9 (fun w hh => los_get (by repeat constructor) hx w hh 3 (.string x.a.cur) rfl)) rfl ?_; clear hS a; intro a hS
       refine L_ge hS rfl rfl (e_lenS rfl rfl ty_u9) rfl ?_; clear hS a; intro a hS
       refine L_ge hS rfl rfl (e_bin rfl rfl rfl) rfl ?_; clear hS a; intro a hS
       refine L_e hS (e_pk rfl rfl) rfl ?_; clear hS a; intro a hS
       refine L_e hS (e_move rfl) rfl ?_; clear hS a; intro a hS
       (first | refine g_splitD (t := 33) hS rfl ?_ ?_ | refine g_split (t := 33) hS rfl ?_ ?_) <;> (clear hS; intro hg33 hS)
       ·
         refine L_skip_f hS rfl rfl rfl ?_; clear hS a; intro a hS
         refine L_skip_f hS rfl rfl rfl ?_; clear hS a; intro a hS
         refine L_skip_f hS rfl rfl rfl ?_; clear hS a; intro a hS
         refine L_skip_f hS rfl rfl rfl ?_; clear hS a; intro a hS
         refine L_skip_f hS rfl rfl rfl ?_; clear hS a; intro a hS
         refine L_skip_f hS rfl rfl rfl ?_; clear hS a; intro a hS
         refine L_skip_f hS rfl rfl rfl ?_; clear hS a; intro a hS
         refine L_e hS (e_pk rfl rfl) rfl ?_; clear hS a; intro a hS
         refine L_e hS (e_move rfl) rfl ?_; clear hS a; intro a hS
         refine L_skip_f hS rfl rfl rfl ?_; clear hS a; intro a hS
         refine L_skip_f hS rfl rfl rfl ?_; clear hS a; intro a hS
         refine L_skip_f hS rfl rfl rfl ?_; clear hS a; intro a hS
         refine L_skip_f hS rfl rfl rfl ?_; clear hS a; intro a hS
         refine L_skip_f hS rfl rfl rfl ?_; clear hS a; intro a hS
         refine L_skip_f hS rfl rfl rfl ?_; clear hS a; intro a hS
         refine L_skip_f hS rfl rfl rfl ?_; clear hS a; intro a hS
         refine L_e hS (e_pk rfl rfl) rfl ?_; clear hS a; intro a hS
         refine L_nil (n_then ?_)
         refine c_if_t hS rfl ?_
         refine c_seq (c_region ?_)
         refine L_e hS (e_assign rfl) rfl ?_; clear hS a; intro a hS
         refine L_nil (n_then (wp_ret ?_))
         refine r_then (r_block (r_then (r_then (r_block (r_then ?_)))))
         refine c_ret1 hS Tryz.results7 (.tmp rfl) ?_
         exact ⟨by rw [not_fewL hx (by unfold fewLO; omega)], hS.chg⟩
       refine L_ge hS rfl rfl (e_move rfl) rfl ?_; clear hS a; intro a hS
       refine L_ge hS rfl rfl (e_move rfl) rfl ?_; clear hS a; intro a hS
       refine L_ge hS rfl rfl (e_ixN rfl rfl ty_sl22 ty_sz38 (by omega)) rfl ?_; clear hS a; intro a hS
       (first | refine L_ge hS rfl rfl (e_fa0 rfl ty_fo38_3) rfl ?_ | refine L_ge hS rfl rfl (e_faK rfl ty_fo38_3) rfl ?_); clear hS a; intro a hS
       refine L_ge hS rfl rfl (e_loadC rfl ty_sc9 (fun w hh => los_get (by repeat constructor) hx w hh 6 (.string x.memo) rfl)) rfl ?_; clear hS a; intro a hS
       refine L_ge hS rfl rfl (e_lenS rfl rfl ty_u9) rfl ?_; clear hS a; intro a hS
       refine L_ge hS rfl rfl (e_bin rfl rfl rfl) rfl ?_; clear hS a; intro a hS
       refine L_e hS (e_pk rfl rfl) rfl ?_; clear hS a; intro a hS
       refine L_e hS (e_move rfl) rfl ?_; clear hS a; intro a hS
       (first | refine g_splitD (t := 42) hS rfl ?_ ?_ | refine g_split (t := 42) hS rfl ?_ ?_) <;> (clear hS; intro hg42 hS)
       ·
         refine L_skip_f hS rfl rfl rfl ?_; clear hS a; intro a hS
         refine L_skip_f hS rfl rfl rfl ?_; clear hS a; intro a hS
         refine L_skip_f hS rfl rfl rfl ?_; clear hS a; intro a hS
         refine L_skip_f hS rfl rfl rfl ?_; clear hS a; intro a hS
         refine L_skip_f hS rfl rfl rfl ?_; clear hS a; intro a hS
         refine L_skip_f hS rfl rfl rfl ?_; clear hS a; intro a hS
         refine L_skip_f hS rfl rfl rfl ?_; clear hS a; intro a hS
         refine L_e hS (e_pk rfl rfl) rfl ?_; clear hS a; intro a hS
         refine L_nil (n_then ?_)
         refine c_if_t hS rfl ?_
         refine c_seq (c_region ?_)
         refine L_e hS (e_assign rfl) rfl ?_; clear hS a; intro a hS
         refine L_nil (n_then (wp_ret ?_))
         refine r_then (r_block (r_then (r_then (r_block (r_then ?_)))))
         refine c_ret1 hS Tryz.results7 (.tmp rfl) ?_
         exact ⟨by rw [not_fewL hx (by unfold fewLO; omega)], hS.chg⟩
       refine L_ge hS rfl rfl (e_move rfl) rfl ?_; clear hS a; intro a hS
       refine L_ge hS rfl rfl (e_move rfl) rfl ?_; clear hS a; intro a hS
       refine L_ge hS rfl rfl (e_ixN rfl rfl ty_sl22 ty_sz38 (by omega)) rfl ?_; clear hS a; intro a hS
       (first | refine L_ge hS rfl rfl (e_fa0 rfl ty_fo38_4) rfl ?_ | refine L_ge hS rfl rfl (e_faK rfl ty_fo38_4) rfl ?_); clear hS a; intro a hS
       refine L_ge hS rfl rfl (e_loadC rfl ty_sc36 (fun w hh => los_get (by repeat constructor) hx w hh 7 x.pv rfl)) rfl ?_; clear hS a; intro a hS
       rw [hlv] at hS
       refine L_ge hS rfl rfl (e_len rfl rfl ty_sl36) rfl ?_; clear hS a; intro a hS
       refine L_ge hS rfl rfl (e_bin rfl rfl rfl) rfl ?_; clear hS a; intro a hS
       refine L_e hS (e_pk rfl rfl) rfl ?_; clear hS a; intro a hS
       refine L_nil (n_then ?_)
       first | refine c_ifD hS rfl (fun hc50 => ?_) (fun hc50 => ?_) | refine c_if hS rfl (fun hc50 => ?_) (fun hc50 => ?_)
       ·
         refine c_seq (c_region ?_)
         refine L_e hS (e_assign rfl) rfl ?_; clear hS a; intro a hS
         refine L_nil (n_then (wp_ret ?_))
         refine r_then (r_block (r_then (r_then (r_block (r_then ?_)))))
         refine c_ret1 hS Tryz.results7 (.tmp rfl) ?_
         exact ⟨by rw [not_fewL hx (by unfold fewLO; omega)], hS.chg⟩
       refine wp_skip (n_then (c_seq (c_region ?_)))
       refine L_e hS (e_assign rfl) rfl ?_; clear hS a; intro a hS
       refine L_nil (n_then (wp_block ?_))
       skip
       refine c_loop (γ := Nat) (fun j a w => St 75 noB w0 a w [(4, .int .i64 (j : Int)), (3, .int .i64 (k : Int)), (0, sliceV (some (b, off)) l.length c)] [losA (some (b, off)) l] ∧ j ≤ x.ps.length ∧ ∀ i, i < j → ∀ y, x.ps[i]? = some y → y.acc.size ≤ 300) (fun j => x.ps.length - j) 0 ⟨(hS.slots (by repeat (first | exact trivial | refine ⟨rfl, ?_⟩))).pick (by repeat (first | exact Pick.nil | (refine Pick.cons (by repeat (first | exact Rem.head | apply Rem.tail)) ?_))), Nat.zero_le _, fun i hi => by omega⟩ ?_
       clear hS a; (try clear w); intro j a w hI
       obtain ⟨hS, hj, hok⟩ := hI
       refine c_seq (c_seq (c_region ?_))
       refine L_e hS (e_move rfl) rfl ?_; clear hS a; intro a hS
       refine L_e hS (e_move rfl) rfl ?_; clear hS a; intro a hS
       refine L_e hS (e_move rfl) rfl ?_; clear hS a; intro a hS
       refine L_e hS (e_ixN rfl rfl ty_sl22 ty_sz38 (by omega)) rfl ?_; clear hS a; intro a hS
       (first | refine L_e hS (e_fa0 rfl ty_fo38_4) rfl ?_ | refine L_e hS (e_faK rfl ty_fo38_4) rfl ?_); clear hS a; intro a hS
       refine L_e hS (e_loadC rfl ty_sc36 (fun w hh => los_get (by repeat constructor) hx w hh 7 x.pv rfl)) rfl ?_; clear hS a; intro a hS
       rw [hlv] at hS
       refine L_e hS (e_len rfl rfl ty_sl36) rfl ?_; clear hS a; intro a hS
       refine L_e hS (e_bin rfl rfl rfl) rfl ?_; clear hS a; intro a hS
       refine L_nil (n_then ?_)
       first | refine c_ifD hS rfl (fun hc58 => ?_) (fun hc58 => ?_) | refine c_if hS rfl (fun hc58 => ?_) (fun hc58 => ?_)
       ·
         have hjl : j < x.ps.length := by omega
         obtain ⟨y, hy⟩ : ∃ y, x.ps[j]? = some y := ⟨x.ps[j], List.getElem?_eq_getElem hjl⟩
         have hne : x.ps ≠ [] := fun e => by rw [e] at hjl; simp at hjl
         obtain ⟨b2, off2, c2, hlv2, _, _⟩ := PsAt.some ((hS.get (X := losA (some (b, off)) l) (by repeat constructor)).2 x hxm) hne
         refine wp_skip (n_then (c_seq (wp_block (c_seq (c_region ?_)))))
         refine L_e hS (e_move rfl) rfl ?_; clear hS a; intro a hS
         refine L_e hS (e_move rfl) rfl ?_; clear hS a; intro a hS
         refine L_e hS (e_ixN rfl rfl ty_sl22 ty_sz38 (by omega)) rfl ?_; clear hS a; intro a hS
         (first | refine L_e hS (e_fa0 rfl ty_fo38_4) rfl ?_ | refine L_e hS (e_faK rfl ty_fo38_4) rfl ?_); clear hS a; intro a hS
         refine L_e hS (e_loadC rfl ty_sc36 (fun w hh => los_get (by repeat constructor) hx w hh 7 x.pv rfl)) rfl ?_; clear hS a; intro a hS
         rw [hlv2] at hS
         refine L_e hS (e_move rfl) rfl ?_; clear hS a; intro a hS
         refine L_e hS (e_ixN rfl rfl ty_sl36 ty_sz82 (by omega)) rfl ?_; clear hS a; intro a hS
         (first | refine L_e hS (e_fa0 rfl ty_fo82_0) rfl ?_ | refine L_e hS (e_faK rfl ty_fo82_0) rfl ?_); clear hS a; intro a hS
         refine L_op (s_e hS (e_loadC rfl ty_sc9 (fun w hh => by
 obtain ⟨b3, off3, c3, hlv3, hr3, _⟩ := PsAt.some ((hh (losA (some (b, off)) l) (by repeat constructor)).2 x hxm) hne
 rw [hlv2] at hlv3
 obtain ⟨e1, e2⟩ : b2 = b3 ∧ off2 = off3 := by simp [sliceV] at hlv3; exact ⟨hlv3.1.1, hlv3.1.2⟩
 subst e1 e2
 exact hr3 j (encP y) (by simp [hy]) 0 (.string y.acc) rfl)) rfl ?_); clear hS a; intro a hS
         refine L_e hS (e_lenS rfl rfl ty_u9) rfl ?_; clear hS a; intro a hS
         refine L_e hS (e_bin rfl rfl rfl) rfl ?_; clear hS a; intro a hS
         refine L_nil (n_then ?_)
         first | refine c_ifD hS rfl (fun hc71 => ?_) (fun hc71 => ?_) | refine c_if hS rfl (fun hc71 => ?_) (fun hc71 => ?_)
         ·
           refine c_seq (c_region ?_)
           refine L_e hS (e_assign rfl) rfl ?_; clear hS a; intro a hS
           refine L_nil (n_then (wp_ret ?_))
           refine r_block (r_then (r_then (r_block (r_block (r_then (r_then (r_block (r_then ?_))))))))
           refine c_ret1 hS Tryz.results7 (.tmp rfl) ?_
           exact ⟨by rw [not_fewL hx (fun hf => by have := hf.2.2.2.2 y (List.mem_of_getElem? hy); omega)], hS.chg⟩
         refine wp_skip (n_block (n_then (c_region ?_)))
         refine L_e hS (e_move rfl) rfl ?_; clear hS a; intro a hS
         (first | refine L_e hS (e_binN rfl rfl rfl (by omega)) rfl ?_ | refine L_e hS (e_bin rfl rfl rfl) rfl ?_); clear hS a; intro a hS
         refine L_e hS (e_assign rfl) rfl ?_; clear hS a; intro a hS
         refine L_nil ?_
         exact ⟨j + 1, by omega, hS.slots (by repeat (first | exact trivial | refine ⟨rfl, ?_⟩)), by omega, fun i hi z hz => by
         by_cases e : i = j
         · subst e; rw [hy] at hz; cases hz; omega
         · exact hok i (by omega) z hz⟩
       refine wp_exit ?_
       refine x_then (x_then (x_hit ?_))
       refine n_block (n_then (c_region ?_))
       refine L_e hS (e_move rfl) rfl ?_; clear hS a; intro a hS
       (first | refine L_e hS (e_binN rfl rfl rfl (by omega)) rfl ?_ | refine L_e hS (e_bin rfl rfl rfl) rfl ?_); clear hS a; intro a hS
       refine L_e hS (e_assign rfl) rfl ?_; clear hS a; intro a hS
       refine L_nil ?_
       have hfx : fewLO x := ⟨by omega, by omega, by omega, by omega, fun z hz => by
         obtain ⟨i, hi, rfl⟩ := List.mem_iff_getElem.1 hz
         exact hok i (by omega) _ (List.getElem?_eq_getElem hi)⟩
       exact ⟨k + 1, by omega, hS.slots (by repeat (first | exact trivial | refine ⟨rfl, ?_⟩)), by omega, fun i hi z hz => by
         by_cases e : i = k
         · subst e; rw [hx] at hz; cases hz; exact hfx
         · exact hno i (by omega) z hz⟩
     refine wp_exit ?_
     refine x_then (x_then (x_hit ?_))
     refine n_then (c_seq (c_region ?_))
     refine L_e hS (e_move rfl) rfl ?_; clear hS a; intro a hS
     refine L_e hS (e_len rfl rfl ty_sl22) rfl ?_; clear hS a; intro a hS
     refine L_e hS (e_bin rfl rfl rfl) rfl ?_; clear hS a; intro a hS
     refine L_e hS (e_assign rfl) rfl ?_; clear hS a; intro a hS
     refine L_nil (n_then (wp_ret ?_))
     refine c_ret1 hS Tryz.results7 (.tmp rfl) ?_
     have hR : (decide ((l.length : Int) ≤ 60)) = decide (fewLs l) := by
       rw [decide_eq_decide]
       constructor
       · intro h1
         refine ⟨by omega, fun o ho => ?_⟩
         obtain ⟨i, hi, rfl⟩ := List.mem_iff_getElem.1 ho
         exact hno i (by omega) _ (List.getElem?_eq_getElem hi)
       · intro h1; have := h1.1; omega
     exact ⟨by rw [hR], hS.chg⟩
theorem check_nil (P : PL) (at_ : Int) (memo : ByteArray) : checkE P at_ memo [] ≠ 0 := by
  unfold checkE
  split
  · decide
  · split
    · decide
    · split
      · decide
      · rw [if_pos (.inl (.inl (by decide)))]; decide
set_option maxRecDepth 100000 in
theorem lCheck0_P (B : LB) (s : LS) (q : Option Addr) (c : Nat) (at_ : Int) (memo : ByteArray) (w0 : World) (h : ledφ B s w0) :
    PureC Tryz.prog 36 [.pointer (some ⟨B.lb, 0, none⟩), .int .i64 at_, .string memo, .slice q 0 c] w0 (.int .i64 (checkE (pl s) at_ memo [])) := by
  refine c_enter [(0, .pointer (some ⟨B.lb, 0, none⟩)), (1, .int .i64 at_), (2, .string memo), (3, .slice q 0 c)] [ledA B s false] noB Tryz.func36 rfl Tryz.ntmps36 ⟨rfl, rfl, rfl, rfl, trivial⟩ rfl (okC (led_ok false h) okN) dis1 (mineC (by rfl) mineN) ?_
  intro a hS
  refine c_seq (c_region ?_)
  refine L_e hS (e_assign rfl) rfl ?_; clear hS a; intro a hS
  refine L_nil (n_then (c_seq (wp_block (c_seq (c_region ?_)))))
  refine L_e hS (e_move rfl) rfl ?_; clear hS a; intro a hS
  refine L_op (s_callP hS (.cons rfl .nil) cf65 rfl (linst_P at_ _) ?_); clear hS a; (try clear w); intro a w hS
  refine L_e hS (e_not rfl) rfl ?_; clear hS a; intro a hS
  refine L_e hS (e_assign rfl) rfl ?_; clear hS a; intro a hS
  refine L_nil (n_then ?_)
  first | refine c_ifD hS rfl (fun hc14 => ?_) (fun hc14 => ?_) | refine c_if hS rfl (fun hc14 => ?_) (fun hc14 => ?_)
  ·
    refine c_seq (c_region ?_)
    refine L_e hS (e_assign rfl) rfl ?_; clear hS a; intro a hS
    refine L_nil (n_then (wp_ret ?_))
    refine r_block (r_then ?_)
    refine c_ret1 hS Tryz.results36 (.tmp rfl) ?_
    exact ⟨by rw [show checkE (pl s) at_ memo [] = 6 from if_pos (by simpa using hc14)], hS.chg⟩
  have h1 : ¬ ¬ inst at_ := by simpa using hc14
  refine c_seq (c_region ?_)
  refine L_e hS (e_move rfl) rfl ?_; clear hS a; intro a hS
  refine L_e hS (e_move rfl) rfl ?_; clear hS a; intro a hS
  refine L_e hS (e_nilCheck rfl) rfl ?_; clear hS a; intro a hS
  (first | refine L_e hS (e_fa0 rfl ty_fo88_4) rfl ?_ | refine L_e hS (e_faK rfl ty_fo88_4) rfl ?_); clear hS a; intro a hS
  refine L_e hS (e_loadC rfl ty_sc3 (led_cell (k := 4) (by repeat constructor) rfl)) rfl ?_; clear hS a; intro a hS
  refine L_e hS (e_bin rfl rfl rfl) rfl ?_; clear hS a; intro a hS
  refine L_e hS (e_assign rfl) rfl ?_; clear hS a; intro a hS
  refine L_nil (n_then ?_)
  first | refine c_ifD hS rfl (fun hc18 => ?_) (fun hc18 => ?_) | refine c_if hS rfl (fun hc18 => ?_) (fun hc18 => ?_)
  ·
    refine c_seq (c_region ?_)
    refine L_e hS (e_assign rfl) rfl ?_; clear hS a; intro a hS
    refine L_nil (n_then (wp_ret ?_))
    refine r_block (r_then ?_)
    refine c_ret1 hS Tryz.results36 (.tmp rfl) ?_
    exact ⟨by rw [show checkE (pl s) at_ memo [] = 27 by unfold checkE; rw [if_neg h1, if_pos (show at_ ≤ (pl s).closed from hc18)]], hS.chg⟩
  have h2 : ¬ at_ ≤ (pl s).closed := hc18
  refine c_seq (c_region ?_)
  refine L_e hS (e_move rfl) rfl ?_; clear hS a; intro a hS
  refine L_e hS (e_lenS rfl rfl ty_u9) rfl ?_; clear hS a; intro a hS
  refine L_e hS (e_bin rfl rfl rfl) rfl ?_; clear hS a; intro a hS
  refine L_e hS (e_assign rfl) rfl ?_; clear hS a; intro a hS
  refine L_nil (n_then ?_)
  first | refine c_ifD hS rfl (fun hc25 => ?_) (fun hc25 => ?_) | refine c_if hS rfl (fun hc25 => ?_) (fun hc25 => ?_)
  ·
    refine c_seq (c_region ?_)
    refine L_e hS (e_assign rfl) rfl ?_; clear hS a; intro a hS
    refine L_nil (n_then (wp_ret ?_))
    refine r_block (r_then ?_)
    refine c_ret1 hS Tryz.results36 (.tmp rfl) ?_
    exact ⟨by rw [show checkE (pl s) at_ memo [] = 8 by unfold checkE; rw [if_neg h1, if_neg h2, if_pos (by omega)]], hS.chg⟩
  have h3 : ¬ 100 < memo.size := by omega
  refine c_seq (c_region ?_)
  refine L_e hS (e_move rfl) rfl ?_; clear hS a; intro a hS
  refine L_e hS (e_len rfl rfl ty_sl36) rfl ?_; clear hS a; intro a hS
  refine L_e hS (e_bin rfl rfl rfl) rfl ?_; clear hS a; intro a hS
  refine L_e hS (e_move rfl) rfl ?_; clear hS a; intro a hS
  replace hS := hS.is (t := 33) (c := true) rfl ((by decide))
  refine L_skip_f hS rfl rfl rfl ?_; clear hS a; intro a hS
  refine L_skip_f hS rfl rfl rfl ?_; clear hS a; intro a hS
  refine L_skip_f hS rfl rfl rfl ?_; clear hS a; intro a hS
  refine L_e hS (e_pk rfl rfl) rfl ?_; clear hS a; intro a hS
  refine L_e hS (e_move rfl) rfl ?_; clear hS a; intro a hS
  refine L_skip_f hS rfl rfl rfl ?_; clear hS a; intro a hS
  refine L_skip_f hS rfl rfl rfl ?_; clear hS a; intro a hS
  refine L_skip_f hS rfl rfl rfl ?_; clear hS a; intro a hS
  refine L_skip_f hS rfl rfl rfl ?_; clear hS a; intro a hS
  refine L_skip_f hS rfl rfl rfl ?_; clear hS a; intro a hS
  refine L_skip_f hS rfl rfl rfl ?_; clear hS a; intro a hS
  refine L_e hS (e_pk rfl rfl) rfl ?_; clear hS a; intro a hS
  refine L_e hS (e_assign rfl) rfl ?_; clear hS a; intro a hS
  refine L_nil (n_then ?_)
  refine c_if_t hS rfl ?_
  refine c_seq (c_region ?_)
  refine L_e hS (e_assign rfl) rfl ?_; clear hS a; intro a hS
  refine L_nil (n_then (wp_ret ?_))
  refine r_block (r_then ?_)
  refine c_ret1 hS Tryz.results36 (.tmp rfl) ?_
  exact ⟨by rw [show checkE (pl s) at_ memo [] = 9 by unfold checkE; rw [if_neg h1, if_neg h2, if_neg h3, if_pos (.inl (.inl (by decide)))]], hS.chg⟩
set_option maxRecDepth 100000 in
theorem lPost0_P (B : LB) (s : LS) (q : Option Addr) (c : Nat) (at_ : Int) (memo : ByteArray) (w0 : World) (h : ledφ B s w0) :
    PureC Tryz.prog 29 [.pointer (some ⟨B.lb, 0, none⟩), .int .i64 at_, .string memo, .slice q 0 c] w0 (.tuple [.int .i64 (postI (pl s) at_ memo []), .int .i64 (checkE (pl s) at_ memo [])].toArray) := by
  have hn := check_nil (pl s) at_ memo
  have hI : postI (pl s) at_ memo [] = 0 := if_neg hn
  refine c_enter [(0, .pointer (some ⟨B.lb, 0, none⟩)), (1, .int .i64 at_), (2, .string memo), (3, .slice q 0 c)] [ledA B s false] noB Tryz.func29 rfl Tryz.ntmps29 ⟨rfl, rfl, rfl, rfl, trivial⟩ rfl (okC (led_ok false h) okN) dis1 (mineC (by rfl) mineN) ?_
  intro a hS
  refine c_seq (c_region ?_)
  refine L_e hS (e_assign rfl) rfl ?_; clear hS a; intro a hS
  refine L_e hS (e_assign rfl) rfl ?_; clear hS a; intro a hS
  refine L_nil (n_then (c_seq (c_seq (c_region ?_))))
  refine L_e hS (e_move rfl) rfl ?_; clear hS a; intro a hS
  refine L_e hS (e_move rfl) rfl ?_; clear hS a; intro a hS
  refine L_e hS (e_move rfl) rfl ?_; clear hS a; intro a hS
  refine L_e hS (e_move rfl) rfl ?_; clear hS a; intro a hS
  refine L_op (s_callP hS (.cons rfl (.cons rfl (.cons rfl (.cons rfl .nil)))) cf36 rfl (lCheck0_P B s q c at_ memo _ (hS.get (X := ledA B s false) (by repeat constructor))) ?_); clear hS a; (try clear w); intro a w hS
  refine L_e hS (e_assign rfl) rfl ?_; clear hS a; intro a hS
  refine L_nil (n_then (c_seq (c_region ?_)))
  refine L_e hS (e_move rfl) rfl ?_; clear hS a; intro a hS
  refine L_e hS (e_bin rfl rfl rfl) rfl ?_; clear hS a; intro a hS
  refine L_nil (n_then ?_)
  replace hS := hS.is (t := 20) (c := true) rfl ((decide_eq_true hn))
  refine c_if_t hS rfl ?_
  refine c_seq (c_region ?_)
  refine L_e hS (e_move rfl) rfl ?_; clear hS a; intro a hS
  refine L_e hS (e_assign rfl) rfl ?_; clear hS a; intro a hS
  refine L_e hS (e_assign rfl) rfl ?_; clear hS a; intro a hS
  refine L_nil (n_then (wp_ret (r_then ?_)))
  refine c_retN hS Tryz.results29 (.cons (.tmp rfl) (.cons (.tmp rfl) .nil)) rfl ?_
  exact ⟨by rw [hI], hS.chg⟩
end Go.Proofs.YtheofhegdjjfgaaGreat

namespace Go.Proofs.YtheofhegdjjfgaaGreat
theorem postE_zero {acs : List Acc} : ∀ (ps : List Pst) (seen : List ByteArray), postE acs ps seen = 0 → (∀ p ∈ ps, (findA acs p.acc).isSome = true ∧ ¬ p.acc ∈ seen ∧ inU p.u ∧ inU p.f) ∧ ps.Pairwise fun p q => p.acc ≠ q.acc
  | [], _, _ => ⟨fun p hp => (by cases hp), .nil⟩
  | x :: r, seen, h => by
    rw [postE_cons] at h
    split at h
    · cases h
    · rename_i h1
      split at h
      · cases h
      · rename_i h2
        split at h
        · cases h
        · rename_i h3
          obtain ⟨i1, i2⟩ := postE_zero r _ h
          have h1' : (findA acs x.acc).isSome = true := by
            cases e : (findA acs x.acc).isSome with
            | true => rfl
            | false => exact absurd e h1
          refine ⟨fun p hp => ?_, List.pairwise_cons.2 ⟨fun q hq e => (i1 q hq).2.1 (by rw [← e]; simp), i2⟩⟩
          rcases List.mem_cons.1 hp with rfl | hp
          · exact ⟨h1', h2, Classical.byContradiction fun e => h3 (.inl e), Classical.byContradiction fun e => h3 (.inr e)⟩
          · obtain ⟨a1, a2, a3⟩ := i1 p hp
            exact ⟨a1, fun e => a2 (List.mem_append.2 (.inl e)), a3⟩
def curSum (acs : List Acc) (c : ByteArray) (ps : List Pst) : Int := ps.foldl (fun g p => if curOf acs p.acc = c then g + p.u else g) 0
theorem cur_fold (acs : List Acc) (c : ByteArray) (ps : List Pst) : ∀ g : Int, ps.foldl (fun g p => if curOf acs p.acc = c then g + p.u else g) g = g + curSum acs c ps := by
  unfold curSum
  induction ps with
  | nil => intro g; simp
  | cons p r ih =>
    intro g
    rw [List.foldl_cons, List.foldl_cons, ih, ih (if curOf acs p.acc = c then 0 + p.u else 0)]
    split <;> omega
theorem curSum_cons (acs : List Acc) (c : ByteArray) (p : Pst) (r : List Pst) : curSum acs c (p :: r) = (if curOf acs p.acc = c then p.u else 0) + curSum acs c r := by
  have h := cur_fold acs c r (if curOf acs p.acc = c then 0 + p.u else 0)
  unfold curSum at h ⊢
  rw [List.foldl_cons, h]
  split <;> omega
theorem by_cur (acs : List Acc) (c : ByteArray) (ps : List Pst) : ∀ t, (totOf (ps.foldl (byStep acs) t) c).1 = (totOf t c).1 + curSum acs c ps := by
  induction ps with
  | nil => intro t; simp [curSum]
  | cons p r ih =>
    intro t
    rw [List.foldl_cons, ih, curSum_cons]
    unfold byStep
    rw [totOf_put]
    by_cases e : curOf acs p.acc = c
    · rw [if_pos e, if_pos e, e]; unfold addS; simp only; omega
    · rw [if_neg e, if_neg e]; omega
theorem putT_keys (c : ByteArray) (s : SM) : ∀ t : List (ByteArray × SM), (t.map (·.1)).Nodup → ((putT t c s).map (·.1)).Nodup ∧ ∀ k, k ∈ (putT t c s).map (·.1) → k = c ∨ k ∈ t.map (·.1)
  | [], _ => ⟨by simp [putT], fun k hk => .inl (by simpa [putT] using hk)⟩
  | (k0, u) :: l, h => by
    have h2 := List.nodup_cons.1 h
    obtain ⟨i1, i2⟩ := putT_keys c s l h2.2
    unfold putT
    by_cases e : k0 = c
    · rw [if_pos e]
      refine ⟨by rw [List.map_cons, ← e]; exact h, fun k hk => ?_⟩
      rw [List.map_cons] at hk
      rcases List.mem_cons.1 hk with hk | hk
      · exact .inl hk
      · exact .inr (.tail _ hk)
    · rw [if_neg e]
      refine ⟨List.nodup_cons.2 ⟨fun hm => ?_, i1⟩, fun k hk => ?_⟩
      · rcases i2 k0 hm with q | q
        · exact e q
        · exact h2.1 q
      · rw [List.map_cons] at hk
        rcases List.mem_cons.1 hk with hk | hk
        · exact .inr (by rw [hk]; exact .head _)
        · rcases i2 k hk with q | q
          · exact .inl q
          · exact .inr (.tail _ q)
theorem by_keys (acs : List Acc) (ps : List Pst) : ∀ t : List (ByteArray × SM), (t.map (·.1)).Nodup → ((ps.foldl (byStep acs) t).map (·.1)).Nodup := by
  induction ps with
  | nil => intro t h; exact h
  | cons p r ih => intro t h; exact ih _ (putT_keys _ _ t h).1
theorem totOf_entry {t : List (ByteArray × SM)} (h : (t.map (·.1)).Nodup) {e : ByteArray × SM} (he : e ∈ t) : totOf t e.1 = e.2 := by
  induction t with
  | nil => cases he
  | cons a r ih =>
    have h2 := List.nodup_cons.1 h
    unfold totOf
    rw [List.find?_cons]
    rcases List.mem_cons.1 he with rfl | he
    · simp
    · have hne : ¬ a.1 = e.1 := fun e2 => h2.1 (by show a.1 ∈ _; rw [e2]; exact List.mem_map.2 ⟨e, he, rfl⟩)
      simp only [hne, decide_false]
      exact ih h2.2 he
theorem even_iff (acs : List Acc) (ps : List Pst) : evenF acs ps ↔ (∀ c, curSum acs c ps = 0) ∧ sumFn ps = 0 := by
  unfold evenF
  constructor
  · rintro ⟨h1, h2⟩
    refine ⟨fun c => ?_, h2⟩
    have h3 := by_cur acs c ps []
    have h4 : (totOf (byF acs ps) c).1 = 0 := by
      rcases totOf_mem (byF acs ps) c with e | ⟨e, he, _, e2⟩
      · rw [e]
      · rw [← e2]; exact h1 e he
    have h5 : (totOf ([] : List (ByteArray × SM)) c).1 = 0 := rfl
    unfold byF at h4
    omega
  · rintro ⟨h1, h2⟩
    refine ⟨fun e he => ?_, h2⟩
    have h3 := by_cur acs e.1 ps []
    have h4 := totOf_entry (by_keys acs ps [] .nil) (show e ∈ ps.foldl (byStep acs) [] from he)
    have h5 : (totOf ([] : List (ByteArray × SM)) e.1).1 = 0 := rfl
    have h6 := h1 e.1
    rw [h4] at h3
    omega
structure goodE (acs : List Acc) (ps : List Pst) : Prop where
  each : ∀ p ∈ ps, (findA acs p.acc).isSome = true ∧ inU p.u ∧ inU p.f
  apart : ps.Pairwise fun p q => p.acc ≠ q.acc
  even : (∀ c, curSum acs c ps = 0) ∧ sumFn ps = 0
structure wfP (P : PL) (n : Nat) : Prop where
  fit : ∀ x ∈ P.es, ∀ p ∈ x.ps, p.fits
  le : P.es.length ≤ n
  ps : ∀ x ∈ P.es, x.ps.length ≤ 50
  bal : balT P.tot
  la : P.acs.length ≤ n + 4
  at_ : ∀ x ∈ P.es, inst x.at_
  nod : (codesA P.acs).Nodup
  sum : ∀ c, totOf P.tot c = (P.es.flatMap (·.ps)).foldl (balStep c) (0, 0)
  evn : ∀ x ∈ P.es, goodE P.acs x.ps
theorem wfP.fitL {P : PL} {n : Nat} (h : wfP P n) (hn : n ≤ 100000) : fitL P := ⟨h.fit, by have := h.le; omega, h.ps⟩
def openEP (P : PL) (a : Acc) : Int :=
  if ¬ ValidN a.code.data.toList then 1 else if (scaleR a.cur).2 ≠ 0 then 18 else if a.kind < 1 ∨ 5 < a.kind then 7 else if (findA P.acs a.code).isSome = true then 3 else if 200 ≤ P.acs.length then 9 else 0
def openP (P : PL) (a : Acc) : PL := if openEP P a = 0 then { P with acs := P.acs ++ [a] } else P
def closeEP (P : PL) (at_ : Int) : Int := if ¬ inst at_ then 6 else if at_ ≤ P.closed then 34 else 0
def closeP (P : PL) (at_ : Int) : PL := if closeEP P at_ = 0 then { P with closed := at_ } else P
theorem pl_open (s : LS) (a : Acc) : pl (openL s a) = openP (pl s) a := by
  show pl (if openE s a = 0 then _ else _) = if openEP (pl s) a = 0 then _ else _
  have e : openE s a = openEP (pl s) a := rfl
  rw [e]
  split <;> rfl
theorem pl_close (s : LS) (at_ : Int) : pl (closeL s at_) = closeP (pl s) at_ := by
  show pl (if closeE s at_ = 0 then _ else _) = if closeEP (pl s) at_ = 0 then _ else _
  have e : closeE s at_ = closeEP (pl s) at_ := rfl
  rw [e]
  split <;> rfl
def stepP (P : PL) (o : LO) : PL := if o.kind = 0 then openP P o.a else if o.kind = 1 then postP P o.at_ o.memo o.ps else if o.kind = 2 then closeP P o.at_ else P
theorem find_grow {acs : List Acc} {a : Acc} {c : ByteArray} (h : (findA acs c).isSome = true) : findA (acs ++ [a]) c = findA acs c := by
  unfold findA at *
  rw [List.find?_append]
  obtain ⟨x, hx⟩ := Option.isSome_iff_exists.1 h
  rw [hx]; rfl
theorem cur_grow {acs : List Acc} {a : Acc} {ps : List Pst} (h : ∀ p ∈ ps, (findA acs p.acc).isSome = true) (c : ByteArray) : curSum (acs ++ [a]) c ps = curSum acs c ps := by
  induction ps with
  | nil => rfl
  | cons p r ih =>
    rw [curSum_cons, curSum_cons, ih (fun q hq => h q (.tail _ hq))]
    have e : curOf (acs ++ [a]) p.acc = curOf acs p.acc := by unfold curOf accOf; rw [find_grow (h p (.head _))]
    rw [e]
theorem goodE.grow {acs : List Acc} {a : Acc} {ps : List Pst} (h : goodE acs ps) : goodE (acs ++ [a]) ps :=
  ⟨fun p hp => ⟨by rw [find_grow (h.each p hp).1]; exact (h.each p hp).1, (h.each p hp).2⟩, h.apart, fun c => by rw [cur_grow (fun p hp => (h.each p hp).1)]; exact h.even.1 c, h.even.2⟩
theorem wf_open {P : PL} {n : Nat} (h : wfP P n) (a : Acc) : wfP (openP P a) (n + 1) := by
  unfold openP
  split
  · rename_i hE
    have hnf : (findA P.acs a.code).isSome = false := by
      unfold openEP at hE
      split at hE
      · cases hE
      · split at hE
        · cases hE
        · split at hE
          · cases hE
          · split at hE
            · cases hE
            · rename_i h4
              cases e : (findA P.acs a.code).isSome with
              | false => rfl
              | true => exact absurd e h4
    refine ⟨h.fit, Nat.le_succ_of_le h.le, h.ps, h.bal, by have := h.la; simp; omega, h.at_, ?_, h.sum, fun x hx => (h.evn x hx).grow⟩
    unfold codesA
    rw [List.map_append]
    refine List.nodup_append.2 ⟨h.nod, by simp, fun c hc d hd e => ?_⟩
    obtain rfl : d = a.code := by simpa using hd
    obtain ⟨y, hy, hyc⟩ := List.mem_map.1 hc
    unfold findA at hnf
    rw [Option.isSome_eq_false_iff, Option.isNone_iff_eq_none] at hnf
    have := List.find?_eq_none.1 hnf y hy
    exact this (by simp; rw [hyc, e])
  · exact ⟨h.fit, Nat.le_succ_of_le h.le, h.ps, h.bal, by have := h.la; omega, h.at_, h.nod, h.sum, h.evn⟩
theorem wf_close {P : PL} {n : Nat} (h : wfP P n) (at_ : Int) : wfP (closeP P at_) (n + 1) := by
  unfold closeP
  split
  · exact ⟨h.fit, Nat.le_succ_of_le h.le, h.ps, h.bal, by have := h.la; simp only; omega, h.at_, h.nod, h.sum, h.evn⟩
  · exact ⟨h.fit, Nat.le_succ_of_le h.le, h.ps, h.bal, by have := h.la; omega, h.at_, h.nod, h.sum, h.evn⟩
theorem bal_post {ps : List Pst} : ∀ {t : List (ByteArray × SM)}, balT t → (ps.Pairwise fun p q => p.acc ≠ q.acc) → (∀ p ∈ ps, okS (addS (totOf t p.acc) p)) → balT (totS t ps) := by
  induction ps with
  | nil => intro t h _ _; exact h
  | cons p r ih =>
    intro t h hp hk
    have hp2 := List.pairwise_cons.1 hp
    refine ih (t := putT t p.acc (addS (totOf t p.acc) p)) (fun e he => ?_) hp2.2 (fun q hq => ?_)
    · rcases putT_mem he with rfl | he
      · exact hk p (.head _)
      · exact h e he
    · rw [totOf_put, if_neg (hp2.1 q hq)]; exact hk q (.tail _ hq)
structure checkOk (P : PL) (at_ : Int) (memo : ByteArray) (ps : List Pst) : Prop where
  inst : inst at_
  open_ : P.closed < at_
  memo : memo.size ≤ 100
  few : 2 ≤ ps.length ∧ ps.length ≤ 50
  es : P.es.length < 2000
  post : postE P.acs ps [] = 0
  even : evenF P.acs ps
  bal : ∀ x ∈ ps, okS (addS (totOf P.tot x.acc) x)
theorem check_iff (P : PL) (at_ : Int) (memo : ByteArray) (ps : List Pst) : checkE P at_ memo ps = 0 ↔ checkOk P at_ memo ps := by
  constructor
  · intro h
    unfold checkE at h
    split at h
    · cases h
    · rename_i h1
      split at h
      · cases h
      · rename_i h2
        split at h
        · cases h
        · rename_i h3
          split at h
          · cases h
          · rename_i h4
            split at h
            · rename_i h5; exact absurd h h5
            · rename_i h5
              split at h
              · cases h
              · rename_i h6
                split at h
                · cases h
                · rename_i h7
                  exact ⟨Classical.not_not.1 h1, by omega, by omega, by omega, by omega, Classical.not_not.1 h5, Classical.not_not.1 h6, fun x hx => Classical.byContradiction fun e => h7 ⟨x, hx, e⟩⟩
  · intro h
    obtain ⟨a1, a2, a3, a4, a5, a6, a7, a8⟩ := h
    unfold checkE
    rw [if_neg (fun e => e a1), if_neg (by omega), if_neg (by omega), if_neg (by omega), if_neg (fun e => e a6), if_neg (fun e => e a7), if_neg (fun ⟨x, hx, e⟩ => e (a8 x hx))]
theorem totS_tri (t : List (ByteArray × SM)) (ps : List Pst) : totS t ps = ps.foldl triStep t := rfl
theorem wf_post {P : PL} {n : Nat} (h : wfP P n) (at_ : Int) (memo : ByteArray) (ps : List Pst) (hf : ∀ p ∈ ps, p.fits) : wfP (postP P at_ memo ps) (n + 1) := by
  unfold postP
  split
  · rename_i hE
    have hc := (check_iff P at_ memo ps).1 hE
    obtain ⟨g1, g2⟩ := postE_zero ps [] hc.post
    have hg : goodE P.acs ps := ⟨fun p hp => ⟨(g1 p hp).1, (g1 p hp).2.2⟩, g2, (even_iff P.acs ps).1 hc.even⟩
    refine ⟨fun x hx => ?_, by have := h.le; simp; omega, fun x hx => ?_, bal_post h.bal g2 hc.bal, by have := h.la; simp only; omega, fun x hx => ?_, h.nod, fun c => ?_, fun x hx => ?_⟩
    · rcases List.mem_append.1 hx with hx | hx
      · exact h.fit x hx
      · obtain rfl := List.mem_singleton.1 hx; exact hf
    · rcases List.mem_append.1 hx with hx | hx
      · exact h.ps x hx
      · obtain rfl := List.mem_singleton.1 hx; exact hc.few.2
    · rcases List.mem_append.1 hx with hx | hx
      · exact h.at_ x hx
      · obtain rfl := List.mem_singleton.1 hx; exact hc.inst
    · simp only
      rw [totS_tri, tri_sum, h.sum c, List.flatMap_append, List.foldl_append]
      simp
    · rcases List.mem_append.1 hx with hx | hx
      · exact h.evn x hx
      · obtain rfl := List.mem_singleton.1 hx; exact hg
  · exact ⟨h.fit, Nat.le_succ_of_le h.le, h.ps, h.bal, by have := h.la; omega, h.at_, h.nod, h.sum, h.evn⟩
theorem wf_step {P : PL} {n : Nat} (h : wfP P n) (o : LO) (ho : o.fits) : wfP (stepP P o) (n + 1) := by
  unfold stepP
  split
  · exact wf_open h o.a
  · split
    · exact wf_post h o.at_ o.memo o.ps ho.ps.1
    · split
      · exact wf_close h o.at_
      · exact ⟨h.fit, Nat.le_succ_of_le h.le, h.ps, h.bal, by have := h.la; omega, h.at_, h.nod, h.sum, h.evn⟩
end Go.Proofs.YtheofhegdjjfgaaGreat

namespace Go.Proofs.YtheofhegdjjfgaaGreat
open Go.RowKit
def usdL : ByteArray := ⟨#[85, 83, 68]⟩
def eurL : ByteArray := ⟨#[69, 85, 82]⟩
def aBank : Acc := ⟨⟨#[98, 97, 110, 107]⟩, usdL, 1, true⟩
def aSales : Acc := ⟨⟨#[115, 97, 108, 101, 115]⟩, usdL, 4, false⟩
def aTill : Acc := ⟨⟨#[116, 105, 108, 108]⟩, eurL, 1, true⟩
def aFees : Acc := ⟨⟨#[102, 101, 101, 115]⟩, eurL, 4, false⟩
def chartL : List Acc := [aBank, aSales, aTill, aFees]
set_option maxRecDepth 100000 in
theorem lChart_P (w0 : World) : NewC Tryz.prog 17 [] w0 (fun b : Nat => .slice (some ⟨b, 0, none⟩) 4 4) (fun b => .blk b (chartL.flatMap encAc) 35) := by
  refine c_enter [] [] noB Tryz.func17 rfl Tryz.ntmps17 trivial rfl (by simp) (by simp) (by simp) ?_
  intro a hS
  refine c_seq (c_region ?_)
  refine L_e hS (e_assign rfl) rfl ?_; clear hS a; intro a hS
  refine L_nil (n_then (c_seq (c_region ?_)))
  refine L_e hS (e_build ty_z35 ty_pl35 (.one rfl rfl rfl (by repeat constructor) (.one rfl rfl rfl (by repeat constructor) (.one rfl rfl rfl (by repeat constructor) (.one rfl rfl rfl (by repeat constructor) .nil))))) rfl ?_; clear hS a; intro a hS
  refine L_e hS (e_build ty_z35 ty_pl35 (.one rfl rfl rfl (by repeat constructor) (.one rfl rfl rfl (by repeat constructor) (.one rfl rfl rfl (by repeat constructor) .nil)))) rfl ?_; clear hS a; intro a hS
  refine L_e hS (e_build ty_z35 ty_pl35 (.one rfl rfl rfl (by repeat constructor) (.one rfl rfl rfl (by repeat constructor) (.one rfl rfl rfl (by repeat constructor) (.one rfl rfl rfl (by repeat constructor) .nil))))) rfl ?_; clear hS a; intro a hS
  refine L_e hS (e_build ty_z35 ty_pl35 (.one rfl rfl rfl (by repeat constructor) (.one rfl rfl rfl (by repeat constructor) (.one rfl rfl rfl (by repeat constructor) .nil)))) rfl ?_; clear hS a; intro a hS
  refine L_op (s_bslice hS ty_sl48 ty_sz35 ty_z35 rfl rfl rfl rfl (.agg rfl rfl (.agg rfl rfl (.agg rfl rfl (.agg rfl rfl .nil)))) rfl ?_); clear hS a; (try clear w); intro a w b5 hS
  refine L_e hS (e_assign rfl) rfl ?_; clear hS a; intro a hS
  refine L_nil (n_then (wp_ret ?_))
  refine c_ret1 hS Tryz.results17 (.tmp rfl) ?_
  exact ⟨b5, rfl, hS.chg, hS.new (.head _) rfl⟩
theorem blkrow_getL {Γ : List Asn} {α : Type} {enc : α → List Value} {s E b : Nat} {xs : List α} (hm : Asn.blk b (xs.flatMap enc) E ∈ Γ) (hl : ∀ x, (enc x).length = s) {i : Nat} {x : α} (hx : xs[i]? = some x) : ∀ w, Hd Γ w → ∀ j v, (enc x)[j]? = some v → w.cell? ⟨b, 0 + i * s + j, none⟩ = some v := fun w hh j v hj =>
  cell_of_blk (E := E) (hh _ hm) (by rw [Nat.zero_add]; exact flat_get enc s hl xs i x hx j v hj)
def P0 : PL := ⟨usdL, [], [], [], -1⟩
def P4 : PL := ⟨usdL, chartL, [], [], -1⟩
theorem chart_made : chartL.foldl openP P0 = P4 := by
  have e1 : openEP P0 aBank = 0 := by decide +kernel
  have e2 : openEP ⟨usdL, [aBank], [], [], -1⟩ aSales = 0 := by decide +kernel
  have e3 : openEP ⟨usdL, [aBank, aSales], [], [], -1⟩ aTill = 0 := by decide +kernel
  have e4 : openEP ⟨usdL, [aBank, aSales, aTill], [], [], -1⟩ aFees = 0 := by decide +kernel
  have s1 : openP P0 aBank = ⟨usdL, [aBank], [], [], -1⟩ := if_pos e1
  have s2 : openP ⟨usdL, [aBank], [], [], -1⟩ aSales = ⟨usdL, [aBank, aSales], [], [], -1⟩ := if_pos e2
  have s3 : openP ⟨usdL, [aBank, aSales], [], [], -1⟩ aTill = ⟨usdL, [aBank, aSales, aTill], [], [], -1⟩ := if_pos e3
  have s4 : openP ⟨usdL, [aBank, aSales, aTill], [], [], -1⟩ aFees = P4 := if_pos e4
  show openP (openP (openP (openP P0 aBank) aSales) aTill) aFees = P4
  rw [s1, s2, s3, s4]
theorem wf4 : wfP P4 0 := ⟨fun x hx => (by cases hx), Nat.le_refl _, fun x hx => (by cases hx), fun e he => (by cases he), by decide, fun x hx => (by cases hx), by decide +kernel, fun c => rfl, fun x hx => (by cases hx)⟩
def madeP (l : List LO) : PL := l.foldl stepP P4
theorem madeP_take {l : List LO} {i : Nat} {o : LO} (h : l[i]? = some o) : madeP (l.take (i + 1)) = stepP (madeP (l.take i)) o := by
  unfold madeP; rw [List.take_add_one, h, List.foldl_append]; rfl
theorem wf_made {l : List LO} (hf : ∀ o ∈ l, o.fits) : ∀ i, i ≤ l.length → wfP (madeP (l.take i)) i
  | 0, _ => wf4
  | i + 1, h => by
    have hx : l[i]? = some l[i] := List.getElem?_eq_getElem (by omega)
    rw [madeP_take hx]
    exact wf_step (wf_made hf i (by omega)) _ (hf _ (List.getElem_mem _))
theorem pure_mutL {γ : Type} {P : Program} {f : FuncId} {args : List Value} {w : World} {v : Value} {X : Asn} {V : γ → Value} {Y : γ → Asn} (h : PureC P f args w v) (hX : X.ok w) (g : γ) (hv : V g = v) (hY : Y g = X) : MutC P f args w X V Y :=
  h.mono fun e w' ⟨he, hc⟩ => ⟨g, by rw [hv]; exact he, hc.mono (fun _ hf => hf.elim), by rw [hY]; exact hX.keep hc (fun _ _ hf => hf), fun b hb => .inl (by rw [hY] at hb; exact hb)⟩
theorem postAny_P (B : LB) (s : LS) (pv : Value) (at_ : Int) (memo : ByteArray) (ps : List Pst) (hlen : ps.length ≤ 4611686018427387904) (hfit : ∀ x ∈ ps, x.fits) (hbt : balT s.tot) (hes : s.es.length ≤ 100000) (w0 : World) (h : ledφ B s w0) (hp : PsAt pv ps w0) (hd : ∀ k, ps ≠ [] → pv.ownBlock = some k → ¬ ledF B s k) :
    MutC Tryz.prog 29 [.pointer (some ⟨B.lb, 0, none⟩), .int .i64 at_, .string memo, pv] w0 (ledA B s true) (fun _ : { y : LS // pl y = postP (pl s) at_ memo ps } => .tuple [.int .i64 (postI (pl s) at_ memo ps), .int .i64 (checkE (pl s) at_ memo ps)].toArray) (fun y => ledA B y.1 true) := by
  by_cases hne : ps = []
  · subst hne
    obtain ⟨a, c, rfl⟩ := hp.shape
    exact pure_mutL (lPost0_P B s a c at_ memo w0 h) (led_ok true h) ⟨s, (if_neg (check_nil (pl s) at_ memo)).symm⟩ rfl rfl
  · obtain ⟨b, off, c, rfl, hr, hb⟩ := hp.some hne
    exact lPost_P B s (some (b, off)) c at_ memo ps hlen hfit hbt hes w0 h hr (fun q hq => by cases hq; exact hb) (fun q hq => by cases hq; exact hd b hne rfl)
set_option maxHeartbeats 1000000 in
set_option maxRecDepth 100000 in
theorem lMade_P (p : Option (Nat × Nat)) (c : Nat) (l : List LO) (hlen : l.length ≤ 60) (hfit : ∀ x ∈ l, x.fits) (w0 : World) (h : losφ p l w0) (hb : ∀ q, p = some q → q.1 < w0.heap.size) :
     NewC Tryz.prog 15 [sliceV p l.length c] w0 (fun y : { y : LB × LS // pl y.2 = madeP l } => .pointer (some ⟨y.1.1.lb, 0, none⟩)) (fun y => ledA y.1.1 y.1.2 true) := by
   refine c_enter [(0, sliceV p l.length c)] [losA p l] noB Tryz.func15 rfl Tryz.ntmps15 ⟨rfl, trivial⟩ rfl (okC (los_ok h hb) okN) dis1 (mineC (by rfl) mineN) ?_
   intro a hS
   refine c_seq (c_region ?_)
   refine L_e hS (e_assign rfl) rfl ?_; clear hS a; intro a hS
   refine L_nil (n_then (c_seq (c_region ?_)))
   refine L_op (s_callN hS (.cons rfl .nil) cf8 rfl (lNew_P usdL _ (by decide +kernel)) ?_); clear hS a; (try clear w); intro x9 a w hS
   refine L_e hS (e_move rfl) rfl ?_; clear hS a; intro a hS
   refine L_e hS (e_extract rfl rfl) rfl ?_; clear hS a; intro a hS
   refine L_e hS (e_extract rfl rfl) rfl ?_; clear hS a; intro a hS
   refine L_e hS (e_assign rfl) rfl ?_; clear hS a; intro a hS
   refine L_e hS (e_assign rfl) rfl ?_; clear hS a; intro a hS
   refine L_nil (n_then (c_seq (c_region ?_)))
   refine L_op (s_callN hS .nil cf17 rfl (lChart_P _) ?_); clear hS a; (try clear w); intro x12 a w hS
   refine L_e hS (e_assign rfl) rfl ?_; clear hS a; intro a hS
   refine L_nil (n_then (c_seq (c_seq (c_region ?_))))
   refine L_e hS (e_assign rfl) rfl ?_; clear hS a; intro a hS
   refine L_nil (n_then (wp_block ?_))
   skip
   refine c_loop (γ := Nat × LS) (fun G a w => St 82 noB w0 a w [(6, .int .i64 (G.1 : Int)), (5, .slice (some ⟨x12, 0, none⟩) 4 4), (3, .pointer (some ⟨x9.lb, 0, none⟩)), (0, sliceV p l.length c)] [.blk x12 (chartL.flatMap encAc) 35, ledA x9 G.2 true, losA p l] ∧ G.1 ≤ 4 ∧ pl G.2 = (chartL.take G.1).foldl openP P0) (fun G => 4 - G.1) (0, newL usdL) ⟨(hS.slots (by repeat (first | exact trivial | refine ⟨rfl, ?_⟩))).pick (by repeat (first | exact Pick.nil | (refine Pick.cons (by repeat (first | exact Rem.head | apply Rem.tail)) ?_))), Nat.zero_le _, rfl⟩ ?_
   clear hS a; (try clear w); intro G a w hI
   obtain ⟨i, s⟩ := G
   obtain ⟨hS, hi, hpl⟩ := hI
   simp only at hS hi hpl
   refine c_seq (c_seq (c_region ?_))
   refine L_e hS (e_move rfl) rfl ?_; clear hS a; intro a hS
   refine L_e hS (e_move rfl) rfl ?_; clear hS a; intro a hS
   refine L_e hS (e_len rfl rfl ty_sl48) rfl ?_; clear hS a; intro a hS
   refine L_e hS (e_bin rfl rfl rfl) rfl ?_; clear hS a; intro a hS
   refine L_e hS (e_move rfl) rfl ?_; clear hS a; intro a hS
   refine L_merge 3 20 (.bool (decide (i < 4))) hS ?_ ?_
   · intro hcM20
     (first | refine g_splitD (t := 17) hS rfl ?_ ?_ | refine g_split (t := 17) hS rfl ?_ ?_) <;> (clear hS; intro hg17 hS)
     ·
       refine L_ge hS rfl rfl (e_move rfl) rfl ?_; clear hS a; intro a hS
       refine L_ge hS rfl rfl (e_nnil rfl ty_u25) rfl ?_; clear hS a; intro a hS
       refine L_e hS (e_pk rfl rfl) rfl ?_; clear hS a; intro a hS
       exact hcM20 _ _ (hS.ends 4 20 17 rfl (congrArg Value.bool (by rw [decide_eq_true (by omega)]; rfl)) rfl rfl (by first | exact congrArg Value.bool (decide_eq_true hg17).symm | exact congrArg Value.bool hg17.symm | simp [hg17]) rfl)
     refine L_skip_t hS rfl rfl rfl ?_; clear hS a; intro a hS
     refine L_skip_t hS rfl rfl rfl ?_; clear hS a; intro a hS
     refine L_e hS (e_pk rfl rfl) rfl ?_; clear hS a; intro a hS
     exact hcM20 _ _ (hS.ends 4 20 17 rfl (congrArg Value.bool (by exact (decide_eq_false (by omega)).symm)) rfl rfl (by first | exact congrArg Value.bool (decide_eq_false hg17).symm | exact congrArg Value.bool hg17.symm | simp [hg17]) rfl)
   · clear hS a; (try clear w); intro a w hS
     simp only [List.drop_succ_cons, List.drop_zero]
     refine L_nil (n_then ?_)
     first | refine c_ifD hS rfl (fun hc20 => ?_) (fun hc20 => ?_) | refine c_if hS rfl (fun hc20 => ?_) (fun hc20 => ?_)
     ·
       obtain ⟨x, hx⟩ : ∃ x, chartL[i]? = some x := ⟨chartL[i]'(by show i < 4; omega), List.getElem?_eq_getElem (by show i < 4; omega)⟩
       have hxs : x.code.size ≤ 4611686018427387904 := by
         have := List.mem_of_getElem? hx
         simp [chartL] at this
         rcases this with rfl | rfl | rfl | rfl <;> decide
       have htk : chartL.take (i + 1) = chartL.take i ++ [x] := by rw [List.take_add_one, hx]; rfl
       refine wp_skip (n_then (c_seq (wp_block (c_region ?_))))
       refine L_e hS (e_move rfl) rfl ?_; clear hS a; intro a hS
       refine L_e hS (e_move rfl) rfl ?_; clear hS a; intro a hS
       refine L_e hS (e_move rfl) rfl ?_; clear hS a; intro a hS
       refine L_e hS (e_ixN rfl rfl ty_sl48 ty_sz35 (by omega)) rfl ?_; clear hS a; intro a hS
       refine L_e hS (e_loadAC (l := encAc x) rfl ty_st35 ty_sz35 (blkrow_getL (enc := encAc) (s := 4) (by repeat constructor) (fun _ => rfl) hx)) rfl ?_; clear hS a; intro a hS
       refine L_op (s_callM hS (.cons rfl (.cons rfl .nil)) cf32 rfl (lOpen_P x9 s x hxs _ (hS.get (X := ledA x9 s true) (by repeat constructor))) (fun x => (by repeat constructor)) rfl ?_); clear hS a; (try clear w); intro x28 a w hS
       refine L_nil (n_block (n_then (c_region ?_)))
       refine L_e hS (e_move rfl) rfl ?_; clear hS a; intro a hS
       (first | refine L_e hS (e_binN rfl rfl rfl (by omega)) rfl ?_ | refine L_e hS (e_bin rfl rfl rfl) rfl ?_); clear hS a; intro a hS
       refine L_e hS (e_assign rfl) rfl ?_; clear hS a; intro a hS
       refine L_nil ?_
       exact ⟨(i + 1, openL s x), by simp only; omega, (hS.slots (by repeat (first | exact trivial | refine ⟨rfl, ?_⟩))).pick (by repeat (first | exact Pick.nil | (refine Pick.cons (by repeat (first | exact Rem.head | apply Rem.tail)) ?_))), by simp only; omega, by simp only; rw [pl_open, hpl, htk, List.foldl_append]; rfl⟩
     obtain rfl : i = 4 := by omega
     rw [show (chartL.take 4).foldl openP P0 = P4 from chart_made] at hpl
     refine wp_exit ?_
     refine x_then (x_then (x_hit ?_))
     refine n_then (c_seq (c_seq (c_region ?_)))
     refine L_e hS (e_assign rfl) rfl ?_; clear hS a; intro a hS
     refine L_nil (n_then (wp_block ?_))
     skip
     refine c_loop (γ := Nat × LS) (fun G a w => St 82 noB w0 a w [(7, .int .i64 (G.1 : Int)), (3, .pointer (some ⟨x9.lb, 0, none⟩)), (0, sliceV p l.length c)] [ledA x9 G.2 true, losA p l] ∧ G.1 ≤ l.length ∧ pl G.2 = madeP (l.take G.1)) (fun G => l.length - G.1) (0, s) ⟨(hS.slots (by repeat (first | exact trivial | refine ⟨rfl, ?_⟩))).pick (by repeat (first | exact Pick.nil | (refine Pick.cons (by repeat (first | exact Rem.head | apply Rem.tail)) ?_))), Nat.zero_le _, hpl⟩ ?_
     clear hS a; (try clear w); intro G a w hI
     obtain ⟨i, s⟩ := G
     obtain ⟨hS, hi, hpl⟩ := hI
     simp only at hS hi hpl
     refine c_seq (c_seq (c_region ?_))
     refine L_e hS (e_move rfl) rfl ?_; clear hS a; intro a hS
     refine L_e hS (e_move rfl) rfl ?_; clear hS a; intro a hS
     refine L_e hS (e_len rfl rfl ty_sl22) rfl ?_; clear hS a; intro a hS
     refine L_e hS (e_bin rfl rfl rfl) rfl ?_; clear hS a; intro a hS
     refine L_e hS (e_move rfl) rfl ?_; clear hS a; intro a hS
     refine L_merge 3 36 (.bool (decide (i < l.length))) hS ?_ ?_
     · intro hcM36
       (first | refine g_splitD (t := 33) hS rfl ?_ ?_ | refine g_split (t := 33) hS rfl ?_ ?_) <;> (clear hS; intro hg33 hS)
       ·
         refine L_ge hS rfl rfl (e_move rfl) rfl ?_; clear hS a; intro a hS
         refine L_ge hS rfl rfl (e_nnil rfl ty_u25) rfl ?_; clear hS a; intro a hS
         refine L_e hS (e_pk rfl rfl) rfl ?_; clear hS a; intro a hS
         exact hcM36 _ _ (hS.ends 4 36 33 rfl (congrArg Value.bool (by rw [decide_eq_true (by omega)]; rfl)) rfl rfl (by first | exact congrArg Value.bool (decide_eq_true hg33).symm | exact congrArg Value.bool hg33.symm | simp [hg33]) rfl)
       refine L_skip_t hS rfl rfl rfl ?_; clear hS a; intro a hS
       refine L_skip_t hS rfl rfl rfl ?_; clear hS a; intro a hS
       refine L_e hS (e_pk rfl rfl) rfl ?_; clear hS a; intro a hS
       exact hcM36 _ _ (hS.ends 4 36 33 rfl (congrArg Value.bool (by exact (decide_eq_false (by omega)).symm)) rfl rfl (by first | exact congrArg Value.bool (decide_eq_false hg33).symm | exact congrArg Value.bool hg33.symm | simp [hg33]) rfl)
     · clear hS a; (try clear w); intro a w hS
       simp only [List.drop_succ_cons, List.drop_zero]
       refine L_nil (n_then ?_)
       first | refine c_ifD hS rfl (fun hc36 => ?_) (fun hc36 => ?_) | refine c_if hS rfl (fun hc36 => ?_) (fun hc36 => ?_)
       ·
         obtain ⟨o, ho⟩ : ∃ o, l[i]? = some o := ⟨l[i]'(by omega), List.getElem?_eq_getElem (by omega)⟩
         have hom := List.mem_of_getElem? ho
         have hof := hfit o hom
         obtain ⟨b, off, rfl⟩ := los_pos (hS.get (X := losA p l) (by repeat constructor)) ho
         have hmt := madeP_take ho
         have hwf := wf_made hfit i (by omega)
         rw [← hpl] at hwf
         have hst : pl s = madeP (l.take i) := hpl
         have hes : s.es.length ≤ 100000 := by have h1 := hwf.le; simp [pl] at h1; omega
         refine wp_skip (n_then ?_)
         refine c_cut (fun a w => ∃ s2 : LS, St 82 noB w0 a w [(7, .int .i64 (i : Int)), (3, .pointer (some ⟨x9.lb, 0, none⟩)), (0, sliceV (some (b, off)) l.length c)] [ledA x9 s2 true, losA (some (b, off)) l] ∧ pl s2 = madeP (l.take (i + 1))) ?_ ?_
         ·
           refine wp_block (c_seq (c_region ?_))
           refine L_e hS (e_move rfl) rfl ?_; clear hS a; intro a hS
           refine L_e hS (e_move rfl) rfl ?_; clear hS a; intro a hS
           refine L_e hS (e_ixN rfl rfl ty_sl22 ty_sz38 (by omega)) rfl ?_; clear hS a; intro a hS
           (first | refine L_e hS (e_fa0 rfl ty_fo38_0) rfl ?_ | refine L_e hS (e_faK rfl ty_fo38_0) rfl ?_); clear hS a; intro a hS
           refine L_e hS (e_loadC rfl ty_sc3 (fun w hh => los_get (by repeat constructor) ho w hh 0 (.int .i64 o.kind) rfl)) rfl ?_; clear hS a; intro a hS
           refine L_nil (n_then (wp_block (c_seq (c_region ?_))))
           refine L_e hS (e_bin rfl rfl rfl) rfl ?_; clear hS a; intro a hS
           refine L_e hS (e_assign rfl) rfl ?_; clear hS a; intro a hS
           refine L_nil (n_then ?_)
           first | refine c_ifD hS rfl (fun hc44 => ?_) (fun hc44 => ?_) | refine c_if hS rfl (fun hc44 => ?_) (fun hc44 => ?_)
           ·
             refine c_region ?_
             refine L_e hS (e_move rfl) rfl ?_; clear hS a; intro a hS
             refine L_e hS (e_move rfl) rfl ?_; clear hS a; intro a hS
             refine L_e hS (e_move rfl) rfl ?_; clear hS a; intro a hS
             refine L_e hS (e_ixN rfl rfl ty_sl22 ty_sz38 (by omega)) rfl ?_; clear hS a; intro a hS
             (first | refine L_e hS (e_fa0 rfl ty_fo38_2) rfl ?_ | refine L_e hS (e_faK rfl ty_fo38_2) rfl ?_); clear hS a; intro a hS
             refine L_op (s_e hS (e_loadAC (l := encAc o.a) rfl ty_st35 ty_sz35 (fun w hh j v hj => by
 rw [Nat.add_assoc]
 refine los_get (by repeat constructor) ho w hh (2 + j) v ?_
 have hjl := (List.getElem?_eq_some_iff.1 hj).1
 match j, hj with
 | 0, hj => exact hj
 | 1, hj => exact hj
 | 2, hj => exact hj
 | 3, hj => exact hj
 | (k + 4), hj => simp [encAc] at hj)) rfl ?_); clear hS a; intro a hS
             refine L_op (s_callM hS (.cons rfl (.cons rfl .nil)) cf32 rfl (lOpen_P x9 s o.a hof.code _ (hS.get (X := ledA x9 s true) (by repeat constructor))) (fun x => (by repeat constructor)) rfl ?_); clear hS a; (try clear w); intro x52 a w hS
             refine L_nil (n_block (n_block ?_))
             rw [hmt, ← hst]
             first
             | exact ⟨openL s o.a, (hS.slots (by repeat (first | exact trivial | refine ⟨rfl, ?_⟩))).pick (by repeat (first | exact Pick.nil | (refine Pick.cons (by repeat (first | exact Rem.head | apply Rem.tail)) ?_))), by rw [pl_open]; exact (if_pos hc44).symm⟩
             | exact ⟨x71.1, (hS.slots (by repeat (first | exact trivial | refine ⟨rfl, ?_⟩))).pick (by repeat (first | exact Pick.nil | (refine Pick.cons (by repeat (first | exact Rem.head | apply Rem.tail)) ?_))), by rw [x71.2]; unfold stepP; rw [if_neg hc44, if_pos hc53]⟩
             | exact ⟨closeL s o.at_, (hS.slots (by repeat (first | exact trivial | refine ⟨rfl, ?_⟩))).pick (by repeat (first | exact Pick.nil | (refine Pick.cons (by repeat (first | exact Rem.head | apply Rem.tail)) ?_))), by rw [pl_close]; unfold stepP; rw [if_neg hc44, if_neg hc53, if_pos hc72]⟩
             | exact ⟨s, (hS.slots (by repeat (first | exact trivial | refine ⟨rfl, ?_⟩))).pick (by repeat (first | exact Pick.nil | (refine Pick.cons (by repeat (first | exact Rem.head | apply Rem.tail)) ?_))), by unfold stepP; rw [if_neg hc44, if_neg hc53, if_neg hc72]⟩
           refine c_seq (c_region ?_)
           refine L_e hS (e_bin rfl rfl rfl) rfl ?_; clear hS a; intro a hS
           refine L_e hS (e_assign rfl) rfl ?_; clear hS a; intro a hS
           refine L_nil (n_then ?_)
           first | refine c_ifD hS rfl (fun hc53 => ?_) (fun hc53 => ?_) | refine c_if hS rfl (fun hc53 => ?_) (fun hc53 => ?_)
           ·
             refine c_drawS [] (by kernel_rfl) hS (sub_cons (X := losA (some (b, off)) l) (by repeat constructor) sub_nil) ?_; clear hS; (try clear w); intro w hS
             simp only [List.length_cons, List.length_nil, Nat.zero_add, Nat.reduceAdd, List.replicate]
             refine Zt0 0 (tf 1 16) hS rfl want_none (e_move rfl) rfl (by kernel_rfl) rfl ?_; clear hS a; intro a hS
             refine Zt0 1 (tf 2 15) hS rfl want_none (e_move rfl) rfl (by kernel_rfl) rfl ?_; clear hS a; intro a hS
             refine Zt0 2 (tf 3 14) hS rfl want_none (e_move rfl) rfl (by kernel_rfl) rfl ?_; clear hS a; intro a hS
             refine Zt0 3 (tf 4 13) hS rfl want_none (e_ixN rfl rfl ty_sl22 ty_sz38 (by omega)) rfl (by kernel_rfl) rfl ?_; clear hS a; intro a hS
             (first | refine Zt0 4 (tf 5 12) hS rfl want_none (e_fa0 rfl ty_fo38_1) rfl (by kernel_rfl) rfl ?_ | refine Zt0 4 (tf 5 12) hS rfl want_none (e_faK rfl ty_fo38_1) rfl (by kernel_rfl) rfl ?_); clear hS a; intro a hS
             refine Zt 5 (tf 6 11) hS rfl want_none (e_loadC rfl ty_sc3 (fun w hh => los_get (by repeat constructor) ho w hh 1 (.int .i64 o.at_) rfl)) rfl (by kernel_rfl) (sub_cons (by repeat constructor) sub_nil) rfl ?_; clear hS a; intro a hS
             refine Zt0 6 (tf 7 10) hS rfl want_none (e_move rfl) rfl (by kernel_rfl) rfl ?_; clear hS a; intro a hS
             refine Zt0 7 (tf 8 9) hS rfl want_none (e_move rfl) rfl (by kernel_rfl) rfl ?_; clear hS a; intro a hS
             refine Zt0 8 (tf 9 8) hS rfl want_none (e_ixN rfl rfl ty_sl22 ty_sz38 (by omega)) rfl (by kernel_rfl) rfl ?_; clear hS a; intro a hS
             (first | refine Zt0 9 (tf 10 7) hS rfl want_none (e_fa0 rfl ty_fo38_3) rfl (by kernel_rfl) rfl ?_ | refine Zt0 9 (tf 10 7) hS rfl want_none (e_faK rfl ty_fo38_3) rfl (by kernel_rfl) rfl ?_); clear hS a; intro a hS
             refine Zt 10 (tf 11 6) hS rfl want_none (e_loadC rfl ty_sc9 (fun w hh => los_get (by repeat constructor) ho w hh 6 (.string o.memo) rfl)) rfl (by kernel_rfl) (sub_cons (by repeat constructor) sub_nil) rfl ?_; clear hS a; intro a hS
             refine Zt0 11 (tf 12 5) hS rfl want_none (e_move rfl) rfl (by kernel_rfl) rfl ?_; clear hS a; intro a hS
             refine Zt0 12 (tf 13 4) hS rfl want_none (e_move rfl) rfl (by kernel_rfl) rfl ?_; clear hS a; intro a hS
             refine Zt0 13 (tf 14 3) hS rfl want_none (e_ixN rfl rfl ty_sl22 ty_sz38 (by omega)) rfl (by kernel_rfl) rfl ?_; clear hS a; intro a hS
             (first | refine Zt0 14 (tf 15 2) hS rfl want_none (e_fa0 rfl ty_fo38_4) rfl (by kernel_rfl) rfl ?_ | refine Zt0 14 (tf 15 2) hS rfl want_none (e_faK rfl ty_fo38_4) rfl (by kernel_rfl) rfl ?_); clear hS a; intro a hS
             refine Zt 15 (tf 16 1) hS rfl want_none (e_loadC rfl ty_sc36 (fun w hh => los_get (by repeat constructor) ho w hh 7 o.pv rfl)) rfl (by kernel_rfl) (sub_cons (by repeat constructor) sub_nil) rfl ?_; clear hS a; intro a hS
             refine Z_one (i := 16) rfl (want_none a hS.sl) (listed' := (tf 17 0)) rfl (by kernel_rfl) (s_callM hS (.cons rfl (.cons rfl (.cons rfl (.cons rfl .nil)))) cf29 rfl (postAny_P x9 s o.pv o.at_ o.memo o.ps hof.ps.2 hof.ps.1 hwf.bal hes _ (hS.get (X := ledA x9 s true) (by repeat constructor)) ((hS.get (X := losA (some (b, off)) l) (by repeat constructor)).2 o hom) (fun k hne hk hl => hS.sep (X := ledA x9 s true) (Y := losA (some (b, off)) l) (by repeat (first | exact Rem.head | apply Rem.tail)) (by repeat constructor) k hl (.inr ⟨o, hom, hne, hk⟩))) (fun x => (by repeat constructor)) rfl ?_); clear hS a; (try clear w); intro x71 a w hS
             refine Z_and hS (sub_cons (by repeat constructor) sub_nil) ?_
             refine Z_done (by kernel_rfl) ?_
             refine n_block (n_block ?_)
             rw [hmt, ← hst]
             first
             | exact ⟨openL s o.a, (hS.slots (by repeat (first | exact trivial | refine ⟨rfl, ?_⟩))).pick (by repeat (first | exact Pick.nil | (refine Pick.cons (by repeat (first | exact Rem.head | apply Rem.tail)) ?_))), by rw [pl_open]; exact (if_pos hc44).symm⟩
             | exact ⟨x71.1, (hS.slots (by repeat (first | exact trivial | refine ⟨rfl, ?_⟩))).pick (by repeat (first | exact Pick.nil | (refine Pick.cons (by repeat (first | exact Rem.head | apply Rem.tail)) ?_))), by rw [x71.2]; unfold stepP; rw [if_neg hc44, if_pos hc53]⟩
             | exact ⟨closeL s o.at_, (hS.slots (by repeat (first | exact trivial | refine ⟨rfl, ?_⟩))).pick (by repeat (first | exact Pick.nil | (refine Pick.cons (by repeat (first | exact Rem.head | apply Rem.tail)) ?_))), by rw [pl_close]; unfold stepP; rw [if_neg hc44, if_neg hc53, if_pos hc72]⟩
             | exact ⟨s, (hS.slots (by repeat (first | exact trivial | refine ⟨rfl, ?_⟩))).pick (by repeat (first | exact Pick.nil | (refine Pick.cons (by repeat (first | exact Rem.head | apply Rem.tail)) ?_))), by unfold stepP; rw [if_neg hc44, if_neg hc53, if_neg hc72]⟩
           refine c_seq (c_region ?_)
           refine L_e hS (e_bin rfl rfl rfl) rfl ?_; clear hS a; intro a hS
           refine L_e hS (e_assign rfl) rfl ?_; clear hS a; intro a hS
           refine L_nil (n_then ?_)
           first | refine c_ifD hS rfl (fun hc72 => ?_) (fun hc72 => ?_) | refine c_if hS rfl (fun hc72 => ?_) (fun hc72 => ?_)
           ·
             refine c_region ?_
             refine L_e hS (e_move rfl) rfl ?_; clear hS a; intro a hS
             refine L_e hS (e_move rfl) rfl ?_; clear hS a; intro a hS
             refine L_e hS (e_move rfl) rfl ?_; clear hS a; intro a hS
             refine L_e hS (e_ixN rfl rfl ty_sl22 ty_sz38 (by omega)) rfl ?_; clear hS a; intro a hS
             (first | refine L_e hS (e_fa0 rfl ty_fo38_1) rfl ?_ | refine L_e hS (e_faK rfl ty_fo38_1) rfl ?_); clear hS a; intro a hS
             refine L_e hS (e_loadC rfl ty_sc3 (fun w hh => los_get (by repeat constructor) ho w hh 1 (.int .i64 o.at_) rfl)) rfl ?_; clear hS a; intro a hS
             refine L_op (s_callM hS (.cons rfl (.cons rfl .nil)) cf37 rfl (lClose_P x9 s o.at_ _ (hS.get (X := ledA x9 s true) (by repeat constructor))) (fun x => (by repeat constructor)) rfl ?_); clear hS a; (try clear w); intro x80 a w hS
             refine L_nil (n_block (n_block ?_))
             rw [hmt, ← hst]
             first
             | exact ⟨openL s o.a, (hS.slots (by repeat (first | exact trivial | refine ⟨rfl, ?_⟩))).pick (by repeat (first | exact Pick.nil | (refine Pick.cons (by repeat (first | exact Rem.head | apply Rem.tail)) ?_))), by rw [pl_open]; exact (if_pos hc44).symm⟩
             | exact ⟨x71.1, (hS.slots (by repeat (first | exact trivial | refine ⟨rfl, ?_⟩))).pick (by repeat (first | exact Pick.nil | (refine Pick.cons (by repeat (first | exact Rem.head | apply Rem.tail)) ?_))), by rw [x71.2]; unfold stepP; rw [if_neg hc44, if_pos hc53]⟩
             | exact ⟨closeL s o.at_, (hS.slots (by repeat (first | exact trivial | refine ⟨rfl, ?_⟩))).pick (by repeat (first | exact Pick.nil | (refine Pick.cons (by repeat (first | exact Rem.head | apply Rem.tail)) ?_))), by rw [pl_close]; unfold stepP; rw [if_neg hc44, if_neg hc53, if_pos hc72]⟩
             | exact ⟨s, (hS.slots (by repeat (first | exact trivial | refine ⟨rfl, ?_⟩))).pick (by repeat (first | exact Pick.nil | (refine Pick.cons (by repeat (first | exact Rem.head | apply Rem.tail)) ?_))), by unfold stepP; rw [if_neg hc44, if_neg hc53, if_neg hc72]⟩
           refine wp_skip (n_block (n_block ?_))
           rw [hmt, ← hst]
           first
           | exact ⟨openL s o.a, (hS.slots (by repeat (first | exact trivial | refine ⟨rfl, ?_⟩))).pick (by repeat (first | exact Pick.nil | (refine Pick.cons (by repeat (first | exact Rem.head | apply Rem.tail)) ?_))), by rw [pl_open]; exact (if_pos hc44).symm⟩
           | exact ⟨x71.1, (hS.slots (by repeat (first | exact trivial | refine ⟨rfl, ?_⟩))).pick (by repeat (first | exact Pick.nil | (refine Pick.cons (by repeat (first | exact Rem.head | apply Rem.tail)) ?_))), by rw [x71.2]; unfold stepP; rw [if_neg hc44, if_pos hc53]⟩
           | exact ⟨closeL s o.at_, (hS.slots (by repeat (first | exact trivial | refine ⟨rfl, ?_⟩))).pick (by repeat (first | exact Pick.nil | (refine Pick.cons (by repeat (first | exact Rem.head | apply Rem.tail)) ?_))), by rw [pl_close]; unfold stepP; rw [if_neg hc44, if_neg hc53, if_pos hc72]⟩
           | exact ⟨s, (hS.slots (by repeat (first | exact trivial | refine ⟨rfl, ?_⟩))).pick (by repeat (first | exact Pick.nil | (refine Pick.cons (by repeat (first | exact Rem.head | apply Rem.tail)) ?_))), by unfold stepP; rw [if_neg hc44, if_neg hc53, if_neg hc72]⟩
         clear hS a; (try clear w); intro a w hS
         obtain ⟨s2, hS, hp2⟩ := hS
         refine c_region ?_
         refine L_e hS (e_move rfl) rfl ?_; clear hS a; intro a hS
         (first | refine L_e hS (e_binN rfl rfl rfl (by omega)) rfl ?_ | refine L_e hS (e_bin rfl rfl rfl) rfl ?_); clear hS a; intro a hS
         refine L_e hS (e_assign rfl) rfl ?_; clear hS a; intro a hS
         refine L_nil ?_
         exact ⟨(i + 1, s2), by simp only; omega, hS.slots (by repeat (first | exact trivial | refine ⟨rfl, ?_⟩)), by simp only; omega, hp2⟩
       refine wp_exit ?_
       refine x_then (x_then (x_hit ?_))
       refine n_then (c_seq (c_region ?_))
       refine L_e hS (e_move rfl) rfl ?_; clear hS a; intro a hS
       refine L_e hS (e_assign rfl) rfl ?_; clear hS a; intro a hS
       refine L_nil (n_then (wp_ret ?_))
       refine c_ret1 hS Tryz.results15 (.tmp rfl) ?_
       obtain rfl : i = l.length := by omega
       rw [List.take_length] at hpl
       exact ⟨⟨(x9, s), hpl⟩, rfl, hS.chg, hS.new (X := ledA x9 s true) (by repeat constructor) rfl⟩
end Go.Proofs.YtheofhegdjjfgaaGreat

namespace Go.Proofs.YtheofhegdjjfgaaGreat
open Go.RowKit
end Go.Proofs.YtheofhegdjjfgaaGreat

namespace Go.Proofs.YtheofhegdjjfgaaGreat
open Go.RowKit
section
variable {n : Nat} {F0 : Nat → Prop} {w0 w : World} {a : Act} {L : List (Nat × Value)} {Γ : List Asn} {dst : Option Nat} {ty t' : Nat} {pos : String} {af : Array Edge} {g : Option (Nat × Bool)} {x y : Operand}
end
def balD (c : ByteArray) (ps : List Pst) : SM := ps.foldl (balStep c) (0, 0)
theorem bal_from (c : ByteArray) : ∀ (ps : List Pst) (g : SM), ps.foldl (balStep c) g = (g.1 + (balD c ps).1, g.2 + (balD c ps).2)
  | [], g => by simp [balD]
  | p :: r, g => by
    have h1 := bal_from c r (balStep c g p)
    have h2 := bal_from c r (balStep c (0, 0) p)
    unfold balD at h1 h2 ⊢
    rw [List.foldl_cons, List.foldl_cons, h1, h2]
    unfold balStep addS
    split <;> (refine Prod.ext ?_ ?_ <;> simp only <;> omega)
theorem balD_cons (c : ByteArray) (p : Pst) (r : List Pst) : balD c (p :: r) = ((balStep c (0, 0) p).1 + (balD c r).1, (balStep c (0, 0) p).2 + (balD c r).2) := by
  show r.foldl (balStep c) (balStep c (0, 0) p) = _
  rw [bal_from]
theorem balD_append (c : ByteArray) (l r : List Pst) : balD c (l ++ r) = ((balD c l).1 + (balD c r).1, (balD c l).2 + (balD c r).2) := by
  unfold balD
  rw [List.foldl_append, bal_from]
  rfl
theorem balD_none (c : ByteArray) : ∀ ps : List Pst, (∀ p ∈ ps, p.acc ≠ c) → balD c ps = (0, 0)
  | [], _ => rfl
  | p :: r, h => by
    rw [balD_cons, balD_none c r (fun q hq => h q (.tail _ hq))]
    unfold balStep
    rw [if_neg (h p (.head _))]; rfl
theorem sumFn_cons (p : Pst) (r : List Pst) : sumFn (p :: r) = p.f + sumFn r := by
  have h : ∀ (l : List Pst) (g : Int), l.foldl (fun a p => a + p.f) g = g + l.foldl (fun a p => a + p.f) 0 := by
    intro l
    induction l with
    | nil => intro g; simp
    | cons q s ih => intro g; rw [List.foldl_cons, List.foldl_cons, ih, ih (0 + q.f)]; omega
  unfold sumFn
  rw [List.foldl_cons, h]; omega
theorem triT_of (P : PL) (at_ : Int) (c : ByteArray) : totOf (triT P at_) c = if inst at_ then balD c (postsAt P.es at_) else (0, 0) := by
  unfold triT
  split
  · rw [tri_sum]; rfl
  · rfl
theorem postsAt_snoc (es : List Ent) (x : Ent) (at_ : Int) : postsAt (es ++ [x]) at_ = postsAt es at_ ++ if x.at_ ≤ at_ then x.ps else [] := by
  have h := upTo_take (es := es ++ [x]) (at_ := at_) (i := es.length) (x := x) (by simp)
  rw [List.take_of_length_le (by simp), List.take_left'] at h
  · exact h
  · rfl
end Go.Proofs.YtheofhegdjjfgaaGreat

namespace Go.Proofs.YtheofhegdjjfgaaGreat
open Go.RowKit
theorem srt_of (xs : List ByteArray) : (srt xs).Perm xs := by
  unfold srt
  refine (List.Perm.map _ (List.mergeSort_perm _ _)).trans ?_
  unfold bytesL
  rw [List.map_map]
  have e : xs.map ((fun l : List UInt8 => (⟨l.toArray⟩ : ByteArray)) ∘ fun x : ByteArray => x.data.toList) = xs := by
    conv => rhs; rw [← List.map_id xs]
    exact List.map_congr_left fun x _ => rfl
  rw [e]
theorem accOf_mem {acs : List Acc} {k : ByteArray} (h : k ∈ codesA acs) : accOf acs k ∈ acs ∧ (accOf acs k).code = k := by
  unfold accOf findA
  obtain ⟨a, ha, hk⟩ := List.mem_map.1 h
  cases e : acs.find? fun a => decide (a.code = k) with
  | none => exact absurd (by simpa using hk) (List.find?_eq_none.1 e a ha)
  | some x => exact ⟨List.mem_of_find?_eq_some e, by simpa using List.find?_some e⟩
theorem accs_codes (acs : List Acc) : (accsL acs).map (·.code) = srt (codesA acs) := by
  unfold accsL
  rw [List.map_map]
  conv => rhs; rw [← List.map_id (srt (codesA acs))]
  exact List.map_congr_left fun k hk => (accOf_mem ((srt_of _).mem_iff.1 hk)).2
theorem accs_nodup {acs : List Acc} (h : (codesA acs).Nodup) : ((accsL acs).map (·.code)).Nodup := by rw [accs_codes]; exact (srt_of _).nodup_iff.2 h
theorem accs_mem {acs : List Acc} {a : Acc} (h : a ∈ accsL acs) : a ∈ acs ∧ accOf acs a.code = a := by
  unfold accsL at h
  obtain ⟨k, hk, rfl⟩ := List.mem_map.1 h
  have h1 := accOf_mem ((srt_of _).mem_iff.1 hk)
  exact ⟨h1.1, by rw [h1.2]⟩
theorem accs_of {acs : List Acc} {k : ByteArray} (h : (findA acs k).isSome = true) : accOf acs k ∈ accsL acs ∧ (accOf acs k).code = k := by
  obtain ⟨x, hx⟩ := Option.isSome_iff_exists.1 h
  unfold findA at hx
  have hm : k ∈ codesA acs := List.mem_map.2 ⟨x, List.mem_of_find?_eq_some hx, by simpa using List.find?_some hx⟩
  exact ⟨List.mem_map.2 ⟨k, (srt_of _).mem_iff.2 hm, rfl⟩, (accOf_mem hm).2⟩
def sumA (f : Acc → Int) : List Acc → Int
  | [] => 0
  | a :: r => f a + sumA f r
theorem sumA_append (f : Acc → Int) (l r : List Acc) : sumA f (l ++ r) = sumA f l + sumA f r := by
  induction l with
  | nil => simp [sumA]
  | cons a l ih => simp only [List.cons_append, sumA, ih]; omega
theorem sumA_take (f : Acc → Int) {l : List Acc} {i : Nat} {x : Acc} (h : l[i]? = some x) : sumA f (l.take (i + 1)) = sumA f (l.take i) + f x := by
  rw [List.take_add_one, h, sumA_append]; simp [sumA]
theorem sumA_add (f g : Acc → Int) (l : List Acc) : sumA (fun a => f a + g a) l = sumA f l + sumA g l := by
  induction l with
  | nil => rfl
  | cons a l ih => simp only [sumA, ih]; omega
theorem sumA_congr {f g : Acc → Int} {l : List Acc} (h : ∀ a ∈ l, f a = g a) : sumA f l = sumA g l := by
  induction l with
  | nil => rfl
  | cons a l ih => simp only [sumA]; rw [h a (.head _), ih (fun b hb => h b (.tail _ hb))]
theorem sumA_zero (l : List Acc) : sumA (fun _ => 0) l = 0 := by
  induction l with
  | nil => rfl
  | cons a l ih => simp only [sumA, ih]; rfl
theorem sumA_bd {f : Acc → Int} {l : List Acc} {m : Nat} (h : ∀ a ∈ l, -(m : Int) ≤ f a ∧ f a ≤ m) : -((l.length * m : Nat) : Int) ≤ sumA f l ∧ sumA f l ≤ (l.length * m : Nat) := by
  induction l with
  | nil => simp [sumA]
  | cons a l ih =>
    have h1 := h a (.head _)
    have h2 := ih (fun b hb => h b (.tail _ hb))
    simp only [sumA, List.length_cons, Nat.add_mul, Nat.one_mul]
    omega
theorem sumA_one (q : Acc → Prop) [DecidablePred q] (v : Int) {k : ByteArray} : ∀ {l : List Acc}, (l.map (·.code)).Nodup → ∀ x ∈ l, x.code = k → sumA (fun a => if q a then (if k = a.code then v else 0) else 0) l = if q x then v else 0
  | a :: r, hn, x, hx, hk => by
    have h2 := List.nodup_cons.1 hn
    simp only [sumA]
    rcases List.mem_cons.1 hx with rfl | hx
    · have e : sumA (fun a => if q a then (if k = a.code then v else 0) else 0) r = 0 := by
        refine (sumA_congr (g := fun _ => 0) fun b hb => ?_).trans (sumA_zero r)
        have hne : ¬ k = b.code := fun e => h2.1 (by show x.code ∈ _; rw [show x.code = b.code from hk.trans e]; exact List.mem_map.2 ⟨b, hb, rfl⟩)
        rw [if_neg hne]; split <;> rfl
      rw [e, if_pos hk.symm]; omega
    · have hne : ¬ k = a.code := fun e => h2.1 (by show a.code ∈ _; rw [← e, ← hk]; exact List.mem_map.2 ⟨x, hx, rfl⟩)
      rw [if_neg hne, sumA_one q v h2.2 x hx hk]; split <;> split <;> omega
theorem sum_units (acs : List Acc) (hn : (codesA acs).Nodup) (c : ByteArray) : ∀ L : List Pst, (∀ p ∈ L, (findA acs p.acc).isSome = true) → sumA (fun a => if a.cur = c then (balD a.code L).1 else 0) (accsL acs) = curSum acs c L
  | [], _ => by
    exact (sumA_congr (g := fun _ => 0) fun a _ => by simp [balD]).trans (sumA_zero _)
  | p :: r, h => by
    have h1 := accs_of (h p (.head _))
    rw [curSum_cons, ← sum_units acs hn c r (fun q hq => h q (.tail _ hq))]
    have h2 := sumA_one (fun a => a.cur = c) p.u (accs_nodup hn) _ h1.1 h1.2
    rw [show curOf acs p.acc = (accOf acs p.acc).cur from rfl, ← h2, ← sumA_add]
    refine sumA_congr fun a _ => ?_
    rw [balD_cons]
    unfold balStep addS
    by_cases e : a.cur = c
    · simp only [if_pos e]; by_cases e2 : p.acc = a.code
      · rw [if_pos e2, if_pos e2]; simp
      · rw [if_neg e2, if_neg e2]
    · simp only [if_neg e]; rfl
theorem sum_funcs (acs : List Acc) (hn : (codesA acs).Nodup) : ∀ L : List Pst, (∀ p ∈ L, (findA acs p.acc).isSome = true) → sumA (fun a => (balD a.code L).2) (accsL acs) = sumFn L
  | [], _ => by
    exact (sumA_congr (g := fun _ => 0) fun a _ => by simp [balD]).trans (sumA_zero _)
  | p :: r, h => by
    have h1 := accs_of (h p (.head _))
    rw [sumFn_cons, ← sum_funcs acs hn r (fun q hq => h q (.tail _ hq))]
    have h2 := sumA_one (fun _ => True) p.f (accs_nodup hn) _ h1.1 h1.2
    rw [if_pos trivial] at h2
    rw [← h2, ← sumA_add]
    refine sumA_congr fun a _ => ?_
    rw [balD_cons, if_pos trivial]
    unfold balStep addS
    by_cases e2 : p.acc = a.code
    · rw [if_pos e2, if_pos e2]; simp
    · rw [if_neg e2, if_neg e2]
theorem curSum_append (acs : List Acc) (c : ByteArray) (l r : List Pst) : curSum acs c (l ++ r) = curSum acs c l + curSum acs c r := by
  induction l with
  | nil => simp [curSum]
  | cons p l ih => rw [List.cons_append, curSum_cons, curSum_cons, ih]; omega
theorem sumFn_append (l r : List Pst) : sumFn (l ++ r) = sumFn l + sumFn r := by
  induction l with
  | nil => simp [sumFn]
  | cons p l ih => rw [List.cons_append, sumFn_cons, sumFn_cons, ih]; omega
theorem even_all (acs : List Acc) : ∀ es : List Ent, (∀ x ∈ es, goodE acs x.ps) → ∀ at_, (∀ c, curSum acs c (postsAt es at_) = 0) ∧ sumFn (postsAt es at_) = 0 ∧ ∀ p ∈ postsAt es at_, (findA acs p.acc).isSome = true
  | [], _, _ => ⟨fun _ => rfl, rfl, fun p hp => (by cases hp)⟩
  | x :: r, h, at_ => by
    obtain ⟨i1, i2, i3⟩ := even_all acs r (fun y hy => h y (.tail _ hy)) at_
    have hx := h x (.head _)
    have e : postsAt (x :: r) at_ = (if x.at_ ≤ at_ then x.ps else []) ++ postsAt r at_ := by
      unfold postsAt upTo
      rw [List.filter_cons]
      by_cases e : x.at_ ≤ at_
      · rw [if_pos (by simpa using e), if_pos e, List.flatMap_cons]
      · rw [if_neg (by simpa using e), if_neg e, List.nil_append]
    rw [e]
    by_cases e : x.at_ ≤ at_
    · rw [if_pos e]
      refine ⟨fun c => by rw [curSum_append, i1 c, hx.even.1 c]; rfl, by rw [sumFn_append, i2, hx.even.2]; rfl, fun p hp => ?_⟩
      rcases List.mem_append.1 hp with hp | hp
      · exact (hx.each p hp).1
      · exact i3 p hp
    · rw [if_neg e, List.nil_append]; exact ⟨i1, i2, i3⟩
def cur6 : List ByteArray := [⟨#[67, 72, 70]⟩, ⟨#[69, 85, 82]⟩, ⟨#[71, 66, 80]⟩, ⟨#[74, 80, 89]⟩, ⟨#[75, 87, 68]⟩, ⟨#[85, 83, 68]⟩]
theorem cur6_nodup : cur6.Nodup := by decide +kernel
theorem scale_mem {s : ByteArray} (h : (scaleR s).2 = 0) : s ∈ cur6 := by
  unfold scaleR at h
  split at h
  · cases h
  · rename_i h1
    rcases firstIdx_cases (fun x : ByteArray × Int => decide (x.1 = s)) curs with ⟨i, x, hi, hx, hp⟩ | h2
    · have hm := List.mem_of_getElem? hx
      have e : x.1 = s := by simpa using hp
      rw [← e]
      have : cur6 = curs.map (·.1) := by decide +kernel
      rw [this]
      exact List.mem_map.2 ⟨x, hm, rfl⟩
    · exfalso; have := h2.1; exact h1 (by show curIdx s < 0; unfold curIdx; omega)
def wfC (P : PL) : Prop := ∀ a ∈ P.acs, a.cur ∈ cur6
theorem wfC_step {P : PL} (h : wfC P) (o : LO) : wfC (stepP P o) := by
  unfold stepP
  split
  · unfold openP
    split
    · rename_i hE
      intro a ha
      rcases List.mem_append.1 ha with ha | ha
      · exact h a ha
      · obtain rfl := List.mem_singleton.1 ha
        refine scale_mem (Classical.byContradiction fun e => ?_)
        unfold openEP at hE
        split at hE
        · cases hE
        · first | (exact absurd hE (by decide)) | (rw [if_pos e] at hE; cases hE)
    · exact h
  · split
    · unfold postP; split <;> exact h
    · split
      · unfold closeP; split <;> exact h
      · exact h
theorem wfC_made (l : List LO) : wfC (madeP l) := by
  unfold madeP
  have h4 : wfC P4 := by
    intro a ha
    have : chartL.map (·.cur) = [usdL, usdL, eurL, eurL] := rfl
    have h1 : a.cur ∈ chartL.map (·.cur) := List.mem_map.2 ⟨a, ha, rfl⟩
    rw [this] at h1
    have h2 : a.cur = usdL ∨ a.cur = eurL := by simp at h1; exact h1
    rcases h2 with e | e <;> rw [e]
    · exact .tail _ (.tail _ (.tail _ (.tail _ (.tail _ (.head _)))))
    · exact .tail _ (.head _)
  generalize P4 = P at h4
  induction l generalizing P with
  | nil => exact h4
  | cons o r ih => exact ih _ (wfC_step h4 o)
def sumC (f : ByteArray → Int) : List ByteArray → Int
  | [] => 0
  | a :: r => f a + sumC f r
theorem sumC_append (f : ByteArray → Int) (l r : List ByteArray) : sumC f (l ++ r) = sumC f l + sumC f r := by
  induction l with
  | nil => simp [sumC]
  | cons a l ih => simp only [List.cons_append, sumC, ih]; omega
theorem sumC_take (f : ByteArray → Int) {l : List ByteArray} {i : Nat} {x : ByteArray} (h : l[i]? = some x) : sumC f (l.take (i + 1)) = sumC f (l.take i) + f x := by
  rw [List.take_add_one, h, sumC_append]; simp [sumC]
theorem sumC_none (v : Int) (k : ByteArray) : ∀ cs : List ByteArray, ¬ k ∈ cs → sumC (fun c => if k = c then v else 0) cs = 0
  | [], _ => rfl
  | c :: r, h => by
    simp only [sumC]
    rw [if_neg (fun e => h (by rw [e]; exact .head _)), sumC_none v k r (fun e => h (.tail _ e))]; rfl
theorem sumC_one (v : Int) (k : ByteArray) : ∀ cs : List ByteArray, cs.Nodup → k ∈ cs → sumC (fun c => if k = c then v else 0) cs = v
  | c :: r, hn, h => by
    have h2 := List.nodup_cons.1 hn
    simp only [sumC]
    by_cases e : k = c
    · rw [if_pos e, sumC_none v k r (by rw [e]; exact h2.1)]; omega
    · rw [if_neg e, sumC_one v k r h2.2 (by rcases List.mem_cons.1 h with h | h; exact absurd h e; exact h)]; omega
theorem sum_swap (f : ByteArray → Acc → Int) (l : List Acc) : ∀ cs : List ByteArray, sumC (fun c => sumA (f c) l) cs = sumA (fun a => sumC (fun c => f c a) cs) l
  | [] => (sumA_zero l).symm
  | c :: r => by
    simp only [sumC]
    rw [sum_swap f l r, sumA_add]
def valT (P : PL) (at_ : Int) (a : Acc) : SM := balV (totOf (triT P at_) a.code)
def unitsOf (P : PL) (at_ : Int) (c : ByteArray) (a : Acc) : Int := if a.cur = c then (valT P at_ a).1 else 0
def worthOf (P : PL) (at_ : Int) (c : ByteArray) (a : Acc) : Int := if a.cur = c then (valT P at_ a).2 else 0
theorem valT_bd (P : PL) (at_ : Int) (a : Acc) : inU (valT P at_ a).1 ∧ inU (valT P at_ a).2 := by
  unfold valT balV
  split
  · assumption
  · exact ⟨by unfold inU; omega, by unfold inU; omega⟩
theorem units_bd (P : PL) (at_ : Int) (c : ByteArray) (a : Acc) : -((4611686018427387904 : Nat) : Int) ≤ unitsOf P at_ c a ∧ unitsOf P at_ c a ≤ (4611686018427387904 : Nat) := by
  have h := (valT_bd P at_ a).1
  unfold unitsOf; unfold inU at h
  split <;> omega
theorem worth_bd (P : PL) (at_ : Int) (c : ByteArray) (a : Acc) : -((4611686018427387904 : Nat) : Int) ≤ worthOf P at_ c a ∧ worthOf P at_ c a ≤ (4611686018427387904 : Nat) := by
  have h := (valT_bd P at_ a).2
  unfold worthOf; unfold inU at h
  split <;> omega
structure zeros (P : PL) (at_ : Int) : Prop where
  units : ∀ c, sumA (unitsOf P at_ c) (accsL P.acs) = 0
  worth : sumC (fun c => sumA (worthOf P at_ c) (accsL P.acs)) cur6 = 0
theorem zeros_of {P : PL} {n : Nat} (h : wfP P n) (hc : wfC P) {at_ : Int} (hi : inst at_) (hok : ∀ a ∈ accsL P.acs, okS (sumAt P a.code at_)) : zeros P at_ := by
  obtain ⟨e1, e2, e3⟩ := even_all P.acs P.es h.evn at_
  have hv : ∀ a ∈ accsL P.acs, valT P at_ a = balD a.code (postsAt P.es at_) := fun a ha => by
    unfold valT
    rw [triT_of, if_pos hi]
    exact if_pos (hok a ha)
  constructor
  · intro c
    rw [← e1 c, ← sum_units P.acs h.nod c _ e3]
    refine sumA_congr fun a ha => ?_
    unfold unitsOf
    rw [hv a ha]
  · rw [sum_swap, ← e2, ← sum_funcs P.acs h.nod _ e3]
    refine sumA_congr fun a ha => ?_
    unfold worthOf
    rw [sumC_one _ _ _ cur6_nodup (hc a (accs_mem ha).1), hv a ha]
theorem bal_of {P : PL} {at_ : Int} (hi : inst at_) {a : Acc} (ha : a ∈ accsL P.acs) : (balF P a.code at_).2 = if okS (sumAt P a.code at_) then 0 else 16 := by
  have h1 : (findA P.acs a.code).isSome = true := by
    have h2 := accs_mem ha
    unfold findA
    rw [List.find?_isSome]
    exact ⟨a, h2.1, by simp⟩
  unfold balF
  rw [if_neg (by rw [h1]; decide), if_neg (fun e => e hi)]
  split <;> rfl
end Go.Proofs.YtheofhegdjjfgaaGreat

namespace Go.Proofs.YtheofhegdjjfgaaGreat
open Go.RowKit
def narrowF (z : Int) : Int × Int := if inU z then (z, 0) else (0, 16)
def difF (own : ByteArray) (l : List (ByteArray × List (Int × Int))) (P : PL) (at_ : Int) (a : Acc) : Int × Int :=
  if (balF P a.code at_).2 ≠ 0 then (0, (balF P a.code at_).2)
  else if (balF P a.code at_).1.2.1 = 0 ∧ (balF P a.code at_).1.2.2 = 0 then (0, 0)
  else if (worthF own l (balF P a.code at_).1.2.1 a.cur at_).2 ≠ 0 then (0, (worthF own l (balF P a.code at_).1.2.1 a.cur at_).2)
  else narrowF ((worthF own l (balF P a.code at_).1.2.1 a.cur at_).1 - (balF P a.code at_).1.2.2)
def isF (own : ByteArray) (a : Acc) : Prop := a.mon = true ∧ a.cur ≠ own
instance (own : ByteArray) (a : Acc) : Decidable (isF own a) := by unfold isF; infer_instance
section
variable (own : ByteArray) (l : List (ByteArray × List (Int × Int))) (P : PL) (at_ : Int)
def rvOne (a : Acc) : List Pst := if isF own a ∧ (difF own l P at_ a).1 ≠ 0 then [⟨a.code, 0, (difF own l P at_ a).1⟩] else []
def rvOut (L : List Acc) : List Pst := L.flatMap (rvOne own l P at_)
def rvBad (a : Acc) : Prop := isF own a ∧ (difF own l P at_ a).2 ≠ 0
instance (a : Acc) : Decidable (rvBad own l P at_ a) := by unfold rvBad; infer_instance
def rvErr (L : List Acc) : Int := match L.find? (fun a => decide (rvBad own l P at_ a)) with
  | some a => (difF own l P at_ a).2
  | none => 0
def revF (gain : ByteArray) : List Pst × Int :=
  if P.cur ≠ own then ([], 18) else if (findA P.acs gain).isSome = false then ([], 2) else if (accOf P.acs gain).cur ≠ own then ([], 18)
  else if rvErr own l P at_ (accsL P.acs) ≠ 0 then ([], rvErr own l P at_ (accsL P.acs)) else if rvOut own l P at_ (accsL P.acs) = [] then ([], 0)
  else if inU (-(sumFn (rvOut own l P at_ (accsL P.acs)))) then (rvOut own l P at_ (accsL P.acs) ++ [⟨gain, 0, -(sumFn (rvOut own l P at_ (accsL P.acs)))⟩], 0) else ([], 16)
end
theorem rv_bad {own : ByteArray} {l : List (ByteArray × List (Int × Int))} {P : PL} {at_ : Int} {L : List Acc} {i : Nat} {x : Acc} (hx : L[i]? = some x) (hb : rvBad own l P at_ x) (hno : ∀ j, j < i → ∀ y, L[j]? = some y → ¬ rvBad own l P at_ y) : rvErr own l P at_ L = (difF own l P at_ x).2 := by
  have h : L.find? (fun a => decide (rvBad own l P at_ a)) = some x := by
    induction L generalizing i with
    | nil => cases hx
    | cons a r ih =>
      rw [List.find?_cons]
      cases i with
      | zero =>
        simp only [List.getElem?_cons_zero, Option.some.injEq] at hx
        subst hx
        rw [decide_eq_true hb]
      | succ i =>
        rw [decide_eq_false (hno 0 (by omega) a rfl)]
        exact ih (by simpa using hx) (fun j hj y hy => hno (j + 1) (by omega) y (by simpa using hy))
  unfold rvErr
  rw [h]
theorem rv_good {own : ByteArray} {l : List (ByteArray × List (Int × Int))} {P : PL} {at_ : Int} {L : List Acc} (hno : ∀ j, j < L.length → ∀ y, L[j]? = some y → ¬ rvBad own l P at_ y) : rvErr own l P at_ L = 0 := by
  have h : L.find? (fun a => decide (rvBad own l P at_ a)) = none := by
    rw [List.find?_eq_none]
    intro x hx
    obtain ⟨j, hj, rfl⟩ := List.mem_iff_getElem.1 hx
    simpa using hno j hj _ (List.getElem?_eq_getElem hj)
  unfold rvErr
  rw [h]
theorem rv_take {own : ByteArray} {l : List (ByteArray × List (Int × Int))} {P : PL} {at_ : Int} {L : List Acc} {i : Nat} {x : Acc} (hx : L[i]? = some x) : rvOut own l P at_ (L.take (i + 1)) = rvOut own l P at_ (L.take i) ++ rvOne own l P at_ x := by
  unfold rvOut
  rw [List.take_add_one, hx, List.flatMap_append]; simp
theorem dif_bd (own : ByteArray) (l : List (ByteArray × List (Int × Int))) (P : PL) (at_ : Int) (a : Acc) : -4611686018427387904 ≤ (difF own l P at_ a).1 ∧ (difF own l P at_ a).1 ≤ 4611686018427387904 := by
  unfold difF narrowF
  split
  · simp
  · split
    · simp
    · split
      · simp
      · split
        · rename_i h; exact h
        · simp
theorem rv_len (own : ByteArray) (l : List (ByteArray × List (Int × Int))) (P : PL) (at_ : Int) : ∀ L : List Acc, (rvOut own l P at_ L).length ≤ L.length
  | [] => by simp [rvOut]
  | a :: r => by
    have ih := rv_len own l P at_ r
    unfold rvOut at ih ⊢
    rw [List.flatMap_cons, List.length_append, List.length_cons]
    have h1 : (rvOne own l P at_ a).length ≤ 1 := by unfold rvOne; split <;> simp
    omega
theorem rv_sum (own : ByteArray) (l : List (ByteArray × List (Int × Int))) (P : PL) (at_ : Int) : ∀ L : List Acc, -(L.length * 4611686018427387904 : Int) ≤ sumFn (rvOut own l P at_ L) ∧ sumFn (rvOut own l P at_ L) ≤ L.length * 4611686018427387904
  | [] => by simp [rvOut, sumFn]
  | a :: r => by
    have ih := rv_sum own l P at_ r
    have hd := dif_bd own l P at_ a
    have e : rvOut own l P at_ (a :: r) = rvOne own l P at_ a ++ rvOut own l P at_ r := by unfold rvOut; rw [List.flatMap_cons]
    have h1 : sumFn (rvOne own l P at_ a) = if isF own a ∧ (difF own l P at_ a).1 ≠ 0 then (difF own l P at_ a).1 else 0 := by
      unfold rvOne
      split
      · rw [sumFn_cons]; simp [sumFn]
      · rfl
    rw [e, sumFn_append, h1, List.length_cons]
    split <;> omega
end Go.Proofs.YtheofhegdjjfgaaGreat

namespace Go.Proofs.YtheofhegdjjfgaaGreat
open Go.RowKit
def rpOk (x : EA) (w : World) : Prop := w.ownsRow 0 124 3 (psV x) x.v.ps.length (x.v.ps.flatMap encP)
theorem rpOk.own {x : EA} {w : World} (h : rpOk x w) : x.b < w.heap.size := (World.ownsRow.lt h x.b rfl).2
theorem rpOk.keep {x : EA} {w w' : World} (h : rpOk x w) (hw : w'.heap[x.b]? = w.heap[x.b]?) : rpOk x w' := owns_keepL h (fun b hb => by
  simp [psV, Value.ownBlock] at hb; subst hb; exact hw)
end Go.Proofs.YtheofhegdjjfgaaGreat

namespace Go.Proofs.YtheofhegdjjfgaaGreat
open Go.RowKit
def ltE (x y : EA) : Prop := x.v.at_ < y.v.at_ ∨ (x.v.at_ = y.v.at_ ∧ x.v.id < y.v.id)
structure IsS (orig S : List EA) : Prop where
  perm : S.Perm orig
  srt : S.Pairwise ltE
theorem IsS.len {o S : List EA} (h : IsS o S) : S.length = o.length := h.perm.length_eq
def Ids (l : List EA) : Prop := l.Pairwise fun x y => x.v.id < y.v.id
section
variable {α : Type}
end
theorem ltE.le {x y : EA} (h : ltE x y) : x.v.at_ ≤ y.v.at_ := by unfold ltE at h; omega
def Cross (X Y : List EA) : Prop := ∀ x ∈ X, ∀ y ∈ Y, x.v.at_ = y.v.at_ → x.v.id < y.v.id
theorem Cross.lt {X Y : List EA} (h : Cross X Y) {x y : EA} (hx : x ∈ X) (hy : y ∈ Y) (hle : x.v.at_ ≤ y.v.at_) : ltE x y := by
  by_cases e : x.v.at_ = y.v.at_
  · exact .inr ⟨e, h x hx y hy e⟩
  · exact .inl (by omega)
theorem Cross.sub {X Y X' Y' : List EA} (h : Cross X Y) (h1 : ∀ x ∈ X', x ∈ X) (h2 : ∀ y ∈ Y', y ∈ Y) : Cross X' Y' := fun x hx y hy => h x (h1 x hx) y (h2 y hy)
def blkE (s t : Nat) (l : List EA) : List EA := (l.drop (t * s)).take s
theorem blk_left {s t : Nat} {A R R' : List EA} (h : t * s + s ≤ A.length) : blkE s t (A ++ R) = blkE s t (A ++ R') := by
  unfold blkE
  rw [List.drop_append_of_le_length (by omega), List.drop_append_of_le_length (by omega), List.take_append_of_le_length (by rw [List.length_drop]; omega), List.take_append_of_le_length (by rw [List.length_drop]; omega)]
theorem blk_right {s t : Nat} {A A' R : List EA} (hl : A.length = A'.length) (h : A.length ≤ t * s) : blkE s t (A ++ R) = blkE s t (A' ++ R) := by
  unfold blkE
  have e1 : A.drop (t * s) = [] := List.drop_of_length_le h
  have e2 : A'.drop (t * s) = [] := List.drop_of_length_le (by omega)
  rw [List.drop_append (l₁ := A), List.drop_append (l₁ := A'), e1, e2, hl]
structure Half (s T : Nat) (orig zs : List EA) : Prop where
  len : zs.length = orig.length
  two : ∀ t, t < T → IsS (blkE (2 * s) t orig) (blkE (2 * s) t zs)
  one : ∀ t, 2 * T ≤ t → IsS (blkE s t orig) (blkE s t zs)
theorem blk_split (s T : Nat) (l : List EA) : blkE (2 * s) T l = blkE s (2 * T) l ++ blkE s (2 * T + 1) l := by
  unfold blkE
  rw [show (2 * T + 1) * s = 2 * T * s + s from by rw [Nat.add_mul]; omega, ← List.drop_drop, show T * (2 * s) = 2 * T * s from by rw [Nat.mul_comm 2 T, Nat.mul_assoc], show 2 * s = s + s from by omega, List.take_add]
theorem Half.step {s T : Nat} {orig zs zs' A S B : List EA} (h : Half s T orig zs) (hA : A.length = T * (2 * s)) (hz : zs = A ++ (blkE (2 * s) T zs ++ B)) (hz' : zs' = A ++ (S ++ B)) (hB : B.length = 0 ∨ (blkE (2 * s) T zs).length = 2 * s) (hS : IsS (blkE (2 * s) T zs) S) : Half s (T + 1) orig zs' := by
  have hsl := hS.len
  have hzl : zs.length = A.length + ((blkE (2 * s) T zs).length + B.length) := by
    have := congrArg List.length hz
    rw [List.length_append, List.length_append] at this; exact this
  have hlen : zs'.length = zs.length := by rw [hz', List.length_append, List.length_append]; omega
  have hcut : blkE (2 * s) T zs' = S := by
    rw [hz']
    unfold blkE
    rw [← hA, List.drop_left']
    · rcases hB with hb | hb
      · rw [List.eq_nil_of_length_eq_zero hb, List.append_nil]
        exact List.take_of_length_le (by rw [hsl]; unfold blkE; rw [List.length_take]; omega)
      · rw [List.take_left' (by omega)]
    · rfl
  refine ⟨hlen.trans h.len, fun t ht => ?_, fun t ht => ?_⟩
  · by_cases e : t = T
    · subst e
      rw [hcut]
      refine ⟨hS.perm.trans ?_, hS.srt⟩
      rw [blk_split, blk_split]
      exact (h.one (2 * t) (Nat.le_refl _)).perm.append (h.one (2 * t + 1) (by omega)).perm
    · have h1 := h.two t (by omega)
      have h2 : t * (2 * s) + 2 * s ≤ A.length := by
        rw [hA]
        have := Nat.mul_le_mul_right (2 * s) (show t + 1 ≤ T from by omega)
        rw [Nat.add_mul] at this; omega
      rw [hz, blk_left (R' := S ++ B) h2, ← hz'] at h1
      exact h1
  · have h1 := h.one t (by omega)
    rcases hB with hb | hb
    · have hn : orig.length ≤ t * s := by
        have e2 : (blkE (2 * s) T zs).length ≤ 2 * s := by unfold blkE; rw [List.length_take]; omega
        have := Nat.mul_le_mul_right s (show 2 * T + 2 ≤ t from by omega)
        rw [Nat.add_mul, Nat.mul_comm 2 T, Nat.mul_assoc] at this
        have := h.len
        omega
      unfold blkE
      rw [List.drop_of_length_le hn, List.drop_of_length_le (by rw [hlen, h.len]; exact hn)]
      exact ⟨.refl _, by simp⟩
    · have hAl : (A ++ blkE (2 * s) T zs).length ≤ t * s := by
        rw [List.length_append, hb, hA]
        have := Nat.mul_le_mul_right s (show 2 * T + 2 ≤ t from by omega)
        rw [Nat.add_mul, Nat.mul_comm 2 T, Nat.mul_assoc] at this
        omega
      have e3 : zs' = (A ++ S) ++ B := by rw [hz', List.append_assoc]
      have e4 : zs = (A ++ blkE (2 * s) T zs) ++ B := by rw [List.append_assoc]; exact hz
      rw [e4, blk_right (A' := A ++ S) (by rw [List.length_append, List.length_append, hsl]) hAl, ← e3] at h1
      exact h1
theorem Half.next {s T : Nat} {orig zs : List EA} (h : Half s T orig zs) (hT : orig.length ≤ T * (2 * s)) : Half (2 * s) 0 orig zs := by
  refine ⟨h.len, fun t ht => absurd ht (Nat.not_lt_zero t), fun t _ => ?_⟩
  by_cases e : t < T
  · exact h.two t e
  · have hn : orig.length ≤ t * (2 * s) := Nat.le_trans hT (Nat.mul_le_mul_right _ (by omega))
    unfold blkE
    rw [List.drop_of_length_le hn, List.drop_of_length_le (by rw [h.len]; exact hn)]
    exact ⟨.refl _, by simp⟩
theorem Half.all {s : Nat} {orig zs : List EA} (h : Half s 0 orig zs) (hs : orig.length ≤ s) : IsS orig zs := by
  have h1 := h.one 0 (Nat.le_refl _)
  unfold blkE at h1
  rw [Nat.zero_mul, List.drop_zero, List.drop_zero, List.take_of_length_le hs, List.take_of_length_le (by rw [h.len]; exact hs)] at h1
  exact h1
structure Ins (s T : Nat) (orig zs : List EA) : Prop where
  len : zs.length = orig.length
  one : ∀ t, t < T → IsS (blkE s t orig) (blkE s t zs)
  rest : zs.drop (T * s) = orig.drop (T * s)
theorem Ins.step {s T : Nat} {orig zs zs' A seg S B : List EA} (h : Ins s T orig zs) (hA : A.length = T * s) (hz : zs = A ++ (seg ++ B)) (hz' : zs' = A ++ (S ++ B)) (hseg : seg.length = s ∨ (B = [] ∧ seg.length ≤ s)) (hS : IsS seg S) : Ins s (T + 1) orig zs' := by
  have hsl := hS.len
  have hlen : zs'.length = zs.length := by rw [hz', hz]; simp only [List.length_append]; omega
  have ho : orig.drop (T * s) = seg ++ B := by rw [← h.rest, hz, ← hA, List.drop_left']; rfl
  refine ⟨hlen.trans h.len, fun t ht => ?_, ?_⟩
  · by_cases e : t = T
    · subst e
      have e1 : blkE s t orig = seg := by
        unfold blkE
        rw [ho]
        rcases hseg with e | ⟨rfl, e⟩
        · rw [List.take_left' e]
        · rw [List.append_nil, List.take_of_length_le e]
      have e2 : blkE s t zs' = S := by
        unfold blkE
        rw [hz', ← hA, List.drop_left' rfl]
        rcases hseg with e | ⟨rfl, e⟩
        · rw [List.take_left' (by omega)]
        · rw [List.append_nil, List.take_of_length_le (by omega)]
      rw [e1, e2]; exact hS
    · have h1 := h.one t (by omega)
      have h2 : t * s + s ≤ A.length := by
        rw [hA]
        have := Nat.mul_le_mul_right s (show t + 1 ≤ T from by omega)
        rw [Nat.add_mul] at this; omega
      rw [hz, blk_left (R' := S ++ B) h2, ← hz'] at h1
      exact h1
  · have e1 : ∀ l : List EA, l.drop ((T + 1) * s) = (l.drop (T * s)).drop s := fun l => by rw [List.drop_drop, Nat.add_mul, Nat.one_mul]
    rw [e1, e1, ho, hz', ← hA, List.drop_left' rfl]
    rcases hseg with e | ⟨rfl, e⟩
    · rw [List.drop_left' (by omega), List.drop_left' e]
    · rw [List.append_nil, List.append_nil, List.drop_of_length_le (by omega), List.drop_of_length_le e]
theorem Ins.all {s T : Nat} {orig zs : List EA} (h : Ins s T orig zs) (hT : orig.length ≤ T * s) : Half s 0 orig zs := by
  refine ⟨h.len, fun t ht => absurd ht (Nat.not_lt_zero t), fun t _ => ?_⟩
  by_cases e : t < T
  · exact h.one t e
  · have hn : orig.length ≤ t * s := Nat.le_trans hT (Nat.mul_le_mul_right _ (by omega))
    unfold blkE
    rw [List.drop_of_length_le hn, List.drop_of_length_le (by rw [h.len]; exact hn)]
    exact ⟨.refl _, by simp⟩
end Go.Proofs.YtheofhegdjjfgaaGreat

namespace Go.Proofs.YtheofhegdjjfgaaGreat
open Go.RowKit
variable {P : Program} {n : Nat} {F0 : Nat → Prop} {w0 w : World} {a : Act} {L : List (Nat × Value)} {Γ : List Asn} {dst : Option Nat}
variable {ty : Nat} {pos : String} {af : Array Edge} {g : Option (Nat × Bool)} {K : Act → World → Prop} {Q : Exit → Act → World → Prop} {d : Nat}
end Go.Proofs.YtheofhegdjjfgaaGreat

namespace Go.Proofs.YtheofhegdjjfgaaGreat
open Go.RowKit
end Go.Proofs.YtheofhegdjjfgaaGreat

namespace Go.Proofs.YtheofhegdjjfgaaGreat
open Go.RowKit
def lastLt (P1 : List EA) (y : EA) : Prop := match P1.getLast? with | some z => y.v.at_ < z.v.at_ | none => False
instance (P1 : List EA) (y : EA) : Decidable (lastLt P1 y) := by unfold lastLt; split <;> infer_instance
end Go.Proofs.YtheofhegdjjfgaaGreat

namespace Go.Proofs.YtheofhegdjjfgaaGreat
open Go.RowKit
end Go.Proofs.YtheofhegdjjfgaaGreat

namespace Go.Proofs.YtheofhegdjjfgaaGreat
open Go.RowKit
theorem Ids.sub {l r : List EA} (h : Ids l) (hs : List.Sublist r l) : Ids r := List.Pairwise.sublist hs h
end Go.Proofs.YtheofhegdjjfgaaGreat

namespace Go.Proofs.YtheofhegdjjfgaaGreat
open Go.RowKit
def ltV (x y : Ent) : Prop := x.at_ < y.at_ ∨ (x.at_ = y.at_ ∧ x.id < y.id)
structure EntsOf (es : List Ent) (from_ to_ : Int) (vs : List Ent) : Prop where
  perm : vs.Perm (es.filter fun e => decide (from_ ≤ e.at_ ∧ e.at_ < to_))
  srt : vs.Pairwise ltV
def inT (from_ to_ : Int) (e : Ent) : Prop := from_ ≤ e.at_ ∧ e.at_ < to_
instance (from_ to_ : Int) (e : Ent) : Decidable (inT from_ to_ e) := by unfold inT; infer_instance
end Go.Proofs.YtheofhegdjjfgaaGreat

namespace Go.Proofs.YtheofhegdjjfgaaGreat
open Go.RowKit
def freshOk (o : LO) : Prop := o.kind = 1 ∧ checkE P4 o.at_ o.memo o.ps = 0
instance (o : LO) : Decidable (freshOk o) := by unfold freshOk; infer_instance
end Go.Proofs.YtheofhegdjjfgaaGreat

namespace Go.Proofs.YtheofhegdjjfgaaGreat
open Go.RowKit
theorem psAt_own {v : Value} {E : Nat} {ps : List Pst} {w : World} (h : w.ownsRow 0 E 3 v ps.length (ps.flatMap encP)) : PsAt v ps w := by
  by_cases e : ps = []
  · subst e
    obtain ⟨a, c, hv⟩ := own_slice h
    exact .inl ⟨rfl, a, c, hv⟩
  · rcases h.2 with ⟨_, e2⟩ | ⟨g, cap, cur, rfl, h1, h2, h3⟩
    · exact absurd (List.length_eq_zero_iff.1 e2) e
    · exact .inr ⟨g, 0, cap, e, rfl, row_of_own (enc := encP) (s := 3) (fun _ => rfl) h, (World.ownsRow.lt h g rfl).2⟩
theorem own_at {w : World} {E s m c : Nat} {q : Option Addr} {xs : List Value} (h : w.ownsRow 0 E s (.slice q m c) m xs) (hm : m ≠ 0) : ∃ g, q = some ⟨g, 0, none⟩ := by
  rcases h.2 with ⟨_, e2⟩ | ⟨g, cap, cur, e1, _⟩
  · exact absurd e2 hm
  · injection e1 with e3; exact ⟨g, e3⟩
end Go.Proofs.YtheofhegdjjfgaaGreat

namespace Go.Proofs.YtheofhegdjjfgaaGreat
open Go.RowKit
theorem filter_parts (es : List Ent) (p q r : Ent → Bool) (h : ∀ e, p e = (q e || r e)) (hd : ∀ e, ¬ (q e = true ∧ r e = true)) : (es.filter p).Perm (es.filter q ++ es.filter r) := by
  induction es with
  | nil => exact .refl _
  | cons e l ih =>
    rw [List.filter_cons, List.filter_cons, List.filter_cons, h e]
    cases hq : q e <;> cases hr : r e
    · simpa using ih
    · simp only [Bool.false_or, if_true, if_false, Bool.false_eq_true]
      exact (List.Perm.cons e ih).trans List.perm_middle.symm
    · simp only [Bool.or_false, if_true, if_false, Bool.false_eq_true, List.cons_append]
      exact List.Perm.cons e ih
    · exact absurd ⟨hq, hr⟩ (hd e)
theorem EntsOf.join {es : List Ent} {f m t : Int} {l r : List Ent} (h1 : EntsOf es f m l) (h2 : EntsOf es m t r) (hfm : f ≤ m) (hmt : m ≤ t) : EntsOf es f t (l ++ r) := by
  constructor
  · refine (h1.perm.append h2.perm).trans (filter_parts es _ _ _ (fun e => ?_) (fun e he => ?_)).symm
    · rw [← Bool.decide_or, decide_eq_decide]; omega
    · have a := of_decide_eq_true he.1
      have b := of_decide_eq_true he.2
      omega
  · refine List.pairwise_append.2 ⟨h1.srt, h2.srt, fun x hx y hy => ?_⟩
    have a := (List.mem_filter.1 (h1.perm.mem_iff.1 hx)).2
    have b := (List.mem_filter.1 (h2.perm.mem_iff.1 hy)).2
    have a := of_decide_eq_true a
    have b := of_decide_eq_true b
    exact .inl (by omega)
theorem EntsOf.mem {es : List Ent} {f t : Int} {l : List Ent} (h : EntsOf es f t l) {x : Ent} (hx : x ∈ l) : x ∈ es ∧ f ≤ x.at_ ∧ x.at_ < t := by
  have a := List.mem_filter.1 (h.perm.mem_iff.1 hx)
  exact ⟨a.1, of_decide_eq_true a.2⟩
theorem EntsOf.len {es : List Ent} {f t : Int} {l : List Ent} (h : EntsOf es f t l) : l.length ≤ es.length := by
  rw [h.perm.length_eq]; exact List.length_filter_le _ _
end Go.Proofs.YtheofhegdjjfgaaGreat

namespace Go.Proofs.YtheofhegdjjfgaaGreat
end Go.Proofs.YtheofhegdjjfgaaGreat

namespace Go.Proofs.YtheofhegdjjfgaaGreat
open Go.RowKit
end Go.Proofs.YtheofhegdjjfgaaGreat

namespace Go.Proofs.YtheofhegdjjfgaaGreat
open Go.RowKit
end Go.Proofs.YtheofhegdjjfgaaGreat

namespace Go.Proofs.YtheofhegdjjfgaaGreat
def encD (n : Int) : List Value := [.int .i64 n]
def nv : List Int → Int
  | [] => 0
  | d :: r => d + 10000 * nv r
def inR (l : List Int) : Prop := ∀ d ∈ l, 0 ≤ d ∧ d ≤ 9999
def dgs (n : Nat) : List Int := if n = 0 then [] else ((n % 10000 : Nat) : Int) :: dgs (n / 10000)
 termination_by n
 decreasing_by omega
theorem dgs_zero : dgs 0 = [] := by rw [dgs]; simp
theorem dgs_pos {n : Nat} (h : n ≠ 0) : dgs n = ((n % 10000 : Nat) : Int) :: dgs (n / 10000) := by rw [dgs, if_neg h]
theorem nv_dgs (n : Nat) : nv (dgs n) = n := by
  induction n using Nat.strongRecOn with
  | ind n ih =>
    by_cases h : n = 0
    · subst h; rw [dgs_zero]; rfl
    · rw [dgs_pos h, nv, ih (n / 10000) (by omega)]; omega
theorem inR_dgs (n : Nat) : inR (dgs n) := by
  induction n using Nat.strongRecOn with
  | ind n ih =>
    by_cases h : n = 0
    · subst h; rw [dgs_zero]; intro d hd; cases hd
    · rw [dgs_pos h]
      intro d hd
      rcases List.mem_cons.1 hd with rfl | hd
      · omega
      · exact ih (n / 10000) (by omega) d hd
theorem nv_nonneg {l : List Int} (h : inR l) : 0 ≤ nv l := by
  induction l with
  | nil => exact Int.le_refl _
  | cons d r ih =>
    have h1 := h d (.head _)
    have h2 := ih (fun x hx => h x (.tail _ hx))
    rw [nv]; omega
theorem inR_tail {d : Int} {r : List Int} (h : inR (d :: r)) : inR r := fun x hx => h x (.tail _ hx)
theorem inR_take {l : List Int} (h : inR l) (n : Nat) : inR (l.take n) := fun x hx => h x (List.mem_of_mem_take hx)
theorem inR_snoc {l : List Int} (h : inR l) {d : Int} (hd : 0 ≤ d ∧ d ≤ 9999) : inR (l ++ [d]) := by
  intro x hx
  rcases List.mem_append.1 hx with hx | hx
  · exact h x hx
  · obtain rfl := List.mem_singleton.1 hx; exact hd
theorem nv_append (l r : List Int) : nv (l ++ r) = nv l + 10000 ^ l.length * nv r := by
  induction l with
  | nil => simp [nv]
  | cons d l ih => simp only [List.cons_append, nv, ih, List.length_cons, Int.pow_succ]; rw [Int.mul_add, Int.mul_comm (10000 ^ l.length) 10000, Int.mul_assoc]; omega
theorem nv_snoc (l : List Int) (d : Int) : nv (l ++ [d]) = nv l + 10000 ^ l.length * d := by
  rw [nv_append]; simp [nv]
theorem dgs_of {l : List Int} (h : inR l) (ht : ∀ r d, l = r ++ [d] → d ≠ 0) : l = dgs (nv l).toNat := by
  induction l with
  | nil => simp [nv, dgs_zero]
  | cons d r ih =>
    have h1 := h d (.head _)
    have h2 := nv_nonneg (inR_tail h)
    have ih' := ih (inR_tail h) (fun r' d' e => ht (d :: r') d' (by rw [e]; rfl))
    have hn : (nv (d :: r)).toNat ≠ 0 := by
      rw [nv]
      cases r with
      | nil =>
        have := ht [] d rfl
        simp only [nv]; omega
      | cons d' r' =>
        intro e
        have e1 : nv (d' :: r') = 0 := by omega
        rw [e1] at ih'
        rw [show (0 : Int).toNat = 0 from rfl, dgs_zero] at ih'
        cases ih'
    rw [dgs_pos hn]
    have e1 : ((nv (d :: r)).toNat % 10000 : Nat) = d := by rw [nv]; omega
    have e2 : (nv (d :: r)).toNat / 10000 = (nv r).toNat := by rw [nv]; omega
    rw [e1, e2, ← ih']
theorem trim_step {l : List Int} {n : Nat} (hd : l[n]? = some 0) : nv (l.take (n + 1)) = nv (l.take n) := by
  rw [List.take_add_one, hd]
  simp only [Option.toList]
  rw [nv_snoc]; simp
theorem trim_end {l : List Int} (h : inR l) {n : Nat} (hn : n ≤ l.length) (hd : n = 0 ∨ ∃ d, l[n - 1]? = some d ∧ d ≠ 0) (hv : nv (l.take n) = nv l) : l.take n = dgs (nv l).toNat := by
  rw [← hv]
  refine dgs_of (inR_take h n) (fun r d e => ?_)
  rcases hd with rfl | ⟨d', hd', hne⟩
  · simp at e
  · have hl : (l.take n).length = n := by rw [List.length_take]; omega
    have hr : r.length = n - 1 := by
      have := congrArg List.length e
      rw [hl] at this
      simp at this; omega
    have h1 : (l.take n)[n - 1]? = some d := by rw [e, List.getElem?_append_right (by omega), hr]; simp
    rw [List.getElem?_take] at h1
    split at h1
    · rw [hd'] at h1; cases h1; exact hne
    · cases h1
theorem dgs_length_le {n k : Nat} (h : n < 10000 ^ k) : (dgs n).length ≤ k := by
  induction k generalizing n with
  | zero =>
    obtain rfl : n = 0 := by simpa using h
    rw [dgs_zero]; simp
  | succ k ih =>
    by_cases h0 : n = 0
    · subst h0; rw [dgs_zero]; simp
    · rw [dgs_pos h0, List.length_cons]
      have : n / 10000 < 10000 ^ k := by rw [Nat.pow_succ] at h; omega
      have := ih this
      omega
theorem nv_lt {l : List Int} (h : inR l) : nv l < 10000 ^ l.length := by
  induction l with
  | nil => simp [nv]
  | cons d r ih =>
    have h1 := h d (.head _)
    have h2 := ih (inR_tail h)
    rw [nv, List.length_cons, Int.pow_succ]; omega
theorem cmp_top {l r : List Int} {d e : Int} {s : List Int} (hl : inR l) (hlen : l.length = r.length) (h : d < e) (hr : inR r) : nv (l ++ d :: s) < nv (r ++ e :: s) := by
  rw [nv_append, nv_append, nv, nv, hlen]
  have h1 := nv_lt hl
  have h2 := nv_nonneg hr
  rw [hlen] at h1
  have h3 : (10000 : Int) ^ r.length * (e + 10000 * nv s) = 10000 ^ r.length * (d + 10000 * nv s) + 10000 ^ r.length * (e - d) := by rw [← Int.mul_add]; congr 1; omega
  have h4 : (10000 : Int) ^ r.length * 1 ≤ 10000 ^ r.length * (e - d) := Int.mul_le_mul_of_nonneg_left (by omega) (Int.le_of_lt (Int.pow_pos (by decide)))
  omega
theorem dgs_pow {n : Nat} (h : n ≠ 0) : (10000 : Int) ^ ((dgs n).length - 1) ≤ n := by
  induction n using Nat.strongRecOn with
  | ind n ih =>
    rw [dgs_pos h, List.length_cons]
    by_cases h0 : n / 10000 = 0
    · rw [h0, dgs_zero]; simp; omega
    · have := ih (n / 10000) (by omega) h0
      have hp : 0 < (dgs (n / 10000)).length := by rw [dgs_pos h0]; simp
      rw [show (dgs (n / 10000)).length + 1 - 1 = ((dgs (n / 10000)).length - 1) + 1 by omega, Int.pow_succ]
      omega
theorem pow_mono {a b : Nat} (h : a ≤ b) : (10000 : Int) ^ a ≤ 10000 ^ b := by
  obtain ⟨k, rfl⟩ := Nat.exists_eq_add_of_le h
  rw [Int.pow_add]
  have h1 : 0 < (10000 : Int) ^ a := Int.pow_pos (by decide)
  have h2 : 1 ≤ (10000 : Int) ^ k := by have : 0 < (10000 : Int) ^ k := Int.pow_pos (by decide); omega
  have := Int.mul_le_mul_of_nonneg_left h2 (Int.le_of_lt h1)
  omega
theorem dgs_lt {m n : Nat} (h : (dgs m).length < (dgs n).length) : m < n := by
  have h1 := nv_lt (inR_dgs m)
  rw [nv_dgs] at h1
  have hn : n ≠ 0 := by rintro rfl; rw [dgs_zero] at h; simp at h
  have h2 := dgs_pow hn
  have h3 := pow_mono (show (dgs m).length ≤ (dgs n).length - 1 by omega)
  omega
theorem dgs_inj {m n : Nat} (h : dgs m = dgs n) : m = n := by
  have h1 := nv_dgs m
  have h2 := nv_dgs n
  rw [h] at h1; omega
theorem dgs_len_mono {m n : Nat} (h : m ≤ n) : (dgs m).length ≤ (dgs n).length := by
  by_cases hh : (dgs n).length < (dgs m).length
  · have := dgs_lt hh; omega
  · omega
theorem dgs_ne {n : Nat} : dgs n ≠ [] ↔ 0 < n := by
  by_cases h : n = 0
  · subst h; simp [dgs_zero]
  · rw [dgs_pos h]; simp; omega
def cmpN (m n : Nat) : Int := if m < n then -1 else if n < m then 1 else 0
end Go.Proofs.YtheofhegdjjfgaaGreat



namespace Go.Proofs.YtheofhegdjjfgaaGreat
open Go.RowKit
def bigV (z : Int) (p : Option (Nat × Nat)) (c : Nat) : Value := .agg [.bool (decide (z < 0)), sliceV p (dgs z.natAbs).length c].toArray
def bigA (z : Int) (b : Nat) : Asn := .any (fun k => k = b) (RowP (some (b, 0)) 1 ((dgs z.natAbs).map encD)) true
def sgn (neg : Bool) (v : Int) : Int := if neg then -v else v
theorem sgn_abs {neg : Bool} {v : Int} (h : 0 ≤ v) : (sgn neg v).natAbs = v.toNat := by unfold sgn; split <;> omega
theorem trim_val {neg : Bool} {v : Int} (h : 0 ≤ v) {p : Option (Nat × Nat)} {c k : Nat} (hk : (dgs v.toNat).length = k) : bigV (sgn neg v) p c = .agg [.bool (neg && decide (0 < (k : Int))), sliceV p k c].toArray := by
  unfold bigV
  rw [sgn_abs h, hk]
  have h2 : 0 < k ↔ 0 < v := by
    have := dgs_ne (n := v.toNat)
    rw [← List.length_pos_iff, hk] at this
    rw [this]; omega
  have : decide (sgn neg v < 0) = (neg && decide (0 < (k : Int))) := by
    cases neg <;> simp [sgn] <;> omega
  rw [this]
theorem digOne (l : List Int) : ∀ u ∈ l.flatMap encD, isOne u = true := by
  intro u hu
  obtain ⟨x, _, hx⟩ := List.mem_flatMap.1 hu
  simp only [encD, List.mem_cons, List.not_mem_nil, or_false] at hx
  rw [hx]; rfl
theorem dig_flat {b off : Nat} {l : List Int} {w : World} (h : RowAt b off 1 (l.map encD) w) : ∀ j u, (l.flatMap encD)[j]? = some u → w.cell? ⟨b, off + j, none⟩ = some u := by
  intro j u hu
  have hlt := (List.getElem?_eq_some_iff.1 hu).1
  rw [flat_len encD 1 (fun _ => rfl)] at hlt
  have hx : (l.map encD)[j]? = some (encD l[j]) := by simp [show j < l.length by omega]
  have hj := flat_get encD 1 (fun _ => rfl) l j l[j] (by simp) 0 (.int .i64 l[j]) rfl
  rw [Nat.mul_one, Nat.add_zero, hu] at hj
  have := h j _ hx 0 u (by rw [hj]; rfl)
  simpa using this
theorem rowAt_take {b off s k : Nat} {xs : List (List Value)} {w : World} (h : RowAt b off s xs w) : RowAt b off s (xs.take k) w := by
  intro i x hx
  rw [List.getElem?_take] at hx
  split at hx
  · exact h i x hx
  · cases hx
theorem big_of_own {w : World} {b c m : Nat} {z : Int} {l : List Int} (hl : l = dgs z.natAbs) (h : w.ownsRow 0 3 1 (.slice (some ⟨b, 0, none⟩) m c) m (l.flatMap encD)) : (bigA z b).ok w := by
  subst hl
  exact ⟨fun k hk => by obtain rfl : k = b := hk; exact (World.ownsRow.lt h k rfl).2, fun w' hw => RowAt.keep (row_of_own (enc := encD) (fun _ => rfl) h) (hw b rfl)⟩
theorem big_zero (b c : Nat) : bigV 0 (some (b, 0)) c = .agg [.bool false, .slice (some ⟨b, 0, none⟩) 0 c].toArray := by
  unfold bigV
  rw [show (0 : Int).natAbs = 0 from rfl, dgs_zero]; rfl
theorem own_le {w : World} {E s b c m : Nat} {xs : List Value} (h : w.ownsRow 0 E s (.slice (some ⟨b, 0, none⟩) m c) m xs) : m ≤ c := by
  rcases h.2 with ⟨e, _⟩ | ⟨g, cap, cur, e, _, _, h1, _⟩
  · cases e
  · cases e; exact h1
abbrev At (z : Int) := { y : Nat × Nat // (dgs z.natAbs).length ≤ y.2 }
set_option maxRecDepth 100000 in
theorem trim_none (neg : Bool) (w0 : World) : NewC Tryz.prog 100 [.bool neg, .slice none 0 0] w0 (fun y : At 0 => bigV 0 (some (y.1.1, 0)) y.1.2) (fun y => bigA 0 y.1.1) := by
  refine c_enter [(0, .bool neg), (1, .slice none 0 0)] [] noB Tryz.func100 rfl Tryz.ntmps100 ⟨rfl, rfl, trivial⟩ rfl (by simp) (by simp) (by simp) ?_
  intro a hS
  refine c_seq (c_region ?_)
  refine L_op (s_alloc hS ty_z139 rfl ?_); clear hS a; (try clear w); intro a w b4 hS
  refine L_nil (n_then (c_seq (c_region ?_)))
  refine L_e hS (e_move rfl) rfl ?_; clear hS a; intro a hS
  refine L_e hS (e_len rfl rfl ty_sl137) rfl ?_; clear hS a; intro a hS
  refine L_e hS (e_assign rfl) rfl ?_; clear hS a; intro a hS
  refine L_nil (n_then (c_seq (wp_block ?_)))
  skip
  refine c_loop (γ := Nat) (fun k a w => St 31 noB w0 a w [(5, .int .i64 0), (4, .pointer (some ⟨b4, 0, none⟩)), (0, .bool neg), (1, .slice none 0 0)] [.blk b4 [.bool false, .slice none 0 0] 139] ∧ k = 0) (fun k => k) 0 ⟨hS.slots ⟨rfl, rfl, rfl, rfl, trivial⟩, rfl⟩ ?_
  clear hS a; (try clear w); intro k a w hI
  obtain ⟨hS, hk⟩ := hI
  refine c_seq (c_seq (c_region ?_))
  refine L_e hS (e_move rfl) rfl ?_; clear hS a; intro a hS
  refine L_e hS (e_bin rfl rfl rfl) rfl ?_; clear hS a; intro a hS
  refine L_e hS (e_move rfl) rfl ?_; clear hS a; intro a hS
  replace hS := hS.is (t := 10) (c := false) rfl ((by decide))
  refine L_skip_t hS rfl rfl rfl ?_; clear hS a; intro a hS
  refine L_skip_t hS rfl rfl rfl ?_; clear hS a; intro a hS
  refine L_skip_t hS rfl rfl rfl ?_; clear hS a; intro a hS
  refine L_skip_t hS rfl rfl rfl ?_; clear hS a; intro a hS
  refine L_skip_t hS rfl rfl rfl ?_; clear hS a; intro a hS
  refine L_skip_t hS rfl rfl rfl ?_; clear hS a; intro a hS
  refine L_e hS (e_pk rfl rfl) rfl ?_; clear hS a; intro a hS
  refine L_nil (n_then ?_)
  refine c_if_f hS rfl ?_
  refine wp_exit ?_
  refine x_then (x_then (x_hit ?_))
  refine n_then (c_seq (c_region ?_))
  refine L_e hS (e_move rfl) rfl ?_; clear hS a; intro a hS
  refine L_e hS (e_move rfl) rfl ?_; clear hS a; intro a hS
  (first | refine g_splitD (t := 21) hS rfl ?_ ?_ | refine g_split (t := 21) hS rfl ?_ ?_) <;> (clear hS; intro hg21 hS)
  ·
    refine L_ge hS rfl rfl (e_move rfl) rfl ?_; clear hS a; intro a hS
    refine L_ge hS rfl rfl (e_bin rfl rfl rfl) rfl ?_; clear hS a; intro a hS
    refine L_e hS (e_pk rfl rfl) rfl ?_; clear hS a; intro a hS
    refine L_op (s_bslice hS ty_sl137 ty_sz3 ty_z3 rfl rfl rfl rfl .nil rfl ?_); clear hS a; (try clear w); intro a w b25 hS
    refine L_e hS (e_move rfl) rfl ?_; clear hS a; intro a hS
    refine L_e hS (e_move rfl) rfl ?_; clear hS a; intro a hS
    refine L_e hS (e_slH (j := 0) rfl rfl ty_sl137 ty_sz3 (Nat.le_refl _)) rfl ?_; clear hS a; intro a hS
    replace hS := hS.swap (X := .blk b25 [] 3) (Y := ownA 3 1 (.slice (some ⟨b25, 0, none⟩) 0 0) 0 []) (by repeat (first | apply Rep.head | apply Rep.tail)) (own_empty (hS.get (X := .blk b25 [] 3) (by repeat (first | exact .head _ | refine .tail _ ?_)))) (fun b hb => by simpa [ownA, Asn.F, Value.ownBlock, eq_comm] using hb) rfl
    refine L_e hS (e_append0 rfl rfl ty_sl137 ty_sz3 ty_by3 ty_z3 (by repeat (first | exact .head _ | refine .tail _ ?_))) rfl ?_; clear hS a; intro a hS
    refine L_e hS (e_build ty_z139 ty_pl139 (.one rfl rfl rfl (by repeat constructor) (.one rfl rfl rfl (by repeat constructor) .nil))) rfl ?_; clear hS a; intro a hS
    refine L_op (s_storeA hS rfl rfl ty_sz139 (by repeat constructor) (by rfl) (by rfl) (by rfl) ?_); clear hS; (try clear w); intro w hS
    refine L_nil (n_then (wp_ret ?_))
    refine c_ret1 hS Tryz.results100 (.cellA rfl (by repeat constructor) ty_st139 ty_sz139 (by rfl)) ?_
    have hn := hS.new (X := ownA 3 1 (.slice (some ⟨b25, 0, none⟩) 0 0) 0 []) (by repeat (first | exact .head _ | refine .tail _ ?_)) rfl
    refine ⟨⟨(b25, 0), by rw [show (0 : Int).natAbs = 0 from rfl, dgs_zero]; exact Nat.le_refl _⟩, (congrArg Ending.returned (big_zero b25 0)).symm, hS.chg, big_of_own (c := 0) (m := 0) (l := []) (by rw [show (0 : Int).natAbs = 0 from rfl, dgs_zero]) hn.1.now, fun q hq => hn.2 q (by obtain rfl : q = b25 := hq; rfl)⟩
  refine L_skip_t hS rfl rfl rfl ?_; clear hS a; intro a hS
  refine L_skip_t hS rfl rfl rfl ?_; clear hS a; intro a hS
  refine L_e hS (e_pk rfl rfl) rfl ?_; clear hS a; intro a hS
  refine L_op (s_bslice hS ty_sl137 ty_sz3 ty_z3 rfl rfl rfl rfl .nil rfl ?_); clear hS a; (try clear w); intro a w b25 hS
  refine L_e hS (e_move rfl) rfl ?_; clear hS a; intro a hS
  refine L_e hS (e_move rfl) rfl ?_; clear hS a; intro a hS
  refine L_e hS (e_slH (j := 0) rfl rfl ty_sl137 ty_sz3 (Nat.le_refl _)) rfl ?_; clear hS a; intro a hS
  replace hS := hS.swap (X := .blk b25 [] 3) (Y := ownA 3 1 (.slice (some ⟨b25, 0, none⟩) 0 0) 0 []) (by repeat (first | apply Rep.head | apply Rep.tail)) (own_empty (hS.get (X := .blk b25 [] 3) (by repeat (first | exact .head _ | refine .tail _ ?_)))) (fun b hb => by simpa [ownA, Asn.F, Value.ownBlock, eq_comm] using hb) rfl
  refine L_e hS (e_append0 rfl rfl ty_sl137 ty_sz3 ty_by3 ty_z3 (by repeat (first | exact .head _ | refine .tail _ ?_))) rfl ?_; clear hS a; intro a hS
  refine L_e hS (e_build ty_z139 ty_pl139 (.one rfl rfl rfl (by repeat constructor) (.one rfl rfl rfl (by repeat constructor) .nil))) rfl ?_; clear hS a; intro a hS
  refine L_op (s_storeA hS rfl rfl ty_sz139 (by repeat constructor) (by rfl) (by rfl) (by rfl) ?_); clear hS; (try clear w); intro w hS
  refine L_nil (n_then (wp_ret ?_))
  refine c_ret1 hS Tryz.results100 (.cellA rfl (by repeat constructor) ty_st139 ty_sz139 (by rfl)) ?_
  have hn := hS.new (X := ownA 3 1 (.slice (some ⟨b25, 0, none⟩) 0 0) 0 []) (by repeat (first | exact .head _ | refine .tail _ ?_)) rfl
  refine ⟨⟨(b25, 0), by rw [show (0 : Int).natAbs = 0 from rfl, dgs_zero]; exact Nat.le_refl _⟩, (congrArg Ending.returned (big_zero b25 0)).symm, hS.chg, big_of_own (c := 0) (m := 0) (l := []) (by rw [show (0 : Int).natAbs = 0 from rfl, dgs_zero]) hn.1.now, fun q hq => hn.2 q (by obtain rfl : q = b25 := hq; rfl)⟩
set_option maxRecDepth 100000 in
theorem trim_some (neg : Bool) (b off c : Nat) (ds : List Int) (hin : inR ds) (hc : ds.length ≤ c) (hlen : ds.length ≤ 1000000) (w0 : World) (hrow : RowAt b off 1 (ds.map encD) w0) (hb : b < w0.heap.size) :
    NewC Tryz.prog 100 [.bool neg, sliceV (some (b, off)) ds.length c] w0 (fun y : At (sgn neg (nv ds)) => bigV (sgn neg (nv ds)) (some (y.1.1, 0)) y.1.2) (fun y => bigA (sgn neg (nv ds)) y.1.1) := by
  refine c_enter [(0, .bool neg), (1, sliceV (some (b, off)) ds.length c)] [rowA b off 1 (ds.map encD)] noB Tryz.func100 rfl Tryz.ntmps100 ⟨rfl, rfl, trivial⟩ rfl (by intro X hX; obtain rfl := List.mem_singleton.1 hX; exact ok_row hrow hb) (by simp) (by intro X hX hm; obtain rfl := List.mem_singleton.1 hX; cases hm) ?_
  intro a hS
  refine c_seq (c_region ?_)
  refine L_op (s_alloc hS ty_z139 rfl ?_); clear hS a; (try clear w); intro a w b4 hS
  refine L_nil (n_then (c_seq (c_region ?_)))
  refine L_e hS (e_move rfl) rfl ?_; clear hS a; intro a hS
  refine L_e hS (e_len rfl rfl ty_sl137) rfl ?_; clear hS a; intro a hS
  refine L_e hS (e_assign rfl) rfl ?_; clear hS a; intro a hS
  refine L_nil (n_then (c_seq (wp_block ?_)))
  skip
  refine c_loop (γ := Nat) (fun k a w => St 31 noB w0 a w [(5, .int .i64 (k : Int)), (4, .pointer (some ⟨b4, 0, none⟩)), (0, .bool neg), (1, sliceV (some (b, off)) ds.length c)] [.blk b4 [.bool false, .slice none 0 0] 139, rowA b off 1 (ds.map encD)] ∧ k ≤ ds.length ∧ nv (ds.take k) = nv ds) (fun k => k) ds.length ⟨hS.slots ⟨rfl, rfl, rfl, rfl, trivial⟩, Nat.le_refl _, by rw [List.take_length]⟩ ?_
  clear hS a; (try clear w); intro k a w hI
  obtain ⟨hS, hk, hv⟩ := hI
  refine c_seq (c_seq (c_region ?_))
  refine L_e hS (e_move rfl) rfl ?_; clear hS a; intro a hS
  refine L_e hS (e_bin rfl rfl rfl) rfl ?_; clear hS a; intro a hS
  refine L_e hS (e_move rfl) rfl ?_; clear hS a; intro a hS
  try (
    have hk1 : 0 < k := by omega
    have hkn : ((k : Int) - 1).toNat = k - 1 := by omega
    obtain ⟨d, hd⟩ : ∃ d, ds[k - 1]? = some d := ⟨ds[k - 1]'(by omega), List.getElem?_eq_getElem (by omega)⟩
    have hd' : (ds.map encD)[k - 1]? = some (encD d) := by simp [hd])
  (first | refine g_splitD (t := 10) hS rfl ?_ ?_ | refine g_split (t := 10) hS rfl ?_ ?_) <;> (clear hS; intro hg10 hS)
  ·
    try (
      have hk1 : 0 < k := by omega
      have hkn : ((k : Int) - 1).toNat = k - 1 := by omega
      obtain ⟨d, hd⟩ : ∃ d, ds[k - 1]? = some d := ⟨ds[k - 1]'(by omega), List.getElem?_eq_getElem (by omega)⟩
      have hd' : (ds.map encD)[k - 1]? = some (encD d) := by simp [hd])
    refine L_ge hS rfl rfl (e_move rfl) rfl ?_; clear hS a; intro a hS
    refine L_ge hS rfl rfl (e_move rfl) rfl ?_; clear hS a; intro a hS
    (first | refine L_ge hS rfl rfl (e_binN rfl rfl rfl (by omega)) rfl ?_ | refine L_ge hS rfl rfl (e_bin rfl rfl rfl) rfl ?_); clear hS a; intro a hS
    refine L_ge hS rfl rfl (e_ix rfl rfl ty_sl137 ty_sz3 (by omega)) rfl ?_; clear hS a; intro a hS
    refine L_ge hS rfl rfl (e_loadC rfl ty_sc3 (fun w hh => by rw [hkn]; exact row_get (by repeat (first | exact .head _ | refine .tail _ ?_)) hd' w hh 0 (.int .i64 d) rfl)) rfl ?_; clear hS a; intro a hS
    refine L_ge hS rfl rfl (e_bin rfl rfl rfl) rfl ?_; clear hS a; intro a hS
    refine L_e hS (e_pk rfl rfl) rfl ?_; clear hS a; intro a hS
    refine L_nil (n_then ?_)
    first | refine c_ifD hS rfl (fun hc17 => ?_) (fun hc17 => ?_) | refine c_if hS rfl (fun hc17 => ?_) (fun hc17 => ?_)
    ·
      refine wp_skip (n_then (wp_block (c_region ?_)))
      refine L_e hS (e_move rfl) rfl ?_; clear hS a; intro a hS
      (first | refine L_e hS (e_binN rfl rfl rfl (by omega)) rfl ?_ | refine L_e hS (e_bin rfl rfl rfl) rfl ?_); clear hS a; intro a hS
      refine L_e hS (e_assign rfl) rfl ?_; clear hS a; intro a hS
      refine L_nil (n_block ?_)
      exact ⟨k - 1, by omega, by rw [show ((k - 1 : Nat) : Int) = (k : Int) - 1 by omega]; exact hS.slots (by exact ⟨rfl, rfl, rfl, rfl, trivial⟩), by omega, by subst hc17; have := trim_step hd; rw [show k - 1 + 1 = k by omega] at this; rw [← this]; exact hv⟩
    refine wp_exit ?_
    refine x_then (x_then (x_hit ?_))
    refine n_then (c_seq (c_region ?_))
    have hT : ds.take k = dgs (nv ds).toNat := trim_end hin hk (by first | exact .inl (by omega) | exact .inr ⟨d, hd, hc17⟩) hv
    refine L_e hS (e_move rfl) rfl ?_; clear hS a; intro a hS
    refine L_e hS (e_move rfl) rfl ?_; clear hS a; intro a hS
    (first | refine g_splitD (t := 21) hS rfl ?_ ?_ | refine g_split (t := 21) hS rfl ?_ ?_) <;> (clear hS; intro hg21 hS)
    ·
      refine L_ge hS rfl rfl (e_move rfl) rfl ?_; clear hS a; intro a hS
      refine L_ge hS rfl rfl (e_bin rfl rfl rfl) rfl ?_; clear hS a; intro a hS
      refine L_e hS (e_pk rfl rfl) rfl ?_; clear hS a; intro a hS
      refine L_op (s_bslice hS ty_sl137 ty_sz3 ty_z3 rfl rfl rfl rfl .nil rfl ?_); clear hS a; (try clear w); intro a w b25 hS
      refine L_e hS (e_move rfl) rfl ?_; clear hS a; intro a hS
      refine L_e hS (e_move rfl) rfl ?_; clear hS a; intro a hS
      refine L_e hS (e_slH rfl rfl ty_sl137 ty_sz3 (by omega)) rfl ?_; clear hS a; intro a hS
      replace hS := hS.swap (X := .blk b25 [] 3) (Y := ownA 3 1 (.slice (some ⟨b25, 0, none⟩) 0 0) 0 []) (by repeat (first | apply Rep.head | apply Rep.tail)) (own_empty (hS.get (X := .blk b25 [] 3) (by repeat (first | exact .head _ | refine .tail _ ?_)))) (fun b hb => by simpa [ownA, Asn.F, Value.ownBlock, eq_comm] using hb) rfl
      refine L_op (s_append hS rfl rfl ty_sl137 ty_sz3 ty_by3 ty_z3 rfl rfl rfl (by repeat (first | exact .head _ | refine .tail _ ?_)) (ys := (ds.take k).flatMap encD) (by rw [flat_len encD 1 (fun _ => rfl), List.length_take]; omega) (by have := dig_flat (l := ds.take k) (by rw [List.map_take]; exact rowAt_take (hS.get (X := rowA b off 1 (ds.map encD)) (by repeat (first | exact .head _ | refine .tail _ ?_)))); exact this) (digOne _) (by omega) (fun _ => (by repeat (first | apply Rep.head | apply Rep.tail))) ?_); clear hS a; (try clear w); intro v29 a w hv29 hS
      obtain ⟨lb, c', rfl⟩ := own_some (hS.get (.head _)) (fun e => by have := (hv29.1 e).1; cases this)
      rw [Nat.zero_add, List.nil_append] at hS
      clear hv29
      refine L_e hS (e_build ty_z139 ty_pl139 (.one rfl rfl rfl (by repeat constructor) (.one rfl rfl rfl (by repeat constructor) .nil))) rfl ?_; clear hS a; intro a hS
      refine L_op (s_storeA hS rfl rfl ty_sz139 (by repeat constructor) (by rfl) (by rfl) (by rfl) ?_); clear hS; (try clear w); intro w hS
      refine L_nil (n_then (wp_ret ?_))
      refine c_ret1 hS Tryz.results100 (.cellA rfl (by repeat constructor) ty_st139 ty_sz139 (by rfl)) ?_
      have hlk : (dgs (nv ds).toNat).length = k := by rw [← hT, List.length_take]; omega
      have hn := hS.new (X := ownA 3 1 (.slice (some ⟨lb, 0, none⟩) k c') k ((ds.take k).flatMap encD)) (by repeat (first | exact .head _ | refine .tail _ ?_)) rfl
      refine ⟨⟨(lb, c'), by rw [sgn_abs (nv_nonneg hin), hlk]; exact own_le hn.1.now⟩, ?_, hS.chg, big_of_own (by rw [sgn_abs (nv_nonneg hin)]; exact hT) hn.1.now, fun q hq => hn.2 q (by obtain rfl : q = lb := hq; rfl)⟩
      show _ = Ending.returned (bigV (sgn neg (nv ds)) (some (lb, 0)) c')
      rw [trim_val (nv_nonneg hin) hlk, hg21]
      simp [sliceV]
    refine L_skip_t hS rfl rfl rfl ?_; clear hS a; intro a hS
    refine L_skip_t hS rfl rfl rfl ?_; clear hS a; intro a hS
    refine L_e hS (e_pk rfl rfl) rfl ?_; clear hS a; intro a hS
    refine L_op (s_bslice hS ty_sl137 ty_sz3 ty_z3 rfl rfl rfl rfl .nil rfl ?_); clear hS a; (try clear w); intro a w b25 hS
    refine L_e hS (e_move rfl) rfl ?_; clear hS a; intro a hS
    refine L_e hS (e_move rfl) rfl ?_; clear hS a; intro a hS
    refine L_e hS (e_slH rfl rfl ty_sl137 ty_sz3 (by omega)) rfl ?_; clear hS a; intro a hS
    replace hS := hS.swap (X := .blk b25 [] 3) (Y := ownA 3 1 (.slice (some ⟨b25, 0, none⟩) 0 0) 0 []) (by repeat (first | apply Rep.head | apply Rep.tail)) (own_empty (hS.get (X := .blk b25 [] 3) (by repeat (first | exact .head _ | refine .tail _ ?_)))) (fun b hb => by simpa [ownA, Asn.F, Value.ownBlock, eq_comm] using hb) rfl
    refine L_op (s_append hS rfl rfl ty_sl137 ty_sz3 ty_by3 ty_z3 rfl rfl rfl (by repeat (first | exact .head _ | refine .tail _ ?_)) (ys := (ds.take k).flatMap encD) (by rw [flat_len encD 1 (fun _ => rfl), List.length_take]; omega) (by have := dig_flat (l := ds.take k) (by rw [List.map_take]; exact rowAt_take (hS.get (X := rowA b off 1 (ds.map encD)) (by repeat (first | exact .head _ | refine .tail _ ?_)))); exact this) (digOne _) (by omega) (fun _ => (by repeat (first | apply Rep.head | apply Rep.tail))) ?_); clear hS a; (try clear w); intro v29 a w hv29 hS
    obtain ⟨lb, c', rfl⟩ := own_some (hS.get (.head _)) (fun e => by have := (hv29.1 e).1; cases this)
    rw [Nat.zero_add, List.nil_append] at hS
    clear hv29
    refine L_e hS (e_build ty_z139 ty_pl139 (.one rfl rfl rfl (by repeat constructor) (.one rfl rfl rfl (by repeat constructor) .nil))) rfl ?_; clear hS a; intro a hS
    refine L_op (s_storeA hS rfl rfl ty_sz139 (by repeat constructor) (by rfl) (by rfl) (by rfl) ?_); clear hS; (try clear w); intro w hS
    refine L_nil (n_then (wp_ret ?_))
    refine c_ret1 hS Tryz.results100 (.cellA rfl (by repeat constructor) ty_st139 ty_sz139 (by rfl)) ?_
    have hlk : (dgs (nv ds).toNat).length = k := by rw [← hT, List.length_take]; omega
    have hn := hS.new (X := ownA 3 1 (.slice (some ⟨lb, 0, none⟩) k c') k ((ds.take k).flatMap encD)) (by repeat (first | exact .head _ | refine .tail _ ?_)) rfl
    refine ⟨⟨(lb, c'), by rw [sgn_abs (nv_nonneg hin), hlk]; exact own_le hn.1.now⟩, ?_, hS.chg, big_of_own (by rw [sgn_abs (nv_nonneg hin)]; exact hT) hn.1.now, fun q hq => hn.2 q (by obtain rfl : q = lb := hq; rfl)⟩
    show _ = Ending.returned (bigV (sgn neg (nv ds)) (some (lb, 0)) c')
    rw [trim_val (nv_nonneg hin) hlk, hg21]
    simp [sliceV]
  try (
    have hk1 : 0 < k := by omega
    have hkn : ((k : Int) - 1).toNat = k - 1 := by omega
    obtain ⟨d, hd⟩ : ∃ d, ds[k - 1]? = some d := ⟨ds[k - 1]'(by omega), List.getElem?_eq_getElem (by omega)⟩
    have hd' : (ds.map encD)[k - 1]? = some (encD d) := by simp [hd])
  refine L_skip_t hS rfl rfl rfl ?_; clear hS a; intro a hS
  refine L_skip_t hS rfl rfl rfl ?_; clear hS a; intro a hS
  refine L_skip_t hS rfl rfl rfl ?_; clear hS a; intro a hS
  refine L_skip_t hS rfl rfl rfl ?_; clear hS a; intro a hS
  refine L_skip_t hS rfl rfl rfl ?_; clear hS a; intro a hS
  refine L_skip_t hS rfl rfl rfl ?_; clear hS a; intro a hS
  refine L_e hS (e_pk rfl rfl) rfl ?_; clear hS a; intro a hS
  refine L_nil (n_then ?_)
  refine c_if_f hS rfl ?_
  refine wp_exit ?_
  refine x_then (x_then (x_hit ?_))
  refine n_then (c_seq (c_region ?_))
  have hT : ds.take k = dgs (nv ds).toNat := trim_end hin hk (by first | exact .inl (by omega) | exact .inr ⟨d, hd, hc17⟩) hv
  refine L_e hS (e_move rfl) rfl ?_; clear hS a; intro a hS
  refine L_e hS (e_move rfl) rfl ?_; clear hS a; intro a hS
  (first | refine g_splitD (t := 21) hS rfl ?_ ?_ | refine g_split (t := 21) hS rfl ?_ ?_) <;> (clear hS; intro hg21 hS)
  ·
    refine L_ge hS rfl rfl (e_move rfl) rfl ?_; clear hS a; intro a hS
    refine L_ge hS rfl rfl (e_bin rfl rfl rfl) rfl ?_; clear hS a; intro a hS
    refine L_e hS (e_pk rfl rfl) rfl ?_; clear hS a; intro a hS
    refine L_op (s_bslice hS ty_sl137 ty_sz3 ty_z3 rfl rfl rfl rfl .nil rfl ?_); clear hS a; (try clear w); intro a w b25 hS
    refine L_e hS (e_move rfl) rfl ?_; clear hS a; intro a hS
    refine L_e hS (e_move rfl) rfl ?_; clear hS a; intro a hS
    refine L_e hS (e_slH rfl rfl ty_sl137 ty_sz3 (by omega)) rfl ?_; clear hS a; intro a hS
    replace hS := hS.swap (X := .blk b25 [] 3) (Y := ownA 3 1 (.slice (some ⟨b25, 0, none⟩) 0 0) 0 []) (by repeat (first | apply Rep.head | apply Rep.tail)) (own_empty (hS.get (X := .blk b25 [] 3) (by repeat (first | exact .head _ | refine .tail _ ?_)))) (fun b hb => by simpa [ownA, Asn.F, Value.ownBlock, eq_comm] using hb) rfl
    refine L_op (s_append hS rfl rfl ty_sl137 ty_sz3 ty_by3 ty_z3 rfl rfl rfl (by repeat (first | exact .head _ | refine .tail _ ?_)) (ys := (ds.take k).flatMap encD) (by rw [flat_len encD 1 (fun _ => rfl), List.length_take]; omega) (by have := dig_flat (l := ds.take k) (by rw [List.map_take]; exact rowAt_take (hS.get (X := rowA b off 1 (ds.map encD)) (by repeat (first | exact .head _ | refine .tail _ ?_)))); exact this) (digOne _) (by omega) (fun _ => (by repeat (first | apply Rep.head | apply Rep.tail))) ?_); clear hS a; (try clear w); intro v29 a w hv29 hS
    obtain ⟨lb, c', rfl⟩ := own_some (hS.get (.head _)) (fun e => by have := (hv29.1 e).1; cases this)
    rw [Nat.zero_add, List.nil_append] at hS
    clear hv29
    refine L_e hS (e_build ty_z139 ty_pl139 (.one rfl rfl rfl (by repeat constructor) (.one rfl rfl rfl (by repeat constructor) .nil))) rfl ?_; clear hS a; intro a hS
    refine L_op (s_storeA hS rfl rfl ty_sz139 (by repeat constructor) (by rfl) (by rfl) (by rfl) ?_); clear hS; (try clear w); intro w hS
    refine L_nil (n_then (wp_ret ?_))
    refine c_ret1 hS Tryz.results100 (.cellA rfl (by repeat constructor) ty_st139 ty_sz139 (by rfl)) ?_
    have hlk : (dgs (nv ds).toNat).length = k := by rw [← hT, List.length_take]; omega
    have hn := hS.new (X := ownA 3 1 (.slice (some ⟨lb, 0, none⟩) k c') k ((ds.take k).flatMap encD)) (by repeat (first | exact .head _ | refine .tail _ ?_)) rfl
    refine ⟨⟨(lb, c'), by rw [sgn_abs (nv_nonneg hin), hlk]; exact own_le hn.1.now⟩, ?_, hS.chg, big_of_own (by rw [sgn_abs (nv_nonneg hin)]; exact hT) hn.1.now, fun q hq => hn.2 q (by obtain rfl : q = lb := hq; rfl)⟩
    show _ = Ending.returned (bigV (sgn neg (nv ds)) (some (lb, 0)) c')
    rw [trim_val (nv_nonneg hin) hlk, hg21]
    simp [sliceV]
  refine L_skip_t hS rfl rfl rfl ?_; clear hS a; intro a hS
  refine L_skip_t hS rfl rfl rfl ?_; clear hS a; intro a hS
  refine L_e hS (e_pk rfl rfl) rfl ?_; clear hS a; intro a hS
  refine L_op (s_bslice hS ty_sl137 ty_sz3 ty_z3 rfl rfl rfl rfl .nil rfl ?_); clear hS a; (try clear w); intro a w b25 hS
  refine L_e hS (e_move rfl) rfl ?_; clear hS a; intro a hS
  refine L_e hS (e_move rfl) rfl ?_; clear hS a; intro a hS
  refine L_e hS (e_slH rfl rfl ty_sl137 ty_sz3 (by omega)) rfl ?_; clear hS a; intro a hS
  replace hS := hS.swap (X := .blk b25 [] 3) (Y := ownA 3 1 (.slice (some ⟨b25, 0, none⟩) 0 0) 0 []) (by repeat (first | apply Rep.head | apply Rep.tail)) (own_empty (hS.get (X := .blk b25 [] 3) (by repeat (first | exact .head _ | refine .tail _ ?_)))) (fun b hb => by simpa [ownA, Asn.F, Value.ownBlock, eq_comm] using hb) rfl
  refine L_op (s_append hS rfl rfl ty_sl137 ty_sz3 ty_by3 ty_z3 rfl rfl rfl (by repeat (first | exact .head _ | refine .tail _ ?_)) (ys := (ds.take k).flatMap encD) (by rw [flat_len encD 1 (fun _ => rfl), List.length_take]; omega) (by have := dig_flat (l := ds.take k) (by rw [List.map_take]; exact rowAt_take (hS.get (X := rowA b off 1 (ds.map encD)) (by repeat (first | exact .head _ | refine .tail _ ?_)))); exact this) (digOne _) (by omega) (fun _ => (by repeat (first | apply Rep.head | apply Rep.tail))) ?_); clear hS a; (try clear w); intro v29 a w hv29 hS
  obtain ⟨lb, c', rfl⟩ := own_some (hS.get (.head _)) (fun e => by have := (hv29.1 e).1; cases this)
  rw [Nat.zero_add, List.nil_append] at hS
  clear hv29
  refine L_e hS (e_build ty_z139 ty_pl139 (.one rfl rfl rfl (by repeat constructor) (.one rfl rfl rfl (by repeat constructor) .nil))) rfl ?_; clear hS a; intro a hS
  refine L_op (s_storeA hS rfl rfl ty_sz139 (by repeat constructor) (by rfl) (by rfl) (by rfl) ?_); clear hS; (try clear w); intro w hS
  refine L_nil (n_then (wp_ret ?_))
  refine c_ret1 hS Tryz.results100 (.cellA rfl (by repeat constructor) ty_st139 ty_sz139 (by rfl)) ?_
  have hlk : (dgs (nv ds).toNat).length = k := by rw [← hT, List.length_take]; omega
  have hn := hS.new (X := ownA 3 1 (.slice (some ⟨lb, 0, none⟩) k c') k ((ds.take k).flatMap encD)) (by repeat (first | exact .head _ | refine .tail _ ?_)) rfl
  refine ⟨⟨(lb, c'), by rw [sgn_abs (nv_nonneg hin), hlk]; exact own_le hn.1.now⟩, ?_, hS.chg, big_of_own (by rw [sgn_abs (nv_nonneg hin)]; exact hT) hn.1.now, fun q hq => hn.2 q (by obtain rfl : q = lb := hq; rfl)⟩
  show _ = Ending.returned (bigV (sgn neg (nv ds)) (some (lb, 0)) c')
  rw [trim_val (nv_nonneg hin) hlk, hg21]
  simp [sliceV]
theorem trim_P (neg : Bool) (p : Option (Nat × Nat)) (c : Nat) (hp : p = none → c = 0) (ds : List Int) (hin : inR ds) (hc : ds.length ≤ c) (hlen : ds.length ≤ 1000000) (w0 : World) (hrow : RowP p 1 (ds.map encD) w0) (hb : ∀ q, p = some q → q.1 < w0.heap.size) :
    NewC Tryz.prog 100 [.bool neg, sliceV p ds.length c] w0 (fun y : At (sgn neg (nv ds)) => bigV (sgn neg (nv ds)) (some (y.1.1, 0)) y.1.2) (fun y => bigA (sgn neg (nv ds)) y.1.1) := by
  cases p with
  | none =>
    obtain rfl := hp rfl
    obtain rfl : ds = [] := by simpa [RowP] using hrow
    have e : sgn neg (nv []) = 0 := by cases neg <;> rfl
    rw [e]
    exact trim_none neg w0
  | some q => exact trim_some neg q.1 q.2 c ds hin hc hlen w0 hrow (hb q rfl)
theorem own_digs {w : World} {v : Value} {l : List Int} (h : w.ownsRow 0 3 1 v l.length (l.flatMap encD)) :
    ∃ p c, v = sliceV p l.length c ∧ (p = none → c = 0) ∧ l.length ≤ c ∧ RowP p 1 (l.map encD) w ∧ ∀ q, p = some q → q.1 < w.heap.size := by
  rcases h.2 with ⟨rfl, e⟩ | ⟨g, cap, cur, rfl, _, _, hc, _⟩
  · refine ⟨none, 0, by rw [e]; rfl, fun _ => rfl, by omega, ?_, by simp⟩
    rw [List.eq_nil_of_length_eq_zero e]; rfl
  · refine ⟨some (g, 0), cap, rfl, by simp, hc, row_of_own (enc := encD) (fun _ => rfl) h, fun q hq => ?_⟩
    cases hq
    exact (World.ownsRow.lt h g rfl).2
theorem sliceV_inj {p q : Option (Nat × Nat)} {m c d : Nat} (h : sliceV p m c = sliceV q m d) : p = q ∧ c = d := by
  unfold sliceV at h
  simp only [Value.slice.injEq, true_and] at h
  refine ⟨?_, h.2⟩
  cases p <;> cases q <;> simp_all
  exact Prod.ext h.1.1 h.1.2
theorem sgn_of {z v : Int} (h : v = z.natAbs) : sgn (decide (z < 0)) v = z := by
  unfold sgn
  by_cases h0 : z < 0 <;> simp [h0] <;> omega
end Go.Proofs.YtheofhegdjjfgaaGreat

namespace Go.Proofs.YtheofhegdjjfgaaGreat
open Go.RowKit
theorem wrap_fit {m : Int} (h : -9223372036854775808 ≤ m ∧ m ≤ 9223372036854775807) : IntKind.i64.wrap m = m := IntWalk.i64_in _ (by omega)
theorem quo_abs (n : Int) : (n.tdiv 10000).natAbs = n.natAbs / 10000 := Int.natAbs_tdiv n 10000
theorem rem_abs (n : Int) : (n.tmod 10000).natAbs = n.natAbs % 10000 := Int.natAbs_tmod n 10000
set_option maxRecDepth 100000 in
theorem BigOf_P (z : Int) (hz : -9223372036854775808 ≤ z ∧ z ≤ 9223372036854775807) (w0 : World) :
    NewC Tryz.prog 62 [.int .i64 z] w0 (fun y : At z => bigV z (some (y.1.1, 0)) y.1.2) (fun y => bigA z y.1.1) := by
  have hlz : (dgs z.natAbs).length ≤ 5 := dgs_length_le (by omega)
  refine c_enter [(0, .int .i64 z)] [] noB Tryz.func62 rfl Tryz.ntmps62 ⟨rfl, trivial⟩ rfl (by simp) (by simp) (by simp) ?_
  intro a hS
  refine c_seq (c_region ?_)
  refine L_op (s_alloc hS ty_z139 rfl ?_); clear hS a; (try clear w); intro a w b2 hS
  refine L_nil (n_then (c_seq (c_region ?_)))
  refine L_e hS (e_move rfl) rfl ?_; clear hS a; intro a hS
  refine L_e hS (e_bin rfl rfl rfl) rfl ?_; clear hS a; intro a hS
  refine L_e hS (e_assign rfl) rfl ?_; clear hS a; intro a hS
  refine L_nil (n_then (c_seq (c_region ?_)))
  refine L_e hS (e_assign rfl) rfl ?_; clear hS a; intro a hS
  refine L_nil (n_then (c_seq (wp_block ?_)))
  skip
  refine c_loop (γ := (Int × List Int × Value)) (fun G a w => St 25 noB w0 a w [(0, .int .i64 G.1), (2, .pointer (some ⟨b2, 0, none⟩)), (3, .bool (decide (z < 0))), (4, G.2.2)] [ownA 3 1 G.2.2 G.2.1.length (G.2.1.flatMap encD), .blk b2 [.bool false, .slice none 0 0] 139] ∧ G.2.1 ++ dgs G.1.natAbs = dgs z.natAbs ∧ -9223372036854775808 ≤ G.1 ∧ G.1 ≤ 9223372036854775807) (fun G => G.1.natAbs) (z, [], .slice none 0 0) ⟨(hS.own_nil 3 1).slots ⟨rfl, rfl, rfl, rfl, trivial⟩, rfl, hz⟩ ?_
  clear hS a; (try clear w); intro G a w hI
  obtain ⟨n, l, sv⟩ := G
  obtain ⟨hS, hl, hn⟩ := hI
  simp only at hS hl hn
  refine c_seq (c_seq (c_region ?_))
  refine L_e hS (e_move rfl) rfl ?_; clear hS a; intro a hS
  refine L_e hS (e_bin rfl rfl rfl) rfl ?_; clear hS a; intro a hS
  refine L_nil (n_then ?_)
  first | refine c_ifD hS rfl (fun hc9 => ?_) (fun hc9 => ?_) | refine c_if hS rfl (fun hc9 => ?_) (fun hc9 => ?_)
  ·
    have hn0 : n.natAbs ≠ 0 := by omega
    have hll : l.length < 5 := by
      have := congrArg List.length hl
      rw [dgs_pos hn0, List.length_append, List.length_cons] at this
      omega
    have hq := quo_abs n
    have hr := rem_abs n
    refine wp_skip (n_then (wp_block (c_seq (c_region ?_))))
    refine L_e hS (e_move rfl) rfl ?_; clear hS a; intro a hS
    refine L_e hS (e_rem rfl rfl (by decide)) rfl ?_; clear hS a; intro a hS
    refine L_e hS (e_assign rfl) rfl ?_; clear hS a; intro a hS
    refine L_nil (n_then ?_)
    refine c_cut (fun a w => ∃ d : Int, St 25 noB w0 a w [(5, .int .i64 d), (0, .int .i64 n), (2, .pointer (some ⟨b2, 0, none⟩)), (3, .bool (decide (z < 0))), (4, sv)] [ownA 3 1 sv l.length (l.flatMap encD), .blk b2 [.bool false, .slice none 0 0] 139] ∧ d = (n.natAbs % 10000 : Nat)) ?_ ?_
    ·
      refine c_seq (c_region ?_)
      refine L_e hS (e_move rfl) rfl ?_; clear hS a; intro a hS
      refine L_e hS (e_bin rfl rfl rfl) rfl ?_; clear hS a; intro a hS
      refine L_nil (n_then ?_)
      first | refine c_ifD hS rfl (fun hc13 => ?_) (fun hc13 => ?_) | refine c_if hS rfl (fun hc13 => ?_) (fun hc13 => ?_)
      ·
        refine c_region ?_
        refine L_e hS (e_move rfl) rfl ?_; clear hS a; intro a hS
        refine L_e hS (e_neg rfl) rfl ?_; clear hS a; intro a hS
        rw [wrap_fit (by omega)] at hS
        refine L_e hS (e_assign rfl) rfl ?_; clear hS a; intro a hS
        refine L_nil ?_
        exact ⟨_, hS.slots (by exact ⟨rfl, rfl, rfl, rfl, rfl, trivial⟩), by omega⟩
      refine wp_skip ?_
      exact ⟨_, hS.slots (by exact ⟨rfl, rfl, rfl, rfl, rfl, trivial⟩), by omega⟩
    clear hS a; (try clear w); intro a w hS
    obtain ⟨d, hS, hd⟩ := hS
    have e1 : (l ++ [d]).flatMap encD = l.flatMap encD ++ [.int .i64 d] := by simp [encD]
    refine c_seq (c_region ?_)
    refine L_e hS (e_move rfl) rfl ?_; clear hS a; intro a hS
    refine L_e hS (e_move rfl) rfl ?_; clear hS a; intro a hS
    refine L_op (s_bslice hS ty_sl137 ty_sz3 ty_z3 rfl rfl rfl rfl (.one rfl rfl rfl .nil) rfl ?_); clear hS a; (try clear w); intro a w b18 hS
    refine L_op (s_append1 hS rfl rfl ty_sl137 ty_sz3 ty_by3 ty_z3 rfl rfl rfl (by repeat constructor) (by repeat constructor) (by rfl) (by rfl) (fun _ => (by repeat constructor)) (by omega) ?_); clear hS a; (try clear w); intro v19 a w hv19 hS
    refine L_e hS (e_assign rfl) rfl ?_; clear hS a; intro a hS
    refine L_nil (n_then (c_region ?_))
    refine L_e hS (e_move rfl) rfl ?_; clear hS a; intro a hS
    refine L_e hS (e_quo rfl rfl (by decide)) rfl ?_; clear hS a; intro a hS
    rw [wrap_fit (by omega)] at hS
    refine L_e hS (e_assign rfl) rfl ?_; clear hS a; intro a hS
    refine L_nil (n_block ?_)
    have hq1 : (n.tdiv 10000).natAbs < n.natAbs := by omega
    refine ⟨(n.tdiv 10000, l ++ [d], v19), hq1, ?_, ?_, ?_⟩
    · simp only [List.length_append, List.length_cons, List.length_nil, Nat.zero_add, e1]
      exact (hS.drop (by repeat (first | exact List.Sublist.refl _ | apply List.Sublist.cons_cons | apply List.Sublist.cons))).slots (by exact ⟨rfl, rfl, rfl, rfl, trivial⟩)
    · show l ++ [d] ++ dgs (n.tdiv 10000).natAbs = _
      rw [← hl, dgs_pos hn0, hq, hd]; simp
    · simp only; omega
  obtain rfl : n = 0 := by omega
  rw [show (0 : Int).natAbs = 0 from rfl, dgs_zero, List.append_nil] at hl
  obtain ⟨p4, c4, rfl, h4, h5, _, _⟩ := own_digs (hS.get (X := ownA 3 1 sv l.length (l.flatMap encD)) (by repeat (first | exact .head _ | refine .tail _ ?_)))
  refine wp_exit ?_
  refine x_then (x_then (x_hit ?_))
  refine n_then (c_seq (c_region ?_))
  refine L_e hS (e_move rfl) rfl ?_; clear hS a; intro a hS
  refine L_e hS (e_move rfl) rfl ?_; clear hS a; intro a hS
  obtain ⟨p5, c5, e5, _, _, h6, h7⟩ := own_digs (hS.get (X := ownA 3 1 (sliceV p4 l.length c4) l.length (l.flatMap encD)) (by repeat (first | exact .head _ | refine .tail _ ?_)))
  obtain ⟨rfl, rfl⟩ := sliceV_inj e5
  have hT := trim_P (decide (z < 0)) p4 c4 h4 l (by rw [hl]; exact inR_dgs _) h5 (by rw [hl]; omega) w h6 h7
  rw [sgn_of (by rw [hl, nv_dgs])] at hT
  clear e5
  refine L_op (s_callN hS (.cons rfl (.cons rfl .nil)) cf100 rfl (hT) ?_); clear hS a; (try clear w); intro x24 a w hS
  refine L_op (s_storeA hS rfl rfl ty_sz139 (by repeat constructor) (by rfl) (by rfl) (by rfl) ?_); clear hS; (try clear w); intro w hS
  refine L_nil (n_then (wp_ret ?_))
  refine c_ret1 hS Tryz.results62 (.cellA rfl (by repeat constructor) ty_st139 ty_sz139 (by rfl)) ?_
  exact ⟨x24, rfl, hS.chg, hS.new (X := bigA z x24.1.1) (by repeat (first | exact .head _ | refine .tail _ ?_)) rfl⟩
def twoA (p q : Option (Nat × Nat)) (xs ys : List Int) : Asn := .any (fun b => (∃ off, p = some (b, off)) ∨ ∃ off, q = some (b, off)) (fun w => RowP p 1 (xs.map encD) w ∧ RowP q 1 (ys.map encD) w) false
theorem two_ok {p q : Option (Nat × Nat)} {xs ys : List Int} {w : World} (h1 : RowP p 1 (xs.map encD) w) (h2 : RowP q 1 (ys.map encD) w) (b1 : ∀ r, p = some r → r.1 < w.heap.size) (b2 : ∀ r, q = some r → r.1 < w.heap.size) : (twoA p q xs ys).ok w := by
  refine ⟨fun b hb => ?_, fun w' hw => ⟨(ok_rowP h1 b1).hold w' (fun b hb => hw b (.inl hb)), (ok_rowP h2 b2).hold w' (fun b hb => hw b (.inr hb))⟩⟩
  rcases hb with ⟨off, e⟩ | ⟨off, e⟩
  · exact b1 _ e
  · exact b2 _ e
theorem two_l {b off : Nat} {q : Option (Nat × Nat)} {xs ys : List Int} {Γ : List Asn} (hm : twoA (some (b, off)) q xs ys ∈ Γ) {i : Nat} {d : Int} (hd : xs[i]? = some d) : ∀ w, Hd Γ w → w.cell? ⟨b, off + i * 1, none⟩ = some (.int .i64 d) := fun w hh => by
  have := (hh _ hm).1 i (encD d) (by simp [hd]) 0 (.int .i64 d) rfl
  simpa using this
theorem two_r {b off : Nat} {q : Option (Nat × Nat)} {xs ys : List Int} {Γ : List Asn} (hm : twoA q (some (b, off)) xs ys ∈ Γ) {i : Nat} {d : Int} (hd : ys[i]? = some d) : ∀ w, Hd Γ w → w.cell? ⟨b, off + i * 1, none⟩ = some (.int .i64 d) := fun w hh => by
  have := (hh _ hm).2 i (encD d) (by simp [hd]) 0 (.int .i64 d) rfl
  simpa using this
theorem two_pos {p : Option (Nat × Nat)} {xs : List Int} {w : World} (h : RowP p 1 (xs.map encD) w) (hx : xs ≠ []) : ∃ b off, p = some (b, off) := by
  cases p with
  | none => simp only [RowP, List.map_eq_nil_iff] at h; exact absurd h hx
  | some r => exact ⟨r.1, r.2, rfl⟩
theorem drop_at {l : List Int} {k : Nat} {d : Int} (h : l[k]? = some d) : l.drop k = d :: l.drop (k + 1) := by
  obtain ⟨h1, h2⟩ := List.getElem?_eq_some_iff.1 h
  rw [List.drop_eq_getElem_cons h1, h2]
theorem cmp_at {m n k : Nat} {d e : Int} (hd : (dgs m)[k]? = some d) (he : (dgs n)[k]? = some e) (ht : (dgs m).drop (k + 1) = (dgs n).drop (k + 1)) (hlt : d < e) : m < n := by
  have h1 := List.take_append_drop k (dgs m)
  have h2 := List.take_append_drop k (dgs n)
  rw [drop_at hd, ht] at h1
  rw [drop_at he] at h2
  have l1 := (List.getElem?_eq_some_iff.1 hd).1
  have l2 := (List.getElem?_eq_some_iff.1 he).1
  have := cmp_top (s := (dgs n).drop (k + 1)) (inR_take (inR_dgs m) k) (show ((dgs m).take k).length = ((dgs n).take k).length by rw [List.length_take, List.length_take]; omega) hlt (inR_take (inR_dgs n) k)
  rw [h1, h2, nv_dgs, nv_dgs] at this
  omega
set_option maxRecDepth 100000 in
theorem cmp_P (p q : Option (Nat × Nat)) (c1 c2 m n : Nat) (hm : (dgs m).length ≤ 1000000) (w0 : World) (h : (twoA p q (dgs m) (dgs n)).ok w0) :
    PureC Tryz.prog 102 [sliceV p (dgs m).length c1, sliceV q (dgs n).length c2] w0 (.int .i64 (cmpN m n)) := by
  have hp := h.now.1
  have hq := h.now.2
  refine c_enter [(0, sliceV p (dgs m).length c1), (1, sliceV q (dgs n).length c2)] [twoA p q (dgs m) (dgs n)] noB Tryz.func102 rfl Tryz.ntmps102 ⟨rfl, rfl, trivial⟩ rfl (by intro X hX; obtain rfl := List.mem_singleton.1 hX; exact h) (by simp) (by intro X hX hm; obtain rfl := List.mem_singleton.1 hX; cases hm) ?_
  intro a hS
  refine c_seq (c_region ?_)
  refine L_e hS (e_assign rfl) rfl ?_; clear hS a; intro a hS
  refine L_nil (n_then (c_seq (c_seq (c_region ?_))))
  refine L_e hS (e_move rfl) rfl ?_; clear hS a; intro a hS
  refine L_e hS (e_len rfl rfl ty_sl137) rfl ?_; clear hS a; intro a hS
  refine L_e hS (e_move rfl) rfl ?_; clear hS a; intro a hS
  refine L_e hS (e_len rfl rfl ty_sl137) rfl ?_; clear hS a; intro a hS
  refine L_e hS (e_bin rfl rfl rfl) rfl ?_; clear hS a; intro a hS
  refine L_nil (n_then ?_)
  first | refine c_ifD hS rfl (fun hc10 => ?_) (fun hc10 => ?_) | refine c_if hS rfl (fun hc10 => ?_) (fun hc10 => ?_)
  ·
    refine c_seq (c_seq (c_region ?_))
    refine L_e hS (e_move rfl) rfl ?_; clear hS a; intro a hS
    refine L_e hS (e_len rfl rfl ty_sl137) rfl ?_; clear hS a; intro a hS
    refine L_e hS (e_move rfl) rfl ?_; clear hS a; intro a hS
    refine L_e hS (e_len rfl rfl ty_sl137) rfl ?_; clear hS a; intro a hS
    refine L_e hS (e_bin rfl rfl rfl) rfl ?_; clear hS a; intro a hS
    refine L_nil (n_then ?_)
    first | refine c_ifD hS rfl (fun hc15 => ?_) (fun hc15 => ?_) | refine c_if hS rfl (fun hc15 => ?_) (fun hc15 => ?_)
    ·
      refine c_seq (c_region ?_)
      refine L_e hS (e_assign rfl) rfl ?_; clear hS a; intro a hS
      refine L_nil (n_then (wp_ret ?_))
      refine r_then (r_then ?_)
      refine c_ret1 hS Tryz.results102 (.tmp rfl) ?_
      exact ⟨by rw [cmpN, if_pos (dgs_lt (by omega))], hS.chg⟩
    refine wp_skip (n_then (c_seq (c_region ?_)))
    refine L_e hS (e_assign rfl) rfl ?_; clear hS a; intro a hS
    refine L_nil (n_then (wp_ret (r_then ?_)))
    refine c_ret1 hS Tryz.results102 (.tmp rfl) ?_
    have h1 := dgs_lt (m := n) (n := m) (by omega)
    exact ⟨by rw [cmpN, if_neg (by omega), if_pos h1], hS.chg⟩
  refine wp_skip (n_then (c_seq (c_seq (c_region ?_))))
  refine L_e hS (e_move rfl) rfl ?_; clear hS a; intro a hS
  refine L_e hS (e_len rfl rfl ty_sl137) rfl ?_; clear hS a; intro a hS
  (first | refine L_e hS (e_binN rfl rfl rfl (by omega)) rfl ?_ | refine L_e hS (e_bin rfl rfl rfl) rfl ?_); clear hS a; intro a hS
  refine L_e hS (e_assign rfl) rfl ?_; clear hS a; intro a hS
  refine L_nil (n_then (wp_block ?_))
  skip
  refine c_loop (γ := Nat) (fun k a w => St 41 noB w0 a w [(5, .int .i64 ((k : Int) - 1)), (4, .int .i64 0), (0, sliceV p (dgs m).length c1), (1, sliceV q (dgs n).length c2)] [twoA p q (dgs m) (dgs n)] ∧ k ≤ (dgs m).length ∧ (dgs m).drop k = (dgs n).drop k) (fun k => k) (dgs m).length ⟨hS.slots ⟨rfl, rfl, rfl, rfl, trivial⟩, Nat.le_refl _, by rw [List.drop_length, List.drop_eq_nil_of_le (by omega)]⟩ ?_
  clear hS a; (try clear w); intro k a w hI
  obtain ⟨hS, hk, ht⟩ := hI
  refine c_seq (c_seq (c_region ?_))
  refine L_e hS (e_move rfl) rfl ?_; clear hS a; intro a hS
  refine L_e hS (e_bin rfl rfl rfl) rfl ?_; clear hS a; intro a hS
  refine L_nil (n_then ?_)
  first | refine c_ifD hS rfl (fun hc20 => ?_) (fun hc20 => ?_) | refine c_if hS rfl (fun hc20 => ?_) (fun hc20 => ?_)
  ·
    have hk1 : 0 < k := by omega
    obtain ⟨d, hd⟩ : ∃ d, (dgs m)[k - 1]? = some d := ⟨(dgs m)[k - 1]'(by omega), List.getElem?_eq_getElem (by omega)⟩
    obtain ⟨e, he⟩ : ∃ e, (dgs n)[k - 1]? = some e := ⟨(dgs n)[k - 1]'(by omega), List.getElem?_eq_getElem (by omega)⟩
    obtain ⟨b1, o1, rfl⟩ := two_pos hp (fun e => by rw [e] at hd; cases hd)
    obtain ⟨b2, o2, rfl⟩ := two_pos hq (fun e => by rw [e] at he; cases he)
    have hkn : ((k : Int) - 1).toNat = k - 1 := by omega
    have ht' : (dgs m).drop (k - 1 + 1) = (dgs n).drop (k - 1 + 1) := by rw [show k - 1 + 1 = k by omega]; exact ht
    refine wp_skip (n_then (c_seq (wp_block (c_seq (c_seq ?_)))))
    refine c_draw1 [] (by kernel_rfl) hS ?_; clear hS; (try clear w); intro w hS
    simp only [List.length_cons, List.length_nil, Nat.zero_add, Nat.reduceAdd, List.replicate]
    refine Zt0 0 (tf 1 8) hS rfl want_none (e_move rfl) rfl (by kernel_rfl) rfl ?_; clear hS a; intro a hS
    refine Zt0 1 (tf 2 7) hS rfl want_none (e_move rfl) rfl (by kernel_rfl) rfl ?_; clear hS a; intro a hS
    refine Zt0 2 (tf 3 6) hS rfl want_none (e_ix rfl rfl ty_sl137 ty_sz3 (by omega)) rfl (by kernel_rfl) rfl ?_; clear hS a; intro a hS
    refine Zt 3 (tf 4 5) hS rfl want_none (e_loadC rfl ty_sc3 (fun w hh => by rw [hkn]; exact two_l (by repeat (first | exact .head _ | refine .tail _ ?_)) hd w hh)) rfl (by kernel_rfl) (by intro X hX; repeat (first | exact hX | apply List.Mem.tail)) rfl ?_; clear hS a; intro a hS
    refine Zt0 4 (tf 5 4) hS rfl want_none (e_move rfl) rfl (by kernel_rfl) rfl ?_; clear hS a; intro a hS
    refine Zt0 5 (tf 6 3) hS rfl want_none (e_move rfl) rfl (by kernel_rfl) rfl ?_; clear hS a; intro a hS
    refine Zt0 6 (tf 7 2) hS rfl want_none (e_ix rfl rfl ty_sl137 ty_sz3 (by omega)) rfl (by kernel_rfl) rfl ?_; clear hS a; intro a hS
    refine Zt 7 (tf 8 1) hS rfl want_none (e_loadC rfl ty_sc3 (fun w hh => by rw [hkn]; exact two_r (by repeat (first | exact .head _ | refine .tail _ ?_)) he w hh)) rfl (by kernel_rfl) (by intro X hX; repeat (first | exact hX | apply List.Mem.tail)) rfl ?_; clear hS a; intro a hS
    refine Zt0 8 (tf 9 0) hS rfl want_none (e_bin rfl rfl rfl) rfl (by kernel_rfl) rfl ?_; clear hS a; intro a hS
    refine Z_done (by kernel_rfl) ?_
    refine n_then ?_
    first | refine c_ifD hS rfl (fun hc31 => ?_) (fun hc31 => ?_) | refine c_if hS rfl (fun hc31 => ?_) (fun hc31 => ?_)
    ·
      refine c_seq (c_region ?_)
      refine L_e hS (e_assign rfl) rfl ?_; clear hS a; intro a hS
      refine L_nil (n_then (wp_ret ?_))
      refine r_then (r_block (r_then (r_then (r_block (r_then ?_)))))
      refine c_ret1 hS Tryz.results102 (.tmp rfl) ?_
      exact ⟨by rw [cmpN, if_pos (cmp_at hd he ht' (by omega))], hS.chg⟩
    refine wp_skip (n_then (c_seq ?_))
    refine c_draw1 [] (by kernel_rfl) hS ?_; clear hS; (try clear w); intro w hS
    simp only [List.length_cons, List.length_nil, Nat.zero_add, Nat.reduceAdd, List.replicate]
    refine Zt0 0 (tf 1 8) hS rfl want_none (e_move rfl) rfl (by kernel_rfl) rfl ?_; clear hS a; intro a hS
    refine Zt0 1 (tf 2 7) hS rfl want_none (e_move rfl) rfl (by kernel_rfl) rfl ?_; clear hS a; intro a hS
    refine Zt0 2 (tf 3 6) hS rfl want_none (e_ix rfl rfl ty_sl137 ty_sz3 (by omega)) rfl (by kernel_rfl) rfl ?_; clear hS a; intro a hS
    refine Zt 3 (tf 4 5) hS rfl want_none (e_loadC rfl ty_sc3 (fun w hh => by rw [hkn]; exact two_l (by repeat (first | exact .head _ | refine .tail _ ?_)) hd w hh)) rfl (by kernel_rfl) (by intro X hX; repeat (first | exact hX | apply List.Mem.tail)) rfl ?_; clear hS a; intro a hS
    refine Zt0 4 (tf 5 4) hS rfl want_none (e_move rfl) rfl (by kernel_rfl) rfl ?_; clear hS a; intro a hS
    refine Zt0 5 (tf 6 3) hS rfl want_none (e_move rfl) rfl (by kernel_rfl) rfl ?_; clear hS a; intro a hS
    refine Zt0 6 (tf 7 2) hS rfl want_none (e_ix rfl rfl ty_sl137 ty_sz3 (by omega)) rfl (by kernel_rfl) rfl ?_; clear hS a; intro a hS
    refine Zt 7 (tf 8 1) hS rfl want_none (e_loadC rfl ty_sc3 (fun w hh => by rw [hkn]; exact two_r (by repeat (first | exact .head _ | refine .tail _ ?_)) he w hh)) rfl (by kernel_rfl) (by intro X hX; repeat (first | exact hX | apply List.Mem.tail)) rfl ?_; clear hS a; intro a hS
    refine Zt0 8 (tf 9 0) hS rfl want_none (e_bin rfl rfl rfl) rfl (by kernel_rfl) rfl ?_; clear hS a; intro a hS
    refine Z_done (by kernel_rfl) ?_
    refine n_then ?_
    first | refine c_ifD hS rfl (fun hc40 => ?_) (fun hc40 => ?_) | refine c_if hS rfl (fun hc40 => ?_) (fun hc40 => ?_)
    ·
      refine c_seq (c_region ?_)
      refine L_e hS (e_assign rfl) rfl ?_; clear hS a; intro a hS
      refine L_nil (n_then (wp_ret ?_))
      refine r_block (r_then (r_then (r_block (r_then ?_))))
      refine c_ret1 hS Tryz.results102 (.tmp rfl) ?_
      have h1 := cmp_at he hd ht'.symm (by omega)
      exact ⟨by rw [cmpN, if_neg (by omega), if_pos h1], hS.chg⟩
    refine wp_skip (n_block (n_then (c_region ?_)))
    refine L_e hS (e_move rfl) rfl ?_; clear hS a; intro a hS
    (first | refine L_e hS (e_binN rfl rfl rfl (by omega)) rfl ?_ | refine L_e hS (e_bin rfl rfl rfl) rfl ?_); clear hS a; intro a hS
    refine L_e hS (e_assign rfl) rfl ?_; clear hS a; intro a hS
    refine L_nil ?_
    exact ⟨k - 1, by omega, hS.slots (by exact ⟨by show lk _ 5 = _; rw [show ((k - 1 : Nat) : Int) = (k : Int) - 1 by omega]; rfl, rfl, rfl, rfl, trivial⟩), by omega, by rw [drop_at hd, drop_at he, ht']; congr 1; omega⟩
  obtain rfl : k = 0 := by omega
  rw [List.drop_zero, List.drop_zero] at ht
  obtain rfl := dgs_inj ht
  refine wp_exit ?_
  refine x_then (x_then (x_hit ?_))
  refine n_then (c_seq (c_region ?_))
  refine L_e hS (e_assign rfl) rfl ?_; clear hS a; intro a hS
  refine L_nil (n_then (wp_ret ?_))
  refine c_ret1 hS Tryz.results102 (.tmp rfl) ?_
  exact ⟨by rw [cmpN, if_neg (by omega), if_neg (by omega)], hS.chg⟩
end Go.Proofs.YtheofhegdjjfgaaGreat

namespace Go.Proofs.YtheofhegdjjfgaaGreat
open Go.RowKit
def gd (xs : List Int) (i : Nat) : Int := (xs[i]?).getD 0
theorem gd_in {xs : List Int} (h : inR xs) (i : Nat) : 0 ≤ gd xs i ∧ gd xs i ≤ 9999 := by
  unfold gd
  cases hx : xs[i]? with
  | none => simp
  | some d => exact h d (List.mem_of_getElem? hx)
theorem nv_drop (xs : List Int) (i : Nat) : nv (xs.drop i) = gd xs i + 10000 * nv (xs.drop (i + 1)) := by
  unfold gd
  cases hx : xs[i]? with
  | none =>
    have := List.getElem?_eq_none_iff.1 hx
    rw [List.drop_eq_nil_of_le this, List.drop_eq_nil_of_le (by omega)]; simp [nv]
  | some d => rw [drop_at hx]; rfl
theorem add_step {S P o c A B a b A' B' x : Int} (h : S = o + P * (c + A + B)) (hA : A = a + 10000 * A') (hB : B = b + 10000 * B') (hx : x = c + a + b) : S = (o + P * (x % 10000)) + P * 10000 * (x / 10000 + A' + B') := by
  have e : c + A + B = x % 10000 + 10000 * (x / 10000 + A' + B') := by omega
  rw [h, e, Int.mul_add, Int.mul_assoc]; omega
abbrev Digs := List Int × Value
def digA (r : Digs) : Asn := ownA 3 1 r.2 r.1.length (r.1.flatMap encD)
set_option maxRecDepth 100000 in
theorem add_P (p q : Option (Nat × Nat)) (c1 c2 : Nat) (xs ys : List Int) (hx : inR xs) (hy : inR ys) (N : Nat) (hN : N ≤ 1000000) (hlx : xs.length ≤ N) (hly : ys.length ≤ N) (w0 : World) (h : (twoA p q xs ys).ok w0) :
    NewC Tryz.prog 101 [sliceV p xs.length c1, sliceV q ys.length c2] w0 (fun r : { r : Digs // inR r.1 ∧ nv r.1 = nv xs + nv ys ∧ r.1.length ≤ N + 1 } => r.1.2) (fun r => digA r.1) := by
  have hp := h.now.1
  have hq := h.now.2
  refine c_enter [(0, sliceV p xs.length c1), (1, sliceV q ys.length c2)] [twoA p q xs ys] noB Tryz.func101 rfl Tryz.ntmps101 ⟨rfl, rfl, trivial⟩ rfl (by intro X hX; obtain rfl := List.mem_singleton.1 hX; exact h) (by simp) (by intro X hX hm; obtain rfl := List.mem_singleton.1 hX; cases hm) ?_
  intro a hS
  refine c_seq (c_region ?_)
  refine L_e hS (e_assign rfl) rfl ?_; clear hS a; intro a hS
  refine L_nil (n_then (c_seq (c_region ?_)))
  refine L_e hS (e_assign rfl) rfl ?_; clear hS a; intro a hS
  refine L_nil (n_then (c_seq (c_region ?_)))
  refine L_e hS (e_assign rfl) rfl ?_; clear hS a; intro a hS
  refine L_nil (n_then (c_seq (c_seq (c_region ?_))))
  refine L_e hS (e_assign rfl) rfl ?_; clear hS a; intro a hS
  refine L_nil (n_then (wp_block ?_))
  skip
  refine c_loop (γ := (Int × List Int × Value)) (fun G a w => St 54 noB w0 a w [(0, sliceV p xs.length c1), (1, sliceV q ys.length c2), (5, G.2.2), (6, .int .i64 G.1), (7, .int .i64 (G.2.1.length : Int))] [ownA 3 1 G.2.2 G.2.1.length (G.2.1.flatMap encD), twoA p q xs ys] ∧ inR G.2.1 ∧ 0 ≤ G.1 ∧ G.1 ≤ 1 ∧ G.2.1.length ≤ N + 1 ∧ (G.2.1.length = N + 1 → G.1 = 0) ∧ nv xs + nv ys = nv G.2.1 + 10000 ^ G.2.1.length * (G.1 + nv (xs.drop G.2.1.length) + nv (ys.drop G.2.1.length))) (fun G => N + 2 - G.2.1.length) (0, [], .slice none 0 0) ⟨(hS.own_nil 3 1).slots ⟨rfl, rfl, rfl, rfl, rfl, trivial⟩, (by intro d hd; cases hd), by decide, by decide, Nat.zero_le _, fun _ => rfl, by simp [nv]⟩ ?_
  clear hS a; (try clear w); intro G a w hI
  obtain ⟨cy, l, sv⟩ := G
  obtain ⟨hS, hin, hc0, hc1, hll, hlN, hsum⟩ := hI
  simp only at hS hin hc0 hc1 hll hlN hsum
  have ga := gd_in hx l.length
  have gb := gd_in hy l.length
  have da := nv_drop xs l.length
  have db := nv_drop ys l.length
  refine c_seq (c_seq (c_region ?_))
  refine L_e hS (e_move rfl) rfl ?_; clear hS a; intro a hS
  refine L_e hS (e_move rfl) rfl ?_; clear hS a; intro a hS
  refine L_e hS (e_len rfl rfl ty_sl137) rfl ?_; clear hS a; intro a hS
  refine L_e hS (e_bin rfl rfl rfl) rfl ?_; clear hS a; intro a hS
  refine L_e hS (e_move rfl) rfl ?_; clear hS a; intro a hS
  (first | refine g_splitD (t := 13) hS rfl ?_ ?_ | refine g_split (t := 13) hS rfl ?_ ?_) <;> (clear hS; intro hg13 hS)
  ·
    refine L_skip_f hS rfl rfl rfl ?_; clear hS a; intro a hS
    refine L_skip_f hS rfl rfl rfl ?_; clear hS a; intro a hS
    refine L_skip_f hS rfl rfl rfl ?_; clear hS a; intro a hS
    refine L_skip_f hS rfl rfl rfl ?_; clear hS a; intro a hS
    refine L_e hS (e_pk rfl rfl) rfl ?_; clear hS a; intro a hS
    refine L_e hS (e_move rfl) rfl ?_; clear hS a; intro a hS
    refine L_skip_f hS rfl rfl rfl ?_; clear hS a; intro a hS
    refine L_skip_f hS rfl rfl rfl ?_; clear hS a; intro a hS
    refine L_e hS (e_pk rfl rfl) rfl ?_; clear hS a; intro a hS
    refine L_nil (n_then ?_)
    refine c_if_t hS rfl ?_
    refine wp_skip (n_then (c_seq (wp_block (c_seq (c_region ?_)))))
    refine L_e hS (e_move rfl) rfl ?_; clear hS a; intro a hS
    refine L_e hS (e_assign rfl) rfl ?_; clear hS a; intro a hS
    refine L_nil (n_then ?_)
    refine c_cut (fun a w => ∃ d1 : Int, St 54 noB w0 a w [(8, .int .i64 d1), (0, sliceV p xs.length c1), (1, sliceV q ys.length c2), (5, sv), (6, .int .i64 cy), (7, .int .i64 (l.length : Int))] [ownA 3 1 sv l.length (l.flatMap encD), twoA p q xs ys] ∧ d1 = cy + gd xs l.length) ?_ ?_
    ·
      refine c_seq (c_region ?_)
      refine L_e hS (e_move rfl) rfl ?_; clear hS a; intro a hS
      refine L_e hS (e_move rfl) rfl ?_; clear hS a; intro a hS
      refine L_e hS (e_len rfl rfl ty_sl137) rfl ?_; clear hS a; intro a hS
      refine L_e hS (e_bin rfl rfl rfl) rfl ?_; clear hS a; intro a hS
      refine L_nil (n_then ?_)
      first | refine c_ifD hS rfl (fun hc29 => ?_) (fun hc29 => ?_) | refine c_if hS rfl (fun hc29 => ?_) (fun hc29 => ?_)
      ·
        obtain ⟨d, hd⟩ : ∃ d, xs[l.length]? = some d := ⟨xs[l.length]'(by omega), List.getElem?_eq_getElem (by omega)⟩
        obtain ⟨b1, o1, rfl⟩ := two_pos hp (fun e => by rw [e] at hd; cases hd)
        have hgd : gd xs l.length = d := by unfold gd; rw [hd]; rfl
        refine c_region ?_
        refine L_e hS (e_move rfl) rfl ?_; clear hS a; intro a hS
        refine L_e hS (e_move rfl) rfl ?_; clear hS a; intro a hS
        refine L_e hS (e_move rfl) rfl ?_; clear hS a; intro a hS
        refine L_e hS (e_ixN rfl rfl ty_sl137 ty_sz3 (by omega)) rfl ?_; clear hS a; intro a hS
        refine L_e hS (e_loadC rfl ty_sc3 (two_l (by repeat (first | exact .head _ | refine .tail _ ?_)) hd)) rfl ?_; clear hS a; intro a hS
        (first | refine L_e hS (e_binN rfl rfl rfl (by omega)) rfl ?_ | refine L_e hS (e_bin rfl rfl rfl) rfl ?_); clear hS a; intro a hS
        refine L_e hS (e_assign rfl) rfl ?_; clear hS a; intro a hS
        refine L_nil ?_
        exact ⟨_, hS.slots (by exact ⟨rfl, rfl, rfl, rfl, rfl, rfl, trivial⟩), by omega⟩
      have hgd : gd xs l.length = 0 := by unfold gd; rw [List.getElem?_eq_none (by omega)]; rfl
      refine wp_skip ?_
      exact ⟨_, hS.slots (by exact ⟨rfl, rfl, rfl, rfl, rfl, rfl, trivial⟩), by omega⟩
    clear hS a; (try clear w); intro a w hS
    obtain ⟨d1, hS, hd1⟩ := hS
    refine c_cut (fun a w => ∃ d2 : Int, St 54 noB w0 a w [(8, .int .i64 d2), (0, sliceV p xs.length c1), (1, sliceV q ys.length c2), (5, sv), (6, .int .i64 cy), (7, .int .i64 (l.length : Int))] [ownA 3 1 sv l.length (l.flatMap encD), twoA p q xs ys] ∧ d2 = cy + gd xs l.length + gd ys l.length) ?_ ?_
    ·
      refine c_seq (c_region ?_)
      refine L_e hS (e_move rfl) rfl ?_; clear hS a; intro a hS
      refine L_e hS (e_move rfl) rfl ?_; clear hS a; intro a hS
      refine L_e hS (e_len rfl rfl ty_sl137) rfl ?_; clear hS a; intro a hS
      refine L_e hS (e_bin rfl rfl rfl) rfl ?_; clear hS a; intro a hS
      refine L_nil (n_then ?_)
      first | refine c_ifD hS rfl (fun hc39 => ?_) (fun hc39 => ?_) | refine c_if hS rfl (fun hc39 => ?_) (fun hc39 => ?_)
      ·
        obtain ⟨d, hd⟩ : ∃ d, ys[l.length]? = some d := ⟨ys[l.length]'(by omega), List.getElem?_eq_getElem (by omega)⟩
        obtain ⟨b2, o2, rfl⟩ := two_pos hq (fun e => by rw [e] at hd; cases hd)
        have hgd : gd ys l.length = d := by unfold gd; rw [hd]; rfl
        refine c_region ?_
        refine L_e hS (e_move rfl) rfl ?_; clear hS a; intro a hS
        refine L_e hS (e_move rfl) rfl ?_; clear hS a; intro a hS
        refine L_e hS (e_move rfl) rfl ?_; clear hS a; intro a hS
        refine L_e hS (e_ixN rfl rfl ty_sl137 ty_sz3 (by omega)) rfl ?_; clear hS a; intro a hS
        refine L_e hS (e_loadC rfl ty_sc3 (two_r (by repeat (first | exact .head _ | refine .tail _ ?_)) hd)) rfl ?_; clear hS a; intro a hS
        (first | refine L_e hS (e_binN rfl rfl rfl (by omega)) rfl ?_ | refine L_e hS (e_bin rfl rfl rfl) rfl ?_); clear hS a; intro a hS
        refine L_e hS (e_assign rfl) rfl ?_; clear hS a; intro a hS
        refine L_nil ?_
        exact ⟨_, hS.slots (by exact ⟨rfl, rfl, rfl, rfl, rfl, rfl, trivial⟩), by omega⟩
      have hgd : gd ys l.length = 0 := by unfold gd; rw [List.getElem?_eq_none (by omega)]; rfl
      refine wp_skip ?_
      exact ⟨_, hS.slots (by exact ⟨rfl, rfl, rfl, rfl, rfl, rfl, trivial⟩), by omega⟩
    clear hS a; (try clear w); intro a w hS
    obtain ⟨d2, hS, hd2⟩ := hS
    have e1 : (l ++ [d2 % 10000]).flatMap encD = l.flatMap encD ++ [.int .i64 (d2 % 10000)] := by simp [encD]
    have hs2 := add_step hsum da db hd2
    refine c_seq (c_region ?_)
    refine L_e hS (e_move rfl) rfl ?_; clear hS a; intro a hS
    refine L_e hS (e_move rfl) rfl ?_; clear hS a; intro a hS
    (first | refine L_e hS (e_remN rfl rfl (by omega)) rfl ?_ | refine L_e hS (e_rem rfl rfl (by omega)) rfl ?_); clear hS a; intro a hS
    refine L_op (s_bslice hS ty_sl137 ty_sz3 ty_z3 rfl rfl rfl rfl (.one rfl rfl rfl .nil) rfl ?_); clear hS a; (try clear w); intro a w b49 hS
    refine L_op (s_append1 hS rfl rfl ty_sl137 ty_sz3 ty_by3 ty_z3 rfl rfl rfl (by repeat constructor) (by repeat constructor) (by rfl) (by rfl) (fun _ => (by repeat constructor)) (by omega) ?_); clear hS a; (try clear w); intro v50 a w hv50 hS
    refine L_e hS (e_assign rfl) rfl ?_; clear hS a; intro a hS
    refine L_nil (n_then (c_region ?_))
    refine L_e hS (e_move rfl) rfl ?_; clear hS a; intro a hS
    (first | refine L_e hS (e_quoN rfl rfl (by omega)) rfl ?_ | refine L_e hS (e_quo rfl rfl (by omega)) rfl ?_); clear hS a; intro a hS
    refine L_e hS (e_assign rfl) rfl ?_; clear hS a; intro a hS
    refine L_nil (n_block (n_then (c_region ?_)))
    refine L_e hS (e_move rfl) rfl ?_; clear hS a; intro a hS
    (first | refine L_e hS (e_binN rfl rfl rfl (by omega)) rfl ?_ | refine L_e hS (e_bin rfl rfl rfl) rfl ?_); clear hS a; intro a hS
    refine L_e hS (e_assign rfl) rfl ?_; clear hS a; intro a hS
    refine L_nil ?_
    have hlN2 : l.length ≤ N := by
      rcases Nat.lt_or_ge l.length (N + 1) with h1 | h1
      · omega
      · have := hlN (by omega)
        omega
    refine ⟨(d2 / 10000, l ++ [d2 % 10000], v50), by simp only [List.length_append, List.length_cons, List.length_nil]; omega, ?_, inR_snoc hin (by omega), by simp only; omega, by simp only; omega, by simp only [List.length_append, List.length_cons, List.length_nil]; omega, ?_, ?_⟩
    · simp only [List.length_append, List.length_cons, List.length_nil, Nat.zero_add, e1]
      exact (hS.drop (by repeat (first | exact List.Sublist.refl _ | apply List.Sublist.cons_cons | apply List.Sublist.cons))).slots (by exact ⟨rfl, rfl, rfl, rfl, rfl, trivial⟩)
    · simp only [List.length_append, List.length_cons, List.length_nil, Nat.zero_add]
      intro h1
      have za : gd xs l.length = 0 := by unfold gd; rw [List.getElem?_eq_none (by omega)]; rfl
      have zb : gd ys l.length = 0 := by unfold gd; rw [List.getElem?_eq_none (by omega)]; rfl
      omega
    · simp only [List.length_append, List.length_cons, List.length_nil, Nat.zero_add]
      rw [nv_snoc, hs2, Int.pow_succ]
  refine L_ge hS rfl rfl (e_move rfl) rfl ?_; clear hS a; intro a hS
  refine L_ge hS rfl rfl (e_move rfl) rfl ?_; clear hS a; intro a hS
  refine L_ge hS rfl rfl (e_len rfl rfl ty_sl137) rfl ?_; clear hS a; intro a hS
  refine L_ge hS rfl rfl (e_bin rfl rfl rfl) rfl ?_; clear hS a; intro a hS
  refine L_e hS (e_pk rfl rfl) rfl ?_; clear hS a; intro a hS
  refine L_e hS (e_move rfl) rfl ?_; clear hS a; intro a hS
  (first | refine g_splitD (t := 19) hS rfl ?_ ?_ | refine g_split (t := 19) hS rfl ?_ ?_) <;> (clear hS; intro hg19 hS)
  ·
    refine L_skip_f hS rfl rfl rfl ?_; clear hS a; intro a hS
    refine L_skip_f hS rfl rfl rfl ?_; clear hS a; intro a hS
    refine L_e hS (e_pk rfl rfl) rfl ?_; clear hS a; intro a hS
    refine L_nil (n_then ?_)
    refine c_if_t hS rfl ?_
    refine wp_skip (n_then (c_seq (wp_block (c_seq (c_region ?_)))))
    refine L_e hS (e_move rfl) rfl ?_; clear hS a; intro a hS
    refine L_e hS (e_assign rfl) rfl ?_; clear hS a; intro a hS
    refine L_nil (n_then ?_)
    refine c_cut (fun a w => ∃ d1 : Int, St 54 noB w0 a w [(8, .int .i64 d1), (0, sliceV p xs.length c1), (1, sliceV q ys.length c2), (5, sv), (6, .int .i64 cy), (7, .int .i64 (l.length : Int))] [ownA 3 1 sv l.length (l.flatMap encD), twoA p q xs ys] ∧ d1 = cy + gd xs l.length) ?_ ?_
    ·
      refine c_seq (c_region ?_)
      refine L_e hS (e_move rfl) rfl ?_; clear hS a; intro a hS
      refine L_e hS (e_move rfl) rfl ?_; clear hS a; intro a hS
      refine L_e hS (e_len rfl rfl ty_sl137) rfl ?_; clear hS a; intro a hS
      refine L_e hS (e_bin rfl rfl rfl) rfl ?_; clear hS a; intro a hS
      refine L_nil (n_then ?_)
      first | refine c_ifD hS rfl (fun hc29 => ?_) (fun hc29 => ?_) | refine c_if hS rfl (fun hc29 => ?_) (fun hc29 => ?_)
      ·
        obtain ⟨d, hd⟩ : ∃ d, xs[l.length]? = some d := ⟨xs[l.length]'(by omega), List.getElem?_eq_getElem (by omega)⟩
        obtain ⟨b1, o1, rfl⟩ := two_pos hp (fun e => by rw [e] at hd; cases hd)
        have hgd : gd xs l.length = d := by unfold gd; rw [hd]; rfl
        refine c_region ?_
        refine L_e hS (e_move rfl) rfl ?_; clear hS a; intro a hS
        refine L_e hS (e_move rfl) rfl ?_; clear hS a; intro a hS
        refine L_e hS (e_move rfl) rfl ?_; clear hS a; intro a hS
        refine L_e hS (e_ixN rfl rfl ty_sl137 ty_sz3 (by omega)) rfl ?_; clear hS a; intro a hS
        refine L_e hS (e_loadC rfl ty_sc3 (two_l (by repeat (first | exact .head _ | refine .tail _ ?_)) hd)) rfl ?_; clear hS a; intro a hS
        (first | refine L_e hS (e_binN rfl rfl rfl (by omega)) rfl ?_ | refine L_e hS (e_bin rfl rfl rfl) rfl ?_); clear hS a; intro a hS
        refine L_e hS (e_assign rfl) rfl ?_; clear hS a; intro a hS
        refine L_nil ?_
        exact ⟨_, hS.slots (by exact ⟨rfl, rfl, rfl, rfl, rfl, rfl, trivial⟩), by omega⟩
      have hgd : gd xs l.length = 0 := by unfold gd; rw [List.getElem?_eq_none (by omega)]; rfl
      refine wp_skip ?_
      exact ⟨_, hS.slots (by exact ⟨rfl, rfl, rfl, rfl, rfl, rfl, trivial⟩), by omega⟩
    clear hS a; (try clear w); intro a w hS
    obtain ⟨d1, hS, hd1⟩ := hS
    refine c_cut (fun a w => ∃ d2 : Int, St 54 noB w0 a w [(8, .int .i64 d2), (0, sliceV p xs.length c1), (1, sliceV q ys.length c2), (5, sv), (6, .int .i64 cy), (7, .int .i64 (l.length : Int))] [ownA 3 1 sv l.length (l.flatMap encD), twoA p q xs ys] ∧ d2 = cy + gd xs l.length + gd ys l.length) ?_ ?_
    ·
      refine c_seq (c_region ?_)
      refine L_e hS (e_move rfl) rfl ?_; clear hS a; intro a hS
      refine L_e hS (e_move rfl) rfl ?_; clear hS a; intro a hS
      refine L_e hS (e_len rfl rfl ty_sl137) rfl ?_; clear hS a; intro a hS
      refine L_e hS (e_bin rfl rfl rfl) rfl ?_; clear hS a; intro a hS
      refine L_nil (n_then ?_)
      first | refine c_ifD hS rfl (fun hc39 => ?_) (fun hc39 => ?_) | refine c_if hS rfl (fun hc39 => ?_) (fun hc39 => ?_)
      ·
        obtain ⟨d, hd⟩ : ∃ d, ys[l.length]? = some d := ⟨ys[l.length]'(by omega), List.getElem?_eq_getElem (by omega)⟩
        obtain ⟨b2, o2, rfl⟩ := two_pos hq (fun e => by rw [e] at hd; cases hd)
        have hgd : gd ys l.length = d := by unfold gd; rw [hd]; rfl
        refine c_region ?_
        refine L_e hS (e_move rfl) rfl ?_; clear hS a; intro a hS
        refine L_e hS (e_move rfl) rfl ?_; clear hS a; intro a hS
        refine L_e hS (e_move rfl) rfl ?_; clear hS a; intro a hS
        refine L_e hS (e_ixN rfl rfl ty_sl137 ty_sz3 (by omega)) rfl ?_; clear hS a; intro a hS
        refine L_e hS (e_loadC rfl ty_sc3 (two_r (by repeat (first | exact .head _ | refine .tail _ ?_)) hd)) rfl ?_; clear hS a; intro a hS
        (first | refine L_e hS (e_binN rfl rfl rfl (by omega)) rfl ?_ | refine L_e hS (e_bin rfl rfl rfl) rfl ?_); clear hS a; intro a hS
        refine L_e hS (e_assign rfl) rfl ?_; clear hS a; intro a hS
        refine L_nil ?_
        exact ⟨_, hS.slots (by exact ⟨rfl, rfl, rfl, rfl, rfl, rfl, trivial⟩), by omega⟩
      have hgd : gd ys l.length = 0 := by unfold gd; rw [List.getElem?_eq_none (by omega)]; rfl
      refine wp_skip ?_
      exact ⟨_, hS.slots (by exact ⟨rfl, rfl, rfl, rfl, rfl, rfl, trivial⟩), by omega⟩
    clear hS a; (try clear w); intro a w hS
    obtain ⟨d2, hS, hd2⟩ := hS
    have e1 : (l ++ [d2 % 10000]).flatMap encD = l.flatMap encD ++ [.int .i64 (d2 % 10000)] := by simp [encD]
    have hs2 := add_step hsum da db hd2
    refine c_seq (c_region ?_)
    refine L_e hS (e_move rfl) rfl ?_; clear hS a; intro a hS
    refine L_e hS (e_move rfl) rfl ?_; clear hS a; intro a hS
    (first | refine L_e hS (e_remN rfl rfl (by omega)) rfl ?_ | refine L_e hS (e_rem rfl rfl (by omega)) rfl ?_); clear hS a; intro a hS
    refine L_op (s_bslice hS ty_sl137 ty_sz3 ty_z3 rfl rfl rfl rfl (.one rfl rfl rfl .nil) rfl ?_); clear hS a; (try clear w); intro a w b49 hS
    refine L_op (s_append1 hS rfl rfl ty_sl137 ty_sz3 ty_by3 ty_z3 rfl rfl rfl (by repeat constructor) (by repeat constructor) (by rfl) (by rfl) (fun _ => (by repeat constructor)) (by omega) ?_); clear hS a; (try clear w); intro v50 a w hv50 hS
    refine L_e hS (e_assign rfl) rfl ?_; clear hS a; intro a hS
    refine L_nil (n_then (c_region ?_))
    refine L_e hS (e_move rfl) rfl ?_; clear hS a; intro a hS
    (first | refine L_e hS (e_quoN rfl rfl (by omega)) rfl ?_ | refine L_e hS (e_quo rfl rfl (by omega)) rfl ?_); clear hS a; intro a hS
    refine L_e hS (e_assign rfl) rfl ?_; clear hS a; intro a hS
    refine L_nil (n_block (n_then (c_region ?_)))
    refine L_e hS (e_move rfl) rfl ?_; clear hS a; intro a hS
    (first | refine L_e hS (e_binN rfl rfl rfl (by omega)) rfl ?_ | refine L_e hS (e_bin rfl rfl rfl) rfl ?_); clear hS a; intro a hS
    refine L_e hS (e_assign rfl) rfl ?_; clear hS a; intro a hS
    refine L_nil ?_
    have hlN2 : l.length ≤ N := by
      rcases Nat.lt_or_ge l.length (N + 1) with h1 | h1
      · omega
      · have := hlN (by omega)
        omega
    refine ⟨(d2 / 10000, l ++ [d2 % 10000], v50), by simp only [List.length_append, List.length_cons, List.length_nil]; omega, ?_, inR_snoc hin (by omega), by simp only; omega, by simp only; omega, by simp only [List.length_append, List.length_cons, List.length_nil]; omega, ?_, ?_⟩
    · simp only [List.length_append, List.length_cons, List.length_nil, Nat.zero_add, e1]
      exact (hS.drop (by repeat (first | exact List.Sublist.refl _ | apply List.Sublist.cons_cons | apply List.Sublist.cons))).slots (by exact ⟨rfl, rfl, rfl, rfl, rfl, trivial⟩)
    · simp only [List.length_append, List.length_cons, List.length_nil, Nat.zero_add]
      intro h1
      have za : gd xs l.length = 0 := by unfold gd; rw [List.getElem?_eq_none (by omega)]; rfl
      have zb : gd ys l.length = 0 := by unfold gd; rw [List.getElem?_eq_none (by omega)]; rfl
      omega
    · simp only [List.length_append, List.length_cons, List.length_nil, Nat.zero_add]
      rw [nv_snoc, hs2, Int.pow_succ]
  refine L_ge hS rfl rfl (e_move rfl) rfl ?_; clear hS a; intro a hS
  refine L_ge hS rfl rfl (e_bin rfl rfl rfl) rfl ?_; clear hS a; intro a hS
  refine L_e hS (e_pk rfl rfl) rfl ?_; clear hS a; intro a hS
  refine L_nil (n_then ?_)
  first | refine c_ifD hS rfl (fun hc22 => ?_) (fun hc22 => ?_) | refine c_if hS rfl (fun hc22 => ?_) (fun hc22 => ?_)
  ·
    refine wp_skip (n_then (c_seq (wp_block (c_seq (c_region ?_)))))
    refine L_e hS (e_move rfl) rfl ?_; clear hS a; intro a hS
    refine L_e hS (e_assign rfl) rfl ?_; clear hS a; intro a hS
    refine L_nil (n_then ?_)
    refine c_cut (fun a w => ∃ d1 : Int, St 54 noB w0 a w [(8, .int .i64 d1), (0, sliceV p xs.length c1), (1, sliceV q ys.length c2), (5, sv), (6, .int .i64 cy), (7, .int .i64 (l.length : Int))] [ownA 3 1 sv l.length (l.flatMap encD), twoA p q xs ys] ∧ d1 = cy + gd xs l.length) ?_ ?_
    ·
      refine c_seq (c_region ?_)
      refine L_e hS (e_move rfl) rfl ?_; clear hS a; intro a hS
      refine L_e hS (e_move rfl) rfl ?_; clear hS a; intro a hS
      refine L_e hS (e_len rfl rfl ty_sl137) rfl ?_; clear hS a; intro a hS
      refine L_e hS (e_bin rfl rfl rfl) rfl ?_; clear hS a; intro a hS
      refine L_nil (n_then ?_)
      first | refine c_ifD hS rfl (fun hc29 => ?_) (fun hc29 => ?_) | refine c_if hS rfl (fun hc29 => ?_) (fun hc29 => ?_)
      ·
        obtain ⟨d, hd⟩ : ∃ d, xs[l.length]? = some d := ⟨xs[l.length]'(by omega), List.getElem?_eq_getElem (by omega)⟩
        obtain ⟨b1, o1, rfl⟩ := two_pos hp (fun e => by rw [e] at hd; cases hd)
        have hgd : gd xs l.length = d := by unfold gd; rw [hd]; rfl
        refine c_region ?_
        refine L_e hS (e_move rfl) rfl ?_; clear hS a; intro a hS
        refine L_e hS (e_move rfl) rfl ?_; clear hS a; intro a hS
        refine L_e hS (e_move rfl) rfl ?_; clear hS a; intro a hS
        refine L_e hS (e_ixN rfl rfl ty_sl137 ty_sz3 (by omega)) rfl ?_; clear hS a; intro a hS
        refine L_e hS (e_loadC rfl ty_sc3 (two_l (by repeat (first | exact .head _ | refine .tail _ ?_)) hd)) rfl ?_; clear hS a; intro a hS
        (first | refine L_e hS (e_binN rfl rfl rfl (by omega)) rfl ?_ | refine L_e hS (e_bin rfl rfl rfl) rfl ?_); clear hS a; intro a hS
        refine L_e hS (e_assign rfl) rfl ?_; clear hS a; intro a hS
        refine L_nil ?_
        exact ⟨_, hS.slots (by exact ⟨rfl, rfl, rfl, rfl, rfl, rfl, trivial⟩), by omega⟩
      have hgd : gd xs l.length = 0 := by unfold gd; rw [List.getElem?_eq_none (by omega)]; rfl
      refine wp_skip ?_
      exact ⟨_, hS.slots (by exact ⟨rfl, rfl, rfl, rfl, rfl, rfl, trivial⟩), by omega⟩
    clear hS a; (try clear w); intro a w hS
    obtain ⟨d1, hS, hd1⟩ := hS
    refine c_cut (fun a w => ∃ d2 : Int, St 54 noB w0 a w [(8, .int .i64 d2), (0, sliceV p xs.length c1), (1, sliceV q ys.length c2), (5, sv), (6, .int .i64 cy), (7, .int .i64 (l.length : Int))] [ownA 3 1 sv l.length (l.flatMap encD), twoA p q xs ys] ∧ d2 = cy + gd xs l.length + gd ys l.length) ?_ ?_
    ·
      refine c_seq (c_region ?_)
      refine L_e hS (e_move rfl) rfl ?_; clear hS a; intro a hS
      refine L_e hS (e_move rfl) rfl ?_; clear hS a; intro a hS
      refine L_e hS (e_len rfl rfl ty_sl137) rfl ?_; clear hS a; intro a hS
      refine L_e hS (e_bin rfl rfl rfl) rfl ?_; clear hS a; intro a hS
      refine L_nil (n_then ?_)
      first | refine c_ifD hS rfl (fun hc39 => ?_) (fun hc39 => ?_) | refine c_if hS rfl (fun hc39 => ?_) (fun hc39 => ?_)
      ·
        obtain ⟨d, hd⟩ : ∃ d, ys[l.length]? = some d := ⟨ys[l.length]'(by omega), List.getElem?_eq_getElem (by omega)⟩
        obtain ⟨b2, o2, rfl⟩ := two_pos hq (fun e => by rw [e] at hd; cases hd)
        have hgd : gd ys l.length = d := by unfold gd; rw [hd]; rfl
        refine c_region ?_
        refine L_e hS (e_move rfl) rfl ?_; clear hS a; intro a hS
        refine L_e hS (e_move rfl) rfl ?_; clear hS a; intro a hS
        refine L_e hS (e_move rfl) rfl ?_; clear hS a; intro a hS
        refine L_e hS (e_ixN rfl rfl ty_sl137 ty_sz3 (by omega)) rfl ?_; clear hS a; intro a hS
        refine L_e hS (e_loadC rfl ty_sc3 (two_r (by repeat (first | exact .head _ | refine .tail _ ?_)) hd)) rfl ?_; clear hS a; intro a hS
        (first | refine L_e hS (e_binN rfl rfl rfl (by omega)) rfl ?_ | refine L_e hS (e_bin rfl rfl rfl) rfl ?_); clear hS a; intro a hS
        refine L_e hS (e_assign rfl) rfl ?_; clear hS a; intro a hS
        refine L_nil ?_
        exact ⟨_, hS.slots (by exact ⟨rfl, rfl, rfl, rfl, rfl, rfl, trivial⟩), by omega⟩
      have hgd : gd ys l.length = 0 := by unfold gd; rw [List.getElem?_eq_none (by omega)]; rfl
      refine wp_skip ?_
      exact ⟨_, hS.slots (by exact ⟨rfl, rfl, rfl, rfl, rfl, rfl, trivial⟩), by omega⟩
    clear hS a; (try clear w); intro a w hS
    obtain ⟨d2, hS, hd2⟩ := hS
    have e1 : (l ++ [d2 % 10000]).flatMap encD = l.flatMap encD ++ [.int .i64 (d2 % 10000)] := by simp [encD]
    have hs2 := add_step hsum da db hd2
    refine c_seq (c_region ?_)
    refine L_e hS (e_move rfl) rfl ?_; clear hS a; intro a hS
    refine L_e hS (e_move rfl) rfl ?_; clear hS a; intro a hS
    (first | refine L_e hS (e_remN rfl rfl (by omega)) rfl ?_ | refine L_e hS (e_rem rfl rfl (by omega)) rfl ?_); clear hS a; intro a hS
    refine L_op (s_bslice hS ty_sl137 ty_sz3 ty_z3 rfl rfl rfl rfl (.one rfl rfl rfl .nil) rfl ?_); clear hS a; (try clear w); intro a w b49 hS
    refine L_op (s_append1 hS rfl rfl ty_sl137 ty_sz3 ty_by3 ty_z3 rfl rfl rfl (by repeat constructor) (by repeat constructor) (by rfl) (by rfl) (fun _ => (by repeat constructor)) (by omega) ?_); clear hS a; (try clear w); intro v50 a w hv50 hS
    refine L_e hS (e_assign rfl) rfl ?_; clear hS a; intro a hS
    refine L_nil (n_then (c_region ?_))
    refine L_e hS (e_move rfl) rfl ?_; clear hS a; intro a hS
    (first | refine L_e hS (e_quoN rfl rfl (by omega)) rfl ?_ | refine L_e hS (e_quo rfl rfl (by omega)) rfl ?_); clear hS a; intro a hS
    refine L_e hS (e_assign rfl) rfl ?_; clear hS a; intro a hS
    refine L_nil (n_block (n_then (c_region ?_)))
    refine L_e hS (e_move rfl) rfl ?_; clear hS a; intro a hS
    (first | refine L_e hS (e_binN rfl rfl rfl (by omega)) rfl ?_ | refine L_e hS (e_bin rfl rfl rfl) rfl ?_); clear hS a; intro a hS
    refine L_e hS (e_assign rfl) rfl ?_; clear hS a; intro a hS
    refine L_nil ?_
    have hlN2 : l.length ≤ N := by
      rcases Nat.lt_or_ge l.length (N + 1) with h1 | h1
      · omega
      · have := hlN (by omega)
        omega
    refine ⟨(d2 / 10000, l ++ [d2 % 10000], v50), by simp only [List.length_append, List.length_cons, List.length_nil]; omega, ?_, inR_snoc hin (by omega), by simp only; omega, by simp only; omega, by simp only [List.length_append, List.length_cons, List.length_nil]; omega, ?_, ?_⟩
    · simp only [List.length_append, List.length_cons, List.length_nil, Nat.zero_add, e1]
      exact (hS.drop (by repeat (first | exact List.Sublist.refl _ | apply List.Sublist.cons_cons | apply List.Sublist.cons))).slots (by exact ⟨rfl, rfl, rfl, rfl, rfl, trivial⟩)
    · simp only [List.length_append, List.length_cons, List.length_nil, Nat.zero_add]
      intro h1
      have za : gd xs l.length = 0 := by unfold gd; rw [List.getElem?_eq_none (by omega)]; rfl
      have zb : gd ys l.length = 0 := by unfold gd; rw [List.getElem?_eq_none (by omega)]; rfl
      omega
    · simp only [List.length_append, List.length_cons, List.length_nil, Nat.zero_add]
      rw [nv_snoc, hs2, Int.pow_succ]
  refine wp_exit ?_
  refine x_then (x_then (x_hit ?_))
  refine n_then (c_seq (c_region ?_))
  refine L_e hS (e_move rfl) rfl ?_; clear hS a; intro a hS
  refine L_e hS (e_assign rfl) rfl ?_; clear hS a; intro a hS
  refine L_nil (n_then (wp_ret ?_))
  refine c_ret1 hS Tryz.results101 (.tmp rfl) ?_
  refine ⟨⟨(l, sv), hin, ?_, hll⟩, rfl, hS.chg, hS.new (X := ownA 3 1 sv l.length (l.flatMap encD)) (by repeat (first | exact .head _ | refine .tail _ ?_)) rfl⟩
  rw [hsum, List.drop_eq_nil_of_le (by omega), List.drop_eq_nil_of_le (by omega), show cy = 0 by omega]
  simp [nv]
theorem sub_step {S P o c A B a b A' B' x c' : Int} (h : S = o + P * (A - B - c)) (hA : A = a + 10000 * A') (hB : B = b + 10000 * B') (hx : x = a - c - b + 10000 * c') : S = (o + P * x) + P * 10000 * (A' - B' - c') := by
  have e : A - B - c = x + 10000 * (A' - B' - c') := by omega
  rw [h, e, Int.mul_add, Int.mul_assoc]; omega
set_option maxRecDepth 100000 in
theorem sub_P (p q : Option (Nat × Nat)) (c1 c2 : Nat) (xs ys : List Int) (hx : inR xs) (hy : inR ys) (hN : xs.length ≤ 1000000) (hly : ys.length ≤ xs.length) (hle : nv ys ≤ nv xs) (w0 : World) (h : (twoA p q xs ys).ok w0) :
    NewC Tryz.prog 103 [sliceV p xs.length c1, sliceV q ys.length c2] w0 (fun r : { r : Digs // inR r.1 ∧ nv r.1 = nv xs - nv ys ∧ r.1.length ≤ xs.length } => r.1.2) (fun r => digA r.1) := by
  have hp := h.now.1
  have hq := h.now.2
  refine c_enter [(0, sliceV p xs.length c1), (1, sliceV q ys.length c2)] [twoA p q xs ys] noB Tryz.func103 rfl Tryz.ntmps103 ⟨rfl, rfl, trivial⟩ rfl (by intro X hX; obtain rfl := List.mem_singleton.1 hX; exact h) (by simp) (by intro X hX hm; obtain rfl := List.mem_singleton.1 hX; cases hm) ?_
  intro a hS
  refine c_seq (c_region ?_)
  refine L_e hS (e_assign rfl) rfl ?_; clear hS a; intro a hS
  refine L_nil (n_then (c_seq (c_region ?_)))
  refine L_e hS (e_assign rfl) rfl ?_; clear hS a; intro a hS
  refine L_nil (n_then (c_seq (c_region ?_)))
  refine L_e hS (e_assign rfl) rfl ?_; clear hS a; intro a hS
  refine L_nil (n_then (c_seq (c_seq (c_region ?_))))
  refine L_e hS (e_assign rfl) rfl ?_; clear hS a; intro a hS
  refine L_nil (n_then (wp_block ?_))
  skip
  refine c_loop (γ := (Int × List Int × Value)) (fun G a w => St 40 noB w0 a w [(0, sliceV p xs.length c1), (1, sliceV q ys.length c2), (5, G.2.2), (6, .int .i64 G.1), (7, .int .i64 (G.2.1.length : Int))] [ownA 3 1 G.2.2 G.2.1.length (G.2.1.flatMap encD), twoA p q xs ys] ∧ inR G.2.1 ∧ 0 ≤ G.1 ∧ G.1 ≤ 1 ∧ G.2.1.length ≤ xs.length ∧ nv xs - nv ys = nv G.2.1 + 10000 ^ G.2.1.length * (nv (xs.drop G.2.1.length) - nv (ys.drop G.2.1.length) - G.1)) (fun G => xs.length - G.2.1.length) (0, [], .slice none 0 0) ⟨(hS.own_nil 3 1).slots ⟨rfl, rfl, rfl, rfl, rfl, trivial⟩, (by intro d hd; cases hd), by decide, by decide, Nat.zero_le _, by simp [nv]⟩ ?_
  clear hS a; (try clear w); intro G a w hI
  obtain ⟨cy, l, sv⟩ := G
  obtain ⟨hS, hin, hc0, hc1, hll, hsum⟩ := hI
  simp only at hS hin hc0 hc1 hll hsum
  have ga := gd_in hx l.length
  have gb := gd_in hy l.length
  have da := nv_drop xs l.length
  have db := nv_drop ys l.length
  refine c_seq (c_seq (c_region ?_))
  refine L_e hS (e_move rfl) rfl ?_; clear hS a; intro a hS
  refine L_e hS (e_move rfl) rfl ?_; clear hS a; intro a hS
  refine L_e hS (e_len rfl rfl ty_sl137) rfl ?_; clear hS a; intro a hS
  refine L_e hS (e_bin rfl rfl rfl) rfl ?_; clear hS a; intro a hS
  refine L_nil (n_then ?_)
  first | refine c_ifD hS rfl (fun hc12 => ?_) (fun hc12 => ?_) | refine c_if hS rfl (fun hc12 => ?_) (fun hc12 => ?_)
  ·
    obtain ⟨d, hd⟩ : ∃ d, xs[l.length]? = some d := ⟨xs[l.length]'(by omega), List.getElem?_eq_getElem (by omega)⟩
    obtain ⟨b1, o1, rfl⟩ := two_pos hp (fun e => by rw [e] at hd; cases hd)
    have hga : gd xs l.length = d := by unfold gd; rw [hd]; rfl
    refine wp_skip (n_then (c_seq (wp_block (c_seq (c_region ?_)))))
    refine L_e hS (e_move rfl) rfl ?_; clear hS a; intro a hS
    refine L_e hS (e_move rfl) rfl ?_; clear hS a; intro a hS
    refine L_e hS (e_ixN rfl rfl ty_sl137 ty_sz3 (by omega)) rfl ?_; clear hS a; intro a hS
    refine L_e hS (e_loadC rfl ty_sc3 (two_l (by repeat (first | exact .head _ | refine .tail _ ?_)) hd)) rfl ?_; clear hS a; intro a hS
    refine L_e hS (e_move rfl) rfl ?_; clear hS a; intro a hS
    (first | refine L_e hS (e_binN rfl rfl rfl (by omega)) rfl ?_ | refine L_e hS (e_bin rfl rfl rfl) rfl ?_); clear hS a; intro a hS
    refine L_e hS (e_assign rfl) rfl ?_; clear hS a; intro a hS
    refine L_nil (n_then ?_)
    refine c_cut (fun a w => ∃ d1 : Int, St 40 noB w0 a w [(8, .int .i64 d1), (0, sliceV (some (b1, o1)) xs.length c1), (1, sliceV q ys.length c2), (5, sv), (6, .int .i64 cy), (7, .int .i64 (l.length : Int))] [ownA 3 1 sv l.length (l.flatMap encD), twoA (some (b1, o1)) q xs ys] ∧ d1 = gd xs l.length - cy - gd ys l.length) ?_ ?_
    ·
      refine c_seq (c_region ?_)
      refine L_e hS (e_move rfl) rfl ?_; clear hS a; intro a hS
      refine L_e hS (e_move rfl) rfl ?_; clear hS a; intro a hS
      refine L_e hS (e_len rfl rfl ty_sl137) rfl ?_; clear hS a; intro a hS
      refine L_e hS (e_bin rfl rfl rfl) rfl ?_; clear hS a; intro a hS
      refine L_nil (n_then ?_)
      first | refine c_ifD hS rfl (fun hc24 => ?_) (fun hc24 => ?_) | refine c_if hS rfl (fun hc24 => ?_) (fun hc24 => ?_)
      ·
        obtain ⟨e, he⟩ : ∃ d, ys[l.length]? = some d := ⟨ys[l.length]'(by omega), List.getElem?_eq_getElem (by omega)⟩
        obtain ⟨b2, o2, rfl⟩ := two_pos hq (fun e => by rw [e] at he; cases he)
        have hgd : gd ys l.length = e := by unfold gd; rw [he]; rfl
        refine c_region ?_
        refine L_e hS (e_move rfl) rfl ?_; clear hS a; intro a hS
        refine L_e hS (e_move rfl) rfl ?_; clear hS a; intro a hS
        refine L_e hS (e_move rfl) rfl ?_; clear hS a; intro a hS
        refine L_e hS (e_ixN rfl rfl ty_sl137 ty_sz3 (by omega)) rfl ?_; clear hS a; intro a hS
        refine L_e hS (e_loadC rfl ty_sc3 (two_r (by repeat (first | exact .head _ | refine .tail _ ?_)) he)) rfl ?_; clear hS a; intro a hS
        (first | refine L_e hS (e_binN rfl rfl rfl (by omega)) rfl ?_ | refine L_e hS (e_bin rfl rfl rfl) rfl ?_); clear hS a; intro a hS
        refine L_e hS (e_assign rfl) rfl ?_; clear hS a; intro a hS
        refine L_nil ?_
        exact ⟨_, hS.slots (by exact ⟨rfl, rfl, rfl, rfl, rfl, rfl, trivial⟩), by omega⟩
      have hgd : gd ys l.length = 0 := by unfold gd; rw [List.getElem?_eq_none (by omega)]; rfl
      refine wp_skip ?_
      exact ⟨_, hS.slots (by exact ⟨rfl, rfl, rfl, rfl, rfl, rfl, trivial⟩), by omega⟩
    clear hS a; (try clear w); intro a w hS
    obtain ⟨d1, hS, hd1⟩ := hS
    refine c_seq (c_region ?_)
    refine L_e hS (e_assign rfl) rfl ?_; clear hS a; intro a hS
    refine L_nil (n_then ?_)
    refine c_cut (fun a w => ∃ d2 c' : Int, St 40 noB w0 a w [(8, .int .i64 d2), (0, sliceV (some (b1, o1)) xs.length c1), (1, sliceV q ys.length c2), (5, sv), (6, .int .i64 c'), (7, .int .i64 (l.length : Int))] [ownA 3 1 sv l.length (l.flatMap encD), twoA (some (b1, o1)) q xs ys] ∧ (0 ≤ d2 ∧ d2 ≤ 9999) ∧ (0 ≤ c' ∧ c' ≤ 1) ∧ d2 = gd xs l.length - cy - gd ys l.length + 10000 * c') ?_ ?_
    ·
      refine c_seq (c_region ?_)
      refine L_e hS (e_move rfl) rfl ?_; clear hS a; intro a hS
      refine L_e hS (e_bin rfl rfl rfl) rfl ?_; clear hS a; intro a hS
      refine L_nil (n_then ?_)
      first | refine c_ifD hS rfl (fun hc32 => ?_) (fun hc32 => ?_) | refine c_if hS rfl (fun hc32 => ?_) (fun hc32 => ?_)
      ·
        refine c_seq (c_region ?_)
        refine L_e hS (e_move rfl) rfl ?_; clear hS a; intro a hS
        (first | refine L_e hS (e_binN rfl rfl rfl (by omega)) rfl ?_ | refine L_e hS (e_bin rfl rfl rfl) rfl ?_); clear hS a; intro a hS
        refine L_e hS (e_assign rfl) rfl ?_; clear hS a; intro a hS
        refine L_nil (n_then (c_region ?_))
        refine L_e hS (e_assign rfl) rfl ?_; clear hS a; intro a hS
        refine L_nil ?_
        exact ⟨_, _, hS.slots (by exact ⟨rfl, rfl, rfl, rfl, rfl, rfl, trivial⟩), by omega, by decide, by omega⟩
      refine wp_skip ?_
      exact ⟨_, _, hS.slots (by exact ⟨rfl, rfl, rfl, rfl, rfl, rfl, trivial⟩), by omega, by decide, by omega⟩
    clear hS a; (try clear w); intro a w hS
    obtain ⟨d2, c', hS, hb2, hbc, hd2⟩ := hS
    have e1 : (l ++ [d2]).flatMap encD = l.flatMap encD ++ [.int .i64 d2] := by simp [encD]
    have hs2 := sub_step hsum da db hd2
    refine c_region ?_
    refine L_e hS (e_move rfl) rfl ?_; clear hS a; intro a hS
    refine L_e hS (e_move rfl) rfl ?_; clear hS a; intro a hS
    refine L_op (s_bslice hS ty_sl137 ty_sz3 ty_z3 rfl rfl rfl rfl (.one rfl rfl rfl .nil) rfl ?_); clear hS a; (try clear w); intro a w b37 hS
    refine L_op (s_append1 hS rfl rfl ty_sl137 ty_sz3 ty_by3 ty_z3 rfl rfl rfl (by repeat constructor) (by repeat constructor) (by rfl) (by rfl) (fun _ => (by repeat constructor)) (by omega) ?_); clear hS a; (try clear w); intro v38 a w hv38 hS
    refine L_e hS (e_assign rfl) rfl ?_; clear hS a; intro a hS
    refine L_nil (n_block (n_then (c_region ?_)))
    refine L_e hS (e_move rfl) rfl ?_; clear hS a; intro a hS
    (first | refine L_e hS (e_binN rfl rfl rfl (by omega)) rfl ?_ | refine L_e hS (e_bin rfl rfl rfl) rfl ?_); clear hS a; intro a hS
    refine L_e hS (e_assign rfl) rfl ?_; clear hS a; intro a hS
    refine L_nil ?_
    refine ⟨(c', l ++ [d2], v38), by simp only [List.length_append, List.length_cons, List.length_nil]; omega, ?_, inR_snoc hin hb2, hbc.1, hbc.2, by simp only [List.length_append, List.length_cons, List.length_nil]; omega, ?_⟩
    · simp only [List.length_append, List.length_cons, List.length_nil, Nat.zero_add, e1]
      exact (hS.drop (by repeat (first | exact List.Sublist.refl _ | apply List.Sublist.cons_cons | apply List.Sublist.cons))).slots (by exact ⟨rfl, rfl, rfl, rfl, rfl, trivial⟩)
    · simp only [List.length_append, List.length_cons, List.length_nil, Nat.zero_add]
      rw [nv_snoc, hs2, Int.pow_succ]
  refine wp_exit ?_
  refine x_then (x_then (x_hit ?_))
  refine n_then (c_seq (c_region ?_))
  refine L_e hS (e_move rfl) rfl ?_; clear hS a; intro a hS
  refine L_e hS (e_assign rfl) rfl ?_; clear hS a; intro a hS
  refine L_nil (n_then (wp_ret ?_))
  refine c_ret1 hS Tryz.results103 (.tmp rfl) ?_
  refine ⟨⟨(l, sv), hin, ?_, hll⟩, rfl, hS.chg, hS.new (X := ownA 3 1 sv l.length (l.flatMap encD)) (by repeat (first | exact .head _ | refine .tail _ ?_)) rfl⟩
  rw [List.drop_eq_nil_of_le (show xs.length ≤ l.length by omega), List.drop_eq_nil_of_le (show ys.length ≤ l.length by omega)] at hsum
  have h1 := nv_lt hin
  simp only [nv, Int.sub_self, Int.zero_sub] at hsum
  have h2 : cy = 0 := by
    rcases (show cy = 0 ∨ cy = 1 by omega) with h2 | rfl
    · exact h2
    · rw [Int.mul_neg, Int.mul_one] at hsum; omega
  subst h2
  simp only [Int.neg_zero, Int.mul_zero, Int.add_zero] at hsum
  exact hsum.symm
end Go.Proofs.YtheofhegdjjfgaaGreat

namespace Go.Proofs.YtheofhegdjjfgaaGreat
open Go.RowKit
theorem two_swap {p q : Option (Nat × Nat)} {xs ys : List Int} {w : World} (h : (twoA p q xs ys).ok w) : (twoA q p ys xs).ok w :=
  two_ok h.now.2 h.now.1 (fun r e => h.lt r.1 (.inr ⟨r.2, e⟩)) (fun r e => h.lt r.1 (.inl ⟨r.2, e⟩))
set_option maxHeartbeats 1000000 in
set_option maxRecDepth 100000 in
theorem BigAdd_P (p q : Option (Nat × Nat)) (c1 c2 : Nat) (x y : Int) (N : Nat) (hN : N ≤ 100000) (hx : (dgs x.natAbs).length ≤ N) (hy : (dgs y.natAbs).length ≤ N) (w0 : World) (h : (twoA p q (dgs x.natAbs) (dgs y.natAbs)).ok w0) :
    NewC Tryz.prog 63 [bigV x p c1, bigV y q c2] w0 (fun r : At (x + y) => bigV (x + y) (some (r.1.1, 0)) r.1.2) (fun r => bigA (x + y) r.1.1) := by
  refine c_enter [(0, bigV x p c1), (1, bigV y q c2)] [twoA p q (dgs x.natAbs) (dgs y.natAbs)] noB Tryz.func63 rfl Tryz.ntmps63 ⟨rfl, rfl, trivial⟩ rfl (by intro X hX; obtain rfl := List.mem_singleton.1 hX; exact h) (by simp) (by intro X hX hm; obtain rfl := List.mem_singleton.1 hX; cases hm) ?_
  intro a hS
  refine c_seq (c_region ?_)
  refine L_op (s_boxA hS rfl rfl ?_); clear hS a; (try clear w); intro a w b2 hS
  refine L_op (s_boxA hS rfl rfl ?_); clear hS a; (try clear w); intro a w b3 hS
  refine L_op (s_alloc hS ty_z139 rfl ?_); clear hS a; (try clear w); intro a w b4 hS
  refine L_nil (n_then (c_seq (c_seq (c_region ?_))))
  (first | refine L_e hS (e_fa0 rfl ty_fo139_0) rfl ?_ | refine L_e hS (e_faK rfl ty_fo139_0) rfl ?_); clear hS a; intro a hS
  refine L_e hS (e_load rfl (by repeat constructor) ty_sc4 (by rfl)) rfl ?_; clear hS a; intro a hS
  (first | refine L_e hS (e_fa0 rfl ty_fo139_0) rfl ?_ | refine L_e hS (e_faK rfl ty_fo139_0) rfl ?_); clear hS a; intro a hS
  refine L_e hS (e_load rfl (by repeat constructor) ty_sc4 (by rfl)) rfl ?_; clear hS a; intro a hS
  refine L_e hS (e_binB rfl rfl ty_u4 rfl) rfl ?_; clear hS a; intro a hS
  refine L_nil (n_then ?_)
  first | refine c_ifD hS rfl (fun hc9 => ?_) (fun hc9 => ?_) | refine c_if hS rfl (fun hc9 => ?_) (fun hc9 => ?_)
  ·
    have hsame : x < 0 ↔ y < 0 := by simpa using hc9
    refine c_seq ?_
    refine c_drawS [8] (by kernel_rfl) hS (sub_cons (X := .blk b2 _ _) (by repeat constructor) (sub_cons (X := .blk b3 _ _) (by repeat constructor) sub_nil)) ?_; clear hS; (try clear w); intro w hS
    simp only [List.length_cons, List.length_nil, Nat.zero_add, Nat.reduceAdd, List.replicate]
    (first | refine Zt0 0 (tf 1 8) hS rfl want_none (e_fa0 rfl ty_fo139_0) rfl (by kernel_rfl) rfl ?_ | refine Zt0 0 (tf 1 8) hS rfl want_none (e_faK rfl ty_fo139_0) rfl (by kernel_rfl) rfl ?_); clear hS a; intro a hS
    refine Zt 1 (tf 2 7) hS rfl want_none (e_load rfl (by repeat constructor) ty_sc4 (by rfl)) rfl (by kernel_rfl) (sub_cons (by repeat constructor) (sub_cons (by repeat constructor) sub_nil)) rfl ?_; clear hS a; intro a hS
    (first | refine Zt0 2 (tf 3 6) hS rfl want_none (e_fa0 rfl ty_fo139_1) rfl (by kernel_rfl) rfl ?_ | refine Zt0 2 (tf 3 6) hS rfl want_none (e_faK rfl ty_fo139_1) rfl (by kernel_rfl) rfl ?_); clear hS a; intro a hS
    refine Zt 3 (tf 4 5) hS rfl want_none (e_load rfl (by repeat constructor) ty_sc137 (by rfl)) rfl (by kernel_rfl) (sub_cons (by repeat constructor) (sub_cons (by repeat constructor) sub_nil)) rfl ?_; clear hS a; intro a hS
    (first | refine Zt0 4 (tf 5 4) hS rfl want_none (e_fa0 rfl ty_fo139_1) rfl (by kernel_rfl) rfl ?_ | refine Zt0 4 (tf 5 4) hS rfl want_none (e_faK rfl ty_fo139_1) rfl (by kernel_rfl) rfl ?_); clear hS a; intro a hS
    refine Zt 5 (tf 6 3) hS rfl want_none (e_load rfl (by repeat constructor) ty_sc137 (by rfl)) rfl (by kernel_rfl) (sub_cons (by repeat constructor) (sub_cons (by repeat constructor) sub_nil)) rfl ?_; clear hS a; intro a hS
    refine Z_one (i := 6) rfl (want_none a hS.sl) (listed' := (tf 7 2)) rfl (by kernel_rfl) (s_callN hS (.cons rfl (.cons rfl .nil)) cf101 rfl (add_P p q c1 c2 (dgs x.natAbs) (dgs y.natAbs) (inR_dgs _) (inR_dgs _) N (by omega) hx hy _ (hS.ok _ (by repeat (first | exact .head _ | refine .tail _ ?_)))) ?_); clear hS a; (try clear w); intro x16 a w hS
    obtain ⟨⟨l, sv⟩, hin, hnv, hll⟩ := x16
    simp only at hin hnv hll
    obtain ⟨p5, c5, e5, h4, h5, h6, h7⟩ := own_digs (hS.get (X := digA (l, sv)) (by repeat (first | exact .head _ | refine .tail _ ?_)))
    have e5 : sv = sliceV p5 l.length c5 := e5
    subst e5
    have hT := trim_P (decide (x < 0)) p5 c5 h4 l hin h5 (by omega) w h6 h7
    rw [show sgn (decide (x < 0)) (nv l) = x + y by rw [nv_dgs, nv_dgs] at hnv; unfold sgn; by_cases hneg : x < 0 <;> simp [hneg] <;> omega] at hT
    refine Z_and hS (sub_cons (by repeat constructor) (sub_cons (by repeat constructor) sub_nil)) ?_
    refine Z_one (i := 7) rfl (want_none a hS.sl) (listed' := (tf 8 1)) rfl (by kernel_rfl) (s_callN hS (.cons rfl (.cons rfl .nil)) cf100 rfl (hT) ?_); clear hS a; (try clear w); intro x17 a w hS
    refine Z_and hS (sub_cons (by repeat constructor) (sub_cons (by repeat constructor) sub_nil)) ?_
    refine Z_one (i := 8) rfl (want_none a hS.sl) (listed' := (tf 9 0)) rfl (by kernel_rfl) (s_storeA hS rfl rfl ty_sz139 (by repeat constructor) (by rfl) (by rfl) (by rfl) ?_); clear hS; (try clear w); intro w hS
    refine Z_last (by simp) ?_
    refine Z_done (by kernel_rfl) ?_
    refine n_then (wp_ret (r_then ?_))
    refine c_ret1 hS Tryz.results63 (.cellA rfl (by repeat constructor) ty_st139 ty_sz139 (by rfl)) ?_
    exact ⟨x17, rfl, hS.chg, hS.new (X := bigA (x + y) x17.1.1) (by repeat (first | exact .head _ | refine .tail _ ?_)) rfl⟩
  have hdiff : ¬ (x < 0 ↔ y < 0) := by simpa using hc9
  refine wp_skip (n_then (c_seq (c_seq (c_region ?_))))
  (first | refine L_e hS (e_fa0 rfl ty_fo139_1) rfl ?_ | refine L_e hS (e_faK rfl ty_fo139_1) rfl ?_); clear hS a; intro a hS
  refine L_e hS (e_load rfl (by repeat constructor) ty_sc137 (by rfl)) rfl ?_; clear hS a; intro a hS
  (first | refine L_e hS (e_fa0 rfl ty_fo139_1) rfl ?_ | refine L_e hS (e_faK rfl ty_fo139_1) rfl ?_); clear hS a; intro a hS
  refine L_e hS (e_load rfl (by repeat constructor) ty_sc137 (by rfl)) rfl ?_; clear hS a; intro a hS
  refine L_op (s_callP hS (.cons rfl (.cons rfl .nil)) cf102 rfl (cmp_P p q c1 c2 x.natAbs y.natAbs (by omega) _ (hS.ok _ (by repeat (first | exact .head _ | refine .tail _ ?_)))) ?_); clear hS a; (try clear w); intro a w hS
  refine L_e hS (e_bin rfl rfl rfl) rfl ?_; clear hS a; intro a hS
  refine L_nil (n_then ?_)
  first | refine c_ifD hS rfl (fun hc23 => ?_) (fun hc23 => ?_) | refine c_if hS rfl (fun hc23 => ?_) (fun hc23 => ?_)
  ·
    have hge : y.natAbs ≤ x.natAbs := by
      unfold cmpN at hc23
      split at hc23
      · omega
      · omega
    have hlm := dgs_len_mono hge
    refine c_seq ?_
    refine c_drawS [8] (by kernel_rfl) hS (sub_cons (X := .blk b2 _ _) (by repeat constructor) (sub_cons (X := .blk b3 _ _) (by repeat constructor) sub_nil)) ?_; clear hS; (try clear w); intro w hS
    simp only [List.length_cons, List.length_nil, Nat.zero_add, Nat.reduceAdd, List.replicate]
    (first | refine Zt0 0 (tf 1 8) hS rfl want_none (e_fa0 rfl ty_fo139_0) rfl (by kernel_rfl) rfl ?_ | refine Zt0 0 (tf 1 8) hS rfl want_none (e_faK rfl ty_fo139_0) rfl (by kernel_rfl) rfl ?_); clear hS a; intro a hS
    refine Zt 1 (tf 2 7) hS rfl want_none (e_load rfl (by repeat constructor) ty_sc4 (by rfl)) rfl (by kernel_rfl) (sub_cons (by repeat constructor) (sub_cons (by repeat constructor) sub_nil)) rfl ?_; clear hS a; intro a hS
    (first | refine Zt0 2 (tf 3 6) hS rfl want_none (e_fa0 rfl ty_fo139_1) rfl (by kernel_rfl) rfl ?_ | refine Zt0 2 (tf 3 6) hS rfl want_none (e_faK rfl ty_fo139_1) rfl (by kernel_rfl) rfl ?_); clear hS a; intro a hS
    refine Zt 3 (tf 4 5) hS rfl want_none (e_load rfl (by repeat constructor) ty_sc137 (by rfl)) rfl (by kernel_rfl) (sub_cons (by repeat constructor) (sub_cons (by repeat constructor) sub_nil)) rfl ?_; clear hS a; intro a hS
    (first | refine Zt0 4 (tf 5 4) hS rfl want_none (e_fa0 rfl ty_fo139_1) rfl (by kernel_rfl) rfl ?_ | refine Zt0 4 (tf 5 4) hS rfl want_none (e_faK rfl ty_fo139_1) rfl (by kernel_rfl) rfl ?_); clear hS a; intro a hS
    refine Zt 5 (tf 6 3) hS rfl want_none (e_load rfl (by repeat constructor) ty_sc137 (by rfl)) rfl (by kernel_rfl) (sub_cons (by repeat constructor) (sub_cons (by repeat constructor) sub_nil)) rfl ?_; clear hS a; intro a hS
    refine Z_one (i := 6) rfl (want_none a hS.sl) (listed' := (tf 7 2)) rfl (by kernel_rfl) (s_callN hS (.cons rfl (.cons rfl .nil)) cf103 rfl (sub_P p q c1 c2 (dgs x.natAbs) (dgs y.natAbs) (inR_dgs _) (inR_dgs _) (by omega) hlm (by rw [nv_dgs, nv_dgs]; omega) _ (hS.ok _ (by repeat (first | exact .head _ | refine .tail _ ?_)))) ?_); clear hS a; (try clear w); intro x30 a w hS
    obtain ⟨⟨l, sv⟩, hin, hnv, hll⟩ := x30
    simp only at hin hnv hll
    obtain ⟨p5, c5, e5, h4, h5, h6, h7⟩ := own_digs (hS.get (X := digA (l, sv)) (by repeat (first | exact .head _ | refine .tail _ ?_)))
    have e5 : sv = sliceV p5 l.length c5 := e5
    subst e5
    have hT := trim_P (decide (x < 0)) p5 c5 h4 l hin h5 (by omega) w h6 h7
    rw [show sgn (decide (x < 0)) (nv l) = x + y by rw [nv_dgs, nv_dgs] at hnv; unfold sgn; by_cases hneg : x < 0 <;> simp [hneg] <;> omega] at hT
    refine Z_and hS (sub_cons (by repeat constructor) (sub_cons (by repeat constructor) sub_nil)) ?_
    refine Z_one (i := 7) rfl (want_none a hS.sl) (listed' := (tf 8 1)) rfl (by kernel_rfl) (s_callN hS (.cons rfl (.cons rfl .nil)) cf100 rfl (hT) ?_); clear hS a; (try clear w); intro x31 a w hS
    refine Z_and hS (sub_cons (by repeat constructor) (sub_cons (by repeat constructor) sub_nil)) ?_
    refine Z_one (i := 8) rfl (want_none a hS.sl) (listed' := (tf 9 0)) rfl (by kernel_rfl) (s_storeA hS rfl rfl ty_sz139 (by repeat constructor) (by rfl) (by rfl) (by rfl) ?_); clear hS; (try clear w); intro w hS
    refine Z_last (by simp) ?_
    refine Z_done (by kernel_rfl) ?_
    refine n_then (wp_ret (r_then ?_))
    refine c_ret1 hS Tryz.results63 (.cellA rfl (by repeat constructor) ty_st139 ty_sz139 (by rfl)) ?_
    exact ⟨x31, rfl, hS.chg, hS.new (X := bigA (x + y) x31.1.1) (by repeat (first | exact .head _ | refine .tail _ ?_)) rfl⟩
  have hge : x.natAbs ≤ y.natAbs := by
    unfold cmpN at hc23
    split at hc23
    · omega
    · split at hc23 <;> omega
  have hlm := dgs_len_mono hge
  refine wp_skip (n_then (c_seq ?_))
  refine c_drawS [8] (by kernel_rfl) hS (sub_cons (X := .blk b2 _ _) (by repeat constructor) (sub_cons (X := .blk b3 _ _) (by repeat constructor) sub_nil)) ?_; clear hS; (try clear w); intro w hS
  simp only [List.length_cons, List.length_nil, Nat.zero_add, Nat.reduceAdd, List.replicate]
  (first | refine Zt0 0 (tf 1 8) hS rfl want_none (e_fa0 rfl ty_fo139_0) rfl (by kernel_rfl) rfl ?_ | refine Zt0 0 (tf 1 8) hS rfl want_none (e_faK rfl ty_fo139_0) rfl (by kernel_rfl) rfl ?_); clear hS a; intro a hS
  refine Zt 1 (tf 2 7) hS rfl want_none (e_load rfl (by repeat constructor) ty_sc4 (by rfl)) rfl (by kernel_rfl) (sub_cons (by repeat constructor) (sub_cons (by repeat constructor) sub_nil)) rfl ?_; clear hS a; intro a hS
  (first | refine Zt0 2 (tf 3 6) hS rfl want_none (e_fa0 rfl ty_fo139_1) rfl (by kernel_rfl) rfl ?_ | refine Zt0 2 (tf 3 6) hS rfl want_none (e_faK rfl ty_fo139_1) rfl (by kernel_rfl) rfl ?_); clear hS a; intro a hS
  refine Zt 3 (tf 4 5) hS rfl want_none (e_load rfl (by repeat constructor) ty_sc137 (by rfl)) rfl (by kernel_rfl) (sub_cons (by repeat constructor) (sub_cons (by repeat constructor) sub_nil)) rfl ?_; clear hS a; intro a hS
  (first | refine Zt0 4 (tf 5 4) hS rfl want_none (e_fa0 rfl ty_fo139_1) rfl (by kernel_rfl) rfl ?_ | refine Zt0 4 (tf 5 4) hS rfl want_none (e_faK rfl ty_fo139_1) rfl (by kernel_rfl) rfl ?_); clear hS a; intro a hS
  refine Zt 5 (tf 6 3) hS rfl want_none (e_load rfl (by repeat constructor) ty_sc137 (by rfl)) rfl (by kernel_rfl) (sub_cons (by repeat constructor) (sub_cons (by repeat constructor) sub_nil)) rfl ?_; clear hS a; intro a hS
  refine Z_one (i := 6) rfl (want_none a hS.sl) (listed' := (tf 7 2)) rfl (by kernel_rfl) (s_callN hS (.cons rfl (.cons rfl .nil)) cf103 rfl (sub_P q p c2 c1 (dgs y.natAbs) (dgs x.natAbs) (inR_dgs _) (inR_dgs _) (by omega) hlm (by rw [nv_dgs, nv_dgs]; omega) _ (two_swap (hS.ok (twoA p q _ _) (by repeat (first | exact .head _ | refine .tail _ ?_))))) ?_); clear hS a; (try clear w); intro x38 a w hS
  obtain ⟨⟨l, sv⟩, hin, hnv, hll⟩ := x38
  simp only at hin hnv hll
  obtain ⟨p5, c5, e5, h4, h5, h6, h7⟩ := own_digs (hS.get (X := digA (l, sv)) (by repeat (first | exact .head _ | refine .tail _ ?_)))
  have e5 : sv = sliceV p5 l.length c5 := e5
  subst e5
  have hT := trim_P (decide (y < 0)) p5 c5 h4 l hin h5 (by omega) w h6 h7
  rw [show sgn (decide (y < 0)) (nv l) = x + y by rw [nv_dgs, nv_dgs] at hnv; unfold sgn; by_cases hneg : y < 0 <;> simp [hneg] <;> omega] at hT
  refine Z_and hS (sub_cons (by repeat constructor) (sub_cons (by repeat constructor) sub_nil)) ?_
  refine Z_one (i := 7) rfl (want_none a hS.sl) (listed' := (tf 8 1)) rfl (by kernel_rfl) (s_callN hS (.cons rfl (.cons rfl .nil)) cf100 rfl (hT) ?_); clear hS a; (try clear w); intro x39 a w hS
  refine Z_and hS (sub_cons (by repeat constructor) (sub_cons (by repeat constructor) sub_nil)) ?_
  refine Z_one (i := 8) rfl (want_none a hS.sl) (listed' := (tf 9 0)) rfl (by kernel_rfl) (s_storeA hS rfl rfl ty_sz139 (by repeat constructor) (by rfl) (by rfl) (by rfl) ?_); clear hS; (try clear w); intro w hS
  refine Z_last (by simp) ?_
  refine Z_done (by kernel_rfl) ?_
  refine n_then (wp_ret ?_)
  refine c_ret1 hS Tryz.results63 (.cellA rfl (by repeat constructor) ty_st139 ty_sz139 (by rfl)) ?_
  exact ⟨x39, rfl, hS.chg, hS.new (X := bigA (x + y) x39.1.1) (by repeat (first | exact .head _ | refine .tail _ ?_)) rfl⟩
section
variable {n : Nat} {F0 : Nat → Prop} {w0 w : World} {a : Act} {L : List (Nat × Value)} {Γ : List Asn}
end
theorem len20 {z : Int} (h : z.natAbs < 100000000000000000000000000000000000000000000000000000000000000000000000000000000) : (dgs z.natAbs).length ≤ 20 := dgs_length_le (Nat.lt_of_lt_of_le h (by decide))
end Go.Proofs.YtheofhegdjjfgaaGreat

namespace Go.Proofs.YtheofhegdjjfgaaGreat
open Go.RowKit
def dgP (z : Int) (p : Option (Nat × Nat)) : Asn := .any (fun k => ∃ off, p = some (k, off)) (RowP p 1 ((dgs z.natAbs).map encD)) true
theorem dgP_of {w : World} {z : Int} {b : Nat} (h : (bigA z b).ok w) : (dgP z (some (b, 0))).ok w :=
  ⟨fun k hk => by obtain ⟨off, e⟩ := hk; cases e; exact h.lt _ rfl, fun w' hw => h.hold w' (fun k hk => by obtain rfl : k = b := hk; exact hw _ ⟨0, rfl⟩)⟩
theorem dgP0 {w : World} : (dgP 0 none).ok w := ⟨fun k hk => (by obtain ⟨off, e⟩ := hk; cases e), fun w' _ => (by show _ = []; rw [show (0 : Int).natAbs = 0 from rfl, dgs_zero]; rfl)⟩
theorem dg_len0 : (dgs (0 : Int).natAbs).length = 0 := by rw [show (0 : Int).natAbs = 0 from rfl, dgs_zero]; rfl
theorem own_getT {Γ : List Asn} {g c m : Nat} {xs : List BL} (hm : ownA 71 3 (.slice (some ⟨g, 0, none⟩) m c) m (xs.flatMap encBl) ∈ Γ) {i : Nat} {x : BL} (hx : xs[i]? = some x) : ∀ w, Hd Γ w → ∀ j v, (encBl x)[j]? = some v → w.cell? ⟨g, 0 + i * 3 + j, none⟩ = some v := own_getL (enc := encBl) (s := 3) (fun _ => rfl) hm hx
end Go.Proofs.YtheofhegdjjfgaaGreat

namespace Go.Proofs.YtheofhegdjjfgaaGreat
open Go.RowKit
def pre (V : List Ent) (j : Nat) (r : List Pst) (k : Nat) : List Pst := (V.take j).flatMap (·.ps) ++ r.take k
end Go.Proofs.YtheofhegdjjfgaaGreat

namespace Go.Proofs.YtheofhegdjjfgaaGreat
namespace Wd
end Wd
end Go.Proofs.YtheofhegdjjfgaaGreat

namespace Go.Proofs.YtheofhegdjjfgaaGreat
open Go.RowKit
section
variable {n : Nat} {F0 : Nat → Prop} {w0 w : World} {a : Act} {L : List (Nat × Value)} {Γ : List Asn} {dst : Option Nat} {ty : Nat} {pos : String} {af : Array Edge} {g : Option (Nat × Bool)} {x : Operand}
end
end Go.Proofs.YtheofhegdjjfgaaGreat

namespace Go.Proofs.YtheofhegdjjfgaaGreat
open Go.RowKit
def byteAt (l : List UInt8) (i : Nat) : Nat := (l.getD i 0).toNat
def numBody (l : List UInt8) : List UInt8 := if 1 < l.length ∧ byteAt l 0 = 45 then l.drop 1 else l
def NumForm (l : List UInt8) : Prop := numBody l ≠ [] ∧ ¬ (1 < (numBody l).length ∧ byteAt (numBody l) 0 = 48) ∧ ¬ (numBody l = [48] ∧ 1 < l.length) ∧ ∀ j, j < (numBody l).length → 48 ≤ byteAt (numBody l) j ∧ byteAt (numBody l) j ≤ 57
instance (l : List UInt8) : Decidable (NumForm l) := by unfold NumForm; infer_instance
end Go.Proofs.YtheofhegdjjfgaaGreat

namespace Go.Proofs.YtheofhegdjjfgaaGreat
open Go.RowKit
def dvStep (a : Nat) (c : UInt8) : Nat := 10 * a + (c.toNat - 48)
def dv (l : List UInt8) : Nat := l.foldl dvStep 0
end Go.Proofs.YtheofhegdjjfgaaGreat

namespace Go.Proofs.YtheofhegdjjfgaaGreat
open Go.RowKit
end Go.Proofs.YtheofhegdjjfgaaGreat

namespace Go.Proofs.YtheofhegdjjfgaaGreat
open Go.RowKit
section
variable {n : Nat} {F0 : Nat → Prop} {w0 w : World} {a : Act} {L : List (Nat × Value)} {Γ : List Asn}
end
end Go.Proofs.YtheofhegdjjfgaaGreat

namespace Go.Proofs.YtheofhegdjjfgaaGreat
open Go.RowKit
end Go.Proofs.YtheofhegdjjfgaaGreat

namespace Go.Proofs.YtheofhegdjjfgaaGreat
open Go.RowKit
end Go.Proofs.YtheofhegdjjfgaaGreat

namespace Go.Proofs.YtheofhegdjjfgaaGreat
open Go.RowKit
section
variable {P : Program} {n : Nat} {a : Act} {L : List (Nat × Value)} {Γ : List Asn} {dst : Option Nat} {ty : Nat} {pos : String} {af : Array Edge} {g : Option (Nat × Bool)}
end
end Go.Proofs.YtheofhegdjjfgaaGreat

namespace Go.Proofs.YtheofhegdjjfgaaGreat
open Go.RowKit
end Go.Proofs.YtheofhegdjjfgaaGreat

namespace Go.Proofs.YtheofhegdjjfgaaGreat
open Go.RowKit
end Go.Proofs.YtheofhegdjjfgaaGreat

namespace Go.Proofs.YtheofhegdjjfgaaGreat
open Go.RowKit
end Go.Proofs.YtheofhegdjjfgaaGreat

namespace Go.Proofs.YtheofhegdjjfgaaGreat
open Go.RowKit
end Go.Proofs.YtheofhegdjjfgaaGreat

namespace Go.Proofs.YtheofhegdjjfgaaGreat
open Go.RowKit
section
variable {P : Program} {n : Nat} {a : Act} {L : List (Nat × Value)} {Γ : List Asn} {dst : Option Nat} {ty : Nat} {pos : String} {af : Array Edge} {g : Option (Nat × Bool)}
end
end Go.Proofs.YtheofhegdjjfgaaGreat

namespace Go.Proofs.YtheofhegdjjfgaaGreat
open Go.RowKit
set_option maxRecDepth 100000 in
theorem lCurrency_P (B : LB) (s : LS) (w0 : World) (h : ledφ B s w0) : PureC Tryz.prog 39 [.pointer (some ⟨B.lb, 0, none⟩)] w0 (.string s.cur) := by
  refine c_enter [(0, .pointer (some ⟨B.lb, 0, none⟩))] [ledA B s false] noB Tryz.func39 rfl Tryz.ntmps39 ⟨rfl, trivial⟩ rfl (okC (led_ok false h) okN) dis1 (mineC (by rfl) mineN) ?_
  intro a hS
  refine c_seq (c_region ?_)
  refine L_e hS (e_assign rfl) rfl ?_; clear hS a; intro a hS
  refine L_nil (n_then (c_seq (c_region ?_)))
  refine L_e hS (e_move rfl) rfl ?_; clear hS a; intro a hS
  refine L_e hS (e_nilCheck rfl) rfl ?_; clear hS a; intro a hS
  (first | refine L_e hS (e_fa0 rfl ty_fo88_0) rfl ?_ | refine L_e hS (e_faK rfl ty_fo88_0) rfl ?_); clear hS a; intro a hS
  refine L_e hS (e_loadC rfl ty_sc9 (led_cell (k := 0) (by repeat constructor) rfl)) rfl ?_; clear hS a; intro a hS
  refine L_e hS (e_assign rfl) rfl ?_; clear hS a; intro a hS
  refine L_nil (n_then (wp_ret ?_))
  refine c_ret1 hS Tryz.results39 (.tmp rfl) ?_
  exact ⟨rfl, hS.chg⟩
set_option maxRecDepth 100000 in
theorem lAccount_P (B : LB) (s : LS) (c : ByteArray) (w0 : World) (h : ledφ B s w0) : PureC Tryz.prog 45 [.pointer (some ⟨B.lb, 0, none⟩), .string c] w0 (.tuple [.agg (encAc (accOf s.acs c)).toArray, .bool (findA s.acs c).isSome].toArray) := by
  refine c_enter [(0, .pointer (some ⟨B.lb, 0, none⟩)), (1, .string c)] [ledA B s false] noB Tryz.func45 rfl Tryz.ntmps45 ⟨rfl, rfl, trivial⟩ rfl (okC (led_ok false h) okN) dis1 (mineC (by rfl) mineN) ?_
  intro a hS
  refine c_seq (c_region ?_)
  refine L_op (s_alloc hS ty_z35 rfl ?_); clear hS a; (try clear w); intro a w b4 hS
  refine L_e hS (e_assign rfl) rfl ?_; clear hS a; intro a hS
  refine L_nil (n_then (c_seq (c_region ?_)))
  refine L_e hS (e_move rfl) rfl ?_; clear hS a; intro a hS
  refine L_e hS (e_nilCheck rfl) rfl ?_; clear hS a; intro a hS
  (first | refine L_e hS (e_fa0 rfl ty_fo88_1) rfl ?_ | refine L_e hS (e_faK rfl ty_fo88_1) rfl ?_); clear hS a; intro a hS
  refine L_e hS (e_loadC rfl ty_sc84 (led_cell (k := 1) (by repeat constructor) rfl)) rfl ?_; clear hS a; intro a hS
  refine L_e hS (e_move rfl) rfl ?_; clear hS a; intro a hS
  refine L_e hS (e_lookupTC rfl rfl ty_mp84 ty_u9 ty_zv35 (fun w hh => (hh (ledA B s false) (by repeat constructor)).am)) rfl ?_; clear hS a; intro a hS
  rw [lk_acc, has_acc] at hS
  refine L_e hS (e_move rfl) rfl ?_; clear hS a; intro a hS
  refine L_e hS (e_extract rfl rfl) rfl ?_; clear hS a; intro a hS
  refine L_e hS (e_extract rfl rfl) rfl ?_; clear hS a; intro a hS
  refine L_op (s_alloc hS ty_z35 rfl ?_); clear hS a; (try clear w); intro a w b6 hS
  refine L_op (s_storeA hS rfl rfl ty_sz35 (by repeat constructor) (by rfl) (by rfl) (by rfl) ?_); clear hS; (try clear w); intro w hS
  refine L_e hS (e_assign rfl) rfl ?_; clear hS a; intro a hS
  refine L_nil (n_then (c_seq (c_region ?_)))
  refine L_e hS (e_loadA rfl (by repeat constructor) ty_st35 ty_sz35 (by rfl)) rfl ?_; clear hS a; intro a hS
  refine L_e hS (e_move rfl) rfl ?_; clear hS a; intro a hS
  refine L_op (s_storeA hS rfl rfl ty_sz35 (by repeat constructor) (by rfl) (by rfl) (by rfl) ?_); clear hS; (try clear w); intro w hS
  refine L_e hS (e_assign rfl) rfl ?_; clear hS a; intro a hS
  refine L_nil (n_then (wp_ret ?_))
  refine c_retN hS Tryz.results45 (.cons (.cellA rfl (by repeat constructor) ty_st35 ty_sz35 (by rfl)) (.cons (.tmp rfl) .nil)) rfl ?_
  exact ⟨rfl, hS.chg⟩
end Go.Proofs.YtheofhegdjjfgaaGreat

namespace Go.Proofs.YtheofhegdjjfgaaGreat
open Go.RowKit
theorem wsub_lo (a b : Int) : ExtC Tryz.prog 94 [.int .u64 (Wd.lo a), .int .u64 (Wd.lo b), .int .u64 0] (.tuple [.int .u64 (Wd.lo (a - b)), .int .u64 (Wd.bw a b)].toArray) := fun w => sub64_lo a b w
theorem wsub_hi (a b : Int) : ExtC Tryz.prog 94 [.int .u64 (Wd.hi a), .int .u64 (Wd.hi b), .int .u64 (Wd.bw a b)] (.tuple [.int .u64 (Wd.hi (a - b)), .int .u64 (Wd.bw2 a b)].toArray) := fun w => sub64_hi a b w
set_option maxRecDepth 100000 in
theorem Sub_P (x y : Int) (hx : Wd.fit x) (hy : Wd.fit y) (hs : Wd.fit (x - y)) (w0 : World) : PureC Tryz.prog 56 [.agg (wv x).toArray, .agg (wv y).toArray] w0 (.tuple [.agg (wv (x - y)).toArray, .int .i64 0].toArray) := by
  have i1 := Wd.hi_neg x hx
  have i2 := Wd.hi_neg y hy
  have i3 := Wd.hi_neg (x - y) hs
  refine c_enter [(0, .agg (wv x).toArray), (1, .agg (wv y).toArray)] [] noB Tryz.func56 rfl Tryz.ntmps56 ⟨rfl, rfl, trivial⟩ rfl (by simp) (by simp) (by simp) ?_
  intro a hS
  refine c_seq (c_region ?_)
  refine L_op (s_boxA hS rfl rfl ?_); clear hS a; (try clear w); intro a w b2 hS
  refine L_op (s_boxA hS rfl rfl ?_); clear hS a; (try clear w); intro a w b3 hS
  refine L_op (s_alloc hS ty_z131 rfl ?_); clear hS a; (try clear w); intro a w b4 hS
  refine L_e hS (e_assign rfl) rfl ?_; clear hS a; intro a hS
  refine L_nil (n_then (c_seq (c_region ?_)))
  (first | refine L_e hS (e_fa0 rfl ty_fo131_1) rfl ?_ | refine L_e hS (e_faK rfl ty_fo131_1) rfl ?_); clear hS a; intro a hS
  refine L_e hS (e_load rfl (by repeat constructor) ty_sc129 (by rfl)) rfl ?_; clear hS a; intro a hS
  (first | refine L_e hS (e_fa0 rfl ty_fo131_1) rfl ?_ | refine L_e hS (e_faK rfl ty_fo131_1) rfl ?_); clear hS a; intro a hS
  refine L_e hS (e_load rfl (by repeat constructor) ty_sc129 (by rfl)) rfl ?_; clear hS a; intro a hS
  refine L_e hS (e_extern (.cons rfl (.cons rfl (.cons rfl .nil))) (wsub_lo x y)) rfl ?_; clear hS a; intro a hS
  refine L_e hS (e_move rfl) rfl ?_; clear hS a; intro a hS
  refine L_e hS (e_extract rfl rfl) rfl ?_; clear hS a; intro a hS
  refine L_e hS (e_extract rfl rfl) rfl ?_; clear hS a; intro a hS
  refine L_e hS (e_assign rfl) rfl ?_; clear hS a; intro a hS
  refine L_e hS (e_assign rfl) rfl ?_; clear hS a; intro a hS
  refine L_nil (n_then (c_seq (c_region ?_)))
  (first | refine L_e hS (e_fa0 rfl ty_fo131_0) rfl ?_ | refine L_e hS (e_faK rfl ty_fo131_0) rfl ?_); clear hS a; intro a hS
  refine L_e hS (e_load rfl (by repeat constructor) ty_sc129 (by rfl)) rfl ?_; clear hS a; intro a hS
  (first | refine L_e hS (e_fa0 rfl ty_fo131_0) rfl ?_ | refine L_e hS (e_faK rfl ty_fo131_0) rfl ?_); clear hS a; intro a hS
  refine L_e hS (e_load rfl (by repeat constructor) ty_sc129 (by rfl)) rfl ?_; clear hS a; intro a hS
  refine L_e hS (e_move rfl) rfl ?_; clear hS a; intro a hS
  refine L_e hS (e_extern (.cons rfl (.cons rfl (.cons rfl .nil))) (wsub_hi x y)) rfl ?_; clear hS a; intro a hS
  refine L_e hS (e_move rfl) rfl ?_; clear hS a; intro a hS
  refine L_e hS (e_extract rfl rfl) rfl ?_; clear hS a; intro a hS
  refine L_e hS (e_extract rfl rfl) rfl ?_; clear hS a; intro a hS
  refine L_e hS (e_assign rfl) rfl ?_; clear hS a; intro a hS
  refine L_e hS (e_assign rfl) rfl ?_; clear hS a; intro a hS
  refine L_nil (n_then (c_seq (c_region ?_)))
  refine L_e hS (e_move rfl) rfl ?_; clear hS a; intro a hS
  refine L_e hS (e_move rfl) rfl ?_; clear hS a; intro a hS
  refine L_e hS (e_build ty_z131 ty_pl131 (.one rfl rfl rfl (by repeat constructor) (.one rfl rfl rfl (by repeat constructor) .nil))) rfl ?_; clear hS a; intro a hS
  refine L_op (s_alloc hS ty_z131 rfl ?_); clear hS a; (try clear w); intro a w b10 hS
  refine L_op (s_storeA hS rfl rfl ty_sz131 (by repeat constructor) (by rfl) (by rfl) (by rfl) ?_); clear hS; (try clear w); intro w hS
  refine L_nil (n_then (c_seq (c_seq ?_)))
  refine c_draw1 [] (by kernel_rfl) hS ?_; clear hS; (try clear w); intro w hS
  simp only [List.length_cons, List.length_nil, Nat.zero_add, Nat.reduceAdd, List.replicate]
  refine Zt 0 (tf 1 11) hS rfl want_none (e_loadA rfl (by repeat constructor) ty_st131 ty_sz131 (by rfl)) rfl (by kernel_rfl) (by intro X hX; repeat (first | exact hX | apply List.Mem.tail)) rfl ?_; clear hS a; intro a hS
  refine Zt 2 [true, false, true, false, false, false, false, false, false, false, false, false] hS rfl want_none (e_loadA rfl (by repeat constructor) ty_st131 ty_sz131 (by rfl)) rfl (by kernel_rfl) (by intro X hX; repeat (first | exact hX | apply List.Mem.tail)) rfl ?_; clear hS a; intro a hS
  refine Z_one (i := 1) rfl (want_none a hS.sl) (listed' := (tf 3 9)) rfl (by kernel_rfl) (s_callP hS (.cons rfl .nil) cf95 rfl (below_P x _) ?_); clear hS a; (try clear w); intro a w hS
  refine Z_and hS (by intro X hX; repeat (first | exact hX | apply List.Mem.tail)) ?_
  refine Z_one (i := 3) rfl (want_none a hS.sl) (listed' := (tf 4 8)) rfl (by kernel_rfl) (s_callP hS (.cons rfl .nil) cf95 rfl (below_P y _) ?_); clear hS a; (try clear w); intro a w hS
  refine Z_and hS (by intro X hX; repeat (first | exact hX | apply List.Mem.tail)) ?_
  refine Zt0 4 (tf 5 7) hS rfl want_none (e_binBn rfl rfl ty_u4) rfl (by kernel_rfl) rfl ?_; clear hS a; intro a hS
  refine Zt0 5 (tf 6 6) hS rfl want_none (e_move rfl) rfl (by kernel_rfl) rfl ?_; clear hS a; intro a hS
  (first | refine g_splitD (t := 36) hS rfl ?_ ?_ | refine g_split (t := 36) hS rfl ?_ ?_) <;> (clear hS; intro hg36 hS)
  ·
    refine Zt 6 (tf 7 5) hS rfl (want_go rfl rfl) (e_loadA rfl (by repeat constructor) ty_st131 ty_sz131 (by rfl)) rfl (by kernel_rfl) (by intro X hX; repeat (first | exact hX | apply List.Mem.tail)) rfl ?_; clear hS a; intro a hS
    refine Zt 8 [true, true, true, true, true, true, true, false, true, false, false, false] hS rfl (want_go rfl rfl) (e_loadA rfl (by repeat constructor) ty_st131 ty_sz131 (by rfl)) rfl (by kernel_rfl) (by intro X hX; repeat (first | exact hX | apply List.Mem.tail)) rfl ?_; clear hS a; intro a hS
    refine Z_one (i := 7) rfl (want_go rfl rfl a hS.sl) (listed' := (tf 9 3)) rfl (by kernel_rfl) (s_callP hS (.cons rfl .nil) cf95 rfl (below_P (x - y) _) ?_); clear hS a; (try clear w); intro a w hS
    refine Z_and hS (by intro X hX; repeat (first | exact hX | apply List.Mem.tail)) ?_
    refine Z_one (i := 9) rfl (want_go rfl rfl a hS.sl) (listed' := (tf 10 2)) rfl (by kernel_rfl) (s_callP hS (.cons rfl .nil) cf95 rfl (below_P x _) ?_); clear hS a; (try clear w); intro a w hS
    refine Z_and hS (by intro X hX; repeat (first | exact hX | apply List.Mem.tail)) ?_
    refine Zt0 10 (tf 11 1) hS rfl (want_go rfl rfl) (e_binBn rfl rfl ty_u4) rfl (by kernel_rfl) rfl ?_; clear hS a; intro a hS
    refine Zt0 11 (tf 12 0) hS rfl want_none (e_pk rfl rfl) rfl (by kernel_rfl) rfl ?_; clear hS a; intro a hS
    refine Z_done (by kernel_rfl) ?_
    refine n_then ?_
    replace hS := hS.is (t := 42) (c := false) rfl ((by simp; simp at hg36; omega))
    refine c_if_f hS rfl ?_
    refine wp_skip (n_then (c_seq (c_region ?_)))
    refine L_e hS (e_loadA rfl (by repeat constructor) ty_st131 ty_sz131 (by rfl)) rfl ?_; clear hS a; intro a hS
    refine L_op (s_storeA hS rfl rfl ty_sz131 (by repeat constructor) (by rfl) (by rfl) (by rfl) ?_); clear hS; (try clear w); intro w hS
    refine L_e hS (e_assign rfl) rfl ?_; clear hS a; intro a hS
    refine L_nil (n_then (wp_ret ?_))
    refine c_retN hS Tryz.results56 (.cons (.cellA rfl (by repeat constructor) ty_st131 ty_sz131 (by rfl)) (.cons (.tmp rfl) .nil)) rfl ?_
    exact ⟨rfl, hS.chg⟩
  refine Zn_t 6 (tf 7 5) hS rfl rfl rfl rfl (by kernel_rfl) rfl ?_; clear hS a; intro a hS
  refine Zn_t 7 (tf 8 4) hS rfl rfl rfl rfl (by kernel_rfl) rfl ?_; clear hS a; intro a hS
  refine Zn_t 8 (tf 9 3) hS rfl rfl rfl rfl (by kernel_rfl) rfl ?_; clear hS a; intro a hS
  refine Zn_t 9 (tf 10 2) hS rfl rfl rfl rfl (by kernel_rfl) rfl ?_; clear hS a; intro a hS
  refine Zn_t 10 (tf 11 1) hS rfl rfl rfl rfl (by kernel_rfl) rfl ?_; clear hS a; intro a hS
  refine Zt0 11 (tf 12 0) hS rfl want_none (e_pk rfl rfl) rfl (by kernel_rfl) rfl ?_; clear hS a; intro a hS
  refine Z_done (by kernel_rfl) ?_
  refine n_then ?_
  refine c_if_f hS rfl ?_
  refine wp_skip (n_then (c_seq (c_region ?_)))
  refine L_e hS (e_loadA rfl (by repeat constructor) ty_st131 ty_sz131 (by rfl)) rfl ?_; clear hS a; intro a hS
  refine L_op (s_storeA hS rfl rfl ty_sz131 (by repeat constructor) (by rfl) (by rfl) (by rfl) ?_); clear hS; (try clear w); intro w hS
  refine L_e hS (e_assign rfl) rfl ?_; clear hS a; intro a hS
  refine L_nil (n_then (wp_ret ?_))
  refine c_retN hS Tryz.results56 (.cons (.cellA rfl (by repeat constructor) ty_st131 ty_sz131 (by rfl)) (.cons (.tmp rfl) .nil)) rfl ?_
  exact ⟨rfl, hS.chg⟩
set_option maxRecDepth 100000 in
theorem narrow_P (v : Int) (hv : Wd.fit v) (w0 : World) : PureC Tryz.prog 58 [.agg (wv v).toArray, .int .i64 0] w0 (.tuple [.int .i64 (narrowF v).1, .int .i64 (narrowF v).2].toArray) := by
  have hI : ((intE v).2 ≠ 0 → ¬ inU v) ∧ (¬ (intE v).2 ≠ 0 → (intE v).1 = v) := by
    unfold intE inU
    split
    · simp
    · simp; omega
  refine c_enter [(0, .agg (wv v).toArray), (1, .int .i64 0)] [] noB Tryz.func58 rfl Tryz.ntmps58 ⟨rfl, rfl, trivial⟩ rfl (by simp) (by simp) (by simp) ?_
  intro a hS
  refine c_seq (c_region ?_)
  refine L_op (s_boxA hS rfl rfl ?_); clear hS a; (try clear w); intro a w b2 hS
  refine L_e hS (e_assign rfl) rfl ?_; clear hS a; intro a hS
  refine L_e hS (e_assign rfl) rfl ?_; clear hS a; intro a hS
  refine L_nil (n_then (c_seq (c_region ?_)))
  refine L_e hS (e_loadA rfl (by repeat constructor) ty_st131 ty_sz131 (by rfl)) rfl ?_; clear hS a; intro a hS
  refine L_op (s_callP hS (.cons rfl .nil) cf92 rfl (IntE_P v hv _) ?_); clear hS a; (try clear w); intro a w hS
  refine L_e hS (e_move rfl) rfl ?_; clear hS a; intro a hS
  refine L_e hS (e_extract rfl rfl) rfl ?_; clear hS a; intro a hS
  refine L_e hS (e_extract rfl rfl) rfl ?_; clear hS a; intro a hS
  refine L_e hS (e_assign rfl) rfl ?_; clear hS a; intro a hS
  refine L_e hS (e_assign rfl) rfl ?_; clear hS a; intro a hS
  refine L_nil (n_then (c_seq (c_seq (c_region ?_))))
  refine L_e hS (e_move rfl) rfl ?_; clear hS a; intro a hS
  refine L_e hS (e_bin rfl rfl rfl) rfl ?_; clear hS a; intro a hS
  refine L_e hS (e_move rfl) rfl ?_; clear hS a; intro a hS
  replace hS := hS.is (t := 15) (c := false) rfl ((by simp))
  refine L_ge hS rfl rfl (e_move rfl) rfl ?_; clear hS a; intro a hS
  refine L_ge hS rfl rfl (e_bin rfl rfl rfl) rfl ?_; clear hS a; intro a hS
  refine L_e hS (e_pk rfl rfl) rfl ?_; clear hS a; intro a hS
  refine L_e hS (e_move rfl) rfl ?_; clear hS a; intro a hS
  refine L_merge 4 23 (.bool (decide (¬ inU v))) hS ?_ ?_
  · intro hcM23
    (first | refine g_splitD (t := 19) hS rfl ?_ ?_ | refine g_split (t := 19) hS rfl ?_ ?_) <;> (clear hS; intro hg19 hS)
    ·
      refine L_skip_f hS rfl rfl rfl ?_; clear hS a; intro a hS
      refine L_skip_f hS rfl rfl rfl ?_; clear hS a; intro a hS
      refine L_skip_f hS rfl rfl rfl ?_; clear hS a; intro a hS
      refine L_e hS (e_pk rfl rfl) rfl ?_; clear hS a; intro a hS
      exact hcM23 _ _ (hS.ends 5 23 19 rfl (congrArg Value.bool (by exact (decide_eq_true (hI.1 hg19)).symm)) rfl rfl (by first | exact congrArg Value.bool (decide_eq_true hg19).symm | exact congrArg Value.bool hg19.symm | simp [hg19]) rfl)
    refine L_ge hS rfl rfl (e_move rfl) rfl ?_; clear hS a; intro a hS
    refine L_go hS rfl rfl (s_callP hS (.cons rfl .nil) cf89 rfl (fxwithin_P (intE v).1 _) ?_); clear hS a; (try clear w); intro a w hS
    refine L_ge hS rfl rfl (e_not rfl) rfl ?_; clear hS a; intro a hS
    refine L_e hS (e_pk rfl rfl) rfl ?_; clear hS a; intro a hS
    exact hcM23 _ _ (hS.ends 5 23 19 rfl (congrArg Value.bool (by rw [hI.2 hg19, ← decide_not])) rfl rfl (by first | exact congrArg Value.bool (decide_eq_false hg19).symm | exact congrArg Value.bool hg19.symm | simp [hg19]) rfl)
  · clear hS a; (try clear w); intro a w hS
    simp only [List.drop_succ_cons, List.drop_zero]
    refine L_nil (n_then ?_)
    first | refine c_ifD hS rfl (fun hc23 => ?_) (fun hc23 => ?_) | refine c_if hS rfl (fun hc23 => ?_) (fun hc23 => ?_)
    ·
      refine c_seq (c_region ?_)
      refine L_e hS (e_assign rfl) rfl ?_; clear hS a; intro a hS
      refine L_e hS (e_assign rfl) rfl ?_; clear hS a; intro a hS
      refine L_nil (n_then (wp_ret (r_then ?_)))
      refine c_retN hS Tryz.results58 (.cons (.tmp rfl) (.cons (.tmp rfl) .nil)) rfl ?_
      exact ⟨by rw [show narrowF v = (0, 16) from if_neg hc23], hS.chg⟩
    refine wp_skip (n_then (c_seq (c_region ?_)))
    refine L_e hS (e_move rfl) rfl ?_; clear hS a; intro a hS
    refine L_e hS (e_assign rfl) rfl ?_; clear hS a; intro a hS
    refine L_e hS (e_assign rfl) rfl ?_; clear hS a; intro a hS
    refine L_nil (n_then (wp_ret ?_))
    refine c_retN hS Tryz.results58 (.cons (.tmp rfl) (.cons (.tmp rfl) .nil)) rfl ?_
    have hin : inU v := Classical.byContradiction fun e => hc23 e
    have he : ¬ (intE v).2 ≠ 0 := fun e => hI.1 e hin
    exact ⟨by rw [show narrowF v = (v, 0) from if_pos hin, hI.2 he], hS.chg⟩
structure lrφ (B : LB) (s : LS) (bk mb : Nat) (own : ByteArray) (es : List RA) (n : Int) (w : World) : Prop where
  l : ledφ B s w
  t : ratesφ bk mb own es n w
def lrA (B : LB) (s : LS) (bk mb : Nat) (own : ByteArray) (es : List RA) (n : Int) : Asn := .any (fun k => ledF B s k ∨ ratesF bk mb es k) (lrφ B s bk mb own es n) false
theorem lr_ok {B : LB} {s : LS} {bk mb : Nat} {own : ByteArray} {es : List RA} {n : Int} {w : World} (h1 : ledφ B s w) (h2 : ratesφ bk mb own es n w) : (lrA B s bk mb own es n).ok w := by
  have a := led_ok false h1
  have c := rates_ok false h2
  exact ⟨fun k hk => hk.elim (fun hk => a.lt k hk) (fun hk => c.lt k hk), fun w' hw => ⟨a.hold w' (fun k hk => hw k (.inl hk)), c.hold w' (fun k hk => hw k (.inr hk))⟩⟩
theorem lr_bk {Γ : List Asn} {B : LB} {s : LS} {bk mb : Nat} {own : ByteArray} {es : List RA} {n : Int} (hm : lrA B s bk mb own es n ∈ Γ) {k : Nat} {v : Value} (hv : [Value.string own, .map (some mb), .int .i64 n][k]? = some v) : ∀ w, Hd Γ w → w.cell? ⟨bk, k, none⟩ = some v := fun _ hh => cell_of_blk (ratesφ.bk (lrφ.t (hh _ hm))) hv
theorem balF_in (P : PL) (c : ByteArray) (t : Int) : inU (balF P c t).1.2.1 ∧ inU (balF P c t).1.2.2 := by
  unfold balF
  split
  · unfold inU noBl; simp
  · split
    · unfold inU noBl; simp
    · split
      · rename_i h; exact h
      · unfold inU noBl; simp
theorem conv_bd (u n : Int) : inU (convF u n).1 := by
  unfold convF
  split
  · unfold inU; simp
  · split
    · rename_i h; exact h
    · unfold inU; simp
theorem worthF_in (own : ByteArray) (l : List (ByteArray × List (Int × Int))) (u : Int) (c : ByteArray) (t : Int) : inU (worthF own l u c t).1 := by
  unfold worthF
  split
  · unfold inU; simp
  · split
    · unfold inU; simp
    · exact conv_bd _ _
set_option maxHeartbeats 1000000 in
set_option maxRecDepth 100000 in
theorem fxdiffers_P (B : LB) (s : LS) (bk mb : Nat) (own : ByteArray) (es : List RA) (n : Int) (x : Acc) (at_ : Int) (hfl : fitL (pl s)) (hno : nanoOK (vsT es)) (w0 : World) (h1 : ledφ B s w0) (h2 : ratesφ bk mb own es n w0) :
    PureC Tryz.prog 55 [.pointer (some ⟨B.lb, 0, none⟩), .pointer (some ⟨bk, 0, none⟩), .agg (encAc x).toArray, .int .i64 at_] w0 (.tuple [.int .i64 (difF own (vsT es) (pl s) at_ x).1, .int .i64 (difF own (vsT es) (pl s) at_ x).2].toArray) := by
  have hbb := balF_in (pl s) x.code at_
  unfold difF
  refine c_enter [(0, .pointer (some ⟨B.lb, 0, none⟩)), (1, .pointer (some ⟨bk, 0, none⟩)), (2, .agg (encAc x).toArray), (3, .int .i64 at_)] [lrA B s bk mb own es n] noB Tryz.func55 rfl Tryz.ntmps55 ⟨rfl, rfl, rfl, rfl, trivial⟩ rfl (okC (lr_ok h1 h2) okN) dis1 (mineC (by rfl) mineN) ?_
  intro a hS
  refine c_seq (c_region ?_)
  refine L_op (s_boxA hS rfl rfl ?_); clear hS a; (try clear w); intro a w b6 hS
  refine L_e hS (e_assign rfl) rfl ?_; clear hS a; intro a hS
  refine L_e hS (e_assign rfl) rfl ?_; clear hS a; intro a hS
  refine L_nil (n_then (c_seq (c_region ?_)))
  refine L_e hS (e_move rfl) rfl ?_; clear hS a; intro a hS
  (first | refine L_e hS (e_fa0 rfl ty_fo35_0) rfl ?_ | refine L_e hS (e_faK rfl ty_fo35_0) rfl ?_); clear hS a; intro a hS
  refine L_e hS (e_load rfl (by repeat constructor) ty_sc9 (by rfl)) rfl ?_; clear hS a; intro a hS
  refine L_e hS (e_move rfl) rfl ?_; clear hS a; intro a hS
  refine L_op (s_callP hS (.cons rfl (.cons rfl (.cons rfl .nil))) cf28 rfl (lBal_P B s x.code at_ hfl _ (hS.get (X := lrA B s bk mb own es n) (by repeat constructor)).l) ?_); clear hS a; (try clear w); intro a w hS
  generalize hX : balF (pl s) x.code at_ = X at hS hbb ⊢
  obtain ⟨⟨x1, x2, x3⟩, xe⟩ := X
  dsimp only at hS hbb ⊢
  obtain ⟨hb2, hb3⟩ := hbb
  have hb2' := hb2
  have hb3' := hb3
  unfold inU at hb2' hb3'
  refine L_e hS (e_move rfl) rfl ?_; clear hS a; intro a hS
  refine L_e hS (e_extract rfl rfl) rfl ?_; clear hS a; intro a hS
  refine L_e hS (e_extract rfl rfl) rfl ?_; clear hS a; intro a hS
  refine L_op (s_alloc hS ty_z71 rfl ?_); clear hS a; (try clear w); intro a w b10 hS
  refine L_op (s_storeA hS rfl rfl ty_sz71 (by repeat constructor) (by rfl) (by rfl) (by rfl) ?_); clear hS; (try clear w); intro w hS
  refine L_e hS (e_assign rfl) rfl ?_; clear hS a; intro a hS
  refine L_nil (n_then (c_seq (c_seq (c_region ?_))))
  refine L_e hS (e_move rfl) rfl ?_; clear hS a; intro a hS
  refine L_e hS (e_bin rfl rfl rfl) rfl ?_; clear hS a; intro a hS
  refine L_e hS (e_move rfl) rfl ?_; clear hS a; intro a hS
  refine L_merge 9 32 (.bool (decide (xe ≠ 0 ∨ (x2 = 0 ∧ x3 = 0)))) hS ?_ ?_
  · intro hcM32
    (first | refine g_splitD (t := 23) hS rfl ?_ ?_ | refine g_split (t := 23) hS rfl ?_ ?_) <;> (clear hS; intro hg23 hS)
    ·
      refine L_skip_f hS rfl rfl rfl ?_; clear hS a; intro a hS
      refine L_skip_f hS rfl rfl rfl ?_; clear hS a; intro a hS
      refine L_skip_f hS rfl rfl rfl ?_; clear hS a; intro a hS
      refine L_skip_f hS rfl rfl rfl ?_; clear hS a; intro a hS
      refine L_skip_u hS rfl rfl rfl ?_; clear hS a; intro a hS
      refine L_skip_u hS rfl rfl rfl ?_; clear hS a; intro a hS
      refine L_skip_u hS rfl rfl rfl ?_; clear hS a; intro a hS
      refine L_skip_f hS rfl rfl rfl ?_; clear hS a; intro a hS
      refine L_e hS (e_pk rfl rfl) rfl ?_; clear hS a; intro a hS
      exact hcM32 _ _ (hS.ends 10 32 23 rfl (congrArg Value.bool (by exact (decide_eq_true (.inl hg23)).symm)) rfl rfl (by first | exact congrArg Value.bool (decide_eq_true hg23).symm | exact congrArg Value.bool hg23.symm | simp [hg23]) rfl)
    (first | refine L_ge hS rfl rfl (e_fa0 rfl ty_fo71_1) rfl ?_ | refine L_ge hS rfl rfl (e_faK rfl ty_fo71_1) rfl ?_); clear hS a; intro a hS
    refine L_ge hS rfl rfl (e_load rfl (by repeat constructor) ty_sc3 (by rfl)) rfl ?_; clear hS a; intro a hS
    refine L_ge hS rfl rfl (e_bin rfl rfl rfl) rfl ?_; clear hS a; intro a hS
    refine L_ge hS rfl rfl (e_move rfl) rfl ?_; clear hS a; intro a hS
    refine L_merge 4 31 (.bool (decide (x2 = 0 ∧ x3 = 0))) hS ?_ ?_
    · intro hcM31
      (first | refine g_splitD (t := 27) hS rfl ?_ ?_ | refine g_split (t := 27) hS rfl ?_ ?_) <;> (clear hS; intro hg27 hS)
      ·
        (first | refine L_ge hS rfl rfl (e_fa0 rfl ty_fo71_2) rfl ?_ | refine L_ge hS rfl rfl (e_faK rfl ty_fo71_2) rfl ?_); clear hS a; intro a hS
        refine L_ge hS rfl rfl (e_load rfl (by repeat constructor) ty_sc3 (by rfl)) rfl ?_; clear hS a; intro a hS
        refine L_ge hS rfl rfl (e_bin rfl rfl rfl) rfl ?_; clear hS a; intro a hS
        refine L_ge hS rfl rfl (e_pk rfl rfl) rfl ?_; clear hS a; intro a hS
        exact hcM31 _ _ (hS.ends 5 31 27 rfl (congrArg Value.bool (by rw [decide_eq_decide]; exact ⟨fun e => ⟨hg27, e⟩, fun e => e.2⟩)) rfl rfl (by first | exact congrArg Value.bool (decide_eq_true hg27).symm | exact congrArg Value.bool hg27.symm | simp [hg27]) rfl)
      refine L_skip_t hS rfl rfl rfl ?_; clear hS a; intro a hS
      refine L_skip_t hS rfl rfl rfl ?_; clear hS a; intro a hS
      refine L_skip_t hS rfl rfl rfl ?_; clear hS a; intro a hS
      refine L_ge hS rfl rfl (e_pk rfl rfl) rfl ?_; clear hS a; intro a hS
      exact hcM31 _ _ (hS.ends 5 31 27 rfl (congrArg Value.bool (by exact (decide_eq_false (fun e => hg27 e.1)).symm)) rfl rfl (by first | exact congrArg Value.bool (decide_eq_false hg27).symm | exact congrArg Value.bool hg27.symm | simp [hg27]) rfl)
    · clear hS a; (try clear w); intro a w hS
      simp only [List.drop_succ_cons, List.drop_zero]
      refine L_e hS (e_pk rfl rfl) rfl ?_; clear hS a; intro a hS
      exact hcM32 _ _ (hS.ends 7 32 23 rfl (congrArg Value.bool (by rw [decide_eq_decide]; exact ⟨.inr, fun e => e.resolve_left hg23⟩)) rfl rfl (by first | exact congrArg Value.bool (decide_eq_false hg23).symm | exact congrArg Value.bool hg23.symm | simp [hg23]) rfl)
  · clear hS a; (try clear w); intro a w hS
    simp only [List.drop_succ_cons, List.drop_zero]
    refine L_nil (n_then ?_)
    first | refine c_ifD hS rfl (fun hc32 => ?_) (fun hc32 => ?_) | refine c_if hS rfl (fun hc32 => ?_) (fun hc32 => ?_)
    ·
      refine c_seq (c_region ?_)
      refine L_e hS (e_move rfl) rfl ?_; clear hS a; intro a hS
      refine L_e hS (e_assign rfl) rfl ?_; clear hS a; intro a hS
      refine L_e hS (e_assign rfl) rfl ?_; clear hS a; intro a hS
      refine L_nil (n_then (wp_ret (r_then ?_)))
      refine c_retN hS Tryz.results55 (.cons (.tmp rfl) (.cons (.tmp rfl) .nil)) rfl ?_
      refine ⟨?_, hS.chg⟩
      by_cases he : xe ≠ 0
      · rw [if_pos he]
      · have he0 : xe = 0 := Classical.byContradiction he
        rw [if_neg he, if_pos (hc32.resolve_left he), he0]
    have he : ¬ xe ≠ 0 := fun e => hc32 (.inl e)
    have hz : ¬ (x2 = 0 ∧ x3 = 0) := fun e => hc32 (.inr e)
    rw [if_neg he, if_neg hz]
    refine wp_skip (n_then (c_seq (c_region ?_)))
    refine L_e hS (e_move rfl) rfl ?_; clear hS a; intro a hS
    (first | refine L_e hS (e_fa0 rfl ty_fo71_1) rfl ?_ | refine L_e hS (e_faK rfl ty_fo71_1) rfl ?_); clear hS a; intro a hS
    refine L_e hS (e_load rfl (by repeat constructor) ty_sc3 (by rfl)) rfl ?_; clear hS a; intro a hS
    (first | refine L_e hS (e_fa0 rfl ty_fo35_1) rfl ?_ | refine L_e hS (e_faK rfl ty_fo35_1) rfl ?_); clear hS a; intro a hS
    refine L_e hS (e_load rfl (by repeat constructor) ty_sc9 (by rfl)) rfl ?_; clear hS a; intro a hS
    refine L_e hS (e_build ty_z78 ty_pl78 (.one rfl rfl rfl (by repeat constructor) (.one rfl rfl rfl (by repeat constructor) .nil))) rfl ?_; clear hS a; intro a hS
    refine L_e hS (e_move rfl) rfl ?_; clear hS a; intro a hS
    refine L_op (s_callP hS (.cons rfl (.cons rfl (.cons rfl .nil))) cf30 rfl (fxWorth_P bk mb own x.cur es n x2 at_ (by omega) _ (hS.get (X := lrA B s bk mb own es n) (by repeat constructor)).t hno) ?_); clear hS a; (try clear w); intro a w hS
    have hwb := worthF_in own (vsT es) x2 x.cur at_
    generalize hW : worthF own (vsT es) x2 x.cur at_ = W at hS hwb ⊢
    unfold inU at hwb
    refine L_e hS (e_move rfl) rfl ?_; clear hS a; intro a hS
    refine L_e hS (e_extract rfl rfl) rfl ?_; clear hS a; intro a hS
    refine L_e hS (e_extract rfl rfl) rfl ?_; clear hS a; intro a hS
    refine L_e hS (e_assign rfl) rfl ?_; clear hS a; intro a hS
    refine L_e hS (e_assign rfl) rfl ?_; clear hS a; intro a hS
    refine L_nil (n_then (c_seq (c_seq (c_region ?_))))
    refine L_e hS (e_move rfl) rfl ?_; clear hS a; intro a hS
    refine L_e hS (e_bin rfl rfl rfl) rfl ?_; clear hS a; intro a hS
    refine L_nil (n_then ?_)
    first | refine c_ifD hS rfl (fun hc46 => ?_) (fun hc46 => ?_) | refine c_if hS rfl (fun hc46 => ?_) (fun hc46 => ?_)
    ·
      refine c_seq (c_region ?_)
      refine L_e hS (e_move rfl) rfl ?_; clear hS a; intro a hS
      refine L_e hS (e_assign rfl) rfl ?_; clear hS a; intro a hS
      refine L_e hS (e_assign rfl) rfl ?_; clear hS a; intro a hS
      refine L_nil (n_then (wp_ret (r_then ?_)))
      refine c_retN hS Tryz.results55 (.cons (.tmp rfl) (.cons (.tmp rfl) .nil)) rfl ?_
      exact ⟨by rw [if_pos hc46], hS.chg⟩
    rw [if_neg hc46]
    refine wp_skip (n_then (c_seq ?_))
    refine c_drawS [] (by kernel_rfl) hS (sub_cons (X := .blk b10 _ _) (by repeat constructor) sub_nil) ?_; clear hS; (try clear w); intro w hS
    simp only [List.length_cons, List.length_nil, Nat.zero_add, Nat.reduceAdd, List.replicate]
    refine Zt0 0 (tf 1 12) hS rfl want_none (e_move rfl) rfl (by kernel_rfl) rfl ?_; clear hS a; intro a hS
    (first | refine Zt0 2 [true, false, true, false, false, false, false, false, false, false, false, false, false] hS rfl want_none (e_fa0 rfl ty_fo71_2) rfl (by kernel_rfl) rfl ?_ | refine Zt0 2 [true, false, true, false, false, false, false, false, false, false, false, false, false] hS rfl want_none (e_faK rfl ty_fo71_2) rfl (by kernel_rfl) rfl ?_); clear hS a; intro a hS
    refine Zt 3 [true, false, true, true, false, false, false, false, false, false, false, false, false] hS rfl want_none (e_load rfl (by repeat constructor) ty_sc3 (by rfl)) rfl (by kernel_rfl) (sub_cons (by repeat constructor) sub_nil) rfl ?_; clear hS a; intro a hS
    refine Z_one (i := 1) rfl (want_none a hS.sl) (listed' := (tf 4 9)) rfl (by kernel_rfl) (s_callP hS (.cons rfl .nil) cf57 rfl (FromInt_P W.1 (by omega) (by omega) _) ?_); clear hS a; (try clear w); intro a w hS
    refine Z_and hS (sub_cons (by repeat constructor) sub_nil) ?_
    refine Z_one (i := 4) rfl (want_none a hS.sl) (listed' := (tf 5 8)) rfl (by kernel_rfl) (s_callP hS (.cons rfl .nil) cf57 rfl (FromInt_P x3 (by omega) (by omega) _) ?_); clear hS a; (try clear w); intro a w hS
    refine Z_and hS (sub_cons (by repeat constructor) sub_nil) ?_
    refine Z_one (i := 5) rfl (want_none a hS.sl) (listed' := (tf 6 7)) rfl (by kernel_rfl) (s_callP hS (.cons rfl (.cons rfl .nil)) cf56 rfl (Sub_P W.1 x3 (by unfold Wd.fit; omega) (by unfold Wd.fit; omega) (by unfold Wd.fit; omega) _) ?_); clear hS a; (try clear w); intro a w hS
    refine Z_and hS (sub_cons (by repeat constructor) sub_nil) ?_
    refine Zt0 6 (tf 7 6) hS rfl want_none (e_extract rfl rfl) rfl (by kernel_rfl) rfl ?_; clear hS a; intro a hS
    refine Zt0 7 (tf 8 5) hS rfl want_none (e_extract rfl rfl) rfl (by kernel_rfl) rfl ?_; clear hS a; intro a hS
    refine Z_one (i := 8) rfl (want_none a hS.sl) (listed' := (tf 9 4)) rfl (by kernel_rfl) (s_callP hS (.cons rfl (.cons rfl .nil)) cf58 rfl (narrow_P (W.1 - x3) (by unfold Wd.fit; omega) _) ?_); clear hS a; (try clear w); intro a w hS
    refine Z_and hS (sub_cons (by repeat constructor) sub_nil) ?_
    refine Zt0 9 (tf 10 3) hS rfl want_none (e_extract rfl rfl) rfl (by kernel_rfl) rfl ?_; clear hS a; intro a hS
    refine Zt0 10 (tf 11 2) hS rfl want_none (e_extract rfl rfl) rfl (by kernel_rfl) rfl ?_; clear hS a; intro a hS
    refine Zt0 11 (tf 12 1) hS rfl want_none (e_assign rfl) rfl (by kernel_rfl) rfl ?_; clear hS a; intro a hS
    refine Zt0 12 (tf 13 0) hS rfl want_none (e_assign rfl) rfl (by kernel_rfl) rfl ?_; clear hS a; intro a hS
    refine Z_done (by kernel_rfl) ?_
    refine n_then (wp_ret ?_)
    refine c_retN hS Tryz.results55 (.cons (.tmp rfl) (.cons (.tmp rfl) .nil)) rfl ?_
    exact ⟨rfl, hS.chg⟩
end Go.Proofs.YtheofhegdjjfgaaGreat
