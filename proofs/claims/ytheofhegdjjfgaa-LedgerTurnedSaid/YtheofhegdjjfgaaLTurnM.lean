/- The law LedgerTurned, for every argument: it returns true; with the walks of the ledger that it needs. -/
import Derived.Test.YtheofhegdjjfgaaLed8
import Derived.Test.YtheofhegdjjfgaaKey4
import Derived.ChangeKeysEq
import Derived.Test.YtheofhegdjjfgaaSe14
import Derived.Test.YtheofhegdjjfgaaFx9
import Derived.Deep.Slices
import Derived.Deep.Fields
import Derived.ChangeSame
import Derived.SizedLaws
import Derived.OpenShut
import Derived.Lib.SmallJoins
import Derived.Laws.LoneSync
import Derived.ProofKit
import Derived.ShutString
import Derived.ChangeOld
import Derived.Below
namespace Go.Proofs.Ytheofhegdjjfgaa
open Go.RowKit

theorem own_getL {Γ : List Asn} {α : Type} {enc : α → List Value} {s E g c m : Nat} {xs : List α} (hl : ∀ x, (enc x).length = s) (hm : ownA E s (.slice (some ⟨g, 0, none⟩) m c) m (xs.flatMap enc) ∈ Γ) {i : Nat} {x : α} (hx : xs[i]? = some x) : ∀ w, Hd Γ w → ∀ j v, (enc x)[j]? = some v → w.cell? ⟨g, 0 + i * s + j, none⟩ = some v := by
  intro w hh j v hj
  have h : w.ownsRow 0 E s (.slice (some ⟨g, 0, none⟩) m c) m (xs.flatMap enc) := hh _ hm
  have h1 := flat_get enc s hl xs i x hx j v hj
  have h2 := World.ownsRow.cells h (g := g) rfl _ _ h1
  rw [addr_add] at h2
  rw [← h2]; congr 2; omega
def codesA (acs : List Acc) : List ByteArray := acs.map (·.code)
/-- the accounts by their codes. -/
def accsL (acs : List Acc) : List Acc := (srt (codesA acs)).map (accOf acs)
theorem accs_len (acs : List Acc) : (accsL acs).length = acs.length := by simp [accsL, srt_len, codesA]
set_option maxRecDepth 100000 in
theorem lAccs_P (B : LB) (s : LS) (hacs : s.acs.length ≤ 1000) (w0 : World) (h : ledφ B s w0) :
    NewC Try.prog 30 [.pointer (some ⟨B.lb, 0, none⟩)] w0 (fun v : Value => v) (fun v => ownA 68 4 v (accsL s.acs).length ((accsL s.acs).flatMap encAc)) := by
  have hkm : keysM (entAc s.acs) = codesA s.acs := by simp [keysM, entAc, codesA, Function.comp_def]
  have hel : (entAc s.acs).length = s.acs.length := by simp [entAc]
  refine c_enter [(0, .pointer (some ⟨B.lb, 0, none⟩))] [ledA B s false] noB Try.func30 rfl Try.ntmps30 ⟨rfl, trivial⟩ rfl (okC (led_ok false h) okN) dis1 (mineC (by rfl) mineN) ?_
  intro a hS
  refine c_seq ?_
  refine c_region ?_
  refine L_op (s_e hS (e_assign rfl) rfl ?_); clear hS a; intro a hS
  refine L_nil ?_
  refine n_then ?_
  refine c_seq ?_
  refine c_region ?_
  refine L_op (s_e hS (e_assign rfl) rfl ?_); clear hS a; intro a hS
  refine L_nil ?_
  refine n_then ?_
  refine c_seq ?_
  refine c_seq ?_
  refine c_region ?_
  refine L_op (s_e hS (e_move rfl) rfl ?_); clear hS a; intro a hS
  refine L_op (s_e hS (e_nilCheck rfl) rfl ?_); clear hS a; intro a hS
  first | (refine L_op (s_e hS (e_fa0 rfl ty_fo129_1) rfl ?_); clear hS a; intro a hS) | (refine L_op (s_e hS (e_faK rfl ty_fo129_1) rfl ?_); clear hS a; intro a hS)
  refine L_op (s_e hS (e_loadC rfl ty_sc126 (led_cell (k := 1) (by repeat constructor) rfl)) rfl ?_); clear hS a; intro a hS
  refine L_op (s_callN hS (.cons rfl .nil) cf73 rfl (KeysLed_P B.ma _) ?_); clear hS a; (try clear w); intro x10 a w hS
  refine L_op (s_callN hS (.cons rfl .nil) cf72 rfl (SortedS_P cf101 (N := (entAc s.acs).length) (by omega) (fun xs hx => by rw [hx.length_eq]; simp [keysM]) (keysA x10 B.ma 126 (entAc s.acs)) rfl (Keys_Led_seq x10 B.ma (entAc s.acs)) _ (keys_ok ⟨hS.get (X := .blk x10 [.map (some B.ma)] 126) (by repeat constructor), (hS.get (X := ledA B s false) (by repeat constructor)).am⟩)) ?_); clear hS a; (try clear w); intro x11 a w hS
  obtain ⟨⟨v11, ks⟩, xs, hxs, hks⟩ := x11
  simp only at hks hS
  have hk2 : ks = srt (codesA s.acs) := by rw [hks, ← hkm]; exact srt_perm hxs
  have hkl : ks.length = s.acs.length := by rw [hk2, srt_len]; simp [codesA]
  obtain ⟨q11, c11, rfl⟩ := own_slice (hS.get (X := strA v11 ks) (by repeat constructor))
  have hsh : ks.length = 0 ∨ ∃ g, q11 = some ⟨g, 0, none⟩ := by
    have h0 : World.ownsRow w 0 9 1 (.slice q11 ks.length c11) ks.length (ks.map .string) := hS.get (X := strA (.slice q11 ks.length c11) ks) (by repeat constructor)
    rcases h0.2 with ⟨e1, e2⟩ | ⟨g, cap, cur, e1, _⟩
    · exact .inl e2
    · injection e1 with e3; exact .inr ⟨g, e3⟩
  refine L_op (s_e hS (e_len rfl rfl ty_sl142) rfl ?_); clear hS a; intro a hS
  refine L_op (s_e hS (e_move rfl) rfl ?_); clear hS a; intro a hS
  refine L_nil ?_
  refine n_then ?_
  refine wp_block ?_
  replace hS := hS.own_nil 68 4
  refine c_loop (γ := Nat × Value) (fun G a w => St 28 noB w0 a w [(13, .int .i64 (G.1 : Int)), (12, .int .i64 (ks.length : Int)), (11, .slice q11 ks.length c11), (3, G.2), (0, .pointer (some ⟨B.lb, 0, none⟩))] [ownA 68 4 G.2 ((ks.take G.1).map (accOf s.acs)).length (((ks.take G.1).map (accOf s.acs)).flatMap encAc), strA (.slice q11 ks.length c11) ks, ledA B s false] ∧ G.1 ≤ ks.length) (fun G => ks.length - G.1) (0, .slice none 0 0) ⟨(hS.slots (by repeat (first | exact trivial | refine ⟨rfl, ?_⟩))).pick (by repeat (first | exact Pick.nil | (refine Pick.cons (by repeat (first | exact Rem.head | apply Rem.tail)) ?_))), Nat.zero_le _⟩ ?_
  clear hS a; (try clear w); intro G a w hI
  obtain ⟨i, out⟩ := G
  obtain ⟨hS, hi⟩ := hI
  simp only at hS hi
  refine c_seq ?_
  refine c_region ?_
  refine L_op (s_e hS (e_bin rfl rfl rfl) rfl ?_); clear hS a; intro a hS
  refine L_nil ?_
  refine n_then ?_
  refine c_seq ?_
  first | refine c_ifD hS rfl (fun hc14 => ?_) (fun hc14 => ?_) | refine c_if hS rfl (fun hc14 => ?_) (fun hc14 => ?_)
  ·
    have hik : i < ks.length := by omega
    obtain ⟨c, hx⟩ : ∃ c, ks[i]? = some c := ⟨ks[i], List.getElem?_eq_getElem hik⟩
    obtain ⟨g, rfl⟩ : ∃ g, q11 = some ⟨g, 0, none⟩ := hsh.resolve_left (by omega)
    have htk : (ks.take (i + 1)).map (accOf s.acs) = (ks.take i).map (accOf s.acs) ++ [accOf s.acs c] := by rw [List.take_add_one, hx]; simp
    have hml : ((ks.take i).map (accOf s.acs)).length = i := by rw [List.length_map, List.length_take]; omega
    refine wp_skip ?_
    refine n_then ?_
    refine c_seq ?_
    refine wp_block ?_
    refine c_seq ?_
    refine c_region ?_
    refine L_op (s_e hS (e_ixN rfl rfl ty_sl142 ty_sz9 (by omega)) rfl ?_); clear hS a; intro a hS
    refine L_op (s_e hS (e_loadC rfl ty_sc9 (str_getL (by repeat constructor) hx)) rfl ?_); clear hS a; intro a hS
    refine L_op (s_e hS (e_assign rfl) rfl ?_); clear hS a; intro a hS
    refine L_nil ?_
    refine n_then ?_
    refine c_region ?_
    refine L_op (s_e hS (e_move rfl) rfl ?_); clear hS a; intro a hS
    refine L_op (s_e hS (e_move rfl) rfl ?_); clear hS a; intro a hS
    refine L_op (s_e hS (e_nilCheck rfl) rfl ?_); clear hS a; intro a hS
    first | (refine L_op (s_e hS (e_fa0 rfl ty_fo129_1) rfl ?_); clear hS a; intro a hS) | (refine L_op (s_e hS (e_faK rfl ty_fo129_1) rfl ?_); clear hS a; intro a hS)
    refine L_op (s_e hS (e_loadC rfl ty_sc126 (led_cell (k := 1) (by repeat constructor) rfl)) rfl ?_); clear hS a; intro a hS
    refine L_op (s_e hS (e_move rfl) rfl ?_); clear hS a; intro a hS
    refine L_op (s_e hS (e_lookupC rfl rfl ty_mp126 ty_u9 ty_zv68 (fun w hh => (hh (ledA B s false) (by repeat constructor)).am)) rfl ?_); clear hS a; intro a hS
    rw [lk_acc] at hS
    refine L_op (s_bslice hS ty_sl65 ty_sz68 ty_z68 rfl rfl rfl rfl (.agg rfl rfl .nil) rfl ?_); clear hS a; (try clear w); intro a w b24 hS
    refine L_op (s_append1 hS rfl rfl ty_sl65 ty_sz68 ty_by68 ty_z68 rfl rfl rfl (by repeat constructor) (by repeat constructor) (by rfl) (by rfl) (fun _ => (by repeat constructor)) (by omega) ?_); clear hS a; (try clear w); intro v25 a w hv25 hS
    refine L_op (s_e hS (e_assign rfl) rfl ?_); clear hS a; intro a hS
    refine L_nil ?_
    refine n_block ?_
    refine n_then ?_
    refine c_region ?_
    first | (refine L_op (s_e hS (e_binN rfl rfl rfl (by omega)) rfl ?_); clear hS a; intro a hS) | (refine L_op (s_e hS (e_bin rfl rfl rfl) rfl ?_); clear hS a; intro a hS)
    refine L_op (s_e hS (e_move rfl) rfl ?_); clear hS a; intro a hS
    refine L_nil ?_
    have e1 : ((ks.take (i + 1)).map (accOf s.acs)).length = ((ks.take i).map (accOf s.acs)).length + 1 := by rw [htk]; simp
    have e2 : ((ks.take (i + 1)).map (accOf s.acs)).flatMap encAc = ((ks.take i).map (accOf s.acs)).flatMap encAc ++ encAc (accOf s.acs c) := by rw [htk, List.flatMap_append]; simp
    refine ⟨(i + 1, v25), by simp only; omega, ?_, by simp only; omega⟩
    simp only
    rw [e1, e2]
    exact (hS.slots (by repeat (first | exact trivial | refine ⟨rfl, ?_⟩))).pick (by repeat (first | exact Pick.nil | (refine Pick.cons (by repeat (first | exact Rem.head | apply Rem.tail)) ?_)))
  ·
    obtain rfl : i = ks.length := by omega
    have hall : (ks.take ks.length).map (accOf s.acs) = accsL s.acs := by rw [List.take_length, hk2]; rfl
    rw [hall] at hS
    refine wp_exit ?_
    refine x_then (x_then (x_hit ?_))
    refine n_then ?_
    refine c_seq ?_
    refine c_region ?_
    refine L_op (s_e hS (e_move rfl) rfl ?_); clear hS a; intro a hS
    refine L_op (s_e hS (e_assign rfl) rfl ?_); clear hS a; intro a hS
    refine L_nil ?_
    refine n_then ?_
    refine wp_ret ?_
    refine c_ret1 hS Try.results30 (.tmp rfl) ?_
    exact ⟨out, rfl, hS.chg, hS.new (X := ownA 68 4 out (accsL s.acs).length ((accsL s.acs).flatMap encAc)) (by repeat constructor) rfl⟩

/-! ### what stands in all accounts -/
def triZ (bx m : Nat) (t : List (ByteArray × SM)) : Asn := .any (fun k => k = bx ∨ k = m) (fun w => w.heap[bx]? = some (.cells [Value.map (some m)].toArray 127 (0, 0)) ∧ w.heap[m]? = some (.map (mkM 0 (entSm t)).toArray (entSm t).length)) true
theorem triZ_ok {bx m : Nat} {t : List (ByteArray × SM)} {w : World} (h1 : w.heap[bx]? = some (.cells [Value.map (some m)].toArray 127 (0, 0))) (h2 : w.heap[m]? = some (.map (mkM 0 (entSm t)).toArray (entSm t).length)) : (triZ bx m t).ok w := by
  refine ⟨fun k hk => ?_, fun w' hw => ⟨?_, ?_⟩⟩
  · rcases hk with rfl | rfl
    · exact (Array.getElem?_eq_some_iff.1 h1).1
    · exact (Array.getElem?_eq_some_iff.1 h2).1
  · rw [hw bx (.inl rfl)]; exact h1
  · rw [hw m (.inr rfl)]; exact h2
def triStep (t : List (ByteArray × SM)) (p : Pst) : List (ByteArray × SM) := putT t p.acc (addS (totOf t p.acc) p)
theorem map_ok {b : Nat} {l : List (ByteArray × Value)} {w : World} (hb : w.heap[b]? = some (.map (mkM 0 l).toArray l.length)) : (smapA b l).ok w :=
  ⟨fun k hk => by obtain rfl : k = b := hk; exact (Array.getElem?_eq_some_iff.1 hb).1, fun w' hw => by show w'.heap[b]? = _; rw [hw b rfl]; exact hb⟩
set_option maxRecDepth 100000 in
theorem lTrial1_P (bx m : Nat) (t : List (ByteArray × SM)) (p : Pst) (hg : fitS (totOf t p.acc)) (hp : p.fits) (hr : fitS (addS (totOf t p.acc) p)) (hne : bx ≠ m) (w0 : World) (h : (triZ bx m t).ok w0) :
    MutC Try.prog 77 [.agg (encP p).toArray, .pointer (some ⟨bx, 0, none⟩)] w0 (triZ bx m t) (fun _ : Unit => .tuple #[]) (fun _ => triZ bx m (triStep t p)) := by
  have h1 := h.now.1
  have h2 := h.now.2
  refine c_enter [(0, .agg (encP p).toArray), (1, .pointer (some ⟨bx, 0, none⟩))] [.blk bx [.map (some m)] 127, smapA m (entSm t)] (triZ bx m t).F Try.func77 rfl Try.ntmps77 ⟨rfl, rfl, trivial⟩ rfl (okC (ok_blk h1) (okC (map_ok h2) okN)) (disC (sepC (fun b e1 e2 => hne (Eq.trans (Eq.symm e1) e2)) sepN) dis1) (mineO (fun _ hb => .inl hb) (mineO (fun _ hb => .inr hb) mineN)) ?_
  intro a hS
  refine c_seq ?_
  refine c_region ?_
  refine L_op (s_boxA hS rfl rfl ?_); clear hS a; (try clear w); intro a w b2 hS
  refine L_nil ?_
  refine n_then ?_
  refine c_drawS [9] (by kernel_rfl) hS (sub_cons (X := .blk b2 _ _) (by repeat constructor) (sub_cons (X := .blk bx [.map (some m)] 127) (by repeat constructor) (sub_cons (X := smapA m (entSm t)) (by repeat constructor) sub_nil))) ?_; clear hS; (try clear w); intro w hS
  simp only [List.length_cons, List.length_nil, Nat.zero_add, Nat.reduceAdd, List.replicate]
  refine Z_take (i := 0) hS rfl want_none (e_load rfl (by repeat constructor) ty_sc127 (by rfl)) (listed' := [true, false, false, false, false, false, false, false, false, false]) rfl (by kernel_rfl) (by kernel_rfl) (by kernel_rfl) (by kernel_rfl) (by kernel_rfl) (sub_cons (by repeat constructor) (sub_cons (by repeat constructor) (sub_cons (by repeat constructor) sub_nil))) (fun _ _ _ h => h) rfl ?_; clear hS a; intro a hS
  first | (refine Z_take0 (i := 1) hS rfl want_none (e_fa0 rfl ty_fo63_0) (listed' := [true, true, false, false, false, false, false, false, false, false]) rfl (by kernel_rfl) (by kernel_rfl) (by kernel_rfl) (fun _ _ _ h => h) rfl ?_; clear hS a; intro a hS) | (refine Z_take0 (i := 1) hS rfl want_none (e_faK rfl ty_fo63_0) (listed' := [true, true, false, false, false, false, false, false, false, false]) rfl (by kernel_rfl) (by kernel_rfl) (by kernel_rfl) (fun _ _ _ h => h) rfl ?_; clear hS a; intro a hS)
  refine Z_take (i := 2) hS rfl want_none (e_load rfl (by repeat constructor) ty_sc9 (by rfl)) (listed' := [true, true, true, false, false, false, false, false, false, false]) rfl (by kernel_rfl) (by kernel_rfl) (by kernel_rfl) (by kernel_rfl) (by kernel_rfl) (sub_cons (by repeat constructor) (sub_cons (by repeat constructor) (sub_cons (by repeat constructor) sub_nil))) (fun _ _ _ h => h) rfl ?_; clear hS a; intro a hS
  refine Z_take (i := 3) hS rfl want_none (e_load rfl (by repeat constructor) ty_sc127 (by rfl)) (listed' := [true, true, true, true, false, false, false, false, false, false]) rfl (by kernel_rfl) (by kernel_rfl) (by kernel_rfl) (by kernel_rfl) (by kernel_rfl) (sub_cons (by repeat constructor) (sub_cons (by repeat constructor) (sub_cons (by repeat constructor) sub_nil))) (fun _ _ _ h => h) rfl ?_; clear hS a; intro a hS
  first | (refine Z_take0 (i := 4) hS rfl want_none (e_fa0 rfl ty_fo63_0) (listed' := [true, true, true, true, true, false, false, false, false, false]) rfl (by kernel_rfl) (by kernel_rfl) (by kernel_rfl) (fun _ _ _ h => h) rfl ?_; clear hS a; intro a hS) | (refine Z_take0 (i := 4) hS rfl want_none (e_faK rfl ty_fo63_0) (listed' := [true, true, true, true, true, false, false, false, false, false]) rfl (by kernel_rfl) (by kernel_rfl) (by kernel_rfl) (fun _ _ _ h => h) rfl ?_; clear hS a; intro a hS)
  refine Z_take (i := 5) hS rfl want_none (e_load rfl (by repeat constructor) ty_sc9 (by rfl)) (listed' := [true, true, true, true, true, true, false, false, false, false]) rfl (by kernel_rfl) (by kernel_rfl) (by kernel_rfl) (by kernel_rfl) (by kernel_rfl) (sub_cons (by repeat constructor) (sub_cons (by repeat constructor) (sub_cons (by repeat constructor) sub_nil))) (fun _ _ _ h => h) rfl ?_; clear hS a; intro a hS
  refine Z_take (i := 6) hS rfl want_none (e_lookupS rfl rfl ty_mp127 ty_u9 ty_zv136 (by repeat constructor)) (listed' := [true, true, true, true, true, true, true, false, false, false]) rfl (by kernel_rfl) (by kernel_rfl) (by kernel_rfl) (by kernel_rfl) (by kernel_rfl) (sub_cons (by repeat constructor) (sub_cons (by repeat constructor) (sub_cons (by repeat constructor) sub_nil))) (fun _ _ _ h => h) rfl ?_; clear hS a; intro a hS
  rw [lk_tot] at hS
  refine Z_take (i := 7) hS rfl want_none (e_loadA rfl (by repeat constructor) ty_st63 ty_sz63 (by rfl)) (listed' := [true, true, true, true, true, true, true, true, false, false]) rfl (by kernel_rfl) (by kernel_rfl) (by kernel_rfl) (by kernel_rfl) (by kernel_rfl) (sub_cons (by repeat constructor) (sub_cons (by repeat constructor) (sub_cons (by repeat constructor) sub_nil))) (fun _ _ _ h => h) rfl ?_; clear hS a; intro a hS
  refine Z_one (i := 8) rfl (want_none a hS.sl) (listed' := [true, true, true, true, true, true, true, true, true, false]) rfl (by kernel_rfl) (s_callP hS (.cons rfl (.cons rfl .nil)) cf70 rfl (sadd_P (totOf t p.acc) p hg hp hr _) ?_); clear hS a; (try clear w); intro a w hS
  refine Z_and hS (sub_cons (by repeat constructor) (sub_cons (by repeat constructor) (sub_cons (by repeat constructor) sub_nil))) ?_
  refine Z_one (i := 9) rfl (want_none a hS.sl) (listed' := [true, true, true, true, true, true, true, true, true, true]) rfl (by kernel_rfl) (s_mapUp hS rfl rfl rfl ty_mp127 ty_u9 (by repeat constructor) ?_); clear hS; (try clear w); intro w hS
  refine Z_last (by simp) ?_
  refine Z_done (by kernel_rfl) ?_
  refine r_norm ?_
  refine c_retN hS Try.results77 .nil rfl ?_
  rw [putT_set] at hS
  exact ⟨(), rfl, hS.chg, triZ_ok (hS.get (X := .blk bx [.map (some m)] 127) (by repeat constructor)) (hS.get (X := smapA m (entSm (triStep t p))) (by repeat constructor)), fun b hb => .inl hb⟩
theorem tri_fold (l : List Pst) : ∀ (t : List (ByteArray × SM)) (n : Nat), (∀ p ∈ l, p.fits) → bdT t n → bdT (l.foldl triStep t) (n + l.length) := by
  induction l with
  | nil => intro t n _ h; exact h
  | cons p r ih =>
    intro t n hf h
    have h2 := ih (triStep t p) (n + 1) (fun q hq => hf q (.tail _ hq)) (bdT_put h (hf p (.head _)))
    rw [List.foldl_cons, List.length_cons, show n + (r.length + 1) = n + 1 + r.length by omega]; exact h2
theorem tri_sum (code : ByteArray) (l : List Pst) : ∀ (t : List (ByteArray × SM)), totOf (l.foldl triStep t) code = l.foldl (balStep code) (totOf t code) := by
  induction l with
  | nil => intro t; rfl
  | cons p r ih =>
    intro t
    rw [List.foldl_cons, List.foldl_cons, ih]
    congr 1
    unfold triStep balStep
    rw [totOf_put]
    by_cases e : p.acc = code
    · rw [if_pos e, if_pos e, e]
    · rw [if_neg e, if_neg e]
def triT (P : PL) (at_ : Int) : List (ByteArray × SM) := if inst at_ then (postsAt P.es at_).foldl triStep [] else []
def triB (P : PL) (at_ : Int) (a : Acc) : BL := (a.code, balV (totOf (triT P at_) a.code))
/-- what stands in all accounts at an instant. -/
def trialF (P : PL) (at_ : Int) : List BL := (accsL P.acs).map (triB P at_)
theorem tri_bd {P : PL} (h : fitL P) (at_ : Int) : bdT (triT P at_) 5000000 := by
  unfold triT
  split
  · have h1 := tri_fold (postsAt P.es at_) [] 0 (posts_fit h at_) (fun e he => (by cases he))
    have h2 := posts_len P.es at_ h.ps
    have h3 := h.few
    intro e he
    have h4 := h1 e he
    omega
  · intro e he; cases he
set_option maxHeartbeats 1000000 in
set_option maxRecDepth 100000 in
theorem lTrial_P (B : LB) (s : LS) (at_ : Int) (hacs : s.acs.length ≤ 1000) (hfl : fitL (pl s)) (w0 : World) (h : ledφ B s w0) :
     NewC Try.prog 35 [.pointer (some ⟨B.lb, 0, none⟩), .int .i64 at_] w0 (fun v : Value => v) (fun v => ownA 60 3 v (trialF (pl s) at_).length ((trialF (pl s) at_).flatMap encBl)) := by
   have hes : s.es.length ≤ 100000 := by have := hfl.few; simpa [pl] using this
   have hps : ∀ x ∈ s.es, x.v.ps.length ≤ 50 := fun x hx => hfl.ps x.v (by unfold pl; exact List.mem_map.2 ⟨x, hx, rfl⟩)
   have htb := tri_bd hfl at_
   have hal := accs_len s.acs
   refine c_enter [(0, .pointer (some ⟨B.lb, 0, none⟩)), (1, .int .i64 at_)] [ledA B s false] noB Try.func35 rfl Try.ntmps35 ⟨rfl, rfl, trivial⟩ rfl (okC (led_ok false h) okN) dis1 (mineC (by rfl) mineN) ?_
   intro a hS
   refine c_seq ?_
   refine c_region ?_
   refine L_op (s_e hS (e_assign rfl) rfl ?_); clear hS a; intro a hS
   refine L_nil ?_
   refine n_then ?_
   refine c_seq ?_
   refine c_region ?_
   refine L_op (s_makeMapS hS rfl ?_); clear hS a; (try clear w); intro a w b11 hS
   refine L_op (s_alloc hS ty_z127 rfl ?_); clear hS a; (try clear w); intro a w b5 hS
   refine L_op (s_store hS rfl rfl rfl ty_sz127 (by repeat constructor) (by repeat constructor) ?_); clear hS; (try clear w); intro w hS
   refine L_nil ?_
   refine n_then ?_
   refine c_cut (fun a w => St 41 noB w0 a w [(5, .pointer (some ⟨b5, 0, none⟩)), (0, .pointer (some ⟨B.lb, 0, none⟩))] [triZ b5 b11 (triT (pl s) at_), ledA B s false]) ?_ ?_
   ·
     refine c_seq ?_
     have hne : b5 ≠ b11 := fun e => hS.sep (X := .blk b5 [.map (some b11)] 127) (Y := smapA b11 []) (by repeat (first | exact Rem.head | apply Rem.tail)) (by repeat constructor) b5 rfl e
     replace hS := hS.join (Y := smapA b11 []) (Z := triZ b5 b11 []) (by repeat constructor) (triZ_ok (hS.get (X := .blk b5 [.map (some b11)] 127) (by repeat constructor)) (hS.get (X := smapA b11 []) (by repeat constructor))) (fun b hb => hb) (fun _ => ⟨rfl, rfl⟩)
     refine c_region ?_
     refine L_op (s_e hS (e_move rfl) rfl ?_); clear hS a; intro a hS
     refine L_op (s_callP hS (.cons rfl .nil) cf67 rfl (linst_P at_ _) ?_); clear hS a; (try clear w); intro a w hS
     refine L_nil ?_
     refine n_then ?_
     first | refine c_ifD hS rfl (fun hc13 => ?_) (fun hc13 => ?_) | refine c_if hS rfl (fun hc13 => ?_) (fun hc13 => ?_)
     ·
       refine c_region ?_
       refine L_op (s_e hS (e_move rfl) rfl ?_); clear hS a; intro a hS
       refine L_op (s_e hS (e_move rfl) rfl ?_); clear hS a; intro a hS
       refine L_op (s_e hS (e_makeFunc .nil (.cons rfl .nil)) rfl ?_); clear hS a; intro a hS
       refine L_op (s_callM hS (.cons rfl (.cons rfl (.cons rfl .nil))) cf68 rfl (leach_P B s at_ 77 [.pointer (some ⟨b5, 0, none⟩)] (triZ b5 b11) (fun _ => rfl) triStep [] cf77 (by omega) (fun x hx => by have := hps x hx; omega) (fun pre p post hsp w hok => by
 have hm : p ∈ postsAt (pl s).es at_ := by rw [hsp]; simp
 have hpf := posts_fit hfl at_ p hm
 have hpre : ∀ q ∈ pre, q.fits := fun q hq => posts_fit hfl at_ q (by rw [hsp]; simp [hq])
 have hb := bdT_of (tri_fold pre [] 0 hpre (fun e he => (by cases he))) p.acc
 have hl := posts_len (pl s).es at_ hfl.ps
 have hfw := hfl.few
 rw [hsp, List.length_append, List.length_cons] at hl
 have hu := hpf.u
 have hff := hpf.f
 have e : (pre ++ [p]).foldl triStep [] = triStep (pre.foldl triStep []) p := by rw [List.foldl_append]; rfl
 rw [e]
 exact lTrial1_P b5 b11 _ p (by unfold fitS Wd.fit; omega) hpf (by unfold fitS addS Wd.fit; simp only; omega) hne w hok) _ (hS.get (X := ledA B s false) (by repeat constructor)) (hS.ok (triZ b5 b11 []) (by repeat constructor)) (fun b hb hl => hS.sep (X := triZ b5 b11 []) (Y := ledA B s false) (by repeat (first | exact Rem.head | apply Rem.tail)) (by repeat constructor) b hb hl)) (fun x => (by repeat constructor)) rfl ?_); clear hS a; (try clear w); intro x17 a w hS
       refine L_nil ?_
       first
       | (rw [show triT (pl s) at_ = (postsAt (pl s).es at_).foldl triStep [] from if_pos hc13]; exact (hS.slots (by repeat (first | exact trivial | refine ⟨rfl, ?_⟩))).pick (by repeat (first | exact Pick.nil | (refine Pick.cons (by repeat (first | exact Rem.head | apply Rem.tail)) ?_))))
       | (rw [show triT (pl s) at_ = [] from if_neg hc13]; exact (hS.slots (by repeat (first | exact trivial | refine ⟨rfl, ?_⟩))).pick (by repeat (first | exact Pick.nil | (refine Pick.cons (by repeat (first | exact Rem.head | apply Rem.tail)) ?_))))
     ·
       refine wp_skip ?_
       first
       | (rw [show triT (pl s) at_ = (postsAt (pl s).es at_).foldl triStep [] from if_pos hc13]; exact (hS.slots (by repeat (first | exact trivial | refine ⟨rfl, ?_⟩))).pick (by repeat (first | exact Pick.nil | (refine Pick.cons (by repeat (first | exact Rem.head | apply Rem.tail)) ?_))))
       | (rw [show triT (pl s) at_ = [] from if_neg hc13]; exact (hS.slots (by repeat (first | exact trivial | refine ⟨rfl, ?_⟩))).pick (by repeat (first | exact Pick.nil | (refine Pick.cons (by repeat (first | exact Rem.head | apply Rem.tail)) ?_))))
   ·
     clear hS a; (try clear w); intro a w hS
     skip
     refine c_seq ?_
     refine c_region ?_
     refine L_op (s_e hS (e_assign rfl) rfl ?_); clear hS a; intro a hS
     refine L_nil ?_
     refine n_then ?_
     refine c_seq ?_
     refine c_seq ?_
     refine c_region ?_
     refine L_op (s_e hS (e_move rfl) rfl ?_); clear hS a; intro a hS
     refine L_op (s_callN hS (.cons rfl .nil) cf30 rfl (lAccs_P B s hacs _ (hS.get (X := ledA B s false) (by repeat constructor))) ?_); clear hS a; (try clear w); intro x19 a w hS
     obtain ⟨q19, c19, rfl⟩ := own_slice (hS.get (X := ownA 68 4 x19 (accsL s.acs).length ((accsL s.acs).flatMap encAc)) (by repeat constructor))
     have hsh : (accsL s.acs).length = 0 ∨ ∃ g, q19 = some ⟨g, 0, none⟩ := by
       have h0 : World.ownsRow w 0 68 4 (.slice q19 (accsL s.acs).length c19) (accsL s.acs).length ((accsL s.acs).flatMap encAc) := hS.get (X := ownA 68 4 (.slice q19 (accsL s.acs).length c19) (accsL s.acs).length ((accsL s.acs).flatMap encAc)) (by repeat constructor)
       rcases h0.2 with ⟨e1, e2⟩ | ⟨g, cap, cur, e1, _⟩
       · exact .inl e2
       · injection e1 with e3; exact .inr ⟨g, e3⟩
     refine L_op (s_e hS (e_len rfl rfl ty_sl65) rfl ?_); clear hS a; intro a hS
     refine L_op (s_e hS (e_move rfl) rfl ?_); clear hS a; intro a hS
     refine L_nil ?_
     refine n_then ?_
     refine wp_block ?_
     replace hS := hS.own_nil 60 3
     refine c_loop (γ := Nat × Value) (fun G a w => St 41 noB w0 a w [(21, .int .i64 (G.1 : Int)), (20, .int .i64 ((accsL s.acs).length : Int)), (19, .slice q19 (accsL s.acs).length c19), (6, G.2), (5, .pointer (some ⟨b5, 0, none⟩))] [ownA 60 3 G.2 (((accsL s.acs).take G.1).map (triB (pl s) at_)).length ((((accsL s.acs).take G.1).map (triB (pl s) at_)).flatMap encBl), ownA 68 4 (.slice q19 (accsL s.acs).length c19) (accsL s.acs).length ((accsL s.acs).flatMap encAc), triZ b5 b11 (triT (pl s) at_)] ∧ G.1 ≤ (accsL s.acs).length) (fun G => (accsL s.acs).length - G.1) (0, .slice none 0 0) ⟨(hS.slots (by repeat (first | exact trivial | refine ⟨rfl, ?_⟩))).pick (by repeat (first | exact Pick.nil | (refine Pick.cons (by repeat (first | exact Rem.head | apply Rem.tail)) ?_))), Nat.zero_le _⟩ ?_
     clear hS a; (try clear w); intro G a w hI
     obtain ⟨i, out⟩ := G
     obtain ⟨hS, hi⟩ := hI
     simp only at hS hi
     refine c_seq ?_
     refine c_region ?_
     refine L_op (s_e hS (e_bin rfl rfl rfl) rfl ?_); clear hS a; intro a hS
     refine L_nil ?_
     refine n_then ?_
     refine c_seq ?_
     first | refine c_ifD hS rfl (fun hc22 => ?_) (fun hc22 => ?_) | refine c_if hS rfl (fun hc22 => ?_) (fun hc22 => ?_)
     ·
       have hik : i < (accsL s.acs).length := by omega
       obtain ⟨x, hx⟩ : ∃ x, (accsL s.acs)[i]? = some x := ⟨(accsL s.acs)[i], List.getElem?_eq_getElem hik⟩
       obtain ⟨g, rfl⟩ : ∃ g, q19 = some ⟨g, 0, none⟩ := hsh.resolve_left (by omega)
       have htk : ((accsL s.acs).take (i + 1)).map (triB (pl s) at_) = ((accsL s.acs).take i).map (triB (pl s) at_) ++ [triB (pl s) at_ x] := by rw [List.take_add_one, hx]; simp
       have hml : (((accsL s.acs).take i).map (triB (pl s) at_)).length = i := by rw [List.length_map, List.length_take]; omega
       have hb1 := bdT_of htb x.code
       have ft : fitS (totOf (triT (pl s) at_) x.code) := by unfold fitS Wd.fit; omega
       refine wp_skip ?_
       refine n_then ?_
       refine c_seq ?_
       refine wp_block ?_
       refine c_seq ?_
       refine c_region ?_
       refine L_op (s_e hS (e_ixN rfl rfl ty_sl65 ty_sz68 (by omega)) rfl ?_); clear hS a; intro a hS
       refine L_op (s_e hS (e_loadAC (l := encAc x) rfl ty_st68 ty_sz68 (own_getL (enc := encAc) (s := 4) (fun _ => rfl) (by repeat constructor) hx)) rfl ?_); clear hS a; intro a hS
       refine L_op (s_alloc hS ty_z68 rfl ?_); clear hS a; (try clear w); intro a w b8 hS
       refine L_op (s_storeA hS rfl rfl ty_sz68 (by repeat constructor) (by rfl) (by rfl) (by rfl) ?_); clear hS; (try clear w); intro w hS
       refine L_nil ?_
       refine n_then ?_
       refine c_seq ?_
       refine c_region ?_
       refine L_op (s_e hS (e_loadC rfl ty_sc127 (fun w hh => cell_of_blk (cs := [.map (some b11)]) (hh (triZ b5 b11 (triT (pl s) at_)) (by repeat constructor)).1 rfl)) rfl ?_); clear hS a; intro a hS
       first | (refine L_op (s_e hS (e_fa0 rfl ty_fo68_0) rfl ?_); clear hS a; intro a hS) | (refine L_op (s_e hS (e_faK rfl ty_fo68_0) rfl ?_); clear hS a; intro a hS)
       refine L_op (s_e hS (e_load rfl (by repeat constructor) ty_sc9 (by rfl)) rfl ?_); clear hS a; intro a hS
       refine L_op (s_e hS (e_lookupC rfl rfl ty_mp127 ty_u9 ty_zv136 (fun w hh => (hh (triZ b5 b11 (triT (pl s) at_)) (by repeat constructor)).2)) rfl ?_); clear hS a; intro a hS
       rw [lk_tot] at hS
       first | (refine L_op (s_e hS (e_fa0 rfl ty_fo68_0) rfl ?_); clear hS a; intro a hS) | (refine L_op (s_e hS (e_faK rfl ty_fo68_0) rfl ?_); clear hS a; intro a hS)
       refine L_op (s_e hS (e_load rfl (by repeat constructor) ty_sc9 (by rfl)) rfl ?_); clear hS a; intro a hS
       refine L_op (s_callP hS (.cons rfl (.cons rfl .nil)) cf71 rfl (sbal_P (totOf (triT (pl s) at_) x.code) x.code ft _) ?_); clear hS a; (try clear w); intro a w hS
       refine L_op (s_e hS (e_move rfl) rfl ?_); clear hS a; intro a hS
       refine L_op (s_e hS (e_extract rfl rfl) rfl ?_); clear hS a; intro a hS
       refine L_op (s_e hS (e_extract rfl rfl) rfl ?_); clear hS a; intro a hS
       refine L_op (s_alloc hS ty_z60 rfl ?_); clear hS a; (try clear w); intro a w b9 hS
       refine L_op (s_storeA hS rfl rfl ty_sz60 (by repeat constructor) (by rfl) (by rfl) (by rfl) ?_); clear hS; (try clear w); intro w hS
       refine L_op (s_e hS (e_assign rfl) rfl ?_); clear hS a; intro a hS
       refine L_nil ?_
       refine n_then ?_
       refine c_region ?_
       refine L_op (s_e hS (e_move rfl) rfl ?_); clear hS a; intro a hS
       refine L_op (s_e hS (e_loadA rfl (by repeat constructor) ty_st60 ty_sz60 (by rfl)) rfl ?_); clear hS a; intro a hS
       refine L_op (s_bslice hS ty_sl76 ty_sz60 ty_z60 rfl rfl rfl rfl (.agg rfl rfl .nil) rfl ?_); clear hS a; (try clear w); intro a w b37 hS
       refine L_op (s_append1 hS rfl rfl ty_sl76 ty_sz60 ty_by60 ty_z60 rfl rfl rfl (by repeat constructor) (by repeat constructor) (by rfl) (by rfl) (fun _ => (by repeat constructor)) (by omega) ?_); clear hS a; (try clear w); intro v38 a w hv38 hS
       refine L_op (s_e hS (e_assign rfl) rfl ?_); clear hS a; intro a hS
       refine L_nil ?_
       refine n_block ?_
       refine n_then ?_
       refine c_region ?_
       first | (refine L_op (s_e hS (e_binN rfl rfl rfl (by omega)) rfl ?_); clear hS a; intro a hS) | (refine L_op (s_e hS (e_bin rfl rfl rfl) rfl ?_); clear hS a; intro a hS)
       refine L_op (s_e hS (e_move rfl) rfl ?_); clear hS a; intro a hS
       refine L_nil ?_
       have e1 : (((accsL s.acs).take (i + 1)).map (triB (pl s) at_)).length = (((accsL s.acs).take i).map (triB (pl s) at_)).length + 1 := by rw [htk]; simp
       have e2 : (((accsL s.acs).take (i + 1)).map (triB (pl s) at_)).flatMap encBl = (((accsL s.acs).take i).map (triB (pl s) at_)).flatMap encBl ++ encBl (triB (pl s) at_ x) := by rw [htk, List.flatMap_append]; simp
       refine ⟨(i + 1, v38), by simp only; omega, ?_, by simp only; omega⟩
       simp only
       rw [e1, e2]
       exact (hS.slots (by repeat (first | exact trivial | refine ⟨rfl, ?_⟩))).pick (by repeat (first | exact Pick.nil | (refine Pick.cons (by repeat (first | exact Rem.head | apply Rem.tail)) ?_)))
     ·
       obtain rfl : i = (accsL s.acs).length := by omega
       have hall : ((accsL s.acs).take (accsL s.acs).length).map (triB (pl s) at_) = trialF (pl s) at_ := by rw [List.take_length]; rfl
       rw [hall] at hS
       refine wp_exit ?_
       refine x_then (x_then (x_hit ?_))
       refine n_then ?_
       refine c_seq ?_
       refine c_region ?_
       refine L_op (s_e hS (e_move rfl) rfl ?_); clear hS a; intro a hS
       refine L_op (s_e hS (e_assign rfl) rfl ?_); clear hS a; intro a hS
       refine L_nil ?_
       refine n_then ?_
       refine wp_ret ?_
       refine c_ret1 hS Try.results35 (.tmp rfl) ?_
       exact ⟨out, rfl, hS.chg, hS.new (X := ownA 60 3 out (trialF (pl s) at_).length ((trialF (pl s) at_).flatMap encBl)) (by repeat constructor) rfl⟩
end Go.Proofs.Ytheofhegdjjfgaa

namespace Go.Proofs.Ytheofhegdjjfgaa
open Go.RowKit

/-- a slice value that holds those postings; an empty one may stand anywhere. -/
def PsAt (v : Value) (l : List Pst) (w : World) : Prop :=
  (l = [] ∧ ∃ a c, v = .slice a 0 c) ∨ ∃ b off c, l ≠ [] ∧ v = sliceV (some (b, off)) l.length c ∧ RowAt b off 3 (l.map encP) w ∧ b < w.heap.size
structure LO where
  kind : Int
  at_ : Int
  a : Acc
  memo : ByteArray
  ps : List Pst
  pv : Value
def encLO (x : LO) : List Value := [.int .i64 x.kind, .int .i64 x.at_, .string x.a.code, .string x.a.cur, .int .i64 x.a.kind, .bool x.a.mon, .string x.memo, x.pv]
structure LO.fits (x : LO) : Prop where
  at_ : -9223372036854775808 ≤ x.at_ ∧ x.at_ ≤ 9223372036854775807
  code : x.a.code.size ≤ 4611686018427387904
  cur : x.a.cur.size ≤ 4611686018427387904
  memo : x.memo.size ≤ 4611686018427387904
  ps : (∀ y ∈ x.ps, y.fits) ∧ x.ps.length ≤ 4611686018427387904
def losφ (p : Option (Nat × Nat)) (l : List LO) (w : World) : Prop := RowP p 8 (l.map encLO) w ∧ ∀ x ∈ l, PsAt x.pv x.ps w
def losF (p : Option (Nat × Nat)) (l : List LO) (k : Nat) : Prop := (∃ off, p = some (k, off)) ∨ ∃ x ∈ l, x.ps ≠ [] ∧ x.pv.ownBlock = some k
def losA (p : Option (Nat × Nat)) (l : List LO) : Asn := .any (losF p l) (losφ p l) false
theorem heap_lt_ofL {w w' : World} {b : Nat} (h : b < w.heap.size) (hw : w'.heap[b]? = w.heap[b]?) : b < w'.heap.size := by
  rw [Array.getElem?_eq_getElem h] at hw
  exact (Array.getElem?_eq_some_iff.1 hw).1
theorem PsAt.keep {v : Value} {l : List Pst} {w w' : World} (h : PsAt v l w) (hw : ∀ k, l ≠ [] → v.ownBlock = some k → w'.heap[k]? = w.heap[k]?) : PsAt v l w' := by
  rcases h with h | ⟨b, off, c, h1, rfl, h2, h3⟩
  · exact .inl h
  · exact .inr ⟨b, off, c, h1, rfl, h2.keep (hw b h1 rfl), heap_lt_ofL h3 (hw b h1 rfl)⟩
theorem los_ok {p : Option (Nat × Nat)} {l : List LO} {w : World} (h : losφ p l w) (hb : ∀ q, p = some q → q.1 < w.heap.size) : (losA p l).ok w := by
  refine ⟨fun k hk => ?_, fun w' hw => ⟨(ok_rowP h.1 hb).hold w' (fun k hk => hw k (.inl hk)), fun x hx => (h.2 x hx).keep (fun k hk hk2 => hw k (.inr ⟨x, hx, hk, hk2⟩))⟩⟩
  rcases hk with ⟨off, e⟩ | ⟨x, hx, hne, e⟩
  · exact hb _ e
  · rcases h.2 x hx with ⟨h0, _⟩ | ⟨b, off, c, _, ev, _, h3⟩
    · exact absurd h0 hne
    · rw [ev] at e; cases e; exact h3
theorem PsAt.shape {v : Value} {l : List Pst} {w : World} (h : PsAt v l w) : ∃ a c, v = .slice a l.length c := by
  rcases h with ⟨rfl, a, c, rfl⟩ | ⟨b, off, c, _, rfl, _, _⟩
  · exact ⟨a, c, rfl⟩
  · exact ⟨_, c, rfl⟩
theorem PsAt.some {v : Value} {l : List Pst} {w : World} (h : PsAt v l w) (hne : l ≠ []) : ∃ b off c, v = sliceV (some (b, off)) l.length c ∧ RowAt b off 3 (l.map encP) w ∧ b < w.heap.size := by
  rcases h with ⟨h0, _⟩ | ⟨b, off, c, _, h1, h2, h3⟩
  · exact absurd h0 hne
  · exact ⟨b, off, c, h1, h2, h3⟩
theorem los_get {Γ : List Asn} {b off : Nat} {l : List LO} (hm : losA (some (b, off)) l ∈ Γ) {i : Nat} {x : LO} (hx : l[i]? = some x) : ∀ w, Hd Γ w → ∀ j v, (encLO x)[j]? = some v → w.cell? ⟨b, off + i * 8 + j, none⟩ = some v :=
  fun _ hh j v hj => (hh _ hm).1 i (encLO x) (by simp [hx]) j v hj
theorem los_pos {p : Option (Nat × Nat)} {l : List LO} {w : World} (h : losφ p l w) {i : Nat} {x : LO} (hx : l[i]? = some x) : ∃ b off, p = some (b, off) :=
  rowP_some h.1 (i := i) (x := encLO x) (by simp [hx])
def fewLO (o : LO) : Prop := o.a.code.size ≤ 300 ∧ o.a.cur.size ≤ 300 ∧ o.memo.size ≤ 300 ∧ o.ps.length ≤ 60 ∧ ∀ y ∈ o.ps, y.acc.size ≤ 300
instance (o : LO) : Decidable (fewLO o) := by unfold fewLO; infer_instance
def fewLs (l : List LO) : Prop := l.length ≤ 60 ∧ ∀ o ∈ l, fewLO o
instance (l : List LO) : Decidable (fewLs l) := by unfold fewLs; infer_instance
theorem not_fewL {l : List LO} {i : Nat} {x : LO} (hx : l[i]? = some x) (h : ¬ fewLO x) : decide (fewLs l) = false := decide_eq_false (fun hh => h (hh.2 x (List.mem_of_getElem? hx)))

set_option maxRecDepth 100000 in
theorem lFew_P (p : Option (Nat × Nat)) (c : Nat) (l : List LO) (hlen : l.length ≤ 4611686018427387904) (hfit : ∀ x ∈ l, x.fits) (w0 : World) (h : losφ p l w0) (hb : ∀ q, p = some q → q.1 < w0.heap.size) :
     PureC Try.prog 26 [sliceV p l.length c] w0 (.bool (decide (fewLs l))) := by
   refine c_enter [(0, sliceV p l.length c)] [losA p l] noB Try.func26 rfl Try.ntmps26 ⟨rfl, trivial⟩ rfl (okC (los_ok h hb) okN) dis1 (mineC (by rfl) mineN) ?_
   intro a hS
   refine c_seq ?_
   refine c_region ?_
   refine L_op (s_e hS (e_assign rfl) rfl ?_); clear hS a; intro a hS
   refine L_nil ?_
   refine n_then ?_
   refine c_seq ?_
   refine c_seq ?_
   refine c_region ?_
   refine L_op (s_e hS (e_assign rfl) rfl ?_); clear hS a; intro a hS
   refine L_nil ?_
   refine n_then ?_
   refine wp_block ?_
   skip
   refine c_loop (γ := Nat) (fun k a w => St 75 noB w0 a w [(3, .int .i64 (k : Int)), (0, sliceV p l.length c)] [losA p l] ∧ k ≤ l.length ∧ ∀ j, j < k → ∀ y, l[j]? = some y → fewLO y) (fun k => l.length - k) 0 ⟨hS.slots (by repeat (first | exact trivial | refine ⟨rfl, ?_⟩)), Nat.zero_le _, fun j hj => by omega⟩ ?_
   clear hS a; (try clear w); intro k a w hI
   obtain ⟨hS, hk, hno⟩ := hI
   refine c_seq ?_
   refine c_seq ?_
   refine c_region ?_
   refine L_op (s_e hS (e_move rfl) rfl ?_); clear hS a; intro a hS
   refine L_op (s_e hS (e_move rfl) rfl ?_); clear hS a; intro a hS
   refine L_op (s_e hS (e_len rfl rfl ty_sl50) rfl ?_); clear hS a; intro a hS
   refine L_op (s_e hS (e_bin rfl rfl rfl) rfl ?_); clear hS a; intro a hS
   refine L_op (s_e hS (e_move rfl) rfl ?_); clear hS a; intro a hS
   refine L_merge 3 12 (.bool (decide (k < l.length ∧ k ≤ 60))) hS ?_ ?_
   · intro hcM12
     (first | refine g_splitD (t := 9) hS rfl ?_ ?_ | refine g_split (t := 9) hS rfl ?_ ?_) <;> (clear hS; intro hg9 hS)
     ·
       refine L_go hS rfl rfl (s_e hS (e_move rfl) rfl ?_); clear hS a; intro a hS
       refine L_go hS rfl rfl (s_e hS (e_bin rfl rfl rfl) rfl ?_); clear hS a; intro a hS
       first | (refine L_op (s_e hS (e_pick_t rfl rfl) rfl ?_); clear hS a; intro a hS) | (refine L_op (s_e hS (e_pick_f rfl rfl) rfl ?_); clear hS a; intro a hS)
       exact hcM12 _ _ (hS.ends 4 12 9 rfl (congrArg Value.bool (by rw [decide_eq_decide]; omega)) rfl rfl (by first | exact congrArg Value.bool (decide_eq_true hg9).symm | exact congrArg Value.bool hg9.symm | simp [hg9]) rfl)
     ·
       refine L_skip_t hS rfl rfl rfl ?_; clear hS a; intro a hS
       refine L_skip_t hS rfl rfl rfl ?_; clear hS a; intro a hS
       first | (refine L_op (s_e hS (e_pick_t rfl rfl) rfl ?_); clear hS a; intro a hS) | (refine L_op (s_e hS (e_pick_f rfl rfl) rfl ?_); clear hS a; intro a hS)
       exact hcM12 _ _ (hS.ends 4 12 9 rfl (congrArg Value.bool (by exact (decide_eq_false (by omega)).symm)) rfl rfl (by first | exact congrArg Value.bool (decide_eq_false hg9).symm | exact congrArg Value.bool hg9.symm | simp [hg9]) rfl)
   · clear hS a; (try clear w); intro a w hS
     simp only [List.drop_succ_cons, List.drop_zero]
     refine L_nil ?_
     refine n_then ?_
     first | refine c_ifD hS rfl (fun hc12 => ?_) (fun hc12 => ?_) | refine c_if hS rfl (fun hc12 => ?_) (fun hc12 => ?_)
     ·
       obtain ⟨x, hx⟩ : ∃ x, l[k]? = some x := ⟨l[k]'(by omega), List.getElem?_eq_getElem (by omega)⟩
       obtain ⟨b, off, rfl⟩ := los_pos (hS.get (X := losA p l) (by repeat constructor)) hx
       have hxm := List.mem_of_getElem? hx
       obtain ⟨la, lc, hlv⟩ := PsAt.shape ((hS.get (X := losA (some (b, off)) l) (by repeat constructor)).2 x hxm)
       have hxf := hfit x hxm
       have hxl := hxf.ps.2
       refine wp_skip ?_
       refine n_then ?_
       refine c_seq ?_
       refine wp_block ?_
       refine c_seq ?_
       refine c_seq ?_
       refine c_region ?_
       refine L_op (s_e hS (e_move rfl) rfl ?_); clear hS a; intro a hS
       refine L_op (s_e hS (e_move rfl) rfl ?_); clear hS a; intro a hS
       refine L_op (s_e hS (e_ixN rfl rfl ty_sl50 ty_sz72 (by omega)) rfl ?_); clear hS a; intro a hS
       first | (refine L_op (s_e hS (e_fa0 rfl ty_fo72_2) rfl ?_); clear hS a; intro a hS) | (refine L_op (s_e hS (e_faK rfl ty_fo72_2) rfl ?_); clear hS a; intro a hS)
       first | (refine L_op (s_e hS (e_fa0 rfl ty_fo68_0) rfl ?_); clear hS a; intro a hS) | (refine L_op (s_e hS (e_faK rfl ty_fo68_0) rfl ?_); clear hS a; intro a hS)
       refine L_op (s_e hS (e_loadC rfl ty_sc9 (fun w hh => los_get (by repeat constructor) hx w hh 2 (.string x.a.code) rfl)) rfl ?_); clear hS a; intro a hS
       refine L_op (s_e hS (e_lenS rfl rfl ty_u9) rfl ?_); clear hS a; intro a hS
       refine L_op (s_e hS (e_bin rfl rfl rfl) rfl ?_); clear hS a; intro a hS
       refine L_op (s_e hS (e_move rfl) rfl ?_); clear hS a; intro a hS
       (first | refine g_splitD (t := 23) hS rfl ?_ ?_ | refine g_split (t := 23) hS rfl ?_ ?_) <;> (clear hS; intro hg23 hS)
       ·
         refine L_skip_f hS rfl rfl rfl ?_; clear hS a; intro a hS
         refine L_skip_f hS rfl rfl rfl ?_; clear hS a; intro a hS
         refine L_skip_f hS rfl rfl rfl ?_; clear hS a; intro a hS
         refine L_skip_f hS rfl rfl rfl ?_; clear hS a; intro a hS
         refine L_skip_f hS rfl rfl rfl ?_; clear hS a; intro a hS
         refine L_skip_f hS rfl rfl rfl ?_; clear hS a; intro a hS
         refine L_skip_f hS rfl rfl rfl ?_; clear hS a; intro a hS
         refine L_skip_f hS rfl rfl rfl ?_; clear hS a; intro a hS
         first | (refine L_op (s_e hS (e_pick_t rfl rfl) rfl ?_); clear hS a; intro a hS) | (refine L_op (s_e hS (e_pick_f rfl rfl) rfl ?_); clear hS a; intro a hS)
         refine L_op (s_e hS (e_move rfl) rfl ?_); clear hS a; intro a hS
         refine L_skip_f hS rfl rfl rfl ?_; clear hS a; intro a hS
         refine L_skip_f hS rfl rfl rfl ?_; clear hS a; intro a hS
         refine L_skip_f hS rfl rfl rfl ?_; clear hS a; intro a hS
         refine L_skip_f hS rfl rfl rfl ?_; clear hS a; intro a hS
         refine L_skip_f hS rfl rfl rfl ?_; clear hS a; intro a hS
         refine L_skip_f hS rfl rfl rfl ?_; clear hS a; intro a hS
         refine L_skip_f hS rfl rfl rfl ?_; clear hS a; intro a hS
         first | (refine L_op (s_e hS (e_pick_t rfl rfl) rfl ?_); clear hS a; intro a hS) | (refine L_op (s_e hS (e_pick_f rfl rfl) rfl ?_); clear hS a; intro a hS)
         refine L_op (s_e hS (e_move rfl) rfl ?_); clear hS a; intro a hS
         refine L_skip_f hS rfl rfl rfl ?_; clear hS a; intro a hS
         refine L_skip_f hS rfl rfl rfl ?_; clear hS a; intro a hS
         refine L_skip_f hS rfl rfl rfl ?_; clear hS a; intro a hS
         refine L_skip_f hS rfl rfl rfl ?_; clear hS a; intro a hS
         refine L_skip_f hS rfl rfl rfl ?_; clear hS a; intro a hS
         refine L_skip_f hS rfl rfl rfl ?_; clear hS a; intro a hS
         refine L_skip_f hS rfl rfl rfl ?_; clear hS a; intro a hS
         first | (refine L_op (s_e hS (e_pick_t rfl rfl) rfl ?_); clear hS a; intro a hS) | (refine L_op (s_e hS (e_pick_f rfl rfl) rfl ?_); clear hS a; intro a hS)
         refine L_nil ?_
         refine n_then ?_
         refine c_if_t hS rfl ?_
         refine c_seq ?_
         refine c_region ?_
         refine L_op (s_e hS (e_assign rfl) rfl ?_); clear hS a; intro a hS
         refine L_nil ?_
         refine n_then ?_
         refine wp_ret ?_
         refine r_then (r_block (r_then (r_then (r_block (r_then ?_)))))
         refine c_ret1 hS Try.results26 (.tmp rfl) ?_
         exact ⟨by rw [not_fewL hx (by unfold fewLO; omega)], hS.chg⟩
       ·
         refine L_go hS rfl rfl (s_e hS (e_move rfl) rfl ?_); clear hS a; intro a hS
         refine L_go hS rfl rfl (s_e hS (e_move rfl) rfl ?_); clear hS a; intro a hS
         refine L_go hS rfl rfl (s_e hS (e_ixN rfl rfl ty_sl50 ty_sz72 (by omega)) rfl ?_); clear hS a; intro a hS
         first | (refine L_go hS rfl rfl (s_e hS (e_fa0 rfl ty_fo72_2) rfl ?_); clear hS a; intro a hS) | (refine L_go hS rfl rfl (s_e hS (e_faK rfl ty_fo72_2) rfl ?_); clear hS a; intro a hS)
         first | (refine L_go hS rfl rfl (s_e hS (e_fa0 rfl ty_fo68_1) rfl ?_); clear hS a; intro a hS) | (refine L_go hS rfl rfl (s_e hS (e_faK rfl ty_fo68_1) rfl ?_); clear hS a; intro a hS)
         refine L_go hS rfl rfl (s_e hS (e_loadC rfl ty_sc9 (fun w hh => los_get (by repeat constructor) hx w hh 3 (.string x.a.cur) rfl)) rfl ?_); clear hS a; intro a hS
         refine L_go hS rfl rfl (s_e hS (e_lenS rfl rfl ty_u9) rfl ?_); clear hS a; intro a hS
         refine L_go hS rfl rfl (s_e hS (e_bin rfl rfl rfl) rfl ?_); clear hS a; intro a hS
         first | (refine L_op (s_e hS (e_pick_t rfl rfl) rfl ?_); clear hS a; intro a hS) | (refine L_op (s_e hS (e_pick_f rfl rfl) rfl ?_); clear hS a; intro a hS)
         refine L_op (s_e hS (e_move rfl) rfl ?_); clear hS a; intro a hS
         (first | refine g_splitD (t := 33) hS rfl ?_ ?_ | refine g_split (t := 33) hS rfl ?_ ?_) <;> (clear hS; intro hg33 hS)
         ·
           refine L_skip_f hS rfl rfl rfl ?_; clear hS a; intro a hS
           refine L_skip_f hS rfl rfl rfl ?_; clear hS a; intro a hS
           refine L_skip_f hS rfl rfl rfl ?_; clear hS a; intro a hS
           refine L_skip_f hS rfl rfl rfl ?_; clear hS a; intro a hS
           refine L_skip_f hS rfl rfl rfl ?_; clear hS a; intro a hS
           refine L_skip_f hS rfl rfl rfl ?_; clear hS a; intro a hS
           refine L_skip_f hS rfl rfl rfl ?_; clear hS a; intro a hS
           first | (refine L_op (s_e hS (e_pick_t rfl rfl) rfl ?_); clear hS a; intro a hS) | (refine L_op (s_e hS (e_pick_f rfl rfl) rfl ?_); clear hS a; intro a hS)
           refine L_op (s_e hS (e_move rfl) rfl ?_); clear hS a; intro a hS
           refine L_skip_f hS rfl rfl rfl ?_; clear hS a; intro a hS
           refine L_skip_f hS rfl rfl rfl ?_; clear hS a; intro a hS
           refine L_skip_f hS rfl rfl rfl ?_; clear hS a; intro a hS
           refine L_skip_f hS rfl rfl rfl ?_; clear hS a; intro a hS
           refine L_skip_f hS rfl rfl rfl ?_; clear hS a; intro a hS
           refine L_skip_f hS rfl rfl rfl ?_; clear hS a; intro a hS
           refine L_skip_f hS rfl rfl rfl ?_; clear hS a; intro a hS
           first | (refine L_op (s_e hS (e_pick_t rfl rfl) rfl ?_); clear hS a; intro a hS) | (refine L_op (s_e hS (e_pick_f rfl rfl) rfl ?_); clear hS a; intro a hS)
           refine L_nil ?_
           refine n_then ?_
           refine c_if_t hS rfl ?_
           refine c_seq ?_
           refine c_region ?_
           refine L_op (s_e hS (e_assign rfl) rfl ?_); clear hS a; intro a hS
           refine L_nil ?_
           refine n_then ?_
           refine wp_ret ?_
           refine r_then (r_block (r_then (r_then (r_block (r_then ?_)))))
           refine c_ret1 hS Try.results26 (.tmp rfl) ?_
           exact ⟨by rw [not_fewL hx (by unfold fewLO; omega)], hS.chg⟩
         ·
           refine L_go hS rfl rfl (s_e hS (e_move rfl) rfl ?_); clear hS a; intro a hS
           refine L_go hS rfl rfl (s_e hS (e_move rfl) rfl ?_); clear hS a; intro a hS
           refine L_go hS rfl rfl (s_e hS (e_ixN rfl rfl ty_sl50 ty_sz72 (by omega)) rfl ?_); clear hS a; intro a hS
           first | (refine L_go hS rfl rfl (s_e hS (e_fa0 rfl ty_fo72_3) rfl ?_); clear hS a; intro a hS) | (refine L_go hS rfl rfl (s_e hS (e_faK rfl ty_fo72_3) rfl ?_); clear hS a; intro a hS)
           refine L_go hS rfl rfl (s_e hS (e_loadC rfl ty_sc9 (fun w hh => los_get (by repeat constructor) hx w hh 6 (.string x.memo) rfl)) rfl ?_); clear hS a; intro a hS
           refine L_go hS rfl rfl (s_e hS (e_lenS rfl rfl ty_u9) rfl ?_); clear hS a; intro a hS
           refine L_go hS rfl rfl (s_e hS (e_bin rfl rfl rfl) rfl ?_); clear hS a; intro a hS
           first | (refine L_op (s_e hS (e_pick_t rfl rfl) rfl ?_); clear hS a; intro a hS) | (refine L_op (s_e hS (e_pick_f rfl rfl) rfl ?_); clear hS a; intro a hS)
           refine L_op (s_e hS (e_move rfl) rfl ?_); clear hS a; intro a hS
           (first | refine g_splitD (t := 42) hS rfl ?_ ?_ | refine g_split (t := 42) hS rfl ?_ ?_) <;> (clear hS; intro hg42 hS)
           ·
             refine L_skip_f hS rfl rfl rfl ?_; clear hS a; intro a hS
             refine L_skip_f hS rfl rfl rfl ?_; clear hS a; intro a hS
             refine L_skip_f hS rfl rfl rfl ?_; clear hS a; intro a hS
             refine L_skip_f hS rfl rfl rfl ?_; clear hS a; intro a hS
             refine L_skip_f hS rfl rfl rfl ?_; clear hS a; intro a hS
             refine L_skip_f hS rfl rfl rfl ?_; clear hS a; intro a hS
             refine L_skip_f hS rfl rfl rfl ?_; clear hS a; intro a hS
             first | (refine L_op (s_e hS (e_pick_t rfl rfl) rfl ?_); clear hS a; intro a hS) | (refine L_op (s_e hS (e_pick_f rfl rfl) rfl ?_); clear hS a; intro a hS)
             refine L_nil ?_
             refine n_then ?_
             refine c_if_t hS rfl ?_
             refine c_seq ?_
             refine c_region ?_
             refine L_op (s_e hS (e_assign rfl) rfl ?_); clear hS a; intro a hS
             refine L_nil ?_
             refine n_then ?_
             refine wp_ret ?_
             refine r_then (r_block (r_then (r_then (r_block (r_then ?_)))))
             refine c_ret1 hS Try.results26 (.tmp rfl) ?_
             exact ⟨by rw [not_fewL hx (by unfold fewLO; omega)], hS.chg⟩
           ·
             refine L_go hS rfl rfl (s_e hS (e_move rfl) rfl ?_); clear hS a; intro a hS
             refine L_go hS rfl rfl (s_e hS (e_move rfl) rfl ?_); clear hS a; intro a hS
             refine L_go hS rfl rfl (s_e hS (e_ixN rfl rfl ty_sl50 ty_sz72 (by omega)) rfl ?_); clear hS a; intro a hS
             first | (refine L_go hS rfl rfl (s_e hS (e_fa0 rfl ty_fo72_4) rfl ?_); clear hS a; intro a hS) | (refine L_go hS rfl rfl (s_e hS (e_faK rfl ty_fo72_4) rfl ?_); clear hS a; intro a hS)
             refine L_go hS rfl rfl (s_e hS (e_loadC rfl ty_sc56 (fun w hh => los_get (by repeat constructor) hx w hh 7 x.pv rfl)) rfl ?_); clear hS a; intro a hS
             rw [hlv] at hS
             refine L_go hS rfl rfl (s_e hS (e_len rfl rfl ty_sl56) rfl ?_); clear hS a; intro a hS
             refine L_go hS rfl rfl (s_e hS (e_bin rfl rfl rfl) rfl ?_); clear hS a; intro a hS
             first | (refine L_op (s_e hS (e_pick_t rfl rfl) rfl ?_); clear hS a; intro a hS) | (refine L_op (s_e hS (e_pick_f rfl rfl) rfl ?_); clear hS a; intro a hS)
             refine L_nil ?_
             refine n_then ?_
             first | refine c_ifD hS rfl (fun hc50 => ?_) (fun hc50 => ?_) | refine c_if hS rfl (fun hc50 => ?_) (fun hc50 => ?_)
             ·
               refine c_seq ?_
               refine c_region ?_
               refine L_op (s_e hS (e_assign rfl) rfl ?_); clear hS a; intro a hS
               refine L_nil ?_
               refine n_then ?_
               refine wp_ret ?_
               refine r_then (r_block (r_then (r_then (r_block (r_then ?_)))))
               refine c_ret1 hS Try.results26 (.tmp rfl) ?_
               exact ⟨by rw [not_fewL hx (by unfold fewLO; omega)], hS.chg⟩
             ·
               refine wp_skip ?_
               refine n_then ?_
               refine c_seq ?_
               refine c_region ?_
               refine L_op (s_e hS (e_assign rfl) rfl ?_); clear hS a; intro a hS
               refine L_nil ?_
               refine n_then ?_
               refine wp_block ?_
               skip
               refine c_loop (γ := Nat) (fun j a w => St 75 noB w0 a w [(4, .int .i64 (j : Int)), (3, .int .i64 (k : Int)), (0, sliceV (some (b, off)) l.length c)] [losA (some (b, off)) l] ∧ j ≤ x.ps.length ∧ ∀ i, i < j → ∀ y, x.ps[i]? = some y → y.acc.size ≤ 300) (fun j => x.ps.length - j) 0 ⟨(hS.slots (by repeat (first | exact trivial | refine ⟨rfl, ?_⟩))).pick (by repeat (first | exact Pick.nil | (refine Pick.cons (by repeat (first | exact Rem.head | apply Rem.tail)) ?_))), Nat.zero_le _, fun i hi => by omega⟩ ?_
               clear hS a; (try clear w); intro j a w hI
               obtain ⟨hS, hj, hok⟩ := hI
               refine c_seq ?_
               refine c_seq ?_
               refine c_region ?_
               refine L_op (s_e hS (e_move rfl) rfl ?_); clear hS a; intro a hS
               refine L_op (s_e hS (e_move rfl) rfl ?_); clear hS a; intro a hS
               refine L_op (s_e hS (e_move rfl) rfl ?_); clear hS a; intro a hS
               refine L_op (s_e hS (e_ixN rfl rfl ty_sl50 ty_sz72 (by omega)) rfl ?_); clear hS a; intro a hS
               first | (refine L_op (s_e hS (e_fa0 rfl ty_fo72_4) rfl ?_); clear hS a; intro a hS) | (refine L_op (s_e hS (e_faK rfl ty_fo72_4) rfl ?_); clear hS a; intro a hS)
               refine L_op (s_e hS (e_loadC rfl ty_sc56 (fun w hh => los_get (by repeat constructor) hx w hh 7 x.pv rfl)) rfl ?_); clear hS a; intro a hS
               rw [hlv] at hS
               refine L_op (s_e hS (e_len rfl rfl ty_sl56) rfl ?_); clear hS a; intro a hS
               refine L_op (s_e hS (e_bin rfl rfl rfl) rfl ?_); clear hS a; intro a hS
               refine L_nil ?_
               refine n_then ?_
               first | refine c_ifD hS rfl (fun hc58 => ?_) (fun hc58 => ?_) | refine c_if hS rfl (fun hc58 => ?_) (fun hc58 => ?_)
               ·
                 have hjl : j < x.ps.length := by omega
                 obtain ⟨y, hy⟩ : ∃ y, x.ps[j]? = some y := ⟨x.ps[j], List.getElem?_eq_getElem hjl⟩
                 have hne : x.ps ≠ [] := fun e => by rw [e] at hjl; simp at hjl
                 obtain ⟨b2, off2, c2, hlv2, _, _⟩ := PsAt.some ((hS.get (X := losA (some (b, off)) l) (by repeat constructor)).2 x hxm) hne
                 refine wp_skip ?_
                 refine n_then ?_
                 refine c_seq ?_
                 refine wp_block ?_
                 refine c_seq ?_
                 refine c_region ?_
                 refine L_op (s_e hS (e_move rfl) rfl ?_); clear hS a; intro a hS
                 refine L_op (s_e hS (e_move rfl) rfl ?_); clear hS a; intro a hS
                 refine L_op (s_e hS (e_ixN rfl rfl ty_sl50 ty_sz72 (by omega)) rfl ?_); clear hS a; intro a hS
                 first | (refine L_op (s_e hS (e_fa0 rfl ty_fo72_4) rfl ?_); clear hS a; intro a hS) | (refine L_op (s_e hS (e_faK rfl ty_fo72_4) rfl ?_); clear hS a; intro a hS)
                 refine L_op (s_e hS (e_loadC rfl ty_sc56 (fun w hh => los_get (by repeat constructor) hx w hh 7 x.pv rfl)) rfl ?_); clear hS a; intro a hS
                 rw [hlv2] at hS
                 refine L_op (s_e hS (e_move rfl) rfl ?_); clear hS a; intro a hS
                 refine L_op (s_e hS (e_ixN rfl rfl ty_sl56 ty_sz63 (by omega)) rfl ?_); clear hS a; intro a hS
                 first | (refine L_op (s_e hS (e_fa0 rfl ty_fo63_0) rfl ?_); clear hS a; intro a hS) | (refine L_op (s_e hS (e_faK rfl ty_fo63_0) rfl ?_); clear hS a; intro a hS)
                 refine L_op (s_e hS (e_loadC rfl ty_sc9 (fun w hh => by
 obtain ⟨b3, off3, c3, hlv3, hr3, _⟩ := PsAt.some ((hh (losA (some (b, off)) l) (by repeat constructor)).2 x hxm) hne
 rw [hlv2] at hlv3
 obtain ⟨e1, e2⟩ : b2 = b3 ∧ off2 = off3 := by simp [sliceV] at hlv3; exact ⟨hlv3.1.1, hlv3.1.2⟩
 subst e1 e2
 exact hr3 j (encP y) (by simp [hy]) 0 (.string y.acc) rfl)) rfl ?_); clear hS a; intro a hS
                 refine L_op (s_e hS (e_lenS rfl rfl ty_u9) rfl ?_); clear hS a; intro a hS
                 refine L_op (s_e hS (e_bin rfl rfl rfl) rfl ?_); clear hS a; intro a hS
                 refine L_nil ?_
                 refine n_then ?_
                 first | refine c_ifD hS rfl (fun hc71 => ?_) (fun hc71 => ?_) | refine c_if hS rfl (fun hc71 => ?_) (fun hc71 => ?_)
                 ·
                   refine c_seq ?_
                   refine c_region ?_
                   refine L_op (s_e hS (e_assign rfl) rfl ?_); clear hS a; intro a hS
                   refine L_nil ?_
                   refine n_then ?_
                   refine wp_ret ?_
                   refine r_block (r_then (r_then (r_block (r_block (r_then (r_then (r_block (r_then ?_))))))))
                   refine c_ret1 hS Try.results26 (.tmp rfl) ?_
                   exact ⟨by rw [not_fewL hx (fun hf => by have := hf.2.2.2.2 y (List.mem_of_getElem? hy); omega)], hS.chg⟩
                 ·
                   refine wp_skip ?_
                   refine n_block ?_
                   refine n_then ?_
                   refine c_region ?_
                   refine L_op (s_e hS (e_move rfl) rfl ?_); clear hS a; intro a hS
                   first | (refine L_op (s_e hS (e_binN rfl rfl rfl (by omega)) rfl ?_); clear hS a; intro a hS) | (refine L_op (s_e hS (e_bin rfl rfl rfl) rfl ?_); clear hS a; intro a hS)
                   refine L_op (s_e hS (e_assign rfl) rfl ?_); clear hS a; intro a hS
                   refine L_nil ?_
                   exact ⟨j + 1, by omega, hS.slots (by repeat (first | exact trivial | refine ⟨rfl, ?_⟩)), by omega, fun i hi z hz => by
                   by_cases e : i = j
                   · subst e; rw [hy] at hz; cases hz; omega
                   · exact hok i (by omega) z hz⟩
               ·
                 refine wp_exit ?_
                 refine x_then (x_then (x_hit ?_))
                 refine n_block ?_
                 refine n_then ?_
                 refine c_region ?_
                 refine L_op (s_e hS (e_move rfl) rfl ?_); clear hS a; intro a hS
                 first | (refine L_op (s_e hS (e_binN rfl rfl rfl (by omega)) rfl ?_); clear hS a; intro a hS) | (refine L_op (s_e hS (e_bin rfl rfl rfl) rfl ?_); clear hS a; intro a hS)
                 refine L_op (s_e hS (e_assign rfl) rfl ?_); clear hS a; intro a hS
                 refine L_nil ?_
                 have hfx : fewLO x := ⟨by omega, by omega, by omega, by omega, fun z hz => by
                   obtain ⟨i, hi, rfl⟩ := List.mem_iff_getElem.1 hz
                   exact hok i (by omega) _ (List.getElem?_eq_getElem hi)⟩
                 exact ⟨k + 1, by omega, hS.slots (by repeat (first | exact trivial | refine ⟨rfl, ?_⟩)), by omega, fun i hi z hz => by
                   by_cases e : i = k
                   · subst e; rw [hx] at hz; cases hz; exact hfx
                   · exact hno i (by omega) z hz⟩
     ·
       refine wp_exit ?_
       refine x_then (x_then (x_hit ?_))
       refine n_then ?_
       refine c_seq ?_
       refine c_region ?_
       refine L_op (s_e hS (e_move rfl) rfl ?_); clear hS a; intro a hS
       refine L_op (s_e hS (e_len rfl rfl ty_sl50) rfl ?_); clear hS a; intro a hS
       refine L_op (s_e hS (e_bin rfl rfl rfl) rfl ?_); clear hS a; intro a hS
       refine L_op (s_e hS (e_assign rfl) rfl ?_); clear hS a; intro a hS
       refine L_nil ?_
       refine n_then ?_
       refine wp_ret ?_
       refine c_ret1 hS Try.results26 (.tmp rfl) ?_
       have hR : (decide ((l.length : Int) ≤ 60)) = decide (fewLs l) := by
         rw [decide_eq_decide]
         constructor
         · intro h1
           refine ⟨by omega, fun o ho => ?_⟩
           obtain ⟨i, hi, rfl⟩ := List.mem_iff_getElem.1 ho
           exact hno i (by omega) _ (List.getElem?_eq_getElem hi)
         · intro h1; have := h1.1; omega
       exact ⟨by rw [hR], hS.chg⟩

/-! ### no postings at all -/
theorem check_nil (P : PL) (at_ : Int) (memo : ByteArray) : checkE P at_ memo [] ≠ 0 := by
  unfold checkE
  split
  · decide
  · split
    · decide
    · split
      · decide
      · rw [if_pos (.inl (.inl (by decide)))]; decide
set_option maxRecDepth 100000 in
theorem lCheck0_P (B : LB) (s : LS) (q : Option Addr) (c : Nat) (at_ : Int) (memo : ByteArray) (w0 : World) (h : ledφ B s w0) :
    PureC Try.prog 33 [.pointer (some ⟨B.lb, 0, none⟩), .int .i64 at_, .string memo, .slice q 0 c] w0 (.int .i64 (checkE (pl s) at_ memo [])) := by
  refine c_enter [(0, .pointer (some ⟨B.lb, 0, none⟩)), (1, .int .i64 at_), (2, .string memo), (3, .slice q 0 c)] [ledA B s false] noB Try.func33 rfl Try.ntmps33 ⟨rfl, rfl, rfl, rfl, trivial⟩ rfl (okC (led_ok false h) okN) dis1 (mineC (by rfl) mineN) ?_
  intro a hS
  refine c_seq ?_
  refine c_region ?_
  refine L_op (s_e hS (e_assign rfl) rfl ?_); clear hS a; intro a hS
  refine L_nil ?_
  refine n_then ?_
  refine c_seq ?_
  refine wp_block ?_
  refine c_seq ?_
  refine c_region ?_
  refine L_op (s_e hS (e_move rfl) rfl ?_); clear hS a; intro a hS
  refine L_op (s_callP hS (.cons rfl .nil) cf67 rfl (linst_P at_ _) ?_); clear hS a; (try clear w); intro a w hS
  refine L_op (s_e hS (e_not rfl) rfl ?_); clear hS a; intro a hS
  refine L_op (s_e hS (e_assign rfl) rfl ?_); clear hS a; intro a hS
  refine L_nil ?_
  refine n_then ?_
  first | refine c_ifD hS rfl (fun hc14 => ?_) (fun hc14 => ?_) | refine c_if hS rfl (fun hc14 => ?_) (fun hc14 => ?_)
  ·
    refine c_seq ?_
    refine c_region ?_
    refine L_op (s_e hS (e_assign rfl) rfl ?_); clear hS a; intro a hS
    refine L_nil ?_
    refine n_then ?_
    refine wp_ret ?_
    refine r_block (r_then ?_)
    refine c_ret1 hS Try.results33 (.tmp rfl) ?_
    exact ⟨by rw [show checkE (pl s) at_ memo [] = 6 from if_pos (by simpa using hc14)], hS.chg⟩
  ·
    have h1 : ¬ ¬ inst at_ := by simpa using hc14
    refine c_seq ?_
    refine c_region ?_
    refine L_op (s_e hS (e_move rfl) rfl ?_); clear hS a; intro a hS
    refine L_op (s_e hS (e_move rfl) rfl ?_); clear hS a; intro a hS
    refine L_op (s_e hS (e_nilCheck rfl) rfl ?_); clear hS a; intro a hS
    first | (refine L_op (s_e hS (e_fa0 rfl ty_fo129_4) rfl ?_); clear hS a; intro a hS) | (refine L_op (s_e hS (e_faK rfl ty_fo129_4) rfl ?_); clear hS a; intro a hS)
    refine L_op (s_e hS (e_loadC rfl ty_sc3 (led_cell (k := 4) (by repeat constructor) rfl)) rfl ?_); clear hS a; intro a hS
    refine L_op (s_e hS (e_bin rfl rfl rfl) rfl ?_); clear hS a; intro a hS
    refine L_op (s_e hS (e_assign rfl) rfl ?_); clear hS a; intro a hS
    refine L_nil ?_
    refine n_then ?_
    first | refine c_ifD hS rfl (fun hc18 => ?_) (fun hc18 => ?_) | refine c_if hS rfl (fun hc18 => ?_) (fun hc18 => ?_)
    ·
      refine c_seq ?_
      refine c_region ?_
      refine L_op (s_e hS (e_assign rfl) rfl ?_); clear hS a; intro a hS
      refine L_nil ?_
      refine n_then ?_
      refine wp_ret ?_
      refine r_block (r_then ?_)
      refine c_ret1 hS Try.results33 (.tmp rfl) ?_
      exact ⟨by rw [show checkE (pl s) at_ memo [] = 27 by unfold checkE; rw [if_neg h1, if_pos (show at_ ≤ (pl s).closed from hc18)]], hS.chg⟩
    ·
      have h2 : ¬ at_ ≤ (pl s).closed := hc18
      refine c_seq ?_
      refine c_region ?_
      refine L_op (s_e hS (e_move rfl) rfl ?_); clear hS a; intro a hS
      refine L_op (s_e hS (e_lenS rfl rfl ty_u9) rfl ?_); clear hS a; intro a hS
      refine L_op (s_e hS (e_bin rfl rfl rfl) rfl ?_); clear hS a; intro a hS
      refine L_op (s_e hS (e_assign rfl) rfl ?_); clear hS a; intro a hS
      refine L_nil ?_
      refine n_then ?_
      first | refine c_ifD hS rfl (fun hc25 => ?_) (fun hc25 => ?_) | refine c_if hS rfl (fun hc25 => ?_) (fun hc25 => ?_)
      ·
        refine c_seq ?_
        refine c_region ?_
        refine L_op (s_e hS (e_assign rfl) rfl ?_); clear hS a; intro a hS
        refine L_nil ?_
        refine n_then ?_
        refine wp_ret ?_
        refine r_block (r_then ?_)
        refine c_ret1 hS Try.results33 (.tmp rfl) ?_
        exact ⟨by rw [show checkE (pl s) at_ memo [] = 8 by unfold checkE; rw [if_neg h1, if_neg h2, if_pos (by omega)]], hS.chg⟩
      ·
        have h3 : ¬ 100 < memo.size := by omega
        refine c_seq ?_
        refine c_region ?_
        refine L_op (s_e hS (e_move rfl) rfl ?_); clear hS a; intro a hS
        refine L_op (s_e hS (e_len rfl rfl ty_sl56) rfl ?_); clear hS a; intro a hS
        refine L_op (s_e hS (e_bin rfl rfl rfl) rfl ?_); clear hS a; intro a hS
        refine L_op (s_e hS (e_move rfl) rfl ?_); clear hS a; intro a hS
        replace hS := hS.is (t := 33) (c := true) rfl ((by decide))
        refine L_skip_f hS rfl rfl rfl ?_; clear hS a; intro a hS
        refine L_skip_f hS rfl rfl rfl ?_; clear hS a; intro a hS
        refine L_skip_f hS rfl rfl rfl ?_; clear hS a; intro a hS
        first | (refine L_op (s_e hS (e_pick_t rfl rfl) rfl ?_); clear hS a; intro a hS) | (refine L_op (s_e hS (e_pick_f rfl rfl) rfl ?_); clear hS a; intro a hS)
        refine L_op (s_e hS (e_move rfl) rfl ?_); clear hS a; intro a hS
        refine L_skip_f hS rfl rfl rfl ?_; clear hS a; intro a hS
        refine L_skip_f hS rfl rfl rfl ?_; clear hS a; intro a hS
        refine L_skip_f hS rfl rfl rfl ?_; clear hS a; intro a hS
        refine L_skip_f hS rfl rfl rfl ?_; clear hS a; intro a hS
        refine L_skip_f hS rfl rfl rfl ?_; clear hS a; intro a hS
        refine L_skip_f hS rfl rfl rfl ?_; clear hS a; intro a hS
        first | (refine L_op (s_e hS (e_pick_t rfl rfl) rfl ?_); clear hS a; intro a hS) | (refine L_op (s_e hS (e_pick_f rfl rfl) rfl ?_); clear hS a; intro a hS)
        refine L_op (s_e hS (e_assign rfl) rfl ?_); clear hS a; intro a hS
        refine L_nil ?_
        refine n_then ?_
        refine c_if_t hS rfl ?_
        refine c_seq ?_
        refine c_region ?_
        refine L_op (s_e hS (e_assign rfl) rfl ?_); clear hS a; intro a hS
        refine L_nil ?_
        refine n_then ?_
        refine wp_ret ?_
        refine r_block (r_then ?_)
        refine c_ret1 hS Try.results33 (.tmp rfl) ?_
        exact ⟨by rw [show checkE (pl s) at_ memo [] = 9 by unfold checkE; rw [if_neg h1, if_neg h2, if_neg h3, if_pos (.inl (.inl (by decide)))]], hS.chg⟩
set_option maxRecDepth 100000 in
theorem lPost0_P (B : LB) (s : LS) (q : Option Addr) (c : Nat) (at_ : Int) (memo : ByteArray) (w0 : World) (h : ledφ B s w0) :
    PureC Try.prog 32 [.pointer (some ⟨B.lb, 0, none⟩), .int .i64 at_, .string memo, .slice q 0 c] w0 (.tuple [.int .i64 (postI (pl s) at_ memo []), .int .i64 (checkE (pl s) at_ memo [])].toArray) := by
  have hn := check_nil (pl s) at_ memo
  have hI : postI (pl s) at_ memo [] = 0 := if_neg hn
  refine c_enter [(0, .pointer (some ⟨B.lb, 0, none⟩)), (1, .int .i64 at_), (2, .string memo), (3, .slice q 0 c)] [ledA B s false] noB Try.func32 rfl Try.ntmps32 ⟨rfl, rfl, rfl, rfl, trivial⟩ rfl (okC (led_ok false h) okN) dis1 (mineC (by rfl) mineN) ?_
  intro a hS
  refine c_seq ?_
  refine c_region ?_
  refine L_op (s_e hS (e_assign rfl) rfl ?_); clear hS a; intro a hS
  refine L_op (s_e hS (e_assign rfl) rfl ?_); clear hS a; intro a hS
  refine L_nil ?_
  refine n_then ?_
  refine c_seq ?_
  refine c_seq ?_
  refine c_region ?_
  refine L_op (s_e hS (e_move rfl) rfl ?_); clear hS a; intro a hS
  refine L_op (s_e hS (e_move rfl) rfl ?_); clear hS a; intro a hS
  refine L_op (s_e hS (e_move rfl) rfl ?_); clear hS a; intro a hS
  refine L_op (s_e hS (e_move rfl) rfl ?_); clear hS a; intro a hS
  refine L_op (s_callP hS (.cons rfl (.cons rfl (.cons rfl (.cons rfl .nil)))) cf33 rfl (lCheck0_P B s q c at_ memo _ (hS.get (X := ledA B s false) (by repeat constructor))) ?_); clear hS a; (try clear w); intro a w hS
  refine L_op (s_e hS (e_assign rfl) rfl ?_); clear hS a; intro a hS
  refine L_nil ?_
  refine n_then ?_
  refine c_seq ?_
  refine c_region ?_
  refine L_op (s_e hS (e_move rfl) rfl ?_); clear hS a; intro a hS
  refine L_op (s_e hS (e_bin rfl rfl rfl) rfl ?_); clear hS a; intro a hS
  refine L_nil ?_
  refine n_then ?_
  replace hS := hS.is (t := 20) (c := true) rfl ((decide_eq_true hn))
  refine c_if_t hS rfl ?_
  refine c_seq ?_
  refine c_region ?_
  refine L_op (s_e hS (e_move rfl) rfl ?_); clear hS a; intro a hS
  refine L_op (s_e hS (e_assign rfl) rfl ?_); clear hS a; intro a hS
  refine L_op (s_e hS (e_assign rfl) rfl ?_); clear hS a; intro a hS
  refine L_nil ?_
  refine n_then ?_
  refine wp_ret ?_
  refine r_then ?_
  refine c_retN hS Try.results32 (.cons (.tmp rfl) (.cons (.tmp rfl) .nil)) rfl ?_
  exact ⟨by rw [hI], hS.chg⟩
end Go.Proofs.Ytheofhegdjjfgaa

namespace Go.Proofs.Ytheofhegdjjfgaa

/-! ### postings that may be posted -/
theorem postE_zero {acs : List Acc} : ∀ (ps : List Pst) (seen : List ByteArray), postE acs ps seen = 0 → (∀ p ∈ ps, (findA acs p.acc).isSome = true ∧ ¬ p.acc ∈ seen ∧ inU p.u ∧ inU p.f) ∧ ps.Pairwise fun p q => p.acc ≠ q.acc
  | [], _, _ => ⟨fun p hp => (by cases hp), .nil⟩
  | x :: r, seen, h => by
    rw [postE_cons] at h
    split at h
    · cases h
    · rename_i h1
      split at h
      · cases h
      · rename_i h2
        split at h
        · cases h
        · rename_i h3
          obtain ⟨i1, i2⟩ := postE_zero r _ h
          have h1' : (findA acs x.acc).isSome = true := by
            cases e : (findA acs x.acc).isSome with
            | true => rfl
            | false => exact absurd e h1
          refine ⟨fun p hp => ?_, List.pairwise_cons.2 ⟨fun q hq e => (i1 q hq).2.1 (by rw [← e]; simp), i2⟩⟩
          rcases List.mem_cons.1 hp with rfl | hp
          · exact ⟨h1', h2, Classical.byContradiction fun e => h3 (.inl e), Classical.byContradiction fun e => h3 (.inr e)⟩
          · obtain ⟨a1, a2, a3⟩ := i1 p hp
            exact ⟨a1, fun e => a2 (List.mem_append.2 (.inl e)), a3⟩
theorem postE_of {acs : List Acc} : ∀ (ps : List Pst) (seen : List ByteArray), (∀ p ∈ ps, (findA acs p.acc).isSome = true ∧ ¬ p.acc ∈ seen ∧ inU p.u ∧ inU p.f) → (ps.Pairwise fun p q => p.acc ≠ q.acc) → postE acs ps seen = 0
  | [], _, _, _ => rfl
  | x :: r, seen, h, hp => by
    obtain ⟨h1, h2, h3, h4⟩ := h x (.head _)
    have hp2 := List.pairwise_cons.1 hp
    rw [postE_cons, if_neg (by rw [h1]; decide), if_neg h2, if_neg (fun e => e.elim (fun e => e h3) (fun e => e h4))]
    refine postE_of r _ (fun p hp => ?_) hp2.2
    obtain ⟨a1, a2, a3⟩ := h p (.tail _ hp)
    refine ⟨a1, fun e => ?_, a3⟩
    rcases List.mem_append.1 e with e | e
    · exact a2 e
    · exact hp2.1 p hp (List.mem_singleton.1 e).symm
/-- the units of a currency. -/
def curSum (acs : List Acc) (c : ByteArray) (ps : List Pst) : Int := ps.foldl (fun g p => if curOf acs p.acc = c then g + p.u else g) 0
theorem cur_fold (acs : List Acc) (c : ByteArray) (ps : List Pst) : ∀ g : Int, ps.foldl (fun g p => if curOf acs p.acc = c then g + p.u else g) g = g + curSum acs c ps := by
  unfold curSum
  induction ps with
  | nil => intro g; simp
  | cons p r ih =>
    intro g
    rw [List.foldl_cons, List.foldl_cons, ih, ih (if curOf acs p.acc = c then 0 + p.u else 0)]
    split <;> omega
theorem curSum_cons (acs : List Acc) (c : ByteArray) (p : Pst) (r : List Pst) : curSum acs c (p :: r) = (if curOf acs p.acc = c then p.u else 0) + curSum acs c r := by
  have h := cur_fold acs c r (if curOf acs p.acc = c then 0 + p.u else 0)
  unfold curSum at h ⊢
  rw [List.foldl_cons, h]
  split <;> omega
theorem by_cur (acs : List Acc) (c : ByteArray) (ps : List Pst) : ∀ t, (totOf (ps.foldl (byStep acs) t) c).1 = (totOf t c).1 + curSum acs c ps := by
  induction ps with
  | nil => intro t; simp [curSum]
  | cons p r ih =>
    intro t
    rw [List.foldl_cons, ih, curSum_cons]
    unfold byStep
    rw [totOf_put]
    by_cases e : curOf acs p.acc = c
    · rw [if_pos e, if_pos e, e]; unfold addS; simp only; omega
    · rw [if_neg e, if_neg e]; omega
theorem putT_keys (c : ByteArray) (s : SM) : ∀ t : List (ByteArray × SM), (t.map (·.1)).Nodup → ((putT t c s).map (·.1)).Nodup ∧ ∀ k, k ∈ (putT t c s).map (·.1) → k = c ∨ k ∈ t.map (·.1)
  | [], _ => ⟨by simp [putT], fun k hk => .inl (by simpa [putT] using hk)⟩
  | (k0, u) :: l, h => by
    have h2 := List.nodup_cons.1 h
    obtain ⟨i1, i2⟩ := putT_keys c s l h2.2
    unfold putT
    by_cases e : k0 = c
    · rw [if_pos e]
      refine ⟨by rw [List.map_cons, ← e]; exact h, fun k hk => ?_⟩
      rw [List.map_cons] at hk
      rcases List.mem_cons.1 hk with hk | hk
      · exact .inl hk
      · exact .inr (.tail _ hk)
    · rw [if_neg e]
      refine ⟨List.nodup_cons.2 ⟨fun hm => ?_, i1⟩, fun k hk => ?_⟩
      · rcases i2 k0 hm with q | q
        · exact e q
        · exact h2.1 q
      · rw [List.map_cons] at hk
        rcases List.mem_cons.1 hk with hk | hk
        · exact .inr (by rw [hk]; exact .head _)
        · rcases i2 k hk with q | q
          · exact .inl q
          · exact .inr (.tail _ q)
theorem by_keys (acs : List Acc) (ps : List Pst) : ∀ t : List (ByteArray × SM), (t.map (·.1)).Nodup → ((ps.foldl (byStep acs) t).map (·.1)).Nodup := by
  induction ps with
  | nil => intro t h; exact h
  | cons p r ih => intro t h; exact ih _ (putT_keys _ _ t h).1
theorem totOf_entry {t : List (ByteArray × SM)} (h : (t.map (·.1)).Nodup) {e : ByteArray × SM} (he : e ∈ t) : totOf t e.1 = e.2 := by
  induction t with
  | nil => cases he
  | cons a r ih =>
    have h2 := List.nodup_cons.1 h
    unfold totOf
    rw [List.find?_cons]
    rcases List.mem_cons.1 he with rfl | he
    · simp
    · have hne : ¬ a.1 = e.1 := fun e2 => h2.1 (by show a.1 ∈ _; rw [e2]; exact List.mem_map.2 ⟨e, he, rfl⟩)
      simp only [hne, decide_false]
      exact ih h2.2 he
/-- postings sum up to zero: each currency does, and the functional one. -/
theorem even_iff (acs : List Acc) (ps : List Pst) : evenF acs ps ↔ (∀ c, curSum acs c ps = 0) ∧ sumFn ps = 0 := by
  unfold evenF
  constructor
  · rintro ⟨h1, h2⟩
    refine ⟨fun c => ?_, h2⟩
    have h3 := by_cur acs c ps []
    have h4 : (totOf (byF acs ps) c).1 = 0 := by
      rcases totOf_mem (byF acs ps) c with e | ⟨e, he, _, e2⟩
      · rw [e]
      · rw [← e2]; exact h1 e he
    have h5 : (totOf ([] : List (ByteArray × SM)) c).1 = 0 := rfl
    unfold byF at h4
    omega
  · rintro ⟨h1, h2⟩
    refine ⟨fun e he => ?_, h2⟩
    have h3 := by_cur acs e.1 ps []
    have h4 := totOf_entry (by_keys acs ps [] .nil) (show e ∈ ps.foldl (byStep acs) [] from he)
    have h5 : (totOf ([] : List (ByteArray × SM)) e.1).1 = 0 := rfl
    have h6 := h1 e.1
    rw [h4] at h3
    omega

/-! ### ledgers -/
structure goodE (acs : List Acc) (ps : List Pst) : Prop where
  each : ∀ p ∈ ps, (findA acs p.acc).isSome = true ∧ inU p.u ∧ inU p.f
  apart : ps.Pairwise fun p q => p.acc ≠ q.acc
  even : (∀ c, curSum acs c ps = 0) ∧ sumFn ps = 0
structure wfP (P : PL) (n : Nat) : Prop where
  fit : ∀ x ∈ P.es, ∀ p ∈ x.ps, p.fits
  le : P.es.length ≤ n
  ps : ∀ x ∈ P.es, x.ps.length ≤ 50
  bal : balT P.tot
  la : P.acs.length ≤ n + 4
  at_ : ∀ x ∈ P.es, inst x.at_
  nod : (codesA P.acs).Nodup
  sum : ∀ c, totOf P.tot c = (P.es.flatMap (·.ps)).foldl (balStep c) (0, 0)
  evn : ∀ x ∈ P.es, goodE P.acs x.ps
theorem wfP.fitL {P : PL} {n : Nat} (h : wfP P n) (hn : n ≤ 100000) : fitL P := ⟨h.fit, by have := h.le; omega, h.ps⟩
def openEP (P : PL) (a : Acc) : Int :=
  if ¬ ValidN a.code.data.toList then 1 else if (scaleR a.cur).2 ≠ 0 then 18 else if a.kind < 1 ∨ 5 < a.kind then 7 else if (findA P.acs a.code).isSome = true then 3 else if 200 ≤ P.acs.length then 9 else 0
def openP (P : PL) (a : Acc) : PL := if openEP P a = 0 then { P with acs := P.acs ++ [a] } else P
def closeEP (P : PL) (at_ : Int) : Int := if ¬ inst at_ then 6 else if at_ ≤ P.closed then 34 else 0
def closeP (P : PL) (at_ : Int) : PL := if closeEP P at_ = 0 then { P with closed := at_ } else P
theorem pl_open (s : LS) (a : Acc) : pl (openL s a) = openP (pl s) a := by
  show pl (if openE s a = 0 then _ else _) = if openEP (pl s) a = 0 then _ else _
  have e : openE s a = openEP (pl s) a := rfl
  rw [e]
  split <;> rfl
theorem pl_close (s : LS) (at_ : Int) : pl (closeL s at_) = closeP (pl s) at_ := by
  show pl (if closeE s at_ = 0 then _ else _) = if closeEP (pl s) at_ = 0 then _ else _
  have e : closeE s at_ = closeEP (pl s) at_ := rfl
  rw [e]
  split <;> rfl
def stepP (P : PL) (o : LO) : PL := if o.kind = 0 then openP P o.a else if o.kind = 1 then postP P o.at_ o.memo o.ps else if o.kind = 2 then closeP P o.at_ else P
theorem find_grow {acs : List Acc} {a : Acc} {c : ByteArray} (h : (findA acs c).isSome = true) : findA (acs ++ [a]) c = findA acs c := by
  unfold findA at *
  rw [List.find?_append]
  obtain ⟨x, hx⟩ := Option.isSome_iff_exists.1 h
  rw [hx]; rfl
theorem cur_grow {acs : List Acc} {a : Acc} {ps : List Pst} (h : ∀ p ∈ ps, (findA acs p.acc).isSome = true) (c : ByteArray) : curSum (acs ++ [a]) c ps = curSum acs c ps := by
  induction ps with
  | nil => rfl
  | cons p r ih =>
    rw [curSum_cons, curSum_cons, ih (fun q hq => h q (.tail _ hq))]
    have e : curOf (acs ++ [a]) p.acc = curOf acs p.acc := by unfold curOf accOf; rw [find_grow (h p (.head _))]
    rw [e]
theorem goodE.grow {acs : List Acc} {a : Acc} {ps : List Pst} (h : goodE acs ps) : goodE (acs ++ [a]) ps :=
  ⟨fun p hp => ⟨by rw [find_grow (h.each p hp).1]; exact (h.each p hp).1, (h.each p hp).2⟩, h.apart, fun c => by rw [cur_grow (fun p hp => (h.each p hp).1)]; exact h.even.1 c, h.even.2⟩
theorem wf_open {P : PL} {n : Nat} (h : wfP P n) (a : Acc) : wfP (openP P a) (n + 1) := by
  unfold openP
  split
  · rename_i hE
    have hnf : (findA P.acs a.code).isSome = false := by
      unfold openEP at hE
      split at hE
      · cases hE
      · split at hE
        · cases hE
        · split at hE
          · cases hE
          · split at hE
            · cases hE
            · rename_i h4
              cases e : (findA P.acs a.code).isSome with
              | false => rfl
              | true => exact absurd e h4
    refine ⟨h.fit, Nat.le_succ_of_le h.le, h.ps, h.bal, by have := h.la; simp; omega, h.at_, ?_, h.sum, fun x hx => (h.evn x hx).grow⟩
    unfold codesA
    rw [List.map_append]
    refine List.nodup_append.2 ⟨h.nod, by simp, fun c hc d hd e => ?_⟩
    obtain rfl : d = a.code := by simpa using hd
    obtain ⟨y, hy, hyc⟩ := List.mem_map.1 hc
    unfold findA at hnf
    rw [Option.isSome_eq_false_iff, Option.isNone_iff_eq_none] at hnf
    have := List.find?_eq_none.1 hnf y hy
    exact this (by simp; rw [hyc, e])
  · exact ⟨h.fit, Nat.le_succ_of_le h.le, h.ps, h.bal, by have := h.la; omega, h.at_, h.nod, h.sum, h.evn⟩
theorem wf_close {P : PL} {n : Nat} (h : wfP P n) (at_ : Int) : wfP (closeP P at_) (n + 1) := by
  unfold closeP
  split
  · exact ⟨h.fit, Nat.le_succ_of_le h.le, h.ps, h.bal, by have := h.la; simp only; omega, h.at_, h.nod, h.sum, h.evn⟩
  · exact ⟨h.fit, Nat.le_succ_of_le h.le, h.ps, h.bal, by have := h.la; omega, h.at_, h.nod, h.sum, h.evn⟩
theorem bal_post {ps : List Pst} : ∀ {t : List (ByteArray × SM)}, balT t → (ps.Pairwise fun p q => p.acc ≠ q.acc) → (∀ p ∈ ps, okS (addS (totOf t p.acc) p)) → balT (totS t ps) := by
  induction ps with
  | nil => intro t h _ _; exact h
  | cons p r ih =>
    intro t h hp hk
    have hp2 := List.pairwise_cons.1 hp
    refine ih (t := putT t p.acc (addS (totOf t p.acc) p)) (fun e he => ?_) hp2.2 (fun q hq => ?_)
    · rcases putT_mem he with rfl | he
      · exact hk p (.head _)
      · exact h e he
    · rw [totOf_put, if_neg (hp2.1 q hq)]; exact hk q (.tail _ hq)
structure checkOk (P : PL) (at_ : Int) (memo : ByteArray) (ps : List Pst) : Prop where
  inst : inst at_
  open_ : P.closed < at_
  memo : memo.size ≤ 100
  few : 2 ≤ ps.length ∧ ps.length ≤ 50
  es : P.es.length < 2000
  post : postE P.acs ps [] = 0
  even : evenF P.acs ps
  bal : ∀ x ∈ ps, okS (addS (totOf P.tot x.acc) x)
theorem check_iff (P : PL) (at_ : Int) (memo : ByteArray) (ps : List Pst) : checkE P at_ memo ps = 0 ↔ checkOk P at_ memo ps := by
  constructor
  · intro h
    unfold checkE at h
    split at h
    · cases h
    · rename_i h1
      split at h
      · cases h
      · rename_i h2
        split at h
        · cases h
        · rename_i h3
          split at h
          · cases h
          · rename_i h4
            split at h
            · rename_i h5; exact absurd h h5
            · rename_i h5
              split at h
              · cases h
              · rename_i h6
                split at h
                · cases h
                · rename_i h7
                  exact ⟨Classical.not_not.1 h1, by omega, by omega, by omega, by omega, Classical.not_not.1 h5, Classical.not_not.1 h6, fun x hx => Classical.byContradiction fun e => h7 ⟨x, hx, e⟩⟩
  · intro h
    obtain ⟨a1, a2, a3, a4, a5, a6, a7, a8⟩ := h
    unfold checkE
    rw [if_neg (fun e => e a1), if_neg (by omega), if_neg (by omega), if_neg (by omega), if_neg (fun e => e a6), if_neg (fun e => e a7), if_neg (fun ⟨x, hx, e⟩ => e (a8 x hx))]
theorem totS_tri (t : List (ByteArray × SM)) (ps : List Pst) : totS t ps = ps.foldl triStep t := rfl
theorem wf_post {P : PL} {n : Nat} (h : wfP P n) (at_ : Int) (memo : ByteArray) (ps : List Pst) (hf : ∀ p ∈ ps, p.fits) : wfP (postP P at_ memo ps) (n + 1) := by
  unfold postP
  split
  · rename_i hE
    have hc := (check_iff P at_ memo ps).1 hE
    obtain ⟨g1, g2⟩ := postE_zero ps [] hc.post
    have hg : goodE P.acs ps := ⟨fun p hp => ⟨(g1 p hp).1, (g1 p hp).2.2⟩, g2, (even_iff P.acs ps).1 hc.even⟩
    refine ⟨fun x hx => ?_, by have := h.le; simp; omega, fun x hx => ?_, bal_post h.bal g2 hc.bal, by have := h.la; simp only; omega, fun x hx => ?_, h.nod, fun c => ?_, fun x hx => ?_⟩
    · rcases List.mem_append.1 hx with hx | hx
      · exact h.fit x hx
      · obtain rfl := List.mem_singleton.1 hx; exact hf
    · rcases List.mem_append.1 hx with hx | hx
      · exact h.ps x hx
      · obtain rfl := List.mem_singleton.1 hx; exact hc.few.2
    · rcases List.mem_append.1 hx with hx | hx
      · exact h.at_ x hx
      · obtain rfl := List.mem_singleton.1 hx; exact hc.inst
    · simp only
      rw [totS_tri, tri_sum, h.sum c, List.flatMap_append, List.foldl_append]
      simp
    · rcases List.mem_append.1 hx with hx | hx
      · exact h.evn x hx
      · obtain rfl := List.mem_singleton.1 hx; exact hg
  · exact ⟨h.fit, Nat.le_succ_of_le h.le, h.ps, h.bal, by have := h.la; omega, h.at_, h.nod, h.sum, h.evn⟩
theorem wf_step {P : PL} {n : Nat} (h : wfP P n) (o : LO) (ho : o.fits) : wfP (stepP P o) (n + 1) := by
  unfold stepP
  split
  · exact wf_open h o.a
  · split
    · exact wf_post h o.at_ o.memo o.ps ho.ps.1
    · split
      · exact wf_close h o.at_
      · exact ⟨h.fit, Nat.le_succ_of_le h.le, h.ps, h.bal, by have := h.la; omega, h.at_, h.nod, h.sum, h.evn⟩
end Go.Proofs.Ytheofhegdjjfgaa

namespace Go.Proofs.Ytheofhegdjjfgaa
open Go.RowKit

def usdL : ByteArray := ⟨#[85, 83, 68]⟩
def eurL : ByteArray := ⟨#[69, 85, 82]⟩
def aBank : Acc := ⟨⟨#[98, 97, 110, 107]⟩, usdL, 1, true⟩
def aSales : Acc := ⟨⟨#[115, 97, 108, 101, 115]⟩, usdL, 4, false⟩
def aTill : Acc := ⟨⟨#[116, 105, 108, 108]⟩, eurL, 1, true⟩
def aFees : Acc := ⟨⟨#[102, 101, 101, 115]⟩, eurL, 4, false⟩
def chartL : List Acc := [aBank, aSales, aTill, aFees]
set_option maxRecDepth 100000 in
theorem lChart_P (w0 : World) : NewC Try.prog 62 [] w0 (fun b : Nat => .slice (some ⟨b, 0, none⟩) 4 4) (fun b => .blk b (chartL.flatMap encAc) 68) := by
  refine c_enter [] [] noB Try.func62 rfl Try.ntmps62 trivial rfl (by simp) (by simp) (by simp) ?_
  intro a hS
  refine c_seq ?_
  refine c_region ?_
  refine L_op (s_e hS (e_assign rfl) rfl ?_); clear hS a; intro a hS
  refine L_nil ?_
  refine n_then ?_
  refine c_seq ?_
  refine c_region ?_
  refine L_op (s_e hS (e_build ty_z68 ty_pl68 (.one rfl rfl rfl (by repeat constructor) (.one rfl rfl rfl (by repeat constructor) (.one rfl rfl rfl (by repeat constructor) (.one rfl rfl rfl (by repeat constructor) .nil))))) rfl ?_); clear hS a; intro a hS
  refine L_op (s_e hS (e_build ty_z68 ty_pl68 (.one rfl rfl rfl (by repeat constructor) (.one rfl rfl rfl (by repeat constructor) (.one rfl rfl rfl (by repeat constructor) .nil)))) rfl ?_); clear hS a; intro a hS
  refine L_op (s_e hS (e_build ty_z68 ty_pl68 (.one rfl rfl rfl (by repeat constructor) (.one rfl rfl rfl (by repeat constructor) (.one rfl rfl rfl (by repeat constructor) (.one rfl rfl rfl (by repeat constructor) .nil))))) rfl ?_); clear hS a; intro a hS
  refine L_op (s_e hS (e_build ty_z68 ty_pl68 (.one rfl rfl rfl (by repeat constructor) (.one rfl rfl rfl (by repeat constructor) (.one rfl rfl rfl (by repeat constructor) .nil)))) rfl ?_); clear hS a; intro a hS
  refine L_op (s_bslice hS ty_sl65 ty_sz68 ty_z68 rfl rfl rfl rfl (.agg rfl rfl (.agg rfl rfl (.agg rfl rfl (.agg rfl rfl .nil)))) rfl ?_); clear hS a; (try clear w); intro a w b5 hS
  refine L_op (s_e hS (e_assign rfl) rfl ?_); clear hS a; intro a hS
  refine L_nil ?_
  refine n_then ?_
  refine wp_ret ?_
  refine c_ret1 hS Try.results62 (.tmp rfl) ?_
  exact ⟨b5, rfl, hS.chg, hS.new (.head _) rfl⟩
theorem blkrow_getL {Γ : List Asn} {α : Type} {enc : α → List Value} {s E b : Nat} {xs : List α} (hm : Asn.blk b (xs.flatMap enc) E ∈ Γ) (hl : ∀ x, (enc x).length = s) {i : Nat} {x : α} (hx : xs[i]? = some x) : ∀ w, Hd Γ w → ∀ j v, (enc x)[j]? = some v → w.cell? ⟨b, 0 + i * s + j, none⟩ = some v := fun w hh j v hj =>
  cell_of_blk (E := E) (hh _ hm) (by rw [Nat.zero_add]; exact flat_get enc s hl xs i x hx j v hj)
def P0 : PL := ⟨usdL, [], [], [], -1⟩
def P4 : PL := ⟨usdL, chartL, [], [], -1⟩
theorem chart_made : chartL.foldl openP P0 = P4 := by
  have e1 : openEP P0 aBank = 0 := by decide +kernel
  have e2 : openEP ⟨usdL, [aBank], [], [], -1⟩ aSales = 0 := by decide +kernel
  have e3 : openEP ⟨usdL, [aBank, aSales], [], [], -1⟩ aTill = 0 := by decide +kernel
  have e4 : openEP ⟨usdL, [aBank, aSales, aTill], [], [], -1⟩ aFees = 0 := by decide +kernel
  have s1 : openP P0 aBank = ⟨usdL, [aBank], [], [], -1⟩ := if_pos e1
  have s2 : openP ⟨usdL, [aBank], [], [], -1⟩ aSales = ⟨usdL, [aBank, aSales], [], [], -1⟩ := if_pos e2
  have s3 : openP ⟨usdL, [aBank, aSales], [], [], -1⟩ aTill = ⟨usdL, [aBank, aSales, aTill], [], [], -1⟩ := if_pos e3
  have s4 : openP ⟨usdL, [aBank, aSales, aTill], [], [], -1⟩ aFees = P4 := if_pos e4
  show openP (openP (openP (openP P0 aBank) aSales) aTill) aFees = P4
  rw [s1, s2, s3, s4]
theorem wf4 : wfP P4 0 := ⟨fun x hx => (by cases hx), Nat.le_refl _, fun x hx => (by cases hx), fun e he => (by cases he), by decide, fun x hx => (by cases hx), by decide +kernel, fun c => rfl, fun x hx => (by cases hx)⟩
def madeP (l : List LO) : PL := l.foldl stepP P4
theorem madeP_take {l : List LO} {i : Nat} {o : LO} (h : l[i]? = some o) : madeP (l.take (i + 1)) = stepP (madeP (l.take i)) o := by
  unfold madeP; rw [List.take_add_one, h, List.foldl_append]; rfl
theorem wf_made {l : List LO} (hf : ∀ o ∈ l, o.fits) : ∀ i, i ≤ l.length → wfP (madeP (l.take i)) i
  | 0, _ => wf4
  | i + 1, h => by
    have hx : l[i]? = some l[i] := List.getElem?_eq_getElem (by omega)
    rw [madeP_take hx]
    exact wf_step (wf_made hf i (by omega)) _ (hf _ (List.getElem_mem _))

theorem pure_mutL {γ : Type} {P : Program} {f : FuncId} {args : List Value} {w : World} {v : Value} {X : Asn} {V : γ → Value} {Y : γ → Asn} (h : PureC P f args w v) (hX : X.ok w) (g : γ) (hv : V g = v) (hY : Y g = X) : MutC P f args w X V Y :=
  h.mono fun e w' ⟨he, hc⟩ => ⟨g, by rw [hv]; exact he, hc.mono (fun _ hf => hf.elim), by rw [hY]; exact hX.keep hc (fun _ _ hf => hf), fun b hb => .inl (by rw [hY] at hb; exact hb)⟩
/-- Post, whatever slice holds the postings. -/
theorem postAny_P (B : LB) (s : LS) (pv : Value) (at_ : Int) (memo : ByteArray) (ps : List Pst) (hlen : ps.length ≤ 4611686018427387904) (hfit : ∀ x ∈ ps, x.fits) (hbt : balT s.tot) (hes : s.es.length ≤ 100000) (w0 : World) (h : ledφ B s w0) (hp : PsAt pv ps w0) (hd : ∀ k, ps ≠ [] → pv.ownBlock = some k → ¬ ledF B s k) :
    MutC Try.prog 32 [.pointer (some ⟨B.lb, 0, none⟩), .int .i64 at_, .string memo, pv] w0 (ledA B s true) (fun _ : { y : LS // pl y = postP (pl s) at_ memo ps } => .tuple [.int .i64 (postI (pl s) at_ memo ps), .int .i64 (checkE (pl s) at_ memo ps)].toArray) (fun y => ledA B y.1 true) := by
  by_cases hne : ps = []
  · subst hne
    obtain ⟨a, c, rfl⟩ := hp.shape
    exact pure_mutL (lPost0_P B s a c at_ memo w0 h) (led_ok true h) ⟨s, (if_neg (check_nil (pl s) at_ memo)).symm⟩ rfl rfl
  · obtain ⟨b, off, c, rfl, hr, hb⟩ := hp.some hne
    exact lPost_P B s (some (b, off)) c at_ memo ps hlen hfit hbt hes w0 h hr (fun q hq => by cases hq; exact hb) (fun q hq => by cases hq; exact hd b hne rfl)

set_option maxHeartbeats 1000000 in
set_option maxRecDepth 100000 in
theorem lMade_P (p : Option (Nat × Nat)) (c : Nat) (l : List LO) (hlen : l.length ≤ 60) (hfit : ∀ x ∈ l, x.fits) (w0 : World) (h : losφ p l w0) (hb : ∀ q, p = some q → q.1 < w0.heap.size) :
     NewC Try.prog 27 [sliceV p l.length c] w0 (fun y : { y : LB × LS // pl y.2 = madeP l } => .pointer (some ⟨y.1.1.lb, 0, none⟩)) (fun y => ledA y.1.1 y.1.2 true) := by
   refine c_enter [(0, sliceV p l.length c)] [losA p l] noB Try.func27 rfl Try.ntmps27 ⟨rfl, trivial⟩ rfl (okC (los_ok h hb) okN) dis1 (mineC (by rfl) mineN) ?_
   intro a hS
   refine c_seq ?_
   refine c_region ?_
   refine L_op (s_e hS (e_assign rfl) rfl ?_); clear hS a; intro a hS
   refine L_nil ?_
   refine n_then ?_
   refine c_seq ?_
   refine c_region ?_
   refine L_op (s_callN hS (.cons rfl .nil) cf61 rfl (lNew_P usdL _ (by decide +kernel)) ?_); clear hS a; (try clear w); intro x9 a w hS
   refine L_op (s_e hS (e_move rfl) rfl ?_); clear hS a; intro a hS
   refine L_op (s_e hS (e_extract rfl rfl) rfl ?_); clear hS a; intro a hS
   refine L_op (s_e hS (e_extract rfl rfl) rfl ?_); clear hS a; intro a hS
   refine L_op (s_e hS (e_assign rfl) rfl ?_); clear hS a; intro a hS
   refine L_op (s_e hS (e_assign rfl) rfl ?_); clear hS a; intro a hS
   refine L_nil ?_
   refine n_then ?_
   refine c_seq ?_
   refine c_region ?_
   refine L_op (s_callN hS .nil cf62 rfl (lChart_P _) ?_); clear hS a; (try clear w); intro x12 a w hS
   refine L_op (s_e hS (e_assign rfl) rfl ?_); clear hS a; intro a hS
   refine L_nil ?_
   refine n_then ?_
   refine c_seq ?_
   refine c_seq ?_
   refine c_region ?_
   refine L_op (s_e hS (e_assign rfl) rfl ?_); clear hS a; intro a hS
   refine L_nil ?_
   refine n_then ?_
   refine wp_block ?_
   skip
   refine c_loop (γ := Nat × LS) (fun G a w => St 82 noB w0 a w [(6, .int .i64 (G.1 : Int)), (5, .slice (some ⟨x12, 0, none⟩) 4 4), (3, .pointer (some ⟨x9.lb, 0, none⟩)), (0, sliceV p l.length c)] [.blk x12 (chartL.flatMap encAc) 68, ledA x9 G.2 true, losA p l] ∧ G.1 ≤ 4 ∧ pl G.2 = (chartL.take G.1).foldl openP P0) (fun G => 4 - G.1) (0, newL usdL) ⟨(hS.slots (by repeat (first | exact trivial | refine ⟨rfl, ?_⟩))).pick (by repeat (first | exact Pick.nil | (refine Pick.cons (by repeat (first | exact Rem.head | apply Rem.tail)) ?_))), Nat.zero_le _, rfl⟩ ?_
   clear hS a; (try clear w); intro G a w hI
   obtain ⟨i, s⟩ := G
   obtain ⟨hS, hi, hpl⟩ := hI
   simp only at hS hi hpl
   refine c_seq ?_
   refine c_seq ?_
   refine c_region ?_
   refine L_op (s_e hS (e_move rfl) rfl ?_); clear hS a; intro a hS
   refine L_op (s_e hS (e_move rfl) rfl ?_); clear hS a; intro a hS
   refine L_op (s_e hS (e_len rfl rfl ty_sl65) rfl ?_); clear hS a; intro a hS
   refine L_op (s_e hS (e_bin rfl rfl rfl) rfl ?_); clear hS a; intro a hS
   refine L_op (s_e hS (e_move rfl) rfl ?_); clear hS a; intro a hS
   refine L_merge 3 20 (.bool (decide (i < 4))) hS ?_ ?_
   · intro hcM20
     (first | refine g_splitD (t := 17) hS rfl ?_ ?_ | refine g_split (t := 17) hS rfl ?_ ?_) <;> (clear hS; intro hg17 hS)
     ·
       refine L_go hS rfl rfl (s_e hS (e_move rfl) rfl ?_); clear hS a; intro a hS
       refine L_go hS rfl rfl (s_e hS (e_nnil rfl ty_u52) rfl ?_); clear hS a; intro a hS
       first | (refine L_op (s_e hS (e_pick_t rfl rfl) rfl ?_); clear hS a; intro a hS) | (refine L_op (s_e hS (e_pick_f rfl rfl) rfl ?_); clear hS a; intro a hS)
       exact hcM20 _ _ (hS.ends 4 20 17 rfl (congrArg Value.bool (by rw [decide_eq_true (by omega)]; rfl)) rfl rfl (by first | exact congrArg Value.bool (decide_eq_true hg17).symm | exact congrArg Value.bool hg17.symm | simp [hg17]) rfl)
     ·
       refine L_skip_t hS rfl rfl rfl ?_; clear hS a; intro a hS
       refine L_skip_t hS rfl rfl rfl ?_; clear hS a; intro a hS
       first | (refine L_op (s_e hS (e_pick_t rfl rfl) rfl ?_); clear hS a; intro a hS) | (refine L_op (s_e hS (e_pick_f rfl rfl) rfl ?_); clear hS a; intro a hS)
       exact hcM20 _ _ (hS.ends 4 20 17 rfl (congrArg Value.bool (by exact (decide_eq_false (by omega)).symm)) rfl rfl (by first | exact congrArg Value.bool (decide_eq_false hg17).symm | exact congrArg Value.bool hg17.symm | simp [hg17]) rfl)
   · clear hS a; (try clear w); intro a w hS
     simp only [List.drop_succ_cons, List.drop_zero]
     refine L_nil ?_
     refine n_then ?_
     first | refine c_ifD hS rfl (fun hc20 => ?_) (fun hc20 => ?_) | refine c_if hS rfl (fun hc20 => ?_) (fun hc20 => ?_)
     ·
       obtain ⟨x, hx⟩ : ∃ x, chartL[i]? = some x := ⟨chartL[i]'(by show i < 4; omega), List.getElem?_eq_getElem (by show i < 4; omega)⟩
       have hxs : x.code.size ≤ 4611686018427387904 := by
         have := List.mem_of_getElem? hx
         simp [chartL] at this
         rcases this with rfl | rfl | rfl | rfl <;> decide
       have htk : chartL.take (i + 1) = chartL.take i ++ [x] := by rw [List.take_add_one, hx]; rfl
       refine wp_skip ?_
       refine n_then ?_
       refine c_seq ?_
       refine wp_block ?_
       refine c_region ?_
       refine L_op (s_e hS (e_move rfl) rfl ?_); clear hS a; intro a hS
       refine L_op (s_e hS (e_move rfl) rfl ?_); clear hS a; intro a hS
       refine L_op (s_e hS (e_move rfl) rfl ?_); clear hS a; intro a hS
       refine L_op (s_e hS (e_ixN rfl rfl ty_sl65 ty_sz68 (by omega)) rfl ?_); clear hS a; intro a hS
       refine L_op (s_e hS (e_loadAC (l := encAc x) rfl ty_st68 ty_sz68 (blkrow_getL (enc := encAc) (s := 4) (by repeat constructor) (fun _ => rfl) hx)) rfl ?_); clear hS a; intro a hS
       refine L_op (s_callM hS (.cons rfl (.cons rfl .nil)) cf44 rfl (lOpen_P x9 s x hxs _ (hS.get (X := ledA x9 s true) (by repeat constructor))) (fun x => (by repeat constructor)) rfl ?_); clear hS a; (try clear w); intro x28 a w hS
       refine L_nil ?_
       refine n_block ?_
       refine n_then ?_
       refine c_region ?_
       refine L_op (s_e hS (e_move rfl) rfl ?_); clear hS a; intro a hS
       first | (refine L_op (s_e hS (e_binN rfl rfl rfl (by omega)) rfl ?_); clear hS a; intro a hS) | (refine L_op (s_e hS (e_bin rfl rfl rfl) rfl ?_); clear hS a; intro a hS)
       refine L_op (s_e hS (e_assign rfl) rfl ?_); clear hS a; intro a hS
       refine L_nil ?_
       exact ⟨(i + 1, openL s x), by simp only; omega, (hS.slots (by repeat (first | exact trivial | refine ⟨rfl, ?_⟩))).pick (by repeat (first | exact Pick.nil | (refine Pick.cons (by repeat (first | exact Rem.head | apply Rem.tail)) ?_))), by simp only; omega, by simp only; rw [pl_open, hpl, htk, List.foldl_append]; rfl⟩
     ·
       obtain rfl : i = 4 := by omega
       rw [show (chartL.take 4).foldl openP P0 = P4 from chart_made] at hpl
       refine wp_exit ?_
       refine x_then (x_then (x_hit ?_))
       refine n_then ?_
       refine c_seq ?_
       refine c_seq ?_
       refine c_region ?_
       refine L_op (s_e hS (e_assign rfl) rfl ?_); clear hS a; intro a hS
       refine L_nil ?_
       refine n_then ?_
       refine wp_block ?_
       skip
       refine c_loop (γ := Nat × LS) (fun G a w => St 82 noB w0 a w [(7, .int .i64 (G.1 : Int)), (3, .pointer (some ⟨x9.lb, 0, none⟩)), (0, sliceV p l.length c)] [ledA x9 G.2 true, losA p l] ∧ G.1 ≤ l.length ∧ pl G.2 = madeP (l.take G.1)) (fun G => l.length - G.1) (0, s) ⟨(hS.slots (by repeat (first | exact trivial | refine ⟨rfl, ?_⟩))).pick (by repeat (first | exact Pick.nil | (refine Pick.cons (by repeat (first | exact Rem.head | apply Rem.tail)) ?_))), Nat.zero_le _, hpl⟩ ?_
       clear hS a; (try clear w); intro G a w hI
       obtain ⟨i, s⟩ := G
       obtain ⟨hS, hi, hpl⟩ := hI
       simp only at hS hi hpl
       refine c_seq ?_
       refine c_seq ?_
       refine c_region ?_
       refine L_op (s_e hS (e_move rfl) rfl ?_); clear hS a; intro a hS
       refine L_op (s_e hS (e_move rfl) rfl ?_); clear hS a; intro a hS
       refine L_op (s_e hS (e_len rfl rfl ty_sl50) rfl ?_); clear hS a; intro a hS
       refine L_op (s_e hS (e_bin rfl rfl rfl) rfl ?_); clear hS a; intro a hS
       refine L_op (s_e hS (e_move rfl) rfl ?_); clear hS a; intro a hS
       refine L_merge 3 36 (.bool (decide (i < l.length))) hS ?_ ?_
       · intro hcM36
         (first | refine g_splitD (t := 33) hS rfl ?_ ?_ | refine g_split (t := 33) hS rfl ?_ ?_) <;> (clear hS; intro hg33 hS)
         ·
           refine L_go hS rfl rfl (s_e hS (e_move rfl) rfl ?_); clear hS a; intro a hS
           refine L_go hS rfl rfl (s_e hS (e_nnil rfl ty_u52) rfl ?_); clear hS a; intro a hS
           first | (refine L_op (s_e hS (e_pick_t rfl rfl) rfl ?_); clear hS a; intro a hS) | (refine L_op (s_e hS (e_pick_f rfl rfl) rfl ?_); clear hS a; intro a hS)
           exact hcM36 _ _ (hS.ends 4 36 33 rfl (congrArg Value.bool (by rw [decide_eq_true (by omega)]; rfl)) rfl rfl (by first | exact congrArg Value.bool (decide_eq_true hg33).symm | exact congrArg Value.bool hg33.symm | simp [hg33]) rfl)
         ·
           refine L_skip_t hS rfl rfl rfl ?_; clear hS a; intro a hS
           refine L_skip_t hS rfl rfl rfl ?_; clear hS a; intro a hS
           first | (refine L_op (s_e hS (e_pick_t rfl rfl) rfl ?_); clear hS a; intro a hS) | (refine L_op (s_e hS (e_pick_f rfl rfl) rfl ?_); clear hS a; intro a hS)
           exact hcM36 _ _ (hS.ends 4 36 33 rfl (congrArg Value.bool (by exact (decide_eq_false (by omega)).symm)) rfl rfl (by first | exact congrArg Value.bool (decide_eq_false hg33).symm | exact congrArg Value.bool hg33.symm | simp [hg33]) rfl)
       · clear hS a; (try clear w); intro a w hS
         simp only [List.drop_succ_cons, List.drop_zero]
         refine L_nil ?_
         refine n_then ?_
         first | refine c_ifD hS rfl (fun hc36 => ?_) (fun hc36 => ?_) | refine c_if hS rfl (fun hc36 => ?_) (fun hc36 => ?_)
         ·
           obtain ⟨o, ho⟩ : ∃ o, l[i]? = some o := ⟨l[i]'(by omega), List.getElem?_eq_getElem (by omega)⟩
           have hom := List.mem_of_getElem? ho
           have hof := hfit o hom
           obtain ⟨b, off, rfl⟩ := los_pos (hS.get (X := losA p l) (by repeat constructor)) ho
           have hmt := madeP_take ho
           have hwf := wf_made hfit i (by omega)
           rw [← hpl] at hwf
           have hst : pl s = madeP (l.take i) := hpl
           have hes : s.es.length ≤ 100000 := by have h1 := hwf.le; simp [pl] at h1; omega
           refine wp_skip ?_
           refine n_then ?_
           refine c_cut (fun a w => ∃ s2 : LS, St 82 noB w0 a w [(7, .int .i64 (i : Int)), (3, .pointer (some ⟨x9.lb, 0, none⟩)), (0, sliceV (some (b, off)) l.length c)] [ledA x9 s2 true, losA (some (b, off)) l] ∧ pl s2 = madeP (l.take (i + 1))) ?_ ?_
           ·
             refine wp_block ?_
             refine c_seq ?_
             refine c_region ?_
             refine L_op (s_e hS (e_move rfl) rfl ?_); clear hS a; intro a hS
             refine L_op (s_e hS (e_move rfl) rfl ?_); clear hS a; intro a hS
             refine L_op (s_e hS (e_ixN rfl rfl ty_sl50 ty_sz72 (by omega)) rfl ?_); clear hS a; intro a hS
             first | (refine L_op (s_e hS (e_fa0 rfl ty_fo72_0) rfl ?_); clear hS a; intro a hS) | (refine L_op (s_e hS (e_faK rfl ty_fo72_0) rfl ?_); clear hS a; intro a hS)
             refine L_op (s_e hS (e_loadC rfl ty_sc3 (fun w hh => los_get (by repeat constructor) ho w hh 0 (.int .i64 o.kind) rfl)) rfl ?_); clear hS a; intro a hS
             refine L_nil ?_
             refine n_then ?_
             refine wp_block ?_
             refine c_seq ?_
             refine c_region ?_
             refine L_op (s_e hS (e_bin rfl rfl rfl) rfl ?_); clear hS a; intro a hS
             refine L_op (s_e hS (e_assign rfl) rfl ?_); clear hS a; intro a hS
             refine L_nil ?_
             refine n_then ?_
             first | refine c_ifD hS rfl (fun hc44 => ?_) (fun hc44 => ?_) | refine c_if hS rfl (fun hc44 => ?_) (fun hc44 => ?_)
             ·
               refine c_region ?_
               refine L_op (s_e hS (e_move rfl) rfl ?_); clear hS a; intro a hS
               refine L_op (s_e hS (e_move rfl) rfl ?_); clear hS a; intro a hS
               refine L_op (s_e hS (e_move rfl) rfl ?_); clear hS a; intro a hS
               refine L_op (s_e hS (e_ixN rfl rfl ty_sl50 ty_sz72 (by omega)) rfl ?_); clear hS a; intro a hS
               first | (refine L_op (s_e hS (e_fa0 rfl ty_fo72_2) rfl ?_); clear hS a; intro a hS) | (refine L_op (s_e hS (e_faK rfl ty_fo72_2) rfl ?_); clear hS a; intro a hS)
               refine L_op (s_e hS (e_loadAC (l := encAc o.a) rfl ty_st68 ty_sz68 (fun w hh j v hj => by
 rw [Nat.add_assoc]
 refine los_get (by repeat constructor) ho w hh (2 + j) v ?_
 have hjl := (List.getElem?_eq_some_iff.1 hj).1
 match j, hj with
 | 0, hj => exact hj
 | 1, hj => exact hj
 | 2, hj => exact hj
 | 3, hj => exact hj
 | (k + 4), hj => simp [encAc] at hj)) rfl ?_); clear hS a; intro a hS
               refine L_op (s_callM hS (.cons rfl (.cons rfl .nil)) cf44 rfl (lOpen_P x9 s o.a hof.code _ (hS.get (X := ledA x9 s true) (by repeat constructor))) (fun x => (by repeat constructor)) rfl ?_); clear hS a; (try clear w); intro x52 a w hS
               refine L_nil ?_
               refine n_block ?_
               refine n_block ?_
               rw [hmt, ← hst]
               first
               | exact ⟨openL s o.a, (hS.slots (by repeat (first | exact trivial | refine ⟨rfl, ?_⟩))).pick (by repeat (first | exact Pick.nil | (refine Pick.cons (by repeat (first | exact Rem.head | apply Rem.tail)) ?_))), by rw [pl_open]; exact (if_pos hc44).symm⟩
               | exact ⟨x71.1, (hS.slots (by repeat (first | exact trivial | refine ⟨rfl, ?_⟩))).pick (by repeat (first | exact Pick.nil | (refine Pick.cons (by repeat (first | exact Rem.head | apply Rem.tail)) ?_))), by rw [x71.2]; unfold stepP; rw [if_neg hc44, if_pos hc53]⟩
               | exact ⟨closeL s o.at_, (hS.slots (by repeat (first | exact trivial | refine ⟨rfl, ?_⟩))).pick (by repeat (first | exact Pick.nil | (refine Pick.cons (by repeat (first | exact Rem.head | apply Rem.tail)) ?_))), by rw [pl_close]; unfold stepP; rw [if_neg hc44, if_neg hc53, if_pos hc72]⟩
               | exact ⟨s, (hS.slots (by repeat (first | exact trivial | refine ⟨rfl, ?_⟩))).pick (by repeat (first | exact Pick.nil | (refine Pick.cons (by repeat (first | exact Rem.head | apply Rem.tail)) ?_))), by unfold stepP; rw [if_neg hc44, if_neg hc53, if_neg hc72]⟩
             ·
               refine c_seq ?_
               refine c_region ?_
               refine L_op (s_e hS (e_bin rfl rfl rfl) rfl ?_); clear hS a; intro a hS
               refine L_op (s_e hS (e_assign rfl) rfl ?_); clear hS a; intro a hS
               refine L_nil ?_
               refine n_then ?_
               first | refine c_ifD hS rfl (fun hc53 => ?_) (fun hc53 => ?_) | refine c_if hS rfl (fun hc53 => ?_) (fun hc53 => ?_)
               ·
                 refine c_drawS [] (by kernel_rfl) hS (sub_cons (X := losA (some (b, off)) l) (by repeat constructor) sub_nil) ?_; clear hS; (try clear w); intro w hS
                 simp only [List.length_cons, List.length_nil, Nat.zero_add, Nat.reduceAdd, List.replicate]
                 refine Z_take0 (i := 0) hS rfl want_none (e_move rfl) (listed' := [true, false, false, false, false, false, false, false, false, false, false, false, false, false, false, false, false]) rfl (by kernel_rfl) (by kernel_rfl) (by kernel_rfl) (fun _ _ _ h => h) rfl ?_; clear hS a; intro a hS
                 refine Z_take0 (i := 1) hS rfl want_none (e_move rfl) (listed' := [true, true, false, false, false, false, false, false, false, false, false, false, false, false, false, false, false]) rfl (by kernel_rfl) (by kernel_rfl) (by kernel_rfl) (fun _ _ _ h => h) rfl ?_; clear hS a; intro a hS
                 refine Z_take0 (i := 2) hS rfl want_none (e_move rfl) (listed' := [true, true, true, false, false, false, false, false, false, false, false, false, false, false, false, false, false]) rfl (by kernel_rfl) (by kernel_rfl) (by kernel_rfl) (fun _ _ _ h => h) rfl ?_; clear hS a; intro a hS
                 refine Z_take0 (i := 3) hS rfl want_none (e_ixN rfl rfl ty_sl50 ty_sz72 (by omega)) (listed' := [true, true, true, true, false, false, false, false, false, false, false, false, false, false, false, false, false]) rfl (by kernel_rfl) (by kernel_rfl) (by kernel_rfl) (fun _ _ _ h => h) rfl ?_; clear hS a; intro a hS
                 first | (refine Z_take0 (i := 4) hS rfl want_none (e_fa0 rfl ty_fo72_1) (listed' := [true, true, true, true, true, false, false, false, false, false, false, false, false, false, false, false, false]) rfl (by kernel_rfl) (by kernel_rfl) (by kernel_rfl) (fun _ _ _ h => h) rfl ?_; clear hS a; intro a hS) | (refine Z_take0 (i := 4) hS rfl want_none (e_faK rfl ty_fo72_1) (listed' := [true, true, true, true, true, false, false, false, false, false, false, false, false, false, false, false, false]) rfl (by kernel_rfl) (by kernel_rfl) (by kernel_rfl) (fun _ _ _ h => h) rfl ?_; clear hS a; intro a hS)
                 refine Z_take (i := 5) hS rfl want_none (e_loadC rfl ty_sc3 (fun w hh => los_get (by repeat constructor) ho w hh 1 (.int .i64 o.at_) rfl)) (listed' := [true, true, true, true, true, true, false, false, false, false, false, false, false, false, false, false, false]) rfl (by kernel_rfl) (by kernel_rfl) (by kernel_rfl) (by kernel_rfl) (by kernel_rfl) (sub_cons (by repeat constructor) sub_nil) (fun _ _ _ h => h) rfl ?_; clear hS a; intro a hS
                 refine Z_take0 (i := 6) hS rfl want_none (e_move rfl) (listed' := [true, true, true, true, true, true, true, false, false, false, false, false, false, false, false, false, false]) rfl (by kernel_rfl) (by kernel_rfl) (by kernel_rfl) (fun _ _ _ h => h) rfl ?_; clear hS a; intro a hS
                 refine Z_take0 (i := 7) hS rfl want_none (e_move rfl) (listed' := [true, true, true, true, true, true, true, true, false, false, false, false, false, false, false, false, false]) rfl (by kernel_rfl) (by kernel_rfl) (by kernel_rfl) (fun _ _ _ h => h) rfl ?_; clear hS a; intro a hS
                 refine Z_take0 (i := 8) hS rfl want_none (e_ixN rfl rfl ty_sl50 ty_sz72 (by omega)) (listed' := [true, true, true, true, true, true, true, true, true, false, false, false, false, false, false, false, false]) rfl (by kernel_rfl) (by kernel_rfl) (by kernel_rfl) (fun _ _ _ h => h) rfl ?_; clear hS a; intro a hS
                 first | (refine Z_take0 (i := 9) hS rfl want_none (e_fa0 rfl ty_fo72_3) (listed' := [true, true, true, true, true, true, true, true, true, true, false, false, false, false, false, false, false]) rfl (by kernel_rfl) (by kernel_rfl) (by kernel_rfl) (fun _ _ _ h => h) rfl ?_; clear hS a; intro a hS) | (refine Z_take0 (i := 9) hS rfl want_none (e_faK rfl ty_fo72_3) (listed' := [true, true, true, true, true, true, true, true, true, true, false, false, false, false, false, false, false]) rfl (by kernel_rfl) (by kernel_rfl) (by kernel_rfl) (fun _ _ _ h => h) rfl ?_; clear hS a; intro a hS)
                 refine Z_take (i := 10) hS rfl want_none (e_loadC rfl ty_sc9 (fun w hh => los_get (by repeat constructor) ho w hh 6 (.string o.memo) rfl)) (listed' := [true, true, true, true, true, true, true, true, true, true, true, false, false, false, false, false, false]) rfl (by kernel_rfl) (by kernel_rfl) (by kernel_rfl) (by kernel_rfl) (by kernel_rfl) (sub_cons (by repeat constructor) sub_nil) (fun _ _ _ h => h) rfl ?_; clear hS a; intro a hS
                 refine Z_take0 (i := 11) hS rfl want_none (e_move rfl) (listed' := [true, true, true, true, true, true, true, true, true, true, true, true, false, false, false, false, false]) rfl (by kernel_rfl) (by kernel_rfl) (by kernel_rfl) (fun _ _ _ h => h) rfl ?_; clear hS a; intro a hS
                 refine Z_take0 (i := 12) hS rfl want_none (e_move rfl) (listed' := [true, true, true, true, true, true, true, true, true, true, true, true, true, false, false, false, false]) rfl (by kernel_rfl) (by kernel_rfl) (by kernel_rfl) (fun _ _ _ h => h) rfl ?_; clear hS a; intro a hS
                 refine Z_take0 (i := 13) hS rfl want_none (e_ixN rfl rfl ty_sl50 ty_sz72 (by omega)) (listed' := [true, true, true, true, true, true, true, true, true, true, true, true, true, true, false, false, false]) rfl (by kernel_rfl) (by kernel_rfl) (by kernel_rfl) (fun _ _ _ h => h) rfl ?_; clear hS a; intro a hS
                 first | (refine Z_take0 (i := 14) hS rfl want_none (e_fa0 rfl ty_fo72_4) (listed' := [true, true, true, true, true, true, true, true, true, true, true, true, true, true, true, false, false]) rfl (by kernel_rfl) (by kernel_rfl) (by kernel_rfl) (fun _ _ _ h => h) rfl ?_; clear hS a; intro a hS) | (refine Z_take0 (i := 14) hS rfl want_none (e_faK rfl ty_fo72_4) (listed' := [true, true, true, true, true, true, true, true, true, true, true, true, true, true, true, false, false]) rfl (by kernel_rfl) (by kernel_rfl) (by kernel_rfl) (fun _ _ _ h => h) rfl ?_; clear hS a; intro a hS)
                 refine Z_take (i := 15) hS rfl want_none (e_loadC rfl ty_sc56 (fun w hh => los_get (by repeat constructor) ho w hh 7 o.pv rfl)) (listed' := [true, true, true, true, true, true, true, true, true, true, true, true, true, true, true, true, false]) rfl (by kernel_rfl) (by kernel_rfl) (by kernel_rfl) (by kernel_rfl) (by kernel_rfl) (sub_cons (by repeat constructor) sub_nil) (fun _ _ _ h => h) rfl ?_; clear hS a; intro a hS
                 refine Z_one (i := 16) rfl (want_none a hS.sl) (listed' := [true, true, true, true, true, true, true, true, true, true, true, true, true, true, true, true, true]) rfl (by kernel_rfl) (s_callM hS (.cons rfl (.cons rfl (.cons rfl (.cons rfl .nil)))) cf32 rfl (postAny_P x9 s o.pv o.at_ o.memo o.ps hof.ps.2 hof.ps.1 hwf.bal hes _ (hS.get (X := ledA x9 s true) (by repeat constructor)) ((hS.get (X := losA (some (b, off)) l) (by repeat constructor)).2 o hom) (fun k hne hk hl => hS.sep (X := ledA x9 s true) (Y := losA (some (b, off)) l) (by repeat (first | exact Rem.head | apply Rem.tail)) (by repeat constructor) k hl (.inr ⟨o, hom, hne, hk⟩))) (fun x => (by repeat constructor)) rfl ?_); clear hS a; (try clear w); intro x71 a w hS
                 refine Z_and hS (sub_cons (by repeat constructor) sub_nil) ?_
                 refine Z_done (by kernel_rfl) ?_
                 refine n_block ?_
                 refine n_block ?_
                 rw [hmt, ← hst]
                 first
                 | exact ⟨openL s o.a, (hS.slots (by repeat (first | exact trivial | refine ⟨rfl, ?_⟩))).pick (by repeat (first | exact Pick.nil | (refine Pick.cons (by repeat (first | exact Rem.head | apply Rem.tail)) ?_))), by rw [pl_open]; exact (if_pos hc44).symm⟩
                 | exact ⟨x71.1, (hS.slots (by repeat (first | exact trivial | refine ⟨rfl, ?_⟩))).pick (by repeat (first | exact Pick.nil | (refine Pick.cons (by repeat (first | exact Rem.head | apply Rem.tail)) ?_))), by rw [x71.2]; unfold stepP; rw [if_neg hc44, if_pos hc53]⟩
                 | exact ⟨closeL s o.at_, (hS.slots (by repeat (first | exact trivial | refine ⟨rfl, ?_⟩))).pick (by repeat (first | exact Pick.nil | (refine Pick.cons (by repeat (first | exact Rem.head | apply Rem.tail)) ?_))), by rw [pl_close]; unfold stepP; rw [if_neg hc44, if_neg hc53, if_pos hc72]⟩
                 | exact ⟨s, (hS.slots (by repeat (first | exact trivial | refine ⟨rfl, ?_⟩))).pick (by repeat (first | exact Pick.nil | (refine Pick.cons (by repeat (first | exact Rem.head | apply Rem.tail)) ?_))), by unfold stepP; rw [if_neg hc44, if_neg hc53, if_neg hc72]⟩
               ·
                 refine c_seq ?_
                 refine c_region ?_
                 refine L_op (s_e hS (e_bin rfl rfl rfl) rfl ?_); clear hS a; intro a hS
                 refine L_op (s_e hS (e_assign rfl) rfl ?_); clear hS a; intro a hS
                 refine L_nil ?_
                 refine n_then ?_
                 first | refine c_ifD hS rfl (fun hc72 => ?_) (fun hc72 => ?_) | refine c_if hS rfl (fun hc72 => ?_) (fun hc72 => ?_)
                 ·
                   refine c_region ?_
                   refine L_op (s_e hS (e_move rfl) rfl ?_); clear hS a; intro a hS
                   refine L_op (s_e hS (e_move rfl) rfl ?_); clear hS a; intro a hS
                   refine L_op (s_e hS (e_move rfl) rfl ?_); clear hS a; intro a hS
                   refine L_op (s_e hS (e_ixN rfl rfl ty_sl50 ty_sz72 (by omega)) rfl ?_); clear hS a; intro a hS
                   first | (refine L_op (s_e hS (e_fa0 rfl ty_fo72_1) rfl ?_); clear hS a; intro a hS) | (refine L_op (s_e hS (e_faK rfl ty_fo72_1) rfl ?_); clear hS a; intro a hS)
                   refine L_op (s_e hS (e_loadC rfl ty_sc3 (fun w hh => los_get (by repeat constructor) ho w hh 1 (.int .i64 o.at_) rfl)) rfl ?_); clear hS a; intro a hS
                   refine L_op (s_callM hS (.cons rfl (.cons rfl .nil)) cf45 rfl (lClose_P x9 s o.at_ _ (hS.get (X := ledA x9 s true) (by repeat constructor))) (fun x => (by repeat constructor)) rfl ?_); clear hS a; (try clear w); intro x80 a w hS
                   refine L_nil ?_
                   refine n_block ?_
                   refine n_block ?_
                   rw [hmt, ← hst]
                   first
                   | exact ⟨openL s o.a, (hS.slots (by repeat (first | exact trivial | refine ⟨rfl, ?_⟩))).pick (by repeat (first | exact Pick.nil | (refine Pick.cons (by repeat (first | exact Rem.head | apply Rem.tail)) ?_))), by rw [pl_open]; exact (if_pos hc44).symm⟩
                   | exact ⟨x71.1, (hS.slots (by repeat (first | exact trivial | refine ⟨rfl, ?_⟩))).pick (by repeat (first | exact Pick.nil | (refine Pick.cons (by repeat (first | exact Rem.head | apply Rem.tail)) ?_))), by rw [x71.2]; unfold stepP; rw [if_neg hc44, if_pos hc53]⟩
                   | exact ⟨closeL s o.at_, (hS.slots (by repeat (first | exact trivial | refine ⟨rfl, ?_⟩))).pick (by repeat (first | exact Pick.nil | (refine Pick.cons (by repeat (first | exact Rem.head | apply Rem.tail)) ?_))), by rw [pl_close]; unfold stepP; rw [if_neg hc44, if_neg hc53, if_pos hc72]⟩
                   | exact ⟨s, (hS.slots (by repeat (first | exact trivial | refine ⟨rfl, ?_⟩))).pick (by repeat (first | exact Pick.nil | (refine Pick.cons (by repeat (first | exact Rem.head | apply Rem.tail)) ?_))), by unfold stepP; rw [if_neg hc44, if_neg hc53, if_neg hc72]⟩
                 ·
                   refine wp_skip ?_
                   refine n_block ?_
                   refine n_block ?_
                   rw [hmt, ← hst]
                   first
                   | exact ⟨openL s o.a, (hS.slots (by repeat (first | exact trivial | refine ⟨rfl, ?_⟩))).pick (by repeat (first | exact Pick.nil | (refine Pick.cons (by repeat (first | exact Rem.head | apply Rem.tail)) ?_))), by rw [pl_open]; exact (if_pos hc44).symm⟩
                   | exact ⟨x71.1, (hS.slots (by repeat (first | exact trivial | refine ⟨rfl, ?_⟩))).pick (by repeat (first | exact Pick.nil | (refine Pick.cons (by repeat (first | exact Rem.head | apply Rem.tail)) ?_))), by rw [x71.2]; unfold stepP; rw [if_neg hc44, if_pos hc53]⟩
                   | exact ⟨closeL s o.at_, (hS.slots (by repeat (first | exact trivial | refine ⟨rfl, ?_⟩))).pick (by repeat (first | exact Pick.nil | (refine Pick.cons (by repeat (first | exact Rem.head | apply Rem.tail)) ?_))), by rw [pl_close]; unfold stepP; rw [if_neg hc44, if_neg hc53, if_pos hc72]⟩
                   | exact ⟨s, (hS.slots (by repeat (first | exact trivial | refine ⟨rfl, ?_⟩))).pick (by repeat (first | exact Pick.nil | (refine Pick.cons (by repeat (first | exact Rem.head | apply Rem.tail)) ?_))), by unfold stepP; rw [if_neg hc44, if_neg hc53, if_neg hc72]⟩
           ·
             clear hS a; (try clear w); intro a w hS
             obtain ⟨s2, hS, hp2⟩ := hS
             refine c_region ?_
             refine L_op (s_e hS (e_move rfl) rfl ?_); clear hS a; intro a hS
             first | (refine L_op (s_e hS (e_binN rfl rfl rfl (by omega)) rfl ?_); clear hS a; intro a hS) | (refine L_op (s_e hS (e_bin rfl rfl rfl) rfl ?_); clear hS a; intro a hS)
             refine L_op (s_e hS (e_assign rfl) rfl ?_); clear hS a; intro a hS
             refine L_nil ?_
             exact ⟨(i + 1, s2), by simp only; omega, hS.slots (by repeat (first | exact trivial | refine ⟨rfl, ?_⟩)), by simp only; omega, hp2⟩
         ·
           refine wp_exit ?_
           refine x_then (x_then (x_hit ?_))
           refine n_then ?_
           refine c_seq ?_
           refine c_region ?_
           refine L_op (s_e hS (e_move rfl) rfl ?_); clear hS a; intro a hS
           refine L_op (s_e hS (e_assign rfl) rfl ?_); clear hS a; intro a hS
           refine L_nil ?_
           refine n_then ?_
           refine wp_ret ?_
           refine c_ret1 hS Try.results27 (.tmp rfl) ?_
           obtain rfl : i = l.length := by omega
           rw [List.take_length] at hpl
           exact ⟨⟨(x9, s), hpl⟩, rfl, hS.chg, hS.new (X := ledA x9 s true) (by repeat constructor) rfl⟩
end Go.Proofs.Ytheofhegdjjfgaa

namespace Go.Proofs.Ytheofhegdjjfgaa
open Go.RowKit

def ps1 : List Pst := [⟨aBank.code, 100, 100⟩, ⟨aSales.code, -100, -100⟩]
def ps2 : List Pst := [⟨aBank.code, 100, 100⟩, ⟨aFees.code, -100, -100⟩]
def ps3 : List Pst := [⟨aTill.code, 100, 110⟩, ⟨aFees.code, -100, -110⟩]
def PA : PL := ⟨usdL, chartL, [⟨1, 5, ⟨#[97]⟩, ps1⟩], [(aBank.code, (100, 100)), (aSales.code, (-100, -100))], -1⟩
def PC : PL := ⟨usdL, chartL, [⟨1, 5, ⟨#[97]⟩, ps1⟩, ⟨2, 7, ⟨#[99]⟩, ps3⟩], [(aBank.code, (100, 100)), (aSales.code, (-100, -100)), (aTill.code, (100, 110)), (aFees.code, (-100, -110))], -1⟩
theorem c_a : checkE P4 5 ⟨#[97]⟩ ps1 = 0 := by decide +kernel
theorem c_b : checkE PA 5 ⟨#[98]⟩ ps2 = 26 := by decide +kernel
theorem c_c : checkE PA 7 ⟨#[99]⟩ ps3 = 0 := by decide +kernel
theorem p_a : postP P4 5 ⟨#[97]⟩ ps1 = PA := if_pos c_a
theorem i_a : postI P4 5 ⟨#[97]⟩ ps1 = 1 := if_pos c_a
theorem p_b : postP PA 5 ⟨#[98]⟩ ps2 = PA := if_neg (by rw [c_b]; decide)
theorem i_b : postI PA 5 ⟨#[98]⟩ ps2 = 0 := if_neg (by rw [c_b]; decide)
theorem p_c : postP PA 7 ⟨#[99]⟩ ps3 = PC := (if_pos c_c).trans (by
  have e : totS PA.tot ps3 = PC.tot := by
    simp only [totS, ps3, PA, PC, List.foldl]
    decide +kernel
  show PL.mk _ _ _ _ _ = _
  rw [e]; rfl)
theorem i_c : postI PA 7 ⟨#[99]⟩ ps3 = 2 := if_pos c_c
theorem b_till : balF PC aTill.code 7 = ((aTill.code, 100, 110), 0) := by decide +kernel
theorem chart_open {i : Nat} {x : Acc} (hx : chartL[i]? = some x) : openEP ((chartL.take i).foldl openP P0) x = 0 := by
  have e1 : openEP P0 aBank = 0 := by decide +kernel
  have e2 : openEP ⟨usdL, [aBank], [], [], -1⟩ aSales = 0 := by decide +kernel
  have e3 : openEP ⟨usdL, [aBank, aSales], [], [], -1⟩ aTill = 0 := by decide +kernel
  have e4 : openEP ⟨usdL, [aBank, aSales, aTill], [], [], -1⟩ aFees = 0 := by decide +kernel
  have s1 : openP P0 aBank = ⟨usdL, [aBank], [], [], -1⟩ := if_pos e1
  have s2 : openP ⟨usdL, [aBank], [], [], -1⟩ aSales = ⟨usdL, [aBank, aSales], [], [], -1⟩ := if_pos e2
  have s3 : openP ⟨usdL, [aBank, aSales], [], [], -1⟩ aTill = ⟨usdL, [aBank, aSales, aTill], [], [], -1⟩ := if_pos e3
  match i, hx with
  | 0, hx => cases hx; exact e1
  | 1, hx => cases hx; show openEP (openP P0 aBank) aSales = 0; rw [s1]; exact e2
  | 2, hx => cases hx; show openEP (openP (openP P0 aBank) aSales) aTill = 0; rw [s1, s2]; exact e3
  | 3, hx => cases hx; show openEP (openP (openP (openP P0 aBank) aSales) aTill) aFees = 0; rw [s1, s2, s3]; exact e4
  | (k + 4), hx => cases hx
theorem blk_rowP {b E : Nat} {ps : List Pst} {w : World} (h : w.heap[b]? = some (.cells (ps.flatMap encP).toArray E (0, 0))) : RowAt b 0 3 (ps.map encP) w := by
  intro i x hx j v hj
  rw [List.getElem?_map] at hx
  cases hp : ps[i]? with
  | none => rw [hp] at hx; cases hx
  | some p =>
    rw [hp] at hx; injection hx with hx; subst hx
    exact cell_of_blk (cs := ps.flatMap encP) (E := E) h (by rw [Nat.zero_add]; exact flat_get encP 3 (fun _ => rfl) ps i p hp j v hj)
theorem fits_small {ps : List Pst} (h : ∀ p ∈ ps, p.acc.size ≤ 300 ∧ (-1000 ≤ p.u ∧ p.u ≤ 1000) ∧ (-1000 ≤ p.f ∧ p.f ≤ 1000)) : ∀ p ∈ ps, p.fits := fun p hp => by
  obtain ⟨h1, h2, h3⟩ := h p hp
  exact ⟨by omega, by omega, by omega⟩

theorem post_row {B : LB} {s : LS} {P P' : PL} {i e at_ : Int} {memo : ByteArray} {ps : List Pst} {b : Nat} (hpl : pl s = P) (hP : postP P at_ memo ps = P') (hI : postI P at_ memo ps = i) (hE : checkE P at_ memo ps = e) (hbt : balT P.tot) (hn : P.es.length ≤ 100) (hfit : ∀ p ∈ ps, p.fits) (hlen : ps.length ≤ 60) (w : World) (h : ledφ B s w)
    (hr : w.heap[b]? = some (.cells (ps.flatMap encP).toArray 63 (0, 0))) (hd : ¬ ledF B s b) :
    MutC Try.prog 32 [.pointer (some ⟨B.lb, 0, none⟩), .int .i64 at_, .string memo, .slice (some ⟨b, 0, none⟩) ps.length ps.length] w (ledA B s true) (fun _ : { y : LS // pl y = P' } => .tuple [.int .i64 i, .int .i64 e].toArray) (fun y => ledA B y.1 true) := by
  have hes : s.es.length ≤ 100000 := by
    have h1 : (pl s).es.length = s.es.length := by simp [pl]
    rw [hpl] at h1; omega
  have h2 := lPost_P B s (some (b, 0)) ps.length at_ memo ps (by omega) hfit (by have : (pl s).tot = s.tot := rfl
                                                                                 rw [← this, hpl]; exact hbt) hes w h (blk_rowP hr) (fun q hq => by cases hq; exact (Array.getElem?_eq_some_iff.1 hr).1) (fun q hq => by cases hq; exact hd)
  rw [hpl, hP, hI, hE] at h2
  exact h2
set_option maxHeartbeats 1000000 in
set_option maxRecDepth 100000 in
theorem lfirst_P (w0 : World) : PureC Try.prog 25 [] w0 (.bool true) := by
   refine c_enter [] [] noB Try.func25 rfl Try.ntmps25 trivial rfl (by simp) (by simp) (by simp) ?_
   intro a hS
   refine c_seq ?_
   refine c_region ?_
   refine L_op (s_e hS (e_assign rfl) rfl ?_); clear hS a; intro a hS
   refine L_nil ?_
   refine n_then ?_
   refine c_seq ?_
   refine c_region ?_
   refine L_op (s_callN hS (.cons rfl .nil) cf61 rfl (lNew_P usdL _ (by decide +kernel)) ?_); clear hS a; (try clear w); intro x14 a w hS
   refine L_op (s_e hS (e_move rfl) rfl ?_); clear hS a; intro a hS
   refine L_op (s_e hS (e_extract rfl rfl) rfl ?_); clear hS a; intro a hS
   refine L_op (s_e hS (e_extract rfl rfl) rfl ?_); clear hS a; intro a hS
   refine L_op (s_e hS (e_assign rfl) rfl ?_); clear hS a; intro a hS
   refine L_op (s_e hS (e_assign rfl) rfl ?_); clear hS a; intro a hS
   refine L_nil ?_
   refine n_then ?_
   refine c_seq ?_
   refine c_seq ?_
   refine c_region ?_
   refine L_op (s_e hS (e_move rfl) rfl ?_); clear hS a; intro a hS
   refine L_op (s_e hS (e_nil rfl ty_u52) rfl ?_); clear hS a; intro a hS
   refine L_op (s_e hS (e_move rfl) rfl ?_); clear hS a; intro a hS
   replace hS := hS.is (t := 19) (c := false) rfl (rfl)
   refine L_go hS rfl rfl (s_e hS (e_move rfl) rfl ?_); clear hS a; intro a hS
   refine L_go hS rfl rfl (s_callP hS (.cons rfl .nil) cf16 rfl (Num_w _ _) ?_); clear hS a; (try clear w); intro a w hS
   refine L_go hS rfl rfl (s_e hS (e_bin rfl rfl rfl) rfl ?_); clear hS a; intro a hS
   first | (refine L_op (s_e hS (e_pick_t rfl rfl) rfl ?_); clear hS a; intro a hS) | (refine L_op (s_e hS (e_pick_f rfl rfl) rfl ?_); clear hS a; intro a hS)
   refine L_nil ?_
   refine n_then ?_
   replace hS := hS.is (t := 23) (c := false) rfl ((by decide))
   refine c_if_f hS rfl ?_
   refine wp_skip ?_
   refine n_then ?_
   refine c_seq ?_
   refine c_region ?_
   refine L_op (s_callN hS .nil cf62 rfl (lChart_P _) ?_); clear hS a; (try clear w); intro x24 a w hS
   refine L_op (s_e hS (e_assign rfl) rfl ?_); clear hS a; intro a hS
   refine L_nil ?_
   refine n_then ?_
   refine c_seq ?_
   refine c_seq ?_
   refine c_region ?_
   refine L_op (s_e hS (e_assign rfl) rfl ?_); clear hS a; intro a hS
   refine L_nil ?_
   refine n_then ?_
   refine wp_block ?_
   skip
   refine c_loop (γ := Nat × LS) (fun G a w => St 109 noB w0 a w [(4, .int .i64 (G.1 : Int)), (3, .slice (some ⟨x24, 0, none⟩) 4 4), (1, .pointer (some ⟨x14.lb, 0, none⟩))] [.blk x24 (chartL.flatMap encAc) 68, ledA x14 G.2 true] ∧ G.1 ≤ 4 ∧ pl G.2 = (chartL.take G.1).foldl openP P0) (fun G => 4 - G.1) (0, newL usdL) ⟨(hS.slots (by repeat (first | exact trivial | refine ⟨rfl, ?_⟩))).pick (by repeat (first | exact Pick.nil | (refine Pick.cons (by repeat (first | exact Rem.head | apply Rem.tail)) ?_))), Nat.zero_le _, rfl⟩ ?_
   clear hS a; (try clear w); intro G a w hI
   obtain ⟨i, s⟩ := G
   obtain ⟨hS, hi, hpl⟩ := hI
   simp only at hS hi hpl
   refine c_seq ?_
   refine c_seq ?_
   refine c_region ?_
   refine L_op (s_e hS (e_move rfl) rfl ?_); clear hS a; intro a hS
   refine L_op (s_e hS (e_move rfl) rfl ?_); clear hS a; intro a hS
   refine L_op (s_e hS (e_len rfl rfl ty_sl65) rfl ?_); clear hS a; intro a hS
   refine L_op (s_e hS (e_bin rfl rfl rfl) rfl ?_); clear hS a; intro a hS
   refine L_nil ?_
   refine n_then ?_
   first | refine c_ifD hS rfl (fun hc28 => ?_) (fun hc28 => ?_) | refine c_if hS rfl (fun hc28 => ?_) (fun hc28 => ?_)
   ·
     obtain ⟨x, hx⟩ : ∃ x, chartL[i]? = some x := ⟨chartL[i]'(by show i < 4; omega), List.getElem?_eq_getElem (by show i < 4; omega)⟩
     have hxs : x.code.size ≤ 4611686018427387904 := by
       have := List.mem_of_getElem? hx
       simp [chartL] at this
       rcases this with rfl | rfl | rfl | rfl <;> decide
     have htk : chartL.take (i + 1) = chartL.take i ++ [x] := by rw [List.take_add_one, hx]; rfl
     have hop : openE s x = 0 := by rw [show openE s x = openEP (pl s) x from rfl, hpl]; exact chart_open hx
     refine wp_skip ?_
     refine n_then ?_
     refine c_seq ?_
     refine wp_block ?_
     refine c_seq ?_
     refine c_region ?_
     refine L_op (s_e hS (e_move rfl) rfl ?_); clear hS a; intro a hS
     refine L_op (s_e hS (e_move rfl) rfl ?_); clear hS a; intro a hS
     refine L_op (s_e hS (e_move rfl) rfl ?_); clear hS a; intro a hS
     refine L_op (s_e hS (e_ixN rfl rfl ty_sl65 ty_sz68 (by omega)) rfl ?_); clear hS a; intro a hS
     refine L_op (s_e hS (e_loadAC (l := encAc x) rfl ty_st68 ty_sz68 (blkrow_getL (enc := encAc) (s := 4) (by repeat constructor) (fun _ => rfl) hx)) rfl ?_); clear hS a; intro a hS
     refine L_op (s_callM hS (.cons rfl (.cons rfl .nil)) cf44 rfl (lOpen_P x14 s x hxs _ (hS.get (X := ledA x14 s true) (by repeat constructor))) (fun x => (by repeat constructor)) rfl ?_); clear hS a; (try clear w); intro x36 a w hS
     refine L_op (s_callP hS (.cons rfl .nil) cf16 rfl (Num_w _ _) ?_); clear hS a; (try clear w); intro a w hS
     refine L_op (s_e hS (e_bin rfl rfl rfl) rfl ?_); clear hS a; intro a hS
     refine L_nil ?_
     refine n_then ?_
     replace hS := hS.is (t := 38) (c := false) rfl ((decide_eq_false (fun e => e hop)))
     refine c_if_f hS rfl ?_
     refine wp_skip ?_
     refine n_block ?_
     refine n_then ?_
     refine c_region ?_
     refine L_op (s_e hS (e_move rfl) rfl ?_); clear hS a; intro a hS
     first | (refine L_op (s_e hS (e_binN rfl rfl rfl (by omega)) rfl ?_); clear hS a; intro a hS) | (refine L_op (s_e hS (e_bin rfl rfl rfl) rfl ?_); clear hS a; intro a hS)
     refine L_op (s_e hS (e_assign rfl) rfl ?_); clear hS a; intro a hS
     refine L_nil ?_
     exact ⟨(i + 1, openL s x), by simp only; omega, (hS.slots (by repeat (first | exact trivial | refine ⟨rfl, ?_⟩))).pick (by repeat (first | exact Pick.nil | (refine Pick.cons (by repeat (first | exact Rem.head | apply Rem.tail)) ?_))), by simp only; omega, by simp only; rw [pl_open, hpl, htk, List.foldl_append]; rfl⟩
   ·
     obtain rfl : i = 4 := by omega
     rw [show (chartL.take 4).foldl openP P0 = P4 from chart_made] at hpl
     refine wp_exit ?_
     refine x_then (x_then (x_hit ?_))
     refine n_then ?_
     refine c_seq ?_
     refine c_region ?_
     refine L_op (s_e hS (e_move rfl) rfl ?_); clear hS a; intro a hS
     refine L_op (s_e hS (e_build ty_z63 ty_pl63 (.one rfl rfl rfl (by repeat constructor) (.one rfl rfl rfl (by repeat constructor) (.one rfl rfl rfl (by repeat constructor) .nil)))) rfl ?_); clear hS a; intro a hS
     refine L_op (s_e hS (e_build ty_z63 ty_pl63 (.one rfl rfl rfl (by repeat constructor) (.one rfl rfl rfl (by repeat constructor) (.one rfl rfl rfl (by repeat constructor) .nil)))) rfl ?_); clear hS a; intro a hS
     refine L_op (s_bslice hS ty_sl56 ty_sz63 ty_z63 rfl rfl rfl rfl (.agg rfl rfl (.agg rfl rfl .nil)) rfl ?_); clear hS a; (try clear w); intro a w b43 hS
     refine L_op (s_callM hS (.cons rfl (.cons rfl (.cons rfl (.cons rfl .nil)))) cf32 rfl (post_row (B := x14) (s := s) (P := P4) (P' := PA) (ps := ps1) hpl p_a i_a c_a (by intro e he; revert e; decide +kernel) (by decide) (fits_small (by decide +kernel)) (by decide) _ (hS.get (X := ledA x14 s true) (by repeat constructor)) (hS.get (X := .blk b43 (ps1.flatMap encP) 63) (by repeat constructor)) (hS.sep (X := .blk b43 (ps1.flatMap encP) 63) (Y := ledA x14 s true) (by repeat (first | exact Rem.head | apply Rem.tail)) (by repeat constructor) b43 rfl)) (fun x => (by repeat constructor)) rfl ?_); clear hS a; (try clear w); intro x44 a w hS
     obtain ⟨s1, hp1⟩ := x44
     simp only at hS
     refine L_op (s_e hS (e_move rfl) rfl ?_); clear hS a; intro a hS
     refine L_op (s_e hS (e_extract rfl rfl) rfl ?_); clear hS a; intro a hS
     refine L_op (s_e hS (e_extract rfl rfl) rfl ?_); clear hS a; intro a hS
     refine L_op (s_e hS (e_assign rfl) rfl ?_); clear hS a; intro a hS
     refine L_op (s_e hS (e_assign rfl) rfl ?_); clear hS a; intro a hS
     refine L_nil ?_
     refine n_then ?_
     refine c_seq ?_
     refine c_region ?_
     refine L_op (s_e hS (e_move rfl) rfl ?_); clear hS a; intro a hS
     refine L_op (s_e hS (e_build ty_z63 ty_pl63 (.one rfl rfl rfl (by repeat constructor) (.one rfl rfl rfl (by repeat constructor) (.one rfl rfl rfl (by repeat constructor) .nil)))) rfl ?_); clear hS a; intro a hS
     refine L_op (s_e hS (e_build ty_z63 ty_pl63 (.one rfl rfl rfl (by repeat constructor) (.one rfl rfl rfl (by repeat constructor) (.one rfl rfl rfl (by repeat constructor) .nil)))) rfl ?_); clear hS a; intro a hS
     refine L_op (s_bslice hS ty_sl56 ty_sz63 ty_z63 rfl rfl rfl rfl (.agg rfl rfl (.agg rfl rfl .nil)) rfl ?_); clear hS a; (try clear w); intro a w b51 hS
     refine L_op (s_callM hS (.cons rfl (.cons rfl (.cons rfl (.cons rfl .nil)))) cf32 rfl (post_row (B := x14) (s := s1) (P := PA) (P' := PA) (ps := ps2) hp1 p_b i_b c_b (by intro e he; revert e; decide +kernel) (by decide) (fits_small (by decide +kernel)) (by decide) _ (hS.get (X := ledA x14 s1 true) (by repeat constructor)) (hS.get (X := .blk b51 (ps2.flatMap encP) 63) (by repeat constructor)) (hS.sep (X := .blk b51 (ps2.flatMap encP) 63) (Y := ledA x14 s1 true) (by repeat (first | exact Rem.head | apply Rem.tail)) (by repeat constructor) b51 rfl)) (fun x => (by repeat constructor)) rfl ?_); clear hS a; (try clear w); intro x52 a w hS
     obtain ⟨s2, hp2⟩ := x52
     simp only at hS
     refine L_op (s_e hS (e_move rfl) rfl ?_); clear hS a; intro a hS
     refine L_op (s_e hS (e_extract rfl rfl) rfl ?_); clear hS a; intro a hS
     refine L_op (s_e hS (e_extract rfl rfl) rfl ?_); clear hS a; intro a hS
     refine L_op (s_e hS (e_assign rfl) rfl ?_); clear hS a; intro a hS
     refine L_op (s_e hS (e_assign rfl) rfl ?_); clear hS a; intro a hS
     refine L_nil ?_
     refine n_then ?_
     refine c_seq ?_
     refine c_region ?_
     refine L_op (s_e hS (e_move rfl) rfl ?_); clear hS a; intro a hS
     refine L_op (s_e hS (e_build ty_z63 ty_pl63 (.one rfl rfl rfl (by repeat constructor) (.one rfl rfl rfl (by repeat constructor) (.one rfl rfl rfl (by repeat constructor) .nil)))) rfl ?_); clear hS a; intro a hS
     refine L_op (s_e hS (e_build ty_z63 ty_pl63 (.one rfl rfl rfl (by repeat constructor) (.one rfl rfl rfl (by repeat constructor) (.one rfl rfl rfl (by repeat constructor) .nil)))) rfl ?_); clear hS a; intro a hS
     refine L_op (s_bslice hS ty_sl56 ty_sz63 ty_z63 rfl rfl rfl rfl (.agg rfl rfl (.agg rfl rfl .nil)) rfl ?_); clear hS a; (try clear w); intro a w b59 hS
     refine L_op (s_callM hS (.cons rfl (.cons rfl (.cons rfl (.cons rfl .nil)))) cf32 rfl (post_row (B := x14) (s := s2) (P := PA) (P' := PC) (ps := ps3) hp2 p_c i_c c_c (by intro e he; revert e; decide +kernel) (by decide) (fits_small (by decide +kernel)) (by decide) _ (hS.get (X := ledA x14 s2 true) (by repeat constructor)) (hS.get (X := .blk b59 (ps3.flatMap encP) 63) (by repeat constructor)) (hS.sep (X := .blk b59 (ps3.flatMap encP) 63) (Y := ledA x14 s2 true) (by repeat (first | exact Rem.head | apply Rem.tail)) (by repeat constructor) b59 rfl)) (fun x => (by repeat constructor)) rfl ?_); clear hS a; (try clear w); intro x60 a w hS
     obtain ⟨s3, hp3⟩ := x60
     simp only at hS
     refine L_op (s_e hS (e_move rfl) rfl ?_); clear hS a; intro a hS
     refine L_op (s_e hS (e_extract rfl rfl) rfl ?_); clear hS a; intro a hS
     refine L_op (s_e hS (e_extract rfl rfl) rfl ?_); clear hS a; intro a hS
     refine L_op (s_e hS (e_assign rfl) rfl ?_); clear hS a; intro a hS
     refine L_op (s_e hS (e_assign rfl) rfl ?_); clear hS a; intro a hS
     refine L_nil ?_
     refine n_then ?_
     refine c_seq ?_
     refine c_region ?_
     refine L_op (s_e hS (e_move rfl) rfl ?_); clear hS a; intro a hS
     refine L_op (s_callP hS (.cons rfl (.cons rfl (.cons rfl .nil))) cf29 rfl (lBal_P x14 s3 aTill.code 7 (by rw [hp3]; exact ⟨fun x hx p hp => by
 have h1 : x = ⟨1, 5, ⟨#[97]⟩, ps1⟩ ∨ x = ⟨2, 7, ⟨#[99]⟩, ps3⟩ := by simpa [PC] using hx
 rcases h1 with rfl | rfl
 · exact fits_small (ps := ps1) (by decide +kernel) p hp
 · exact fits_small (ps := ps3) (by decide +kernel) p hp, by decide, fun x hx => by
 have h1 : x = ⟨1, 5, ⟨#[97]⟩, ps1⟩ ∨ x = ⟨2, 7, ⟨#[99]⟩, ps3⟩ := by simpa [PC] using hx
 rcases h1 with rfl | rfl <;> decide⟩) _ (hS.get (X := ledA x14 s3 true) (by repeat constructor))) ?_); clear hS a; (try clear w); intro a w hS
     rw [hp3, b_till] at hS
     refine L_op (s_e hS (e_move rfl) rfl ?_); clear hS a; intro a hS
     refine L_op (s_e hS (e_extract rfl rfl) rfl ?_); clear hS a; intro a hS
     refine L_op (s_e hS (e_extract rfl rfl) rfl ?_); clear hS a; intro a hS
     refine L_op (s_alloc hS ty_z60 rfl ?_); clear hS a; (try clear w); intro a w b11 hS
     refine L_op (s_storeA hS rfl rfl ty_sz60 (by repeat constructor) (by rfl) (by rfl) (by rfl) ?_); clear hS; (try clear w); intro w hS
     refine L_op (s_e hS (e_assign rfl) rfl ?_); clear hS a; intro a hS
     refine L_nil ?_
     refine n_then ?_
     refine c_seq ?_
     refine c_region ?_
     refine L_op (s_e hS (e_move rfl) rfl ?_); clear hS a; intro a hS
     refine L_op (s_e hS (e_bin rfl rfl rfl) rfl ?_); clear hS a; intro a hS
     refine L_op (s_e hS (e_move rfl) rfl ?_); clear hS a; intro a hS
     replace hS := hS.is (t := 70) (c := true) rfl (rfl)
     refine L_go hS rfl rfl (s_e hS (e_move rfl) rfl ?_); clear hS a; intro a hS
     refine L_go hS rfl rfl (s_callP hS (.cons rfl .nil) cf16 rfl (Num_w _ _) ?_); clear hS a; (try clear w); intro a w hS
     refine L_go hS rfl rfl (s_e hS (e_bin rfl rfl rfl) rfl ?_); clear hS a; intro a hS
     first | (refine L_op (s_e hS (e_pick_t rfl rfl) rfl ?_); clear hS a; intro a hS) | (refine L_op (s_e hS (e_pick_f rfl rfl) rfl ?_); clear hS a; intro a hS)
     refine L_op (s_e hS (e_move rfl) rfl ?_); clear hS a; intro a hS
     replace hS := hS.is (t := 75) (c := true) rfl (rfl)
     refine L_go hS rfl rfl (s_e hS (e_move rfl) rfl ?_); clear hS a; intro a hS
     refine L_go hS rfl rfl (s_callP hS (.cons rfl .nil) cf16 rfl (Num_w _ _) ?_); clear hS a; (try clear w); intro a w hS
     refine L_go hS rfl rfl (s_e hS (e_bin rfl rfl rfl) rfl ?_); clear hS a; intro a hS
     first | (refine L_op (s_e hS (e_pick_t rfl rfl) rfl ?_); clear hS a; intro a hS) | (refine L_op (s_e hS (e_pick_f rfl rfl) rfl ?_); clear hS a; intro a hS)
     refine L_op (s_e hS (e_move rfl) rfl ?_); clear hS a; intro a hS
     replace hS := hS.is (t := 80) (c := true) rfl (rfl)
     refine L_go hS rfl rfl (s_e hS (e_move rfl) rfl ?_); clear hS a; intro a hS
     refine L_go hS rfl rfl (s_e hS (e_bin rfl rfl rfl) rfl ?_); clear hS a; intro a hS
     first | (refine L_op (s_e hS (e_pick_t rfl rfl) rfl ?_); clear hS a; intro a hS) | (refine L_op (s_e hS (e_pick_f rfl rfl) rfl ?_); clear hS a; intro a hS)
     refine L_op (s_e hS (e_move rfl) rfl ?_); clear hS a; intro a hS
     replace hS := hS.is (t := 84) (c := true) rfl (rfl)
     refine L_go hS rfl rfl (s_e hS (e_move rfl) rfl ?_); clear hS a; intro a hS
     refine L_go hS rfl rfl (s_callP hS (.cons rfl .nil) cf16 rfl (Num_w _ _) ?_); clear hS a; (try clear w); intro a w hS
     refine L_go hS rfl rfl (s_e hS (e_bin rfl rfl rfl) rfl ?_); clear hS a; intro a hS
     first | (refine L_op (s_e hS (e_pick_t rfl rfl) rfl ?_); clear hS a; intro a hS) | (refine L_op (s_e hS (e_pick_f rfl rfl) rfl ?_); clear hS a; intro a hS)
     refine L_op (s_e hS (e_move rfl) rfl ?_); clear hS a; intro a hS
     replace hS := hS.is (t := 89) (c := true) rfl (rfl)
     first | (refine L_go hS rfl rfl (s_e hS (e_fa0 rfl ty_fo60_1) rfl ?_); clear hS a; intro a hS) | (refine L_go hS rfl rfl (s_e hS (e_faK rfl ty_fo60_1) rfl ?_); clear hS a; intro a hS)
     refine L_go hS rfl rfl (s_e hS (e_load rfl (by repeat constructor) ty_sc3 (by rfl)) rfl ?_); clear hS a; intro a hS
     refine L_go hS rfl rfl (s_e hS (e_bin rfl rfl rfl) rfl ?_); clear hS a; intro a hS
     first | (refine L_op (s_e hS (e_pick_t rfl rfl) rfl ?_); clear hS a; intro a hS) | (refine L_op (s_e hS (e_pick_f rfl rfl) rfl ?_); clear hS a; intro a hS)
     refine L_op (s_e hS (e_move rfl) rfl ?_); clear hS a; intro a hS
     replace hS := hS.is (t := 94) (c := true) rfl (rfl)
     first | (refine L_go hS rfl rfl (s_e hS (e_fa0 rfl ty_fo60_2) rfl ?_); clear hS a; intro a hS) | (refine L_go hS rfl rfl (s_e hS (e_faK rfl ty_fo60_2) rfl ?_); clear hS a; intro a hS)
     refine L_go hS rfl rfl (s_e hS (e_load rfl (by repeat constructor) ty_sc3 (by rfl)) rfl ?_); clear hS a; intro a hS
     refine L_go hS rfl rfl (s_e hS (e_bin rfl rfl rfl) rfl ?_); clear hS a; intro a hS
     first | (refine L_op (s_e hS (e_pick_t rfl rfl) rfl ?_); clear hS a; intro a hS) | (refine L_op (s_e hS (e_pick_f rfl rfl) rfl ?_); clear hS a; intro a hS)
     refine L_op (s_e hS (e_move rfl) rfl ?_); clear hS a; intro a hS
     replace hS := hS.is (t := 99) (c := true) rfl (rfl)
     refine L_go hS rfl rfl (s_e hS (e_move rfl) rfl ?_); clear hS a; intro a hS
     refine L_go hS rfl rfl (s_callP hS (.cons rfl .nil) cf16 rfl (Num_w _ _) ?_); clear hS a; (try clear w); intro a w hS
     refine L_go hS rfl rfl (s_e hS (e_bin rfl rfl rfl) rfl ?_); clear hS a; intro a hS
     first | (refine L_op (s_e hS (e_pick_t rfl rfl) rfl ?_); clear hS a; intro a hS) | (refine L_op (s_e hS (e_pick_f rfl rfl) rfl ?_); clear hS a; intro a hS)
     refine L_op (s_e hS (e_move rfl) rfl ?_); clear hS a; intro a hS
     replace hS := hS.is (t := 104) (c := true) rfl (rfl)
     refine L_go hS rfl rfl (s_e hS (e_move rfl) rfl ?_); clear hS a; intro a hS
     refine L_go hS rfl rfl (s_callP hS (.cons rfl .nil) cf43 rfl (lClosed_P x14 s3 _ (hS.get (X := ledA x14 s3 true) (by repeat constructor))) ?_); clear hS a; (try clear w); intro a w hS
     rw [show s3.closed = -1 from congrArg PL.closed hp3] at hS
     refine L_go hS rfl rfl (s_e hS (e_bin rfl rfl rfl) rfl ?_); clear hS a; intro a hS
     first | (refine L_op (s_e hS (e_pick_t rfl rfl) rfl ?_); clear hS a; intro a hS) | (refine L_op (s_e hS (e_pick_f rfl rfl) rfl ?_); clear hS a; intro a hS)
     refine L_op (s_e hS (e_assign rfl) rfl ?_); clear hS a; intro a hS
     refine L_nil ?_
     refine n_then ?_
     refine wp_ret ?_
     refine c_ret1 hS Try.results25 (.tmp rfl) ?_
     exact ⟨rfl, hS.chg⟩
end Go.Proofs.Ytheofhegdjjfgaa

namespace Go.Proofs.Ytheofhegdjjfgaa
open Go.RowKit

/-! ### two equal balances -/
set_option maxRecDepth 100000 in
theorem eq_bal (b : BL) (w : World) : (Op.equalIn (9999 + 1) 60 (.agg (encBl b).toArray) (.agg (encBl b).toArray)).run Try.prog w = .ok true w := by
  have hk : Try.prog.plainKey 3 = true := by kernel_rfl
  have hs : Try.prog.plainKey 9 = true := by kernel_rfl
  have p0 : ∀ w, (part 9 #[.string b.1, .int .i64 b.2.1, .int .i64 b.2.2] 0).run Try.prog w = .ok (.string b.1) w := fun w => run_part_plain w hs rfl
  have p1 : ∀ w, (part 3 #[.string b.1, .int .i64 b.2.1, .int .i64 b.2.2] 1).run Try.prog w = .ok (.int .i64 b.2.1) w := fun w => run_part_plain w hk rfl
  have p2 : ∀ w, (part 3 #[.string b.1, .int .i64 b.2.1, .int .i64 b.2.2] 2).run Try.prog w = .ok (.int .i64 b.2.2) w := fun w => run_part_plain w hk rfl
  have q : ∀ a c w, (Op.equalIn 9999 3 (.int .i64 a) (.int .i64 c)).run Try.prog w = .ok (a == c) w := fun a c w => run_equalIn_int w 9998 3 .i64 .i64 a c Try.underlying3
  have qs : ∀ a c w, (Op.equalIn 9999 9 (.string a) (.string c)).run Try.prog w = .ok (a.toList == c.toList) w := fun a c w => run_equalIn_string w 9998 9 a c Try.underlying9
  unfold encBl
  rw [run_equalIn_agg w 9999 60 _ _ (by kernel_rfl) (by kernel_rfl)]
  have hf : (Try.prog.fieldsOf 60) = #[⟨ "Account", 9, 0, false, "", "", 0⟩, ⟨ "Units", 3, 1, false, "", "", 16⟩, ⟨ "Func", 3, 2, false, "", "", 24⟩] := by kernel_rfl
  rw [hf]
  simp only [Op.eqFields, Sem.run_bind, p0, p1, p2, q, qs, Result.andThen_ok, Sem.run_ite, Sem.run_pure]
  simp
section
variable {n : Nat} {F0 : Nat → Prop} {w0 w : World} {a : Act} {L : List (Nat × Value)} {Γ : List Asn} {dst : Option Nat} {ty t' : Nat} {pos : String} {af : Array Edge} {g : Option (Nat × Bool)} {x y : Operand}
theorem guard_bal : Try.prog.eqGuardType Try.prog.depth 60 = false := by kernel_rfl
theorem e_neBal {b : BL} (hx : ev L x = some (.agg (encBl b).toArray)) (hy : ev L y = some (.agg (encBl b).toArray)) : Ex Try.prog n a L Γ ⟨dst, .binOp .neq 60 x y t', ty, pos, af, g⟩ (.bool false) := fun hs w _ => by
  have h := run_neq_struct (P := Try.prog) w 60 (encBl b).toArray (encBl b).toArray
  rw [eq_bal] at h
  simp [execOp, hs.ev hx, hs.ev hy, run_eqGuard_agg w .neq 60 x y _ _ guard_bal, h, Result.andThen]
end

/-! ### postings turned over -/
def turnP (p : Pst) : Pst := ⟨p.acc, -p.u, -p.f⟩
def balD (c : ByteArray) (ps : List Pst) : SM := ps.foldl (balStep c) (0, 0)
theorem bal_from (c : ByteArray) : ∀ (ps : List Pst) (g : SM), ps.foldl (balStep c) g = (g.1 + (balD c ps).1, g.2 + (balD c ps).2)
  | [], g => by simp [balD]
  | p :: r, g => by
    have h1 := bal_from c r (balStep c g p)
    have h2 := bal_from c r (balStep c (0, 0) p)
    unfold balD at h1 h2 ⊢
    rw [List.foldl_cons, List.foldl_cons, h1, h2]
    unfold balStep addS
    split <;> (refine Prod.ext ?_ ?_ <;> simp only <;> omega)
theorem balD_cons (c : ByteArray) (p : Pst) (r : List Pst) : balD c (p :: r) = ((balStep c (0, 0) p).1 + (balD c r).1, (balStep c (0, 0) p).2 + (balD c r).2) := by
  show r.foldl (balStep c) (balStep c (0, 0) p) = _
  rw [bal_from]
theorem balD_append (c : ByteArray) (l r : List Pst) : balD c (l ++ r) = ((balD c l).1 + (balD c r).1, (balD c l).2 + (balD c r).2) := by
  unfold balD
  rw [List.foldl_append, bal_from]
  rfl
theorem balD_turn (c : ByteArray) : ∀ ps : List Pst, balD c (ps.map turnP) = (-(balD c ps).1, -(balD c ps).2)
  | [] => rfl
  | p :: r => by
    rw [List.map_cons, balD_cons, balD_cons, balD_turn c r]
    unfold balStep addS turnP
    by_cases e : p.acc = c
    · simp only [if_pos e]; refine Prod.ext ?_ ?_ <;> simp only <;> omega
    · simp only [if_neg e]; refine Prod.ext ?_ ?_ <;> simp only <;> omega
/-- where no account stands twice. -/
theorem balD_none (c : ByteArray) : ∀ ps : List Pst, (∀ p ∈ ps, p.acc ≠ c) → balD c ps = (0, 0)
  | [], _ => rfl
  | p :: r, h => by
    rw [balD_cons, balD_none c r (fun q hq => h q (.tail _ hq))]
    unfold balStep
    rw [if_neg (h p (.head _))]; rfl
theorem balD_one : ∀ ps : List Pst, (ps.Pairwise fun p q => p.acc ≠ q.acc) → ∀ p ∈ ps, balD p.acc ps = (p.u, p.f)
  | x :: r, hp, p, hm => by
    have hp2 := List.pairwise_cons.1 hp
    rw [balD_cons]
    rcases List.mem_cons.1 hm with rfl | hm
    · rw [balD_none p.acc r (fun q hq e => hp2.1 q hq e.symm)]
      unfold balStep addS
      rw [if_pos rfl]; refine Prod.ext ?_ ?_ <;> simp only <;> omega
    · rw [balD_one r hp2.2 p hm]
      unfold balStep
      rw [if_neg (hp2.1 p hm)]; refine Prod.ext ?_ ?_ <;> simp only <;> omega
theorem curSum_turn (acs : List Acc) (c : ByteArray) : ∀ ps : List Pst, curSum acs c (ps.map turnP) = -curSum acs c ps
  | [] => by simp [curSum]
  | p :: r => by
    rw [List.map_cons, curSum_cons, curSum_cons, curSum_turn acs c r]
    show (if curOf acs p.acc = c then -p.u else 0) + _ = _
    split <;> omega
theorem sumFn_cons (p : Pst) (r : List Pst) : sumFn (p :: r) = p.f + sumFn r := by
  have h : ∀ (l : List Pst) (g : Int), l.foldl (fun a p => a + p.f) g = g + l.foldl (fun a p => a + p.f) 0 := by
    intro l
    induction l with
    | nil => intro g; simp
    | cons q s ih => intro g; rw [List.foldl_cons, List.foldl_cons, ih, ih (0 + q.f)]; omega
  unfold sumFn
  rw [List.foldl_cons, h]; omega
theorem sumFn_turn : ∀ ps : List Pst, sumFn (ps.map turnP) = -sumFn ps
  | [] => by simp [sumFn]
  | p :: r => by
    rw [List.map_cons, sumFn_cons, sumFn_cons, sumFn_turn r]
    show -p.f + _ = _
    omega
theorem inU_neg {n : Int} (h : inU n) : inU (-n) := by unfold inU at *; omega
/-- what was posted may be posted turned over. -/
theorem turn_ok {P : PL} {n : Nat} (h : wfP P n) (hn : n ≤ 1000) {at_ : Int} {memo : ByteArray} {ps : List Pst} (hE : checkE P at_ memo ps = 0) : checkE (postP P at_ memo ps) at_ memo (ps.map turnP) = 0 := by
  have hc := (check_iff P at_ memo ps).1 hE
  obtain ⟨g1, g2⟩ := postE_zero ps [] hc.post
  have he := (even_iff P.acs ps).1 hc.even
  have hle := h.le
  rw [show postP P at_ memo ps = _ from if_pos hE]
  refine (check_iff _ _ _ _).2 ⟨hc.inst, hc.open_, hc.memo, by rw [List.length_map]; exact hc.few, ?_, ?_, ?_, fun x hx => ?_⟩
  · simp; omega
  · refine postE_of _ _ (fun p hp => ?_) ?_
    · obtain ⟨q, hq, rfl⟩ := List.mem_map.1 hp
      obtain ⟨a1, a2, a3, a4⟩ := g1 q hq
      exact ⟨a1, a2, inU_neg a3, inU_neg a4⟩
    · rw [List.pairwise_map]; exact g2
  · refine (even_iff _ _).2 ⟨fun c => ?_, ?_⟩
    · rw [curSum_turn, he.1 c]; rfl
    · rw [sumFn_turn, he.2]; rfl
  · obtain ⟨q, hq, rfl⟩ := List.mem_map.1 hx
    have h1 := tri_sum q.acc ps P.tot
    rw [bal_from, balD_one ps g2 q hq] at h1
    show okS (addS (totOf (totS P.tot ps) q.acc) (turnP q))
    rw [totS_tri, h1]
    have h2 := balT_of h.bal q.acc
    have e : addS ((totOf P.tot q.acc).1 + q.u, (totOf P.tot q.acc).2 + q.f) (turnP q) = totOf P.tot q.acc := by
      unfold addS turnP; refine Prod.ext ?_ ?_ <;> simp only <;> omega
    rw [e]; exact h2
theorem triT_of (P : PL) (at_ : Int) (c : ByteArray) : totOf (triT P at_) c = if inst at_ then balD c (postsAt P.es at_) else (0, 0) := by
  unfold triT
  split
  · rw [tri_sum]; rfl
  · rfl
theorem postsAt_snoc (es : List Ent) (x : Ent) (at_ : Int) : postsAt (es ++ [x]) at_ = postsAt es at_ ++ if x.at_ ≤ at_ then x.ps else [] := by
  have h := upTo_take (es := es ++ [x]) (at_ := at_) (i := es.length) (x := x) (by simp)
  rw [List.take_of_length_le (by simp), List.take_left'] at h
  · exact h
  · rfl
theorem trial_same {P P' : PL} {at_ : Int} (ha : P'.acs = P.acs) (hb : ∀ c, balD c (postsAt P'.es at_) = balD c (postsAt P.es at_)) : trialF P' at_ = trialF P at_ := by
  unfold trialF
  rw [ha]
  refine List.map_congr_left fun a _ => ?_
  unfold triB
  rw [triT_of, triT_of, hb]
/-- an entry and the same turned over change no balance. -/
theorem trial_turn {P : PL} {at_ t : Int} {memo : ByteArray} {ps : List Pst} (hE : checkE P at_ memo ps = 0) (hE2 : checkE (postP P at_ memo ps) at_ memo (ps.map turnP) = 0) : trialF (postP (postP P at_ memo ps) at_ memo (ps.map turnP)) t = trialF P t := by
  have e1 : postP P at_ memo ps = { P with es := P.es ++ [⟨(P.es.length : Int) + 1, at_, memo, ps⟩], tot := totS P.tot ps } := if_pos hE
  have e2 : ∀ Q : PL, checkE Q at_ memo (ps.map turnP) = 0 → postP Q at_ memo (ps.map turnP) = { Q with es := Q.es ++ [⟨(Q.es.length : Int) + 1, at_, memo, ps.map turnP⟩], tot := totS Q.tot (ps.map turnP) } := fun Q h => if_pos h
  rw [e2 _ hE2, e1]
  refine trial_same rfl (fun c => ?_)
  simp only
  rw [postsAt_snoc, postsAt_snoc, balD_append, balD_append]
  simp only
  by_cases e : at_ ≤ t
  · rw [if_pos e, if_pos e, balD_turn]; refine Prod.ext ?_ ?_ <;> simp only <;> omega
  · rw [if_neg e, if_neg e]; refine Prod.ext ?_ ?_ <;> simp [balD]
theorem turn_fits {ps : List Pst} (h : ∀ p ∈ ps, p.fits) (hu : ∀ p ∈ ps, inU p.u ∧ inU p.f) : ∀ p ∈ ps.map turnP, p.fits := fun p hp => by
  obtain ⟨q, hq, rfl⟩ := List.mem_map.1 hp
  have h1 := h q hq
  have h2 := hu q hq
  unfold inU at h2
  exact ⟨h1.acc, by show -9223372036854775808 ≤ -q.u ∧ -q.u ≤ _; omega, by show -9223372036854775808 ≤ -q.f ∧ -q.f ≤ _; omega⟩
end Go.Proofs.Ytheofhegdjjfgaa

namespace Go.Proofs.Ytheofhegdjjfgaa
open Go.RowKit

/-! ### arguments: operations, and postings -/
def inL (p : Option (Nat × Nat)) (l : List LO) (q : Option (Nat × Nat)) (ps : List Pst) : Asn := .any (fun k => losF p l k ∨ ∃ off, q = some (k, off)) (fun w => losφ p l w ∧ RowP q 3 (ps.map encP) w) false
theorem inL_ok {p q : Option (Nat × Nat)} {l : List LO} {ps : List Pst} {w : World} (h : losφ p l w) (hb : ∀ r, p = some r → r.1 < w.heap.size) (hr : RowP q 3 (ps.map encP) w) (hq : ∀ r, q = some r → r.1 < w.heap.size) : (inL p l q ps).ok w := by
  have h1 := los_ok h hb
  have h2 := ok_rowP hr hq
  exact ⟨fun k hk => hk.elim (h1.lt k) (h2.lt k), fun w' hw => ⟨h1.hold w' (fun k hk => hw k (.inl hk)), h2.hold w' (fun k hk => hw k (.inr hk))⟩⟩
theorem inL_get {Γ : List Asn} {p : Option (Nat × Nat)} {l : List LO} {b off : Nat} {ps : List Pst} (hm : inL p l (some (b, off)) ps ∈ Γ) {i : Nat} {x : Pst} (hx : ps[i]? = some x) : ∀ w, Hd Γ w → ∀ j v, (encP x)[j]? = some v → w.cell? ⟨b, off + i * 3 + j, none⟩ = some v :=
  fun _ hh j v hj => (hh _ hm).2 i (encP x) (by simp [hx]) j v hj
theorem psAt_row {q : Option (Nat × Nat)} {c : Nat} {ps : List Pst} {w : World} (h : RowP q 3 (ps.map encP) w) (hb : ∀ r, q = some r → r.1 < w.heap.size) : PsAt (sliceV q ps.length c) ps w := by
  by_cases e : ps = []
  · subst e; exact .inl ⟨rfl, _, _, rfl⟩
  · cases q with
    | none => exact absurd (List.map_eq_nil_iff.1 h) e
    | some r => exact .inr ⟨r.1, r.2, c, e, rfl, h, hb _ rfl⟩
theorem psAt_own {v : Value} {E : Nat} {ps : List Pst} {w : World} (h : w.ownsRow 0 E 3 v ps.length (ps.flatMap encP)) : PsAt v ps w := by
  by_cases e : ps = []
  · subst e
    obtain ⟨a, c, hv⟩ := own_slice h
    exact .inl ⟨rfl, a, c, hv⟩
  · rcases h.2 with ⟨_, e2⟩ | ⟨g, cap, cur, rfl, h1, h2, h3⟩
    · exact absurd (List.length_eq_zero_iff.1 e2) e
    · exact .inr ⟨g, 0, cap, e, rfl, row_of_own (enc := encP) (s := 3) (fun _ => rfl) h, (World.ownsRow.lt h g rfl).2⟩
theorem own_at {w : World} {E s m c : Nat} {q : Option Addr} {xs : List Value} (h : w.ownsRow 0 E s (.slice q m c) m xs) (hm : m ≠ 0) : ∃ g, q = some ⟨g, 0, none⟩ := by
  rcases h.2 with ⟨_, e2⟩ | ⟨g, cap, cur, e1, _⟩
  · exact absurd e2 hm
  · injection e1 with e3; exact ⟨g, e3⟩
/-- what Few is asked of the entry. -/
def xT (memo : ByteArray) (ps : List Pst) (v : Value) : LO := ⟨0, 0, noAcc, memo, ps, v⟩
theorem xT_fits {memo : ByteArray} {ps : List Pst} {v : Value} (hm : memo.size ≤ 4611686018427387904) (hl : ps.length ≤ 4611686018427387904) (hf : ∀ y ∈ ps, y.fits) : ∀ x ∈ [xT memo ps v], x.fits := fun x hx => by
  obtain rfl := List.mem_singleton.1 hx
  exact ⟨by simp [xT], (show (ByteArray.mk #[]).size ≤ 4611686018427387904 from by decide), (show (ByteArray.mk #[]).size ≤ 4611686018427387904 from by decide), hm, hf, hl⟩
theorem one_los {b E : Nat} {x : LO} {w : World} (h : w.heap[b]? = some (.cells (encLO x).toArray E (0, 0))) (hp : PsAt x.pv x.ps w) : losφ (some (b, 0)) [x] w := by
  refine ⟨fun i y hy j v hj => ?_, fun y hy => by obtain rfl := List.mem_singleton.1 hy; exact hp⟩
  match i, hy with
  | 0, hy => cases hy; exact cell_of_blk (cs := encLO x) (E := E) h (by simpa using hj)
  | (k + 1), hy => cases hy

set_option maxHeartbeats 1000000 in
set_option maxRecDepth 100000 in
theorem LedgerTurned_P (p : Option (Nat × Nat)) (c : Nat) (l : List LO) (hlen : l.length ≤ 4611686018427387904) (hfit : ∀ x ∈ l, x.fits) (at_ : Int) (memo : ByteArray) (hmemo : memo.size ≤ 4611686018427387904) (q : Option (Nat × Nat)) (cq : Nat) (ps : List Pst) (hpl : ps.length ≤ 4611686018427387904) (hpf : ∀ x ∈ ps, x.fits)
    (w0 : World) (h : losφ p l w0) (hb : ∀ r, p = some r → r.1 < w0.heap.size) (hr : RowP q 3 (ps.map encP) w0) (hq : ∀ r, q = some r → r.1 < w0.heap.size) :
    PureC Try.prog 9 [sliceV p l.length c, .int .i64 at_, .string memo, sliceV q ps.length cq] w0 (.bool true) := by
  refine c_enter [(0, sliceV p l.length c), (1, .int .i64 at_), (2, .string memo), (3, sliceV q ps.length cq)] [inL p l q ps] noB Try.func9 rfl Try.ntmps9 ⟨rfl, rfl, rfl, rfl, trivial⟩ rfl (okC (inL_ok h hb hr hq) okN) dis1 (mineC (by rfl) mineN) ?_
  intro a hS
  refine c_seq ?_
  refine c_region ?_
  refine L_op (s_e hS (e_assign rfl) rfl ?_); clear hS a; intro a hS
  refine L_nil ?_
  refine n_then ?_
  refine c_seq ?_
  refine c_region ?_
  refine L_op (s_callP hS .nil cf25 rfl (lfirst_P _) ?_); clear hS a; (try clear w); intro a w hS
  refine L_op (s_e hS (e_assign rfl) rfl ?_); clear hS a; intro a hS
  refine L_nil ?_
  refine n_then ?_
  refine c_seq ?_
  refine c_region ?_
  refine L_op (s_e hS (e_move rfl) rfl ?_); clear hS a; intro a hS
  refine L_op (s_callP hS (.cons rfl .nil) cf26 rfl (lFew_P p c l hlen hfit _ (hS.get (X := inL p l q ps) (by repeat constructor)).1 (fun r hr => (hS.ok (inL p l q ps) (by repeat constructor)).lt r.1 (.inl (.inl ⟨r.2, hr⟩)))) ?_); clear hS a; (try clear w); intro a w hS
  refine L_op (s_e hS (e_move rfl) rfl ?_); clear hS a; intro a hS
  refine L_merge 6 31 (.bool (decide (fewLs l ∧ fewLs [xT memo ps (sliceV q ps.length cq)]))) hS ?_ ?_
  · intro hcM31
    (first | refine g_splitD (t := 25) hS rfl ?_ ?_ | refine g_split (t := 25) hS rfl ?_ ?_) <;> (clear hS; intro hg25 hS)
    ·
      refine L_go hS rfl rfl (s_e hS (e_move rfl) rfl ?_); clear hS a; intro a hS
      refine L_go hS rfl rfl (s_e hS (e_move rfl) rfl ?_); clear hS a; intro a hS
      refine L_go hS rfl rfl (s_e hS (e_build ty_z72 ty_pl72 (.one rfl rfl rfl (by repeat constructor) (.one rfl rfl rfl (by repeat constructor) .nil))) rfl ?_); clear hS a; intro a hS
      refine L_go hS rfl rfl (s_bslice hS ty_sl50 ty_sz72 ty_z72 rfl rfl rfl rfl (.agg rfl rfl .nil) rfl ?_); clear hS a; (try clear w); intro a w b29 hS
      refine L_go hS rfl rfl (s_callP hS (.cons rfl .nil) cf26 rfl (lFew_P (some (b29, 0)) 1 [xT memo ps (sliceV q ps.length cq)] (by simp) (xT_fits hmemo hpl hpf) _ (one_los (x := xT memo ps (sliceV q ps.length cq)) (hS.get (X := .blk b29 (encLO (xT memo ps (sliceV q ps.length cq))) 72) (by repeat constructor)) (psAt_row (hS.get (X := inL p l q ps) (by repeat constructor)).2 (fun r hr => (hS.ok (inL p l q ps) (by repeat constructor)).lt r.1 (.inr ⟨r.2, hr⟩)))) (fun r hr => by cases hr; exact (hS.ok (.blk b29 (encLO (xT memo ps (sliceV q ps.length cq))) 72) (by repeat constructor)).lt b29 rfl)) ?_); clear hS a; (try clear w); intro a w hS
      replace hS := hS.drop (Γ' := [inL p l q ps]) (.cons _ (.refl _))
      first | (refine L_op (s_e hS (e_pick_t rfl rfl) rfl ?_); clear hS a; intro a hS) | (refine L_op (s_e hS (e_pick_f rfl rfl) rfl ?_); clear hS a; intro a hS)
      exact hcM31 _ _ (hS.ends 7 31 25 rfl (congrArg Value.bool (by exact (decide_eq_decide (p := fewLs [xT memo ps (sliceV q ps.length cq)]) (q := fewLs l ∧ fewLs [xT memo ps (sliceV q ps.length cq)])).2 ⟨fun e => ⟨hg25, e⟩, fun e => e.2⟩)) rfl rfl (by first | exact congrArg Value.bool (decide_eq_true hg25).symm | exact congrArg Value.bool hg25.symm | simp [hg25]) rfl)
    ·
      refine L_skip_t hS rfl rfl rfl ?_; clear hS a; intro a hS
      refine L_skip_t hS rfl rfl rfl ?_; clear hS a; intro a hS
      refine L_skip_t hS rfl rfl rfl ?_; clear hS a; intro a hS
      refine L_skip_t hS rfl rfl rfl ?_; clear hS a; intro a hS
      refine L_skip_t hS rfl rfl rfl ?_; clear hS a; intro a hS
      first | (refine L_op (s_e hS (e_pick_t rfl rfl) rfl ?_); clear hS a; intro a hS) | (refine L_op (s_e hS (e_pick_f rfl rfl) rfl ?_); clear hS a; intro a hS)
      exact hcM31 _ _ (hS.ends 7 31 25 rfl (congrArg Value.bool (by exact (decide_eq_false (fun e => hg25 e.1)).symm)) rfl rfl (by first | exact congrArg Value.bool (decide_eq_false hg25).symm | exact congrArg Value.bool hg25.symm | simp [hg25]) rfl)
  · clear hS a; (try clear w); intro a w hS
    simp only [List.drop_succ_cons, List.drop_zero]
    refine L_op (s_e hS (e_assign rfl) rfl ?_); clear hS a; intro a hS
    refine L_nil ?_
    refine n_then ?_
    refine c_seq ?_
    refine c_seq ?_
    refine c_region ?_
    refine L_op (s_e hS (e_move rfl) rfl ?_); clear hS a; intro a hS
    refine L_op (s_e hS (e_not rfl) rfl ?_); clear hS a; intro a hS
    refine L_op (s_e hS (e_move rfl) rfl ?_); clear hS a; intro a hS
    replace hS := hS.is (t := 34) (c := false) rfl (rfl)
    refine L_go hS rfl rfl (s_e hS (e_move rfl) rfl ?_); clear hS a; intro a hS
    refine L_go hS rfl rfl (s_e hS (e_not rfl) rfl ?_); clear hS a; intro a hS
    first | (refine L_op (s_e hS (e_pick_t rfl rfl) rfl ?_); clear hS a; intro a hS) | (refine L_op (s_e hS (e_pick_f rfl rfl) rfl ?_); clear hS a; intro a hS)
    refine L_nil ?_
    refine n_then ?_
    first | refine c_ifD hS rfl (fun hc37 => ?_) (fun hc37 => ?_) | refine c_if hS rfl (fun hc37 => ?_) (fun hc37 => ?_)
    ·
      refine c_seq ?_
      refine c_region ?_
      refine L_op (s_e hS (e_move rfl) rfl ?_); clear hS a; intro a hS
      refine L_op (s_e hS (e_assign rfl) rfl ?_); clear hS a; intro a hS
      refine L_nil ?_
      refine n_then ?_
      refine wp_ret ?_
      refine r_then ?_
      refine c_ret1 hS Try.results9 (.tmp rfl) ?_
      exact ⟨rfl, hS.chg⟩
    ·
      have hsm : fewLs l ∧ fewLs [xT memo ps (sliceV q ps.length cq)] := by simpa using hc37
      have hp60 : ps.length ≤ 60 := (hsm.2.2 _ (.head _)).2.2.2.1
      refine wp_skip ?_
      refine n_then ?_
      refine c_seq ?_
      refine c_region ?_
      refine L_op (s_e hS (e_move rfl) rfl ?_); clear hS a; intro a hS
      refine L_op (s_callN hS (.cons rfl .nil) cf27 rfl (lMade_P p c l hsm.1.1 hfit _ (hS.get (X := inL p l q ps) (by repeat constructor)).1 (fun r hr => (hS.ok (inL p l q ps) (by repeat constructor)).lt r.1 (.inl (.inl ⟨r.2, hr⟩)))) ?_); clear hS a; (try clear w); intro x40 a w hS
      obtain ⟨⟨B, s⟩, hpl0⟩ := x40
      simp only at hS hpl0
      have hwf := wf_made hfit l.length (Nat.le_refl _)
      rw [List.take_length, ← hpl0] at hwf
      have hll := hsm.1.1
      have hes : s.es.length ≤ 60 := by have h1 := hwf.le; simp [pl] at h1; omega
      have hel : (pl s).es.length = s.es.length := by simp [pl]
      have hal : s.acs.length ≤ 100 := by have h1 := hwf.la; simp [pl] at h1; omega
      refine L_op (s_e hS (e_assign rfl) rfl ?_); clear hS a; intro a hS
      refine L_nil ?_
      refine n_then ?_
      refine c_seq ?_
      refine c_seq ?_
      refine c_region ?_
      refine L_op (s_e hS (e_move rfl) rfl ?_); clear hS a; intro a hS
      refine L_op (s_e hS (e_nil rfl ty_u52) rfl ?_); clear hS a; intro a hS
      refine L_nil ?_
      refine n_then ?_
      replace hS := hS.is (t := 42) (c := false) rfl (rfl)
      refine c_if_f hS rfl ?_
      refine wp_skip ?_
      refine n_then ?_
      refine c_seq ?_
      refine c_region ?_
      refine L_op (s_e hS (e_assign rfl) rfl ?_); clear hS a; intro a hS
      refine L_nil ?_
      refine n_then ?_
      refine c_seq ?_
      refine c_seq ?_
      refine c_region ?_
      refine L_op (s_e hS (e_assign rfl) rfl ?_); clear hS a; intro a hS
      refine L_nil ?_
      refine n_then ?_
      refine wp_block ?_
      replace hS := hS.own_nil 63 3
      refine c_loop (γ := Nat × Value) (fun G a w => St 162 noB w0 a w [(13, .int .i64 (G.1 : Int)), (12, G.2), (11, .pointer (some ⟨B.lb, 0, none⟩)), (1, .int .i64 at_), (2, .string memo), (3, sliceV q ps.length cq)] [ownA 63 3 G.2 ((ps.take G.1).map turnP).length (((ps.take G.1).map turnP).flatMap encP), ledA B s true, inL p l q ps] ∧ G.1 ≤ ps.length ∧ ∀ j, j < G.1 → ∀ y, ps[j]? = some y → inU y.u ∧ inU y.f) (fun G => ps.length - G.1) (0, .slice none 0 0) ⟨(hS.slots (by repeat (first | exact trivial | refine ⟨rfl, ?_⟩))).pick (by repeat (first | exact Pick.nil | (refine Pick.cons (by repeat (first | exact Rem.head | apply Rem.tail)) ?_))), Nat.zero_le _, fun j hj => by omega⟩ ?_
      clear hS a; (try clear w); intro G a w hI
      obtain ⟨i, out⟩ := G
      obtain ⟨hS, hi, hall⟩ := hI
      simp only at hS hi hall
      refine c_seq ?_
      refine c_seq ?_
      refine c_region ?_
      refine L_op (s_e hS (e_move rfl) rfl ?_); clear hS a; intro a hS
      refine L_op (s_e hS (e_move rfl) rfl ?_); clear hS a; intro a hS
      refine L_op (s_e hS (e_len rfl rfl ty_sl56) rfl ?_); clear hS a; intro a hS
      refine L_op (s_e hS (e_bin rfl rfl rfl) rfl ?_); clear hS a; intro a hS
      refine L_nil ?_
      refine n_then ?_
      first | refine c_ifD hS rfl (fun hc46 => ?_) (fun hc46 => ?_) | refine c_if hS rfl (fun hc46 => ?_) (fun hc46 => ?_)
      ·
        have hik : i < ps.length := by omega
        obtain ⟨x, hx⟩ : ∃ x, ps[i]? = some x := ⟨ps[i], List.getElem?_eq_getElem hik⟩
        obtain ⟨b, off, rfl⟩ : ∃ b off, q = some (b, off) := rowP_some (hS.get (X := inL p l q ps) (by repeat constructor)).2 (i := i) (x := encP x) (by simp [hx])
        have htk : (ps.take (i + 1)).map turnP = (ps.take i).map turnP ++ [turnP x] := by rw [List.take_add_one, hx]; simp
        have hml : ((ps.take i).map turnP).length = i := by rw [List.length_map, List.length_take]; omega
        refine wp_skip ?_
        refine n_then ?_
        refine c_seq ?_
        refine wp_block ?_
        refine c_seq ?_
        refine c_seq ?_
        refine c_region ?_
        refine L_op (s_e hS (e_move rfl) rfl ?_); clear hS a; intro a hS
        refine L_op (s_e hS (e_move rfl) rfl ?_); clear hS a; intro a hS
        refine L_op (s_e hS (e_ixN rfl rfl ty_sl56 ty_sz63 (by omega)) rfl ?_); clear hS a; intro a hS
        first | (refine L_op (s_e hS (e_fa0 rfl ty_fo63_1) rfl ?_); clear hS a; intro a hS) | (refine L_op (s_e hS (e_faK rfl ty_fo63_1) rfl ?_); clear hS a; intro a hS)
        refine L_op (s_e hS (e_loadC rfl ty_sc3 (fun w hh => inL_get (by repeat constructor) hx w hh 1 (.int .i64 x.u) rfl)) rfl ?_); clear hS a; intro a hS
        refine L_op (s_callP hS (.cons rfl .nil) cf15 rfl (Within_P x.u _) ?_); clear hS a; (try clear w); intro a w hS
        refine L_op (s_e hS (e_not rfl) rfl ?_); clear hS a; intro a hS
        refine L_op (s_e hS (e_move rfl) rfl ?_); clear hS a; intro a hS
        refine L_merge 8 64 (.bool (decide (¬ inU x.u ∨ ¬ inU x.f))) hS ?_ ?_
        · intro hcM64
          (first | refine g_splitD (t := 56) hS rfl ?_ ?_ | refine g_split (t := 56) hS rfl ?_ ?_) <;> (clear hS; intro hg56 hS)
          ·
            refine L_skip_f hS rfl rfl rfl ?_; clear hS a; intro a hS
            refine L_skip_f hS rfl rfl rfl ?_; clear hS a; intro a hS
            refine L_skip_f hS rfl rfl rfl ?_; clear hS a; intro a hS
            refine L_skip_f hS rfl rfl rfl ?_; clear hS a; intro a hS
            refine L_skip_f hS rfl rfl rfl ?_; clear hS a; intro a hS
            refine L_skip_f hS rfl rfl rfl ?_; clear hS a; intro a hS
            refine L_skip_f hS rfl rfl rfl ?_; clear hS a; intro a hS
            first | (refine L_op (s_e hS (e_pick_t rfl rfl) rfl ?_); clear hS a; intro a hS) | (refine L_op (s_e hS (e_pick_f rfl rfl) rfl ?_); clear hS a; intro a hS)
            exact hcM64 _ _ (hS.ends 9 64 56 rfl (congrArg Value.bool (by exact (decide_eq_true (.inl (by simpa using hg56))).symm)) rfl rfl (by first | exact congrArg Value.bool (decide_eq_true hg56).symm | exact congrArg Value.bool hg56.symm | simp [hg56]) rfl)
          ·
            refine L_go hS rfl rfl (s_e hS (e_move rfl) rfl ?_); clear hS a; intro a hS
            refine L_go hS rfl rfl (s_e hS (e_move rfl) rfl ?_); clear hS a; intro a hS
            refine L_go hS rfl rfl (s_e hS (e_ixN rfl rfl ty_sl56 ty_sz63 (by omega)) rfl ?_); clear hS a; intro a hS
            first | (refine L_go hS rfl rfl (s_e hS (e_fa0 rfl ty_fo63_2) rfl ?_); clear hS a; intro a hS) | (refine L_go hS rfl rfl (s_e hS (e_faK rfl ty_fo63_2) rfl ?_); clear hS a; intro a hS)
            refine L_go hS rfl rfl (s_e hS (e_loadC rfl ty_sc3 (fun w hh => inL_get (by repeat constructor) hx w hh 2 (.int .i64 x.f) rfl)) rfl ?_); clear hS a; intro a hS
            refine L_go hS rfl rfl (s_callP hS (.cons rfl .nil) cf15 rfl (Within_P x.f _) ?_); clear hS a; (try clear w); intro a w hS
            refine L_go hS rfl rfl (s_e hS (e_not rfl) rfl ?_); clear hS a; intro a hS
            first | (refine L_op (s_e hS (e_pick_t rfl rfl) rfl ?_); clear hS a; intro a hS) | (refine L_op (s_e hS (e_pick_f rfl rfl) rfl ?_); clear hS a; intro a hS)
            exact hcM64 _ _ (hS.ends 9 64 56 rfl (congrArg Value.bool (by rw [← decide_not, decide_eq_decide]; exact ⟨.inr, fun e => e.resolve_left (by simpa using hg56)⟩)) rfl rfl (by first | exact congrArg Value.bool (decide_eq_false hg56).symm | exact congrArg Value.bool hg56.symm | simp [hg56]) rfl)
        · clear hS a; (try clear w); intro a w hS
          simp only [List.drop_succ_cons, List.drop_zero]
          refine L_nil ?_
          refine n_then ?_
          first | refine c_ifD hS rfl (fun hc64 => ?_) (fun hc64 => ?_) | refine c_if hS rfl (fun hc64 => ?_) (fun hc64 => ?_)
          ·
            refine c_seq ?_
            refine c_region ?_
            refine L_op (s_e hS (e_assign rfl) rfl ?_); clear hS a; intro a hS
            refine L_nil ?_
            refine n_then ?_
            refine wp_ret ?_
            refine r_then (r_block (r_then (r_then (r_block (r_then ?_)))))
            refine c_ret1 hS Try.results9 (.tmp rfl) ?_
            exact ⟨rfl, hS.chg⟩
          ·
            have hu : inU x.u ∧ inU x.f := ⟨Classical.byContradiction fun e => hc64 (.inl e), Classical.byContradiction fun e => hc64 (.inr e)⟩
            have hu1 := hu.1
            have hu2 := hu.2
            unfold inU at hu1 hu2
            refine wp_skip ?_
            refine n_then ?_
            refine c_drawS [20] (by kernel_rfl) hS (sub_cons (X := inL p l (some (b, off)) ps) (by repeat constructor) sub_nil) ?_; clear hS; (try clear w); intro w hS
            simp only [List.length_cons, List.length_nil, Nat.zero_add, Nat.reduceAdd, List.replicate]
            refine Z_take0 (i := 0) hS rfl want_none (e_move rfl) (listed' := [true, false, false, false, false, false, false, false, false, false, false, false, false, false, false, false, false, false, false, false, false, false]) rfl (by kernel_rfl) (by kernel_rfl) (by kernel_rfl) (fun _ _ _ h => h) rfl ?_; clear hS a; intro a hS
            refine Z_take0 (i := 1) hS rfl want_none (e_move rfl) (listed' := [true, true, false, false, false, false, false, false, false, false, false, false, false, false, false, false, false, false, false, false, false, false]) rfl (by kernel_rfl) (by kernel_rfl) (by kernel_rfl) (fun _ _ _ h => h) rfl ?_; clear hS a; intro a hS
            refine Z_take0 (i := 2) hS rfl want_none (e_move rfl) (listed' := [true, true, true, false, false, false, false, false, false, false, false, false, false, false, false, false, false, false, false, false, false, false]) rfl (by kernel_rfl) (by kernel_rfl) (by kernel_rfl) (fun _ _ _ h => h) rfl ?_; clear hS a; intro a hS
            refine Z_take0 (i := 3) hS rfl want_none (e_ixN rfl rfl ty_sl56 ty_sz63 (by omega)) (listed' := [true, true, true, true, false, false, false, false, false, false, false, false, false, false, false, false, false, false, false, false, false, false]) rfl (by kernel_rfl) (by kernel_rfl) (by kernel_rfl) (fun _ _ _ h => h) rfl ?_; clear hS a; intro a hS
            first | (refine Z_take0 (i := 4) hS rfl want_none (e_fa0 rfl ty_fo63_0) (listed' := [true, true, true, true, true, false, false, false, false, false, false, false, false, false, false, false, false, false, false, false, false, false]) rfl (by kernel_rfl) (by kernel_rfl) (by kernel_rfl) (fun _ _ _ h => h) rfl ?_; clear hS a; intro a hS) | (refine Z_take0 (i := 4) hS rfl want_none (e_faK rfl ty_fo63_0) (listed' := [true, true, true, true, true, false, false, false, false, false, false, false, false, false, false, false, false, false, false, false, false, false]) rfl (by kernel_rfl) (by kernel_rfl) (by kernel_rfl) (fun _ _ _ h => h) rfl ?_; clear hS a; intro a hS)
            refine Z_take (i := 5) hS rfl want_none (e_loadC rfl ty_sc9 (fun w hh => inL_get (by repeat constructor) hx w hh 0 (.string x.acc) rfl)) (listed' := [true, true, true, true, true, true, false, false, false, false, false, false, false, false, false, false, false, false, false, false, false, false]) rfl (by kernel_rfl) (by kernel_rfl) (by kernel_rfl) (by kernel_rfl) (by kernel_rfl) (sub_cons (by repeat constructor) sub_nil) (fun _ _ _ h => h) rfl ?_; clear hS a; intro a hS
            refine Z_take0 (i := 6) hS rfl want_none (e_move rfl) (listed' := [true, true, true, true, true, true, true, false, false, false, false, false, false, false, false, false, false, false, false, false, false, false]) rfl (by kernel_rfl) (by kernel_rfl) (by kernel_rfl) (fun _ _ _ h => h) rfl ?_; clear hS a; intro a hS
            refine Z_take0 (i := 7) hS rfl want_none (e_move rfl) (listed' := [true, true, true, true, true, true, true, true, false, false, false, false, false, false, false, false, false, false, false, false, false, false]) rfl (by kernel_rfl) (by kernel_rfl) (by kernel_rfl) (fun _ _ _ h => h) rfl ?_; clear hS a; intro a hS
            refine Z_take0 (i := 8) hS rfl want_none (e_ixN rfl rfl ty_sl56 ty_sz63 (by omega)) (listed' := [true, true, true, true, true, true, true, true, true, false, false, false, false, false, false, false, false, false, false, false, false, false]) rfl (by kernel_rfl) (by kernel_rfl) (by kernel_rfl) (fun _ _ _ h => h) rfl ?_; clear hS a; intro a hS
            first | (refine Z_take0 (i := 9) hS rfl want_none (e_fa0 rfl ty_fo63_1) (listed' := [true, true, true, true, true, true, true, true, true, true, false, false, false, false, false, false, false, false, false, false, false, false]) rfl (by kernel_rfl) (by kernel_rfl) (by kernel_rfl) (fun _ _ _ h => h) rfl ?_; clear hS a; intro a hS) | (refine Z_take0 (i := 9) hS rfl want_none (e_faK rfl ty_fo63_1) (listed' := [true, true, true, true, true, true, true, true, true, true, false, false, false, false, false, false, false, false, false, false, false, false]) rfl (by kernel_rfl) (by kernel_rfl) (by kernel_rfl) (fun _ _ _ h => h) rfl ?_; clear hS a; intro a hS)
            refine Z_take (i := 10) hS rfl want_none (e_loadC rfl ty_sc3 (fun w hh => inL_get (by repeat constructor) hx w hh 1 (.int .i64 x.u) rfl)) (listed' := [true, true, true, true, true, true, true, true, true, true, true, false, false, false, false, false, false, false, false, false, false, false]) rfl (by kernel_rfl) (by kernel_rfl) (by kernel_rfl) (by kernel_rfl) (by kernel_rfl) (sub_cons (by repeat constructor) sub_nil) (fun _ _ _ h => h) rfl ?_; clear hS a; intro a hS
            refine Z_take0 (i := 11) hS rfl want_none (e_neg rfl) (listed' := [true, true, true, true, true, true, true, true, true, true, true, true, false, false, false, false, false, false, false, false, false, false]) rfl (by kernel_rfl) (by kernel_rfl) (by kernel_rfl) (fun _ _ _ h => h) rfl ?_; clear hS a; intro a hS
            rw [show IntKind.i64.wrap (0 - x.u) = -x.u from by rw [IntWalk.i64_in _ (by omega)]; omega] at hS
            refine Z_take0 (i := 12) hS rfl want_none (e_move rfl) (listed' := [true, true, true, true, true, true, true, true, true, true, true, true, true, false, false, false, false, false, false, false, false, false]) rfl (by kernel_rfl) (by kernel_rfl) (by kernel_rfl) (fun _ _ _ h => h) rfl ?_; clear hS a; intro a hS
            refine Z_take0 (i := 13) hS rfl want_none (e_move rfl) (listed' := [true, true, true, true, true, true, true, true, true, true, true, true, true, true, false, false, false, false, false, false, false, false]) rfl (by kernel_rfl) (by kernel_rfl) (by kernel_rfl) (fun _ _ _ h => h) rfl ?_; clear hS a; intro a hS
            refine Z_take0 (i := 14) hS rfl want_none (e_ixN rfl rfl ty_sl56 ty_sz63 (by omega)) (listed' := [true, true, true, true, true, true, true, true, true, true, true, true, true, true, true, false, false, false, false, false, false, false]) rfl (by kernel_rfl) (by kernel_rfl) (by kernel_rfl) (fun _ _ _ h => h) rfl ?_; clear hS a; intro a hS
            first | (refine Z_take0 (i := 15) hS rfl want_none (e_fa0 rfl ty_fo63_2) (listed' := [true, true, true, true, true, true, true, true, true, true, true, true, true, true, true, true, false, false, false, false, false, false]) rfl (by kernel_rfl) (by kernel_rfl) (by kernel_rfl) (fun _ _ _ h => h) rfl ?_; clear hS a; intro a hS) | (refine Z_take0 (i := 15) hS rfl want_none (e_faK rfl ty_fo63_2) (listed' := [true, true, true, true, true, true, true, true, true, true, true, true, true, true, true, true, false, false, false, false, false, false]) rfl (by kernel_rfl) (by kernel_rfl) (by kernel_rfl) (fun _ _ _ h => h) rfl ?_; clear hS a; intro a hS)
            refine Z_take (i := 16) hS rfl want_none (e_loadC rfl ty_sc3 (fun w hh => inL_get (by repeat constructor) hx w hh 2 (.int .i64 x.f) rfl)) (listed' := [true, true, true, true, true, true, true, true, true, true, true, true, true, true, true, true, true, false, false, false, false, false]) rfl (by kernel_rfl) (by kernel_rfl) (by kernel_rfl) (by kernel_rfl) (by kernel_rfl) (sub_cons (by repeat constructor) sub_nil) (fun _ _ _ h => h) rfl ?_; clear hS a; intro a hS
            refine Z_take0 (i := 17) hS rfl want_none (e_neg rfl) (listed' := [true, true, true, true, true, true, true, true, true, true, true, true, true, true, true, true, true, true, false, false, false, false]) rfl (by kernel_rfl) (by kernel_rfl) (by kernel_rfl) (fun _ _ _ h => h) rfl ?_; clear hS a; intro a hS
            rw [show IntKind.i64.wrap (0 - x.f) = -x.f from by rw [IntWalk.i64_in _ (by omega)]; omega] at hS
            refine Z_take0 (i := 18) hS rfl want_none (e_build ty_z63 ty_pl63 (.one rfl rfl rfl (by repeat constructor) (.one rfl rfl rfl (by repeat constructor) (.one rfl rfl rfl (by repeat constructor) .nil)))) (listed' := [true, true, true, true, true, true, true, true, true, true, true, true, true, true, true, true, true, true, true, false, false, false]) rfl (by kernel_rfl) (by kernel_rfl) (by kernel_rfl) (fun _ _ _ h => h) rfl ?_; clear hS a; intro a hS
            refine Z_one (i := 19) rfl (want_none a hS.sl) (listed' := [true, true, true, true, true, true, true, true, true, true, true, true, true, true, true, true, true, true, true, true, false, false]) rfl (by kernel_rfl) (s_bslice hS ty_sl56 ty_sz63 ty_z63 rfl rfl rfl rfl (.agg rfl rfl .nil) rfl ?_); clear hS a; (try clear w); intro a w b84 hS
            refine Z_and hS (sub_cons (by repeat constructor) sub_nil) ?_
            refine Z_one (i := 20) rfl (want_none a hS.sl) (listed' := [true, true, true, true, true, true, true, true, true, true, true, true, true, true, true, true, true, true, true, true, true, false]) rfl (by kernel_rfl) (s_append1 hS rfl rfl ty_sl56 ty_sz63 ty_by63 ty_z63 rfl rfl rfl (by repeat constructor) (by repeat constructor) (by rfl) (by rfl) (fun _ => (by repeat constructor)) (by omega) ?_); clear hS a; (try clear w); intro v85 a w hv85 hS
            refine Z_last (by simp) ?_
            refine Z_take0 (i := 21) hS rfl want_none (e_assign rfl) (listed' := [true, true, true, true, true, true, true, true, true, true, true, true, true, true, true, true, true, true, true, true, true, true]) rfl (by kernel_rfl) (by kernel_rfl) (by kernel_rfl) (fun _ _ _ h => h) rfl ?_; clear hS a; intro a hS
            refine Z_done (by kernel_rfl) ?_
            refine n_block ?_
            refine n_then ?_
            refine c_region ?_
            refine L_op (s_e hS (e_move rfl) rfl ?_); clear hS a; intro a hS
            first | (refine L_op (s_e hS (e_binN rfl rfl rfl (by omega)) rfl ?_); clear hS a; intro a hS) | (refine L_op (s_e hS (e_bin rfl rfl rfl) rfl ?_); clear hS a; intro a hS)
            refine L_op (s_e hS (e_assign rfl) rfl ?_); clear hS a; intro a hS
            refine L_nil ?_
            have e1 : ((ps.take (i + 1)).map turnP).length = ((ps.take i).map turnP).length + 1 := by rw [htk]; simp
            have e2 : ((ps.take (i + 1)).map turnP).flatMap encP = ((ps.take i).map turnP).flatMap encP ++ encP (turnP x) := by rw [htk, List.flatMap_append]; simp
            refine ⟨(i + 1, v85), by simp only; omega, ?_, by simp only; omega, fun j hj y hy => ?_⟩
            · simp only
              rw [e1, e2]
              exact (hS.slots (by repeat (first | exact trivial | refine ⟨rfl, ?_⟩))).pick (by repeat (first | exact Pick.nil | (refine Pick.cons (by repeat (first | exact Rem.head | apply Rem.tail)) ?_)))
            · simp only at hj
              by_cases e : j = i
              · subst e; rw [hx] at hy; cases hy; exact hu
              · exact hall j (by omega) y hy
      ·
        obtain rfl : i = ps.length := by omega
        rw [List.take_length] at hS
        have hinU : ∀ y ∈ ps, inU y.u ∧ inU y.f := fun y hy => by
          obtain ⟨j, hj, rfl⟩ := List.mem_iff_getElem.1 hy
          exact hall j hj _ (List.getElem?_eq_getElem hj)
        refine wp_exit ?_
        refine x_then (x_then (x_hit ?_))
        refine n_then ?_
        refine c_seq ?_
        refine c_region ?_
        refine L_op (s_e hS (e_move rfl) rfl ?_); clear hS a; intro a hS
        refine L_op (s_callN hS (.cons rfl (.cons rfl .nil)) cf35 rfl (lTrial_P B s 1099511627776 (by omega) (hwf.fitL (by omega)) _ (hS.get (X := ledA B s true) (by repeat constructor))) ?_); clear hS a; (try clear w); intro x87 a w hS
        refine L_op (s_e hS (e_assign rfl) rfl ?_); clear hS a; intro a hS
        refine L_nil ?_
        refine n_then ?_
        refine c_seq ?_
        refine c_region ?_
        refine L_op (s_e hS (e_move rfl) rfl ?_); clear hS a; intro a hS
        refine L_op (s_callP hS (.cons rfl .nil) cf34 rfl (lLen_P B s _ (hS.get (X := ledA B s true) (by repeat constructor))) ?_); clear hS a; (try clear w); intro a w hS
        refine L_op (s_e hS (e_assign rfl) rfl ?_); clear hS a; intro a hS
        refine L_nil ?_
        refine n_then ?_
        refine c_seq ?_
        refine c_region ?_
        refine L_op (s_e hS (e_move rfl) rfl ?_); clear hS a; intro a hS
        refine L_op (s_e hS (e_move rfl) rfl ?_); clear hS a; intro a hS
        refine L_op (s_e hS (e_move rfl) rfl ?_); clear hS a; intro a hS
        refine L_op (s_e hS (e_move rfl) rfl ?_); clear hS a; intro a hS
        refine L_op (s_callM hS (.cons rfl (.cons rfl (.cons rfl (.cons rfl .nil)))) cf32 rfl (postAny_P B s (sliceV q ps.length cq) at_ memo ps hpl hpf hwf.bal (by omega) _ (hS.get (X := ledA B s true) (by repeat constructor)) (psAt_row (hS.get (X := inL p l q ps) (by repeat constructor)).2 (fun r hr => (hS.ok (inL p l q ps) (by repeat constructor)).lt r.1 (.inr ⟨r.2, hr⟩))) (fun k hne hk hl => hS.sep (X := ledA B s true) (Y := inL p l q ps) (by repeat (first | exact Rem.head | apply Rem.tail)) (by repeat constructor) k hl (.inr (by cases q with | none => cases hk | some r => exact ⟨r.2, by cases hk; rfl⟩)))) (fun x => (by repeat constructor)) rfl ?_); clear hS a; (try clear w); intro x95 a w hS
        obtain ⟨s1, hp1⟩ := x95
        simp only at hS
        have hel1 : (pl s1).es.length = s1.es.length := by simp [pl]
        refine L_op (s_e hS (e_move rfl) rfl ?_); clear hS a; intro a hS
        refine L_op (s_e hS (e_extract rfl rfl) rfl ?_); clear hS a; intro a hS
        refine L_op (s_e hS (e_extract rfl rfl) rfl ?_); clear hS a; intro a hS
        refine L_op (s_e hS (e_assign rfl) rfl ?_); clear hS a; intro a hS
        refine L_op (s_e hS (e_assign rfl) rfl ?_); clear hS a; intro a hS
        refine L_nil ?_
        refine n_then ?_
        refine c_seq ?_
        refine c_seq ?_
        refine c_region ?_
        refine L_op (s_e hS (e_move rfl) rfl ?_); clear hS a; intro a hS
        refine L_op (s_callP hS (.cons rfl .nil) cf16 rfl (Num_w _ _) ?_); clear hS a; (try clear w); intro a w hS
        refine L_op (s_e hS (e_bin rfl rfl rfl) rfl ?_); clear hS a; intro a hS
        refine L_nil ?_
        refine n_then ?_
        first | refine c_ifD hS rfl (fun hc100 => ?_) (fun hc100 => ?_) | refine c_if hS rfl (fun hc100 => ?_) (fun hc100 => ?_)
        ·
          have hne : checkE (pl s) at_ memo ps ≠ 0 := hc100
          have hs1 : pl s1 = pl s := by rw [hp1]; exact if_neg hne
          have hi0 : postI (pl s) at_ memo ps = 0 := if_neg hne
          have hlen1 : s1.es.length = s.es.length := by rw [← hel1, hs1, hel]
          rw [hi0] at hS
          refine c_seq ?_
          refine c_region ?_
          refine L_op (s_e hS (e_move rfl) rfl ?_); clear hS a; intro a hS
          refine L_op (s_callP hS (.cons rfl .nil) cf34 rfl (lLen_P B s1 _ (hS.get (X := ledA B s1 true) (by repeat constructor))) ?_); clear hS a; (try clear w); intro a w hS
          rw [hlen1] at hS
          refine L_op (s_e hS (e_move rfl) rfl ?_); clear hS a; intro a hS
          refine L_op (s_e hS (e_bin rfl rfl rfl) rfl ?_); clear hS a; intro a hS
          refine L_op (s_e hS (e_move rfl) rfl ?_); clear hS a; intro a hS
          replace hS := hS.is (t := 105) (c := true) rfl ((by simp))
          refine L_go hS rfl rfl (s_e hS (e_move rfl) rfl ?_); clear hS a; intro a hS
          refine L_go hS rfl rfl (s_e hS (e_bin rfl rfl rfl) rfl ?_); clear hS a; intro a hS
          first | (refine L_op (s_e hS (e_pick_t rfl rfl) rfl ?_); clear hS a; intro a hS) | (refine L_op (s_e hS (e_pick_f rfl rfl) rfl ?_); clear hS a; intro a hS)
          refine L_op (s_e hS (e_assign rfl) rfl ?_); clear hS a; intro a hS
          refine L_nil ?_
          refine n_then ?_
          refine wp_ret ?_
          refine r_then ?_
          refine c_ret1 hS Try.results9 (.tmp rfl) ?_
          exact ⟨rfl, hS.chg⟩
        ·
          have hE : checkE (pl s) at_ memo ps = 0 := Classical.byContradiction fun e => hc100 e
          have hE2 := turn_ok hwf (by omega) hE
          have hi1 : postI (pl s) at_ memo ps = (s.es.length : Int) + 1 := by rw [show postI (pl s) at_ memo ps = _ from if_pos hE, hel]
          have hl1 : s1.es.length = s.es.length + 1 := by rw [← hel1, hp1, show postP (pl s) at_ memo ps = _ from if_pos hE]; simp [pl]
          have hwf1 := wf_post hwf at_ memo ps hpf
          rw [← hp1] at hwf1 hE2
          have htr := trial_turn (t := 1099511627776) hE (hp1 ▸ hE2)
          rw [← hp1] at htr
          have hi2 : postI (pl s1) at_ memo (ps.map turnP) = (s.es.length : Int) + 2 := by rw [show postI (pl s1) at_ memo (ps.map turnP) = _ from if_pos hE2, hel1, hl1]; omega
          rw [hi1] at hS
          refine wp_skip ?_
          refine n_then ?_
          refine c_seq ?_
          refine c_region ?_
          refine L_op (s_e hS (e_move rfl) rfl ?_); clear hS a; intro a hS
          refine L_op (s_e hS (e_move rfl) rfl ?_); clear hS a; intro a hS
          refine L_op (s_e hS (e_move rfl) rfl ?_); clear hS a; intro a hS
          refine L_op (s_e hS (e_move rfl) rfl ?_); clear hS a; intro a hS
          refine L_op (s_callM hS (.cons rfl (.cons rfl (.cons rfl (.cons rfl .nil)))) cf32 rfl (postAny_P B s1 out at_ memo (ps.map turnP) (by rw [List.length_map]; exact hpl) (turn_fits hpf hinU) hwf1.bal (by omega) _ (hS.get (X := ledA B s1 true) (by repeat constructor)) (psAt_own (hS.get (X := ownA 63 3 out (ps.map turnP).length ((ps.map turnP).flatMap encP)) (by repeat constructor))) (fun k hne hk hl => hS.sep (X := ledA B s1 true) (Y := ownA 63 3 out (ps.map turnP).length ((ps.map turnP).flatMap encP)) (by repeat (first | exact Rem.head | apply Rem.tail)) (by repeat constructor) k hl hk)) (fun x => (by repeat constructor)) rfl ?_); clear hS a; (try clear w); intro x114 a w hS
          obtain ⟨s2, hp2⟩ := x114
          simp only at hS
          rw [hi2, hE2] at hS
          have hwf2 := wf_post hwf1 at_ memo (ps.map turnP) (turn_fits hpf hinU)
          rw [← hp2] at hwf2 htr
          have hal2 : s2.acs.length ≤ 100 := by have h1 := hwf2.la; simp [pl] at h1; omega
          refine L_op (s_e hS (e_move rfl) rfl ?_); clear hS a; intro a hS
          refine L_op (s_e hS (e_extract rfl rfl) rfl ?_); clear hS a; intro a hS
          refine L_op (s_e hS (e_extract rfl rfl) rfl ?_); clear hS a; intro a hS
          refine L_op (s_e hS (e_assign rfl) rfl ?_); clear hS a; intro a hS
          refine L_op (s_e hS (e_assign rfl) rfl ?_); clear hS a; intro a hS
          refine L_nil ?_
          refine n_then ?_
          refine c_seq ?_
          refine c_seq ?_
          refine c_region ?_
          refine L_op (s_e hS (e_move rfl) rfl ?_); clear hS a; intro a hS
          refine L_op (s_callP hS (.cons rfl .nil) cf16 rfl (Num_w _ _) ?_); clear hS a; (try clear w); intro a w hS
          refine L_op (s_e hS (e_bin rfl rfl rfl) rfl ?_); clear hS a; intro a hS
          refine L_nil ?_
          refine n_then ?_
          replace hS := hS.is (t := 119) (c := false) rfl (rfl)
          refine c_if_f hS rfl ?_
          refine wp_skip ?_
          refine n_then ?_
          refine c_seq ?_
          refine c_region ?_
          refine L_op (s_e hS (e_move rfl) rfl ?_); clear hS a; intro a hS
          refine L_op (s_callN hS (.cons rfl (.cons rfl .nil)) cf35 rfl (lTrial_P B s2 1099511627776 (by omega) (hwf2.fitL (by omega)) _ (hS.get (X := ledA B s2 true) (by repeat constructor))) ?_); clear hS a; (try clear w); intro x129 a w hS
          rw [htr] at hS
          have htl : (trialF (pl s) 1099511627776).length ≤ 100 := by unfold trialF; rw [List.length_map, accs_len]; exact hal
          obtain ⟨q87, c87, rfl⟩ := own_slice (hS.get (X := ownA 60 3 x87 (trialF (pl s) 1099511627776).length ((trialF (pl s) 1099511627776).flatMap encBl)) (by repeat constructor))
          obtain ⟨q129, c129, rfl⟩ := own_slice (hS.get (X := ownA 60 3 x129 (trialF (pl s) 1099511627776).length ((trialF (pl s) 1099511627776).flatMap encBl)) (by repeat constructor))
          refine L_op (s_e hS (e_assign rfl) rfl ?_); clear hS a; intro a hS
          refine L_nil ?_
          refine n_then ?_
          refine c_seq ?_
          refine c_seq ?_
          refine c_region ?_
          refine L_op (s_e hS (e_move rfl) rfl ?_); clear hS a; intro a hS
          refine L_op (s_e hS (e_move rfl) rfl ?_); clear hS a; intro a hS
          first | (refine L_op (s_e hS (e_binN rfl rfl rfl (by omega)) rfl ?_); clear hS a; intro a hS) | (refine L_op (s_e hS (e_bin rfl rfl rfl) rfl ?_); clear hS a; intro a hS)
          refine L_op (s_e hS (e_bin rfl rfl rfl) rfl ?_); clear hS a; intro a hS
          refine L_op (s_e hS (e_move rfl) rfl ?_); clear hS a; intro a hS
          replace hS := hS.is (t := 134) (c := false) rfl ((by simp))
          refine L_go hS rfl rfl (s_e hS (e_move rfl) rfl ?_); clear hS a; intro a hS
          refine L_go hS rfl rfl (s_e hS (e_move rfl) rfl ?_); clear hS a; intro a hS
          first | (refine L_go hS rfl rfl (s_e hS (e_binN rfl rfl rfl (by omega)) rfl ?_); clear hS a; intro a hS) | (refine L_go hS rfl rfl (s_e hS (e_bin rfl rfl rfl) rfl ?_); clear hS a; intro a hS)
          refine L_go hS rfl rfl (s_e hS (e_bin rfl rfl rfl) rfl ?_); clear hS a; intro a hS
          first | (refine L_op (s_e hS (e_pick_t rfl rfl) rfl ?_); clear hS a; intro a hS) | (refine L_op (s_e hS (e_pick_f rfl rfl) rfl ?_); clear hS a; intro a hS)
          refine L_op (s_e hS (e_move rfl) rfl ?_); clear hS a; intro a hS
          replace hS := hS.is (t := 140) (c := false) rfl ((by simp))
          refine L_go hS rfl rfl (s_e hS (e_move rfl) rfl ?_); clear hS a; intro a hS
          refine L_go hS rfl rfl (s_e hS (e_len rfl rfl ty_sl76) rfl ?_); clear hS a; intro a hS
          refine L_go hS rfl rfl (s_e hS (e_move rfl) rfl ?_); clear hS a; intro a hS
          refine L_go hS rfl rfl (s_e hS (e_len rfl rfl ty_sl76) rfl ?_); clear hS a; intro a hS
          refine L_go hS rfl rfl (s_e hS (e_bin rfl rfl rfl) rfl ?_); clear hS a; intro a hS
          first | (refine L_op (s_e hS (e_pick_t rfl rfl) rfl ?_); clear hS a; intro a hS) | (refine L_op (s_e hS (e_pick_f rfl rfl) rfl ?_); clear hS a; intro a hS)
          refine L_nil ?_
          refine n_then ?_
          replace hS := hS.is (t := 146) (c := false) rfl ((by simp))
          refine c_if_f hS rfl ?_
          refine wp_skip ?_
          refine n_then ?_
          refine c_seq ?_
          refine c_seq ?_
          refine c_region ?_
          refine L_op (s_e hS (e_assign rfl) rfl ?_); clear hS a; intro a hS
          refine L_nil ?_
          refine n_then ?_
          refine wp_block ?_
          skip
          refine c_loop (γ := Nat) (fun i a w => St 162 noB w0 a w [(21, .int .i64 (i : Int)), (20, .slice q129 (trialF (pl s) 1099511627776).length c129), (14, .slice q87 (trialF (pl s) 1099511627776).length c87)] [ownA 60 3 (.slice q129 (trialF (pl s) 1099511627776).length c129) (trialF (pl s) 1099511627776).length ((trialF (pl s) 1099511627776).flatMap encBl), ownA 60 3 (.slice q87 (trialF (pl s) 1099511627776).length c87) (trialF (pl s) 1099511627776).length ((trialF (pl s) 1099511627776).flatMap encBl)] ∧ i ≤ (trialF (pl s) 1099511627776).length) (fun i => (trialF (pl s) 1099511627776).length - i) 0 ⟨(hS.slots (by repeat (first | exact trivial | refine ⟨rfl, ?_⟩))).pick (by repeat (first | exact Pick.nil | (refine Pick.cons (by repeat (first | exact Rem.head | apply Rem.tail)) ?_))), Nat.zero_le _⟩ ?_
          clear hS a; (try clear w); intro i a w hI
          obtain ⟨hS, hi⟩ := hI
          refine c_seq ?_
          refine c_seq ?_
          refine c_region ?_
          refine L_op (s_e hS (e_move rfl) rfl ?_); clear hS a; intro a hS
          refine L_op (s_e hS (e_move rfl) rfl ?_); clear hS a; intro a hS
          refine L_op (s_e hS (e_len rfl rfl ty_sl76) rfl ?_); clear hS a; intro a hS
          refine L_op (s_e hS (e_bin rfl rfl rfl) rfl ?_); clear hS a; intro a hS
          refine L_nil ?_
          refine n_then ?_
          first | refine c_ifD hS rfl (fun hc150 => ?_) (fun hc150 => ?_) | refine c_if hS rfl (fun hc150 => ?_) (fun hc150 => ?_)
          ·
            have hil : i < (trialF (pl s) 1099511627776).length := by omega
            obtain ⟨x, hx⟩ : ∃ x, (trialF (pl s) 1099511627776)[i]? = some x := ⟨(trialF (pl s) 1099511627776)[i], List.getElem?_eq_getElem hil⟩
            obtain ⟨ga, rfl⟩ : ∃ g, q129 = some ⟨g, 0, none⟩ := own_at (hS.get (X := ownA 60 3 (.slice q129 (trialF (pl s) 1099511627776).length c129) (trialF (pl s) 1099511627776).length ((trialF (pl s) 1099511627776).flatMap encBl)) (by repeat constructor)) (by omega)
            obtain ⟨gb, rfl⟩ : ∃ g, q87 = some ⟨g, 0, none⟩ := own_at (hS.get (X := ownA 60 3 (.slice q87 (trialF (pl s) 1099511627776).length c87) (trialF (pl s) 1099511627776).length ((trialF (pl s) 1099511627776).flatMap encBl)) (by repeat constructor)) (by omega)
            refine wp_skip ?_
            refine n_then ?_
            refine c_seq ?_
            refine wp_block ?_
            refine c_seq ?_
            refine c_draw1 [] (by kernel_rfl) hS ?_; clear hS; (try clear w); intro w hS
            simp only [List.length_cons, List.length_nil, Nat.zero_add, Nat.reduceAdd, List.replicate]
            refine Z_take0 (i := 0) hS rfl want_none (e_move rfl) (listed' := [true, false, false, false, false, false, false, false, false]) rfl (by kernel_rfl) (by kernel_rfl) (by kernel_rfl) (fun _ _ _ h => h) rfl ?_; clear hS a; intro a hS
            refine Z_take0 (i := 1) hS rfl want_none (e_move rfl) (listed' := [true, true, false, false, false, false, false, false, false]) rfl (by kernel_rfl) (by kernel_rfl) (by kernel_rfl) (fun _ _ _ h => h) rfl ?_; clear hS a; intro a hS
            refine Z_take0 (i := 2) hS rfl want_none (e_ixN rfl rfl ty_sl76 ty_sz60 (by omega)) (listed' := [true, true, true, false, false, false, false, false, false]) rfl (by kernel_rfl) (by kernel_rfl) (by kernel_rfl) (fun _ _ _ h => h) rfl ?_; clear hS a; intro a hS
            refine Z_take (i := 3) hS rfl want_none (e_loadAC (l := encBl x) rfl ty_st60 ty_sz60 (own_getL (enc := encBl) (s := 3) (fun _ => rfl) (by repeat constructor) hx)) (listed' := [true, true, true, true, false, false, false, false, false]) rfl (by kernel_rfl) (by kernel_rfl) (by kernel_rfl) (by kernel_rfl) (by kernel_rfl) (by intro X hX; repeat (first | exact hX | apply List.Mem.tail)) (fun _ _ _ h => h) rfl ?_; clear hS a; intro a hS
            refine Z_take0 (i := 4) hS rfl want_none (e_move rfl) (listed' := [true, true, true, true, true, false, false, false, false]) rfl (by kernel_rfl) (by kernel_rfl) (by kernel_rfl) (fun _ _ _ h => h) rfl ?_; clear hS a; intro a hS
            refine Z_take0 (i := 5) hS rfl want_none (e_move rfl) (listed' := [true, true, true, true, true, true, false, false, false]) rfl (by kernel_rfl) (by kernel_rfl) (by kernel_rfl) (fun _ _ _ h => h) rfl ?_; clear hS a; intro a hS
            refine Z_take0 (i := 6) hS rfl want_none (e_ixN rfl rfl ty_sl76 ty_sz60 (by omega)) (listed' := [true, true, true, true, true, true, true, false, false]) rfl (by kernel_rfl) (by kernel_rfl) (by kernel_rfl) (fun _ _ _ h => h) rfl ?_; clear hS a; intro a hS
            refine Z_take (i := 7) hS rfl want_none (e_loadAC (l := encBl x) rfl ty_st60 ty_sz60 (own_getL (enc := encBl) (s := 3) (fun _ => rfl) (by repeat constructor) hx)) (listed' := [true, true, true, true, true, true, true, true, false]) rfl (by kernel_rfl) (by kernel_rfl) (by kernel_rfl) (by kernel_rfl) (by kernel_rfl) (by intro X hX; repeat (first | exact hX | apply List.Mem.tail)) (fun _ _ _ h => h) rfl ?_; clear hS a; intro a hS
            refine Z_take0 (i := 8) hS rfl want_none (e_neBal rfl rfl) (listed' := [true, true, true, true, true, true, true, true, true]) rfl (by kernel_rfl) (by kernel_rfl) (by kernel_rfl) (fun _ _ _ h => h) rfl ?_; clear hS a; intro a hS
            refine Z_done (by kernel_rfl) ?_
            refine n_then ?_
            replace hS := hS.is (t := 161) (c := false) rfl (rfl)
            refine c_if_f hS rfl ?_
            refine wp_skip ?_
            refine n_block ?_
            refine n_then ?_
            refine c_region ?_
            refine L_op (s_e hS (e_move rfl) rfl ?_); clear hS a; intro a hS
            first | (refine L_op (s_e hS (e_binN rfl rfl rfl (by omega)) rfl ?_); clear hS a; intro a hS) | (refine L_op (s_e hS (e_bin rfl rfl rfl) rfl ?_); clear hS a; intro a hS)
            refine L_op (s_e hS (e_assign rfl) rfl ?_); clear hS a; intro a hS
            refine L_nil ?_
            exact ⟨i + 1, by omega, hS.slots (by repeat (first | exact trivial | refine ⟨rfl, ?_⟩)), by omega⟩
          ·
            refine wp_exit ?_
            refine x_then (x_then (x_hit ?_))
            refine n_then ?_
            refine c_seq ?_
            refine c_region ?_
            refine L_op (s_e hS (e_assign rfl) rfl ?_); clear hS a; intro a hS
            refine L_nil ?_
            refine n_then ?_
            refine wp_ret ?_
            refine c_ret1 hS Try.results9 (.tmp rfl) ?_
            exact ⟨rfl, hS.chg⟩
end Go.Proofs.Ytheofhegdjjfgaa

namespace Go.Proofs.Ytheofhegdjjfgaa.Open
set_option maxRecDepth 100000
open Go.ChangeShapes Go.WideShapes Go.Deep
section
variable {H : Type} {enc : TypeId × Value → H} {P : Program} {w : World} {base : Nat} {spare : Nat → Bool} {held : Bool}
theorem open_slice_fields {t e : TypeId} {fs : Array Field} {fuel : Nat} {cs : List Value} {x : DataW H × List MemPlace} (ht : P.underlying t = some (.slice e)) (he : P.underlying e = some (.struct fs))
    (hone : oneCellFields P fs = true) (hC : P.cellsOf e = fs.size) (h : DataW.trod enc P w base spare held fuel t cs = some x) :
    (cs = [.slice none 0 0] ∧ x = (.nil, [])) ∨
    ∃ (a : Addr) (len cap m : Nat) (D : Nat → DataW H) (Pl : Nat → List MemPlace), cs = [.slice (some a) len cap] ∧ base ≤ a.block ∧ len ≤ cap ∧ cap ≤ maxLen ∧ m = (if spare a.block then cap else len) ∧
      x = (.slice ((List.range len).map D) ((List.range (m - len)).map fun j => D (len + j)), MemPlace.row a (m * fs.size) ++ (List.range m).flatMap Pl) ∧
      ∀ i, i < m → ∃ (ys : List (DataW H × List MemPlace)) (n : Nat), D i = .agg (ys.map (·.1)) ∧ Pl i = ys.flatMap (·.2) ∧ ys.length = fs.size ∧
        ∀ (j : Nat) (f : Field), fs[j]? = some f → ∃ (v : Value) (y : DataW H × List MemPlace), w.cell? (a.add (i * fs.size + j)) = some v ∧ ys[j]? = some y ∧ DataW.trod enc P w base spare held n f.type [v] = some y := by
  rcases open_slice ht h with h0 | ⟨a, len, cap, m, n, D, Pl, hcs, hb, hl, hm, hmm, hx, hi⟩
  · exact .inl h0
  · refine .inr ⟨a, len, cap, m, D, Pl, hcs, hb, hl, hm, hmm, by rw [hC] at hx; exact hx, fun i him => ?_⟩
    obtain ⟨cs', hc, ht'⟩ := hi i him
    rw [hC] at hc
    obtain ⟨ys, n', hn', hy, hlen, hyl, hf⟩ := DataW.trod_struct he ht'
    obtain ⟨_, hcl, hat⟩ := World.cells?_some hc
    simp only [Prod.mk.injEq] at hy
    refine ⟨ys, n', hy.1, hy.2, hyl, fun j f hj => ?_⟩
    obtain ⟨ho, hk⟩ := hone_of hone j f hj
    have hjl : j < fs.size := (Array.getElem?_eq_some_iff.1 hj).1
    have hcell := hat j hjl
    have hv : cs'[j]? = some (cs'[j]'(by omega)) := List.getElem?_eq_getElem (by omega)
    have h1 := hf j f hj
    rw [ho, hk] at h1
    have hone' : (cs'.drop j).take 1 = [cs'[j]'(by omega)] := by
      rw [List.drop_eq_getElem_cons (by omega)]
      rfl
    rw [hone'] at h1
    have hys : ys[j]? = some (ys[j]'(by omega)) := List.getElem?_eq_getElem (by omega)
    refine ⟨_, _, ?_, hys, h1.trans hys⟩
    rw [← Go.Deep.add_add, hcell, hv]
end

section
variable {H : Type} {enc : TypeId × Value → H}
theorem weights_all {P : Program} {e : TypeId} {d : DataW H} {n : Nat} (hn : n ∈ d.weights P e) : ∀ {l : List (DataW H)}, d ∈ l → n ∈ DataW.weightsAll P e l
  | x :: r, h => by
    simp only [DataW.weightsAll, List.mem_append]
    rcases List.mem_cons.1 h with rfl | h
    · exact .inl hn
    · exact .inr (weights_all hn h)

theorem shape_lt {w : World} {b : Nat} {x : TypeId × Nat} (h : w.shape? b = some x) : b < w.heap.size := by
  unfold World.shape? at h
  by_cases hb : b < w.heap.size
  · exact hb
  · rw [Array.getElem?_eq_none (by omega)] at h; cases h

theorem add_spot {a : Addr} (h : a.spot = none) (n : Nat) : a.add n = ⟨a.block, a.off + n, none⟩ := by
  unfold Addr.add
  split
  · next h0 => subst h0; cases a; simp_all
  · rfl


theorem bytesSet : Try.prog.bytesOf 24 = 32 := by kernel_rfl
/-- a slice's outer form, as it came in. -/
theorem slice_has {W : World} {base : Nat} {t e : TypeId} {a : Addr} {len cap : Nat} (hu : Try.prog.underlying t = some (.slice e)) (h : Value.okWide Try.prog W .any base t (.slice (some a) len cap)) : a.spot = none ∧ a.block < W.heap.size := by
  unfold Value.okWide at h
  rw [hu] at h
  simp only at h
  unfold Cell.okWide at h
  rw [hu] at h
  simp only at h
  unfold Cell.ok at h
  rw [hu] at h
  simp only at h
  obtain ⟨_, _, _, hs, row, cells, hsh, _⟩ := h
  exact ⟨hs, shape_lt hsh⟩

theorem open_sets {W : World} {base : Nat} {v : Value} {d : DataW H} {pl : List MemPlace} (hval : Value.okWide Try.prog W .any base 22 v) (h : DataW.Trod enc Try.prog W 0 (fun _ => true) true 22 v d pl) (hw : ∀ n ∈ d.weights Try.prog 22, n ≤ reachBytes) :
    ∃ (p : Option (Nat × Nat)) (l : List RR) (c : Nat), v = sliceV p l.length c ∧ (p = none → c = 0) ∧ (∀ x ∈ l, rrFits x) ∧ l.length ≤ 4611686018427387904 ∧ RowP p 3 (l.map encR) W ∧ ∀ r, p = some r → r.1 < W.heap.size := by
  obtain ⟨fuel, hf⟩ := h
  have hu := Try.underlying22
  have hsl : ∃ a len cap, v = .slice a len cap := okWide_slice hu hval
  obtain ⟨a0, len0, cap0, rfl⟩ := hsl
  rcases open_slice_fields hu Try.underlying24 (by kernel_rfl) (by kernel_rfl) hf with ⟨hc, _⟩ | ⟨a, len, cap, m, D, Pl, hc, _, hl, hm, hmm, hx, hi⟩
  · simp only [Value.cells, List.cons.injEq, and_true] at hc
    rw [hc]
    exact ⟨none, [], 0, rfl, fun _ => rfl, by simp, by simp, rfl, by simp⟩
  · simp only [Value.cells, List.cons.injEq, and_true] at hc
    rw [hc] at hval ⊢
    obtain ⟨hsp, hlt⟩ := slice_has hu hval
    simp only [Prod.mk.injEq] at hx
    simp only [if_true] at hmm
    rw [hmm] at hx hi
    have each : ∀ i, i < len → ∃ x : RR, rrFits x ∧ ∀ j u, (encR x)[j]? = some u → W.cell? (a.add (i * 3 + j)) = some u := by
      intro i hil
      obtain ⟨ys, n, hD, _, hys, hfl⟩ := hi i (by omega)
      obtain ⟨v0, y0, c0, g0, t0⟩ := hfl 0 _ rfl
      obtain ⟨v1, y1, c1, g1, t1⟩ := hfl 1 _ rfl
      obtain ⟨v2, y2, c2, g2, t2⟩ := hfl 2 _ rfl
      obtain ⟨s, e0, z0, w0⟩ := DataW.trod_string Try.underlying9 t0
      obtain ⟨n1, e1, z1, w1⟩ := DataW.trod_int Try.underlying3 t1
      obtain ⟨n2, e2, z2, w2⟩ := DataW.trod_int Try.underlying3 t2
      simp only [List.cons.injEq, and_true] at e0 e1 e2
      subst e0 e1 e2
      have hs : s.size ≤ reachBytes := by
        refine hw _ ?_
        rw [hx.1]
        have h1 : s.size ∈ (D i).weights Try.prog 24 := by
          rw [hD]
          simp only [DataW.weights, Try.underlying24]
          refine DataW.weights_mem_each (j := 0) rfl (d := .lit (.string s.data.toList)) (by rw [List.getElem?_map, g0, z0]; rfl) _ ?_
          simp only [DataW.weights, List.mem_singleton]
          rfl
        have h2 := weights_all h1 (l := (List.range len).map D) (List.mem_map.2 ⟨i, List.mem_range.2 hil, rfl⟩)
        simp only [DataW.weights, hu, List.mem_cons, List.mem_append]
        exact .inr (.inl h2)
      have b1 := bounds_i64 w1
      have b2 := bounds_i64 w2
      refine ⟨⟨s, n1, n2⟩, ⟨Nat.le_trans hs (by decide), b1, b2⟩, fun j u hj => ?_⟩
      match j, hj with
      | 0, hj => cases hj; exact c0
      | 1, hj => cases hj; exact c1
      | 2, hj => cases hj; exact c2
      | (k + 3), hj => simp [encR] at hj
    have hlen : (len + (cap - len)) * 32 ≤ reachBytes := by
      have := hw ((len + (cap - len)) * Try.prog.bytesOf 24) (by rw [hx.1]; simp [DataW.weights, hu])
      rwa [bytesSet] at this
    simp only [reachBytes] at hlen
    haveI : Inhabited RR := ⟨⟨ByteArray.empty, 0, 0⟩⟩
    obtain ⟨f, hfn⟩ := choose_lt each
    refine ⟨some (a.block, a.off), (List.range len).map f, cap, ?_, by simp, ?_, by simp only [List.length_map, List.length_range]; omega, ?_, ?_⟩
    · unfold sliceV
      cases a
      simp only at hsp
      subst hsp
      simp
    · intro x hx
      obtain ⟨i, hi', rfl⟩ := List.mem_map.1 hx
      exact (hfn i (List.mem_range.1 hi')).1
    · intro i x hx j u hj
      simp only [List.getElem?_map, Option.map_eq_some_iff] at hx
      obtain ⟨y, ⟨k, hk, rfl⟩, rfl⟩ := hx
      obtain ⟨hk1, hk2⟩ := List.getElem?_eq_some_iff.1 hk
      simp only [List.length_range] at hk1
      simp only [List.getElem_range] at hk2
      subst hk2
      have := (hfn i hk1).2 j u hj
      rw [add_spot hsp] at this
      rw [← this]
      simp only [Nat.add_assoc]
    · rintro r hr
      cases hr
      exact hlt

theorem open_set {W : World} {base : Nat} {v : Value} {d : DataW H} {pl : List MemPlace} (hval : Value.okWide Try.prog W .any base 24 v) (h : DataW.Trod enc Try.prog W 0 (fun _ => true) true 24 v d pl) (hw : ∀ n ∈ d.weights Try.prog 24, n ≤ reachBytes) :
    ∃ x : RR, v = .agg (encR x).toArray ∧ rrFits x := by
  obtain ⟨v0, v1, v2, y0, y1, y2, n, rfl, hd, _, t0, t1, t2⟩ := Go.Joins.open_agg3 Try.underlying24 (by kernel_rfl) (by kernel_rfl) hval h
  obtain ⟨s, e0, z0, w0⟩ := DataW.trod_string Try.underlying9 t0
  obtain ⟨n1, e1, z1, w1⟩ := DataW.trod_int Try.underlying3 t1
  obtain ⟨n2, e2, z2, w2⟩ := DataW.trod_int Try.underlying3 t2
  simp only [List.cons.injEq, and_true] at e0 e1 e2
  subst e0 e1 e2
  have hs : s.size ≤ reachBytes := by
    refine hw _ ?_
    rw [hd]
    simp only [DataW.weights, Try.underlying24]
    refine DataW.weights_mem_each (j := 0) rfl (d := .lit (.string s.data.toList)) (by rw [z0]; rfl) _ ?_
    simp only [DataW.weights, List.mem_singleton]
    rfl
  exact ⟨⟨s, n1, n2⟩, rfl, Nat.le_trans hs (by decide), bounds_i64 w1, bounds_i64 w2⟩
end
end Go.Proofs.Ytheofhegdjjfgaa.Open

namespace Go.Proofs.Ytheofhegdjjfgaa.Open
set_option maxRecDepth 100000
open Go.ChangeShapes Go.WideShapes Go.Deep
section
variable {H : Type} {enc : TypeId × Value → H}
theorem bytesPst : Try.prog.bytesOf 63 = 32 := by kernel_rfl
theorem bytesLO : Try.prog.bytesOf 72 = 104 := by kernel_rfl
theorem one3 : Try.prog.cellsOf 3 = 1 := by kernel_rfl
theorem one9 : Try.prog.cellsOf 9 = 1 := by kernel_rfl
theorem one4 : Try.prog.cellsOf 4 = 1 := by kernel_rfl
theorem one56 : Try.prog.cellsOf 56 = 1 := by kernel_rfl
theorem four68 : Try.prog.cellsOf 68 = 4 := by kernel_rfl
theorem eight72 : Try.prog.cellsOf 72 = 8 := by kernel_rfl
theorem list8 {α : Type} {l : List α} (h : l.length = 8) : ∃ a b c d e f g i, l = [a, b, c, d, e, f, g, i] := by
  match l, h with
  | [a, b, c, d, e, f, g, i], _ => exact ⟨a, b, c, d, e, f, g, i, rfl⟩

theorem open_psts_raw {W : World} {n0 : Nat} {v : Value} {y : DataW H × List MemPlace} (h : DataW.trod enc Try.prog W 0 (fun _ => true) true n0 56 [v] = some y) (hw : ∀ n ∈ y.1.weights Try.prog 56, n ≤ reachBytes) :
    ∃ l : List Pst, PsAt v l W ∧ (∀ x ∈ l, x.fits) ∧ l.length ≤ 4611686018427387904 := by
  have hu := Try.underlying56
  rcases open_slice_fields hu Try.underlying63 (by kernel_rfl) (by kernel_rfl) h with ⟨hc, _⟩ | ⟨a, len, cap, m, D, Pl, hc, _, hl, hm, hmm, hx, hi⟩
  · simp only [List.cons.injEq, and_true] at hc
    subst hc
    exact ⟨[], .inl ⟨rfl, _, _, rfl⟩, by simp, by simp⟩
  · simp only [List.cons.injEq, and_true] at hc
    subst hc
    have hx : y.1 = _ := congrArg (·.1) hx
    simp only at hx
    simp only [if_true] at hmm
    rw [hmm] at hx hi
    have each : ∀ i, i < len → ∃ x : Pst, x.fits ∧ ∀ j u, (encP x)[j]? = some u → W.cell? (a.add (i * 3 + j)) = some u := by
      intro i hil
      obtain ⟨ys, n, hD, _, hys, hfl⟩ := hi i (by omega)
      obtain ⟨v0, y0, c0, g0, t0⟩ := hfl 0 _ rfl
      obtain ⟨v1, y1, c1, g1, t1⟩ := hfl 1 _ rfl
      obtain ⟨v2, y2, c2, g2, t2⟩ := hfl 2 _ rfl
      obtain ⟨s, e0, z0, w0⟩ := DataW.trod_string Try.underlying9 t0
      obtain ⟨n1, e1, z1, w1⟩ := DataW.trod_int Try.underlying3 t1
      obtain ⟨n2, e2, z2, w2⟩ := DataW.trod_int Try.underlying3 t2
      simp only [List.cons.injEq, and_true] at e0 e1 e2
      subst e0 e1 e2
      have hs : s.size ≤ reachBytes := by
        refine hw _ ?_
        rw [hx]
        have h1 : s.size ∈ (D i).weights Try.prog 63 := by
          rw [hD]
          simp only [DataW.weights, Try.underlying63]
          refine DataW.weights_mem_each (j := 0) rfl (d := .lit (.string s.data.toList)) (by rw [List.getElem?_map, g0, z0]; rfl) _ ?_
          simp only [DataW.weights, List.mem_singleton]
          rfl
        have h2 := weights_all h1 (l := (List.range len).map D) (List.mem_map.2 ⟨i, List.mem_range.2 hil, rfl⟩)
        simp only [DataW.weights, hu, List.mem_cons, List.mem_append]
        exact .inr (.inl h2)
      have b1 := bounds_i64 w1
      have b2 := bounds_i64 w2
      refine ⟨⟨s, n1, n2⟩, ⟨Nat.le_trans hs (by decide), b1, b2⟩, fun j u hj => ?_⟩
      match j, hj with
      | 0, hj => cases hj; exact c0
      | 1, hj => cases hj; exact c1
      | 2, hj => cases hj; exact c2
      | (k + 3), hj => simp [encP] at hj
    have hlen : (len + (cap - len)) * 32 ≤ reachBytes := by
      have := hw ((len + (cap - len)) * Try.prog.bytesOf 63) (by rw [hx]; simp [DataW.weights, hu])
      rwa [bytesPst] at this
    simp only [reachBytes] at hlen
    haveI : Inhabited Pst := ⟨⟨ByteArray.empty, 0, 0⟩⟩
    obtain ⟨f, hfn⟩ := choose_lt each
    refine ⟨(List.range len).map f, ?_, ?_, by simp only [List.length_map, List.length_range]; omega⟩
    · by_cases h0 : len = 0
      · subst h0; exact .inl ⟨rfl, _, _, rfl⟩
      · have hc0 := (hfn 0 (by omega)).2 0 _ rfl
        obtain ⟨_, _, hsh, _, hsp⟩ := World.shape?_of_cell? hc0
        have hsp : a.spot = none := by
          have e : a.add (0 * 3 + 0) = a := by unfold Addr.add; rw [if_pos (by omega)]
          rw [e] at hsp; exact hsp
        have hlt : a.block < W.heap.size := by
          have e : a.add (0 * 3 + 0) = a := by unfold Addr.add; rw [if_pos (by omega)]
          rw [e] at hsh; exact shape_lt hsh
        refine .inr ⟨a.block, a.off, cap, ?_, ?_, ?_, hlt⟩
        · intro e
          have := congrArg List.length e
          simp at this; omega
        · unfold sliceV
          cases a
          simp only at hsp
          subst hsp
          simp
        · intro i x hx j u hj
          simp only [List.getElem?_map, Option.map_eq_some_iff] at hx
          obtain ⟨y, ⟨k, hk, rfl⟩, rfl⟩ := hx
          obtain ⟨hk1, hk2⟩ := List.getElem?_eq_some_iff.1 hk
          simp only [List.length_range] at hk1
          simp only [List.getElem_range] at hk2
          subst hk2
          have := (hfn i hk1).2 j u hj
          rw [add_spot hsp] at this
          rw [← this]
          simp only [Nat.add_assoc]
    · intro x hx
      obtain ⟨i, hi', rfl⟩ := List.mem_map.1 hx
      exact (hfn i (List.mem_range.1 hi')).1

theorem open_psts {W : World} {base : Nat} {v : Value} {d : DataW H} {pl : List MemPlace} (hval : Value.okWide Try.prog W .any base 56 v) (h : DataW.Trod enc Try.prog W 0 (fun _ => true) true 56 v d pl) (hw : ∀ n ∈ d.weights Try.prog 56, n ≤ reachBytes) :
    ∃ (p : Option (Nat × Nat)) (l : List Pst) (c : Nat), v = sliceV p l.length c ∧ (∀ x ∈ l, x.fits) ∧ l.length ≤ 4611686018427387904 ∧ RowP p 3 (l.map encP) W ∧ ∀ r, p = some r → r.1 < W.heap.size := by
  obtain ⟨fuel, hf⟩ := h
  have hu := Try.underlying56
  obtain ⟨a, len, cap, rfl⟩ : ∃ a len cap, v = .slice a len cap := okWide_slice hu hval
  obtain ⟨l, hp, hfit, hl⟩ := open_psts_raw hf hw
  rcases hp with ⟨rfl, a', c', e⟩ | ⟨b, off, c, hne, e, hr, hb⟩
  · cases a with
    | none =>
      injection e with e1 e2 e3; subst e2
      exact ⟨none, [], cap, rfl, by simp, by simp, rfl, by simp⟩
    | some ad =>
      obtain ⟨hsp, hlt⟩ := slice_has hu hval
      injection e with e1 e2 e3; subst e2
      refine ⟨some (ad.block, ad.off), [], cap, ?_, by simp, by simp, fun i x hx => (by simp at hx), fun r hr => by cases hr; exact hlt⟩
      unfold sliceV
      cases ad
      simp only at hsp
      subst hsp
      rfl
  · exact ⟨some (b, off), l, c, e, hfit, hl, hr, fun r hr => by cases hr; exact hb⟩

theorem open_los {W : World} {base : Nat} {v : Value} {d : DataW H} {pl : List MemPlace} (hval : Value.okWide Try.prog W .any base 50 v) (h : DataW.Trod enc Try.prog W 0 (fun _ => true) true 50 v d pl) (hw : ∀ n ∈ d.weights Try.prog 50, n ≤ reachBytes) :
    ∃ (p : Option (Nat × Nat)) (l : List LO) (c : Nat), v = sliceV p l.length c ∧ (∀ x ∈ l, x.fits) ∧ l.length ≤ 4611686018427387904 ∧ losφ p l W ∧ ∀ r, p = some r → r.1 < W.heap.size := by
  obtain ⟨fuel, hf⟩ := h
  have hu := Try.underlying50
  have hsl : ∃ a len cap, v = .slice a len cap := okWide_slice hu hval
  obtain ⟨a0, len0, cap0, rfl⟩ := hsl
  rcases open_slice hu hf with ⟨hc, _⟩ | ⟨a, len, cap, m, n, D, Pl, hc, _, hl, hm, hmm, hx, hi⟩
  · simp only [Value.cells, List.cons.injEq, and_true] at hc
    rw [hc]
    exact ⟨none, [], 0, rfl, by simp, by simp, ⟨rfl, by simp⟩, by simp⟩
  · simp only [Value.cells, List.cons.injEq, and_true] at hc
    rw [hc] at hval ⊢
    obtain ⟨hsp, hlt⟩ := slice_has hu hval
    have hx : d = _ := congrArg (·.1) hx
    simp only at hx
    simp only [if_true] at hmm
    rw [hmm] at hx hi
    have each : ∀ i, i < len → ∃ x : LO, x.fits ∧ PsAt x.pv x.ps W ∧ ∀ j u, (encLO x)[j]? = some u → W.cell? (a.add (i * 8 + j)) = some u := by
      intro i hil
      obtain ⟨cs', hcs, htr⟩ := hi i (by omega)
      rw [eight72] at hcs
      obtain ⟨_, hcl, hat⟩ := World.cells?_some hcs
      obtain ⟨v0, v1, v2, v3, v4, v5, v6, v7, rfl⟩ := list8 hcl
      obtain ⟨ys, n', hn', hD, _, hys, hfl⟩ := DataW.trod_struct Try.underlying72 htr
      have hD : D i = .agg (ys.map (·.1)) := congrArg (·.1) hD
      have hys : ys.length = 5 := hys
      have t0 := hfl 0 ⟨ "Kind", 3, 0, false, "", "", 0⟩ rfl
      simp only at t0
      have t1 := hfl 1 ⟨ "At", 3, 1, false, "", "", 8⟩ rfl
      simp only at t1
      have t2 := hfl 2 ⟨ "A", 68, 2, false, "", "", 16⟩ rfl
      simp only at t2
      have t3 := hfl 3 ⟨ "Memo", 9, 6, false, "", "", 64⟩ rfl
      simp only at t3
      have t4 := hfl 4 ⟨ "P", 56, 7, false, "", "", 80⟩ rfl
      simp only at t4
      rw [show Try.prog.cellsOf 3 = 1 from one3] at t0
      rw [show Try.prog.cellsOf 3 = 1 from one3] at t1
      rw [show Try.prog.cellsOf 68 = 4 from four68] at t2
      rw [show Try.prog.cellsOf 9 = 1 from one9] at t3
      rw [show Try.prog.cellsOf 56 = 1 from one56] at t4
      have g0 : ys[0]? = some ys[0] := List.getElem?_eq_getElem (by omega)
      have g1 : ys[1]? = some ys[1] := List.getElem?_eq_getElem (by omega)
      have g2 : ys[2]? = some ys[2] := List.getElem?_eq_getElem (by omega)
      have g3 : ys[3]? = some ys[3] := List.getElem?_eq_getElem (by omega)
      have g4 : ys[4]? = some ys[4] := List.getElem?_eq_getElem (by omega)
      rw [g0] at t0
      rw [g1] at t1
      rw [g2] at t2
      rw [g3] at t3
      rw [g4] at t4
      change DataW.trod enc Try.prog W 0 (fun _ => true) true n' 3 [v0] = _ at t0
      change DataW.trod enc Try.prog W 0 (fun _ => true) true n' 3 [v1] = _ at t1
      change DataW.trod enc Try.prog W 0 (fun _ => true) true n' 68 [v2, v3, v4, v5] = _ at t2
      change DataW.trod enc Try.prog W 0 (fun _ => true) true n' 9 [v6] = _ at t3
      change DataW.trod enc Try.prog W 0 (fun _ => true) true n' 56 [v7] = _ at t4
      obtain ⟨zs, n2, hn2, hA, _, hzs, hfa⟩ := DataW.trod_struct Try.underlying68 t2
      have hA : ys[2].1 = .agg (zs.map (·.1)) := congrArg (·.1) hA
      have hzs : zs.length = 4 := hzs
      have u0 := hfa 0 ⟨ "Code", 9, 0, false, "", "", 0⟩ rfl
      simp only at u0
      have u1 := hfa 1 ⟨ "Cur", 9, 1, false, "", "", 16⟩ rfl
      simp only at u1
      have u2 := hfa 2 ⟨ "Kind", 3, 2, false, "", "", 32⟩ rfl
      simp only at u2
      have u3 := hfa 3 ⟨ "Monetary", 4, 3, false, "", "", 40⟩ rfl
      simp only at u3
      rw [show Try.prog.cellsOf 9 = 1 from one9] at u0
      rw [show Try.prog.cellsOf 9 = 1 from one9] at u1
      rw [show Try.prog.cellsOf 3 = 1 from one3] at u2
      rw [show Try.prog.cellsOf 4 = 1 from one4] at u3
      have k0 : zs[0]? = some zs[0] := List.getElem?_eq_getElem (by omega)
      have k1 : zs[1]? = some zs[1] := List.getElem?_eq_getElem (by omega)
      have k2 : zs[2]? = some zs[2] := List.getElem?_eq_getElem (by omega)
      have k3 : zs[3]? = some zs[3] := List.getElem?_eq_getElem (by omega)
      rw [k0] at u0
      rw [k1] at u1
      rw [k2] at u2
      rw [k3] at u3
      change DataW.trod enc Try.prog W 0 (fun _ => true) true n2 9 [v2] = _ at u0
      change DataW.trod enc Try.prog W 0 (fun _ => true) true n2 9 [v3] = _ at u1
      change DataW.trod enc Try.prog W 0 (fun _ => true) true n2 3 [v4] = _ at u2
      change DataW.trod enc Try.prog W 0 (fun _ => true) true n2 4 [v5] = _ at u3
      obtain ⟨n0, e0, z0, w0⟩ := DataW.trod_int Try.underlying3 t0
      obtain ⟨n1, e1, z1, w1⟩ := DataW.trod_int Try.underlying3 t1
      obtain ⟨s6, e6, z6, w6⟩ := DataW.trod_string Try.underlying9 t3
      obtain ⟨s2, e2, z2, w2⟩ := DataW.trod_string Try.underlying9 u0
      obtain ⟨s3, e3, z3, w3⟩ := DataW.trod_string Try.underlying9 u1
      obtain ⟨n4, e4, z4, w4⟩ := DataW.trod_int Try.underlying3 u2
      obtain ⟨b5, e5, z5⟩ := DataW.trod_bool Try.underlying4 u3
      simp only [List.cons.injEq, and_true] at e0 e1 e2 e3 e4 e5 e6
      subst e0 e1 e2 e3 e4 e5 e6
      have lift : ∀ (k : Nat), k ∈ (D i).weights Try.prog 72 → k ≤ reachBytes := fun k h1 => by
        refine hw _ ?_
        rw [hx]
        have h2 := weights_all h1 (l := (List.range len).map D) (List.mem_map.2 ⟨i, List.mem_range.2 hil, rfl⟩)
        simp only [DataW.weights, hu, List.mem_cons, List.mem_append]
        exact .inr (.inl h2)
      have liftA : ∀ (k : Nat), k ∈ (ys[2].1).weights Try.prog 68 → k ≤ reachBytes := fun k h1 => lift k (by
        rw [hD]
        simp only [DataW.weights, Try.underlying72]
        exact DataW.weights_mem_each (j := 2) rfl (d := ys[2].1) (by rw [List.getElem?_map, g2]; rfl) _ h1)
      have hs6 : s6.size ≤ reachBytes := lift _ (by
        rw [hD]
        simp only [DataW.weights, Try.underlying72]
        refine DataW.weights_mem_each (j := 3) rfl (d := .lit (.string s6.data.toList)) (by rw [List.getElem?_map, g3, z6]; rfl) _ ?_
        simp only [DataW.weights, List.mem_singleton]
        rfl)
      have hs2 : s2.size ≤ reachBytes := liftA _ (by
        rw [hA]
        simp only [DataW.weights, Try.underlying68]
        refine DataW.weights_mem_each (j := 0) rfl (d := .lit (.string s2.data.toList)) (by rw [List.getElem?_map, k0, z2]; rfl) _ ?_
        simp only [DataW.weights, List.mem_singleton]
        rfl)
      have hs3 : s3.size ≤ reachBytes := liftA _ (by
        rw [hA]
        simp only [DataW.weights, Try.underlying68]
        refine DataW.weights_mem_each (j := 1) rfl (d := .lit (.string s3.data.toList)) (by rw [List.getElem?_map, k1, z3]; rfl) _ ?_
        simp only [DataW.weights, List.mem_singleton]
        rfl)
      obtain ⟨l7, a7, b7, m7⟩ := open_psts_raw t4 (fun k hk => lift k (by
        rw [hD]
        simp only [DataW.weights, Try.underlying72]
        exact DataW.weights_mem_each (j := 4) rfl (d := ys[4].1) (by rw [List.getElem?_map, g4]; rfl) _ hk))
      refine ⟨⟨n0, n1, ⟨s2, s3, n4, b5⟩, s6, l7, v7⟩, ⟨bounds_i64 w1, Nat.le_trans hs2 (by decide), Nat.le_trans hs3 (by decide), Nat.le_trans hs6 (by decide), ⟨b7, m7⟩⟩, a7, fun j u hj => ?_⟩
      have hjl : j < 8 := (List.getElem?_eq_some_iff.1 hj).1
      rw [← add_add, hat j hjl]
      exact hj
    have hlen : (len + (cap - len)) * 104 ≤ reachBytes := by
      have := hw ((len + (cap - len)) * Try.prog.bytesOf 72) (by rw [hx]; simp [DataW.weights, hu])
      rwa [bytesLO] at this
    simp only [reachBytes] at hlen
    haveI : Inhabited LO := ⟨⟨0, 0, noAcc, ByteArray.empty, [], .nilFunc⟩⟩
    obtain ⟨f, hfn⟩ := choose_lt each
    refine ⟨some (a.block, a.off), (List.range len).map f, cap, ?_, ?_, by simp only [List.length_map, List.length_range]; omega, ⟨?_, ?_⟩, ?_⟩
    · unfold sliceV
      cases a
      simp only at hsp
      subst hsp
      simp
    · intro x hx
      obtain ⟨i, hi', rfl⟩ := List.mem_map.1 hx
      exact (hfn i (List.mem_range.1 hi')).1
    · intro i x hx j u hj
      simp only [List.getElem?_map, Option.map_eq_some_iff] at hx
      obtain ⟨y, ⟨k, hk, rfl⟩, rfl⟩ := hx
      obtain ⟨hk1, hk2⟩ := List.getElem?_eq_some_iff.1 hk
      simp only [List.length_range] at hk1
      simp only [List.getElem_range] at hk2
      subst hk2
      have := (hfn i hk1).2.2 j u hj
      rw [add_spot hsp] at this
      rw [← this]
      simp only [Nat.add_assoc]
    · intro x hx
      obtain ⟨i, hi', rfl⟩ := List.mem_map.1 hx
      exact (hfn i (List.mem_range.1 hi')).2.1
    · rintro r hr
      cases hr
      exact hlt
end
end Go.Proofs.Ytheofhegdjjfgaa.Open

namespace Go.Proofs.Ytheofhegdjjfgaa.ledgerTurned
open Go.ChangeShapes Go.WideShapes Go.ChangeAt Go.RowKit Go.Joins
open Go.ChangeMaps (open_string shut_string)

theorem own : ownKnob Try.prog.godebug = none := by kernel_rfl
theorem laidOut : laidOutB Try.prog = true := by kernel_rfl

set_option maxRecDepth 100000 in
theorem lifted (os : Os) (started : os.Started) (H : Type) (enc : TypeId × Value → H) :
    ReturnsInHanded {} Try.checked os 9 .any (Rows.ledgerTurnedSpec.pre6 enc Try.prog Try.f9 Rows.ledgerTurnedRow.domain false) (Rows.ledgerTurnedSpec.post enc Try.prog Try.f9 false true false false) := by
  refine returnsInHanded_of_change_sized (C := Try.checked) own started (by kernel_rfl) Try.func9
    (ChangeSpec.witness6 (enc := enc) (C := Try.checked) false ⟨#[], #[.slice none 0 0, .int .i64 0, .string ByteArray.empty, .slice none 0 0], []⟩ 8 (by kernel_rfl) (by kernel_rfl) (by kernel_rfl) (by kernel_rfl)) ?_
  intro W base args ds gs before hval0 hW hcnd hsz0 _
  have hval : ∀ (j : Nat) t v, Try.f9.params[j]? = some t → args[j]? = some v → Value.okWide Try.prog W .any base t v := hval0
  have hW' := hW
  obtain ⟨p, q, hA0, hV, rfl, hfz, hnd⟩ := hW
  have hsz : (DataW.weightsEach Try.prog (Try.f9.params.toList ++ Rows.ledgerTurnedSpec.plain.varTypes Try.prog) (ds ++ gs)).all (· ≤ reachBytes) = true := hsz0
  have hA : DataW.TrodAll enc Try.prog W 0 (fun _ => true) true Try.f9.params.toList args.toList ds p := hA0
  rw [Try.params9] at hA hval hsz
  obtain ⟨v0, vs0, d0, ds0, p0, q0, hargs, rfl, rfl, h0, r0⟩ := trodAll_cons hA
  obtain ⟨v1, vs1, d1, ds1, p1, q1, rfl, rfl, rfl, h1, r1⟩ := trodAll_cons r0
  obtain ⟨v2, vs2, d2, ds2, p2, q2, rfl, rfl, rfl, h2, r2⟩ := trodAll_cons r1
  obtain ⟨v3, vs3, d3, ds3, p3, q3, rfl, rfl, rfl, h3, r3⟩ := trodAll_cons r2
  obtain ⟨rfl, rfl, rfl⟩ := trodAll_nil r3
  obtain rfl : args = #[v0, v1, v2, v3] := by cases args; simp_all
  obtain ⟨rfl, rfl⟩ := trodVars_none hV
  have k0 := h0
  have lt0 : ∀ x ∈ p0, x.block < W.heap.size := by obtain ⟨m, hm⟩ := k0; exact DataW.trod_lt m _ _ _ hm
  have z0 : ∀ n ∈ d0.weights Try.prog 50, n ≤ reachBytes := fun n hn => by simpa using List.all_eq_true.1 hsz n (DataW.weights_mem_each (j := 0) (t := 50) (d := d0) rfl rfl n hn)
  obtain ⟨s0, l0, c0, rfl, f0, m0, e0, g0⟩ := Open.open_los (hval 0 50 v0 rfl rfl) h0 z0
  have k1 := h1
  have lt1 : ∀ x ∈ p1, x.block < W.heap.size := by obtain ⟨m, hm⟩ := k1; exact DataW.trod_lt m _ _ _ hm
  obtain ⟨a1, rfl, rfl, rfl, w1⟩ := open_int Try.underlying3 (hval 1 3 v1 rfl rfl) h1
  have b1 := bounds_i64 w1
  have k2 := h2
  have lt2 : ∀ x ∈ p2, x.block < W.heap.size := by obtain ⟨m, hm⟩ := k2; exact DataW.trod_lt m _ _ _ hm
  obtain ⟨a2, rfl, rfl, rfl, w2⟩ := open_string Try.underlying9 (hval 2 9 v2 rfl rfl) h2
  have zs2 : a2.size ≤ reachBytes := by simpa using List.all_eq_true.1 hsz a2.size (DataW.weights_mem_each (j := 2) (t := 9) (d := .lit (.string a2.data.toList)) rfl rfl _ (by simp [DataW.weights]))
  have zt2 : a2.size ≤ 4611686018427387904 := Nat.le_trans zs2 (by decide)
  have k3 := h3
  have lt3 : ∀ x ∈ p3, x.block < W.heap.size := by obtain ⟨m, hm⟩ := k3; exact DataW.trod_lt m _ _ _ hm
  have z3 : ∀ n ∈ d3.weights Try.prog 56, n ≤ reachBytes := fun n hn => by simpa using List.all_eq_true.1 hsz n (DataW.weights_mem_each (j := 3) (t := 56) (d := d3) rfl rfl n hn)
  obtain ⟨s3, l3, c3, rfl, f3, m3, e3, g3⟩ := Open.open_psts (hval 3 56 v3 rfl rfl) h3 z3
  have hw := LedgerTurned_P s0 c0 l0 m0 f0 a1 a2 zt2 s3 c3 l3 m3 f3 W e0 g0 e3 g3
  clear hA0 hval0
  refine hw.mono fun e W' ⟨he, hchg⟩ => ?_
  have bel := hchg.below
  subst he
  exact ⟨_, rfl, _, _, _, [], _, [], hW', trodAll_mk1 (shut_bool Try.underlying4 _), (trodAll_cons_mk (Below.trod laidOut (by kernel_rfl) (of_decide_eq_true (by kernel_rfl)) k0 bel lt0) (trodAll_cons_mk (Below.trod laidOut (by kernel_rfl) (of_decide_eq_true (by kernel_rfl)) k1 bel lt1) (trodAll_cons_mk (Below.trod laidOut (by kernel_rfl) (of_decide_eq_true (by kernel_rfl)) k2 bel lt2) (trodAll_cons_mk (Below.trod laidOut (by kernel_rfl) (of_decide_eq_true (by kernel_rfl)) k3 bel lt3) trodAll_mk0)))), rfl, bel.frame _, fun h => by cases h⟩

theorem over : Rows.ledgerTurnedRow.holds Try.pinned (OpenSpec.ofChange Rows.ledgerTurnedSpec) :=
  OpenClaim.holds_of_wide 9 Try.f9 rfl rfl rfl rfl rfl rfl rfl ⟨rfl, rfl, rfl, rfl, rfl⟩ rfl rfl rfl rfl rfl (by kernel_rfl) Try.func9 (by kernel_rfl)
    (of_decide_eq_true (by kernel_rfl)) (by unfold Func.isWrapper; first | (rw [if_pos (by decide +kernel)]; kernel_rfl) | (rw [if_neg (by decide +kernel)]; exact ⟨rfl, rfl⟩))
    (fun os started H enc _ => lifted os started H enc)

theorem proved : Rows.LedgerTurnedSaid := over
end Go.Proofs.Ytheofhegdjjfgaa.ledgerTurned
