/- FrontFields: for every argument whose bulk is at most 1048576 the law returns true, and each argument reads afterwards as it read before. No other conditions. (text 2 of 5) -/
import Derived.Test.YtlccmgeclhdegaaGreatDoorLFlC1
import Derived.Lib.IndexLaws
import Derived.Shelf.Lays7
import Derived.Ground.Names7Prog
import Derived.Shelf.Spec.DecodeRune
import Derived.Test.YtlccmgeclhdegaaGreatDoorProg
import Derived.Lib.ValidLaws
import Derived.Recover
import Derived.WideLaws
namespace Go.Proofs.YtlccmgeclhdegaaGreatDoor
open Go.RowKit
def bsI (l : List UInt8) : List Int := l.map fun b => (b.toNat : Int)
theorem bsI_len (l : List UInt8) : (bsI l).length = l.length := List.length_map ..
theorem bsI_at {l : List UInt8} {p : Nat} {x : UInt8} (h : l[p]? = some x) : (bsI l)[p]? = some (x.toNat : Int) := by unfold bsI; rw [List.getElem?_map, h]; rfl
structure TxA (W0 : World) (q : Option Addr) (c : Nat) (l : List UInt8) : Prop where
 lies : ByAt (.slice q l.length c) (bsI l) W0
 n : l.length ≤ 1100000
theorem TxA.cell {W0 : World} {q : Option Addr} {c : Nat} {l : List UInt8} (h : TxA W0 q c l) {p : Nat} (hp : p < l.length) : ∃ b off x, q = some ⟨b, off, none⟩ ∧ l[p]? = some x ∧ W0.cell? ⟨b, off + p, none⟩ = some (.int .u8 (x.toNat : Int)) := by
 have hx : l[p]? = some l[p] := List.getElem?_eq_getElem hp
 obtain ⟨b, off, c', e, _, hc⟩ := h.lies.some (fun e => by have := congrArg List.length e; rw [bsI_len] at this; simp only [List.length_nil] at this; omega)
 injection e with e1 _ _
 exact ⟨b, off, l[p], e1, hx, hc p _ (bsI_at hx)⟩
theorem one_at {l : List UInt8} {p : Nat} {x : UInt8} (pd : UInt8 → Bool) (h : l[p]? = some x) : one pd (l.drop p) = pd x := by
 rw [List.drop_eq_getElem_cons (List.getElem?_eq_some_iff.1 h).1]
 show pd _ = _
 rw [(List.getElem?_eq_some_iff.1 h).2]
theorem one_end {l : List UInt8} {p : Nat} (pd : UInt8 → Bool) (h : l.length ≤ p) : one pd (l.drop p) = false := by rw [List.drop_eq_nil_of_le h]; rfl
theorem hd_at {l : List UInt8} {p : Nat} {x : UInt8} (h : l[p]? = some x) : hd0 (l.drop p) = x.toNat := by
 rw [List.drop_eq_getElem_cons (List.getElem?_eq_some_iff.1 h).1]
 show UInt8.toNat _ = _
 rw [(List.getElem?_eq_some_iff.1 h).2]
theorem hd_end {l : List UInt8} {p : Nat} (h : l.length ≤ p) : hd0 (l.drop p) = 0 := by rw [List.drop_eq_nil_of_le h]; rfl
def rdB (q : Option Addr) (c : Nat) (l : List UInt8) (p : Nat) : List Value := [.slice q l.length c, .int .i64 (p : Int)]
def rdA (br : Nat) (q : Option Addr) (c : Nat) (l : List UInt8) (p : Nat) : Asn := .blk br (rdB q c l p) 93
def Some (s : ByteArray) (pd : UInt8 → Bool) : Prop := ∀ x, pd x = decide (x ∈ s.data.toList)
theorem index_iff (l : List UInt8) (x : UInt8) : (Lib.indexByte l x < 0) ↔ x ∉ l := by
 rcases Int.lt_or_le (Lib.indexByte l x) 0 with h | h
 · have h1 := Lib.indexByte_ge l x
   refine ⟨fun _ hm => ?_, fun _ => h⟩
   obtain ⟨k, hk⟩ := List.mem_iff_getElem?.1 hm
   exact Lib.indexByte_none (by omega) k hk
 · refine ⟨fun h2 => by omega, fun hm => ?_⟩
   obtain ⟨o, ho⟩ : ∃ o : Nat, Lib.indexByte l x = (o : Int) := ⟨(Lib.indexByte l x).toNat, by omega⟩
   exact absurd (List.mem_of_getElem? (Lib.indexByte_some ho).1) hm
theorem index_P (s : ByteArray) (x : UInt8) (w : World) : PureC Tryz.prog 136 [.string s, .int .u8 (x.toNat : Int)] w (.int .i64 (Lib.indexByte s.data.toList x)) := by
 have h := Tryz.strings_IndexByte s (x.toNat : Int) w
 rw [show ((x.toNat : Int)).toNat.toUInt8 = x by simp] at h
 exact h.mono fun _ _ ⟨he, hw⟩ => ⟨he, by rw [hw]; exact Chg.refl _ _⟩
set_option maxRecDepth 100000 in
theorem jHere_M (W0 : World) (br : Nat) (q : Option Addr) (c : Nat) (l : List UInt8) (ht : TxA W0 q c l) (p : Nat) (hp : p ≤ l.length) (w0 : World) (h : (rdA br q c l p).φ w0) (ho : oldφ W0 w0) (hb : W0.heap.size ≤ br) :
 MutC Tryz.prog 93 [.pointer (some ⟨br, 0, none⟩)] w0 (rdA br q c l p) (fun _ : Unit => .int .u8 (hd0 (l.drop p) : Int)) (fun _ => rdA br q c l p) := by
 have hn := ht.n
 refine c_enter [(0, .pointer (some ⟨br, 0, none⟩))] [rdA br q c l p, oldA W0] (fun k => k = br) Tryz.func93 rfl Tryz.ntmps93 ⟨rfl, trivial⟩ rfl (okC (ok_blk h) (okC (old_ok ho) okN)) (disC (sepC (fun k h1 h2 => by have h1 : k = br := h1; have h2 : k < W0.heap.size := h2; omega) sepN) dis1) (mineO (fun _ hb => hb) (mineC rfl mineN)) ?_
 intro a hS
 refine cS (cR ?_)
 unfold rdA rdB at hS
 refine L_e hS (e_assign rfl) rfl ?_; clear hS a; intro a hS
 refine nL (nT (cS (cS ?_)))
 refine c_drawS [] (by kernel_rfl) hS (sub_cons (X := .blk br [.slice q l.length c, .int .i64 (p : Int)] 93) (by repeat constructor) sub_nil) ?_; clear hS; intro w hS
 simp only [List.length_cons, List.length_nil, Nat.zero_add, Nat.reduceAdd, List.replicate]
 refine Ry hS (.o 0 (tf 1 9) rfl wN (e_move rfl) rfl <| .o 1 (tf 2 8) rfl wN (e_nilCheck rfl) rfl .n) ?_; clear hS a; intro a hS
 (first | refine Zt0 2 (tf 3 7) hS rfl want_none (e_fa0 rfl ty_fo93_1) rfl (by kernel_rfl) rfl ?_ | refine Zt0 2 (tf 3 7) hS rfl want_none (e_faK rfl ty_fo93_1) rfl (by kernel_rfl) rfl ?_); clear hS a; intro a hS
 refine Rz hS (sub_cons (by repeat constructor) sub_nil) (.y 3 (tf 4 6) rfl wN (e_load rfl (by repeat constructor) ty_sc3 (by rfl)) rfl <| .o 4 (tf 5 5) rfl wN (e_move rfl) rfl <| .o 5 (tf 6 4) rfl wN (e_nilCheck rfl) rfl .n) ?_; clear hS a; intro a hS
 (first | refine Zt0 6 (tf 7 3) hS rfl want_none (e_fa0 rfl ty_fo93_0) rfl (by kernel_rfl) rfl ?_ | refine Zt0 6 (tf 7 3) hS rfl want_none (e_faK rfl ty_fo93_0) rfl (by kernel_rfl) rfl ?_); clear hS a; intro a hS
 refine Rz hS (sub_cons (by repeat constructor) sub_nil) (.y 7 (tf 8 2) rfl wN (e_load rfl (by repeat constructor) ty_sc27 (by rfl)) rfl <| .o 8 (tf 9 1) rfl wN (e_len rfl rfl ty_sl27) rfl <| .o 9 (tf 10 0) rfl wN (e_bin rfl rfl rfl) rfl .n) ?_; clear hS a; intro a hS
 refine Z_done (by kernel_rfl) ?_
 refine nT ?_
 (first | refine c_ifD hS rfl ?_ ?_ | refine c_if hS rfl ?_ ?_) <;> intro hc12
 ·
  refine cS (cR ?_)
  refine L_e hS (e_assign rfl) rfl ?_; clear hS a; intro a hS
  refine nL (nT (wp_ret (r_then ?_)))
  refine c_ret1 hS Tryz.results93 (.tmp rfl) ?_
  exact ⟨(), by rw [hd_end (by omega)]; rfl, hS.chg, hS.ok (rdA br q c l p) (by repeat constructor), fun b hb => .inl hb⟩
 have hpl : p < l.length := by omega
 obtain ⟨b, off, x, hq, hx, hc⟩ := ht.cell hpl
 subst hq
 refine wS (nT (cS ?_))
 refine c_drawS [] (by kernel_rfl) hS (sub_cons (X := .blk br [.slice (some ⟨b, off, none⟩) l.length c, .int .i64 (p : Int)] 93) (by repeat constructor) (sub_cons (X := oldA W0) (by repeat constructor) sub_nil)) ?_; clear hS; intro w hS
 simp only [List.length_cons, List.length_nil, Nat.zero_add, Nat.reduceAdd, List.replicate]
 refine Ry hS (.o 0 (tf 1 10) rfl wN (e_move rfl) rfl <| .o 1 (tf 2 9) rfl wN (e_nilCheck rfl) rfl .n) ?_; clear hS a; intro a hS
 (first | refine Zt0 2 (tf 3 8) hS rfl want_none (e_fa0 rfl ty_fo93_0) rfl (by kernel_rfl) rfl ?_ | refine Zt0 2 (tf 3 8) hS rfl want_none (e_faK rfl ty_fo93_0) rfl (by kernel_rfl) rfl ?_); clear hS a; intro a hS
 refine Rz hS (sub_cons (by repeat constructor) (sub_cons (by repeat constructor) sub_nil)) (.y 3 (tf 4 7) rfl wN (e_load rfl (by repeat constructor) ty_sc27 (by rfl)) rfl <| .o 4 (tf 5 6) rfl wN (e_move rfl) rfl <| .o 5 (tf 6 5) rfl wN (e_nilCheck rfl) rfl .n) ?_; clear hS a; intro a hS
 (first | refine Zt0 6 (tf 7 4) hS rfl want_none (e_fa0 rfl ty_fo93_1) rfl (by kernel_rfl) rfl ?_ | refine Zt0 6 (tf 7 4) hS rfl want_none (e_faK rfl ty_fo93_1) rfl (by kernel_rfl) rfl ?_); clear hS a; intro a hS
 refine Rz hS (sub_cons (by repeat constructor) (sub_cons (by repeat constructor) sub_nil)) (.y 7 (tf 8 3) rfl wN (e_load rfl (by repeat constructor) ty_sc3 (by rfl)) rfl <| .o 8 (tf 9 2) rfl wN (e_ixN rfl rfl ty_sl27 ty_sz5 (by omega)) rfl <| .y 9 (tf 10 1) rfl wN (e_loadC rfl ty_sc5 (fun w hh => by rw [Nat.mul_one]; exact old_cell (hh (oldA W0) (by repeat constructor)) hc)) rfl <| .o 10 (tf 11 0) rfl wN (e_assign rfl) rfl .n) ?_; clear hS a; intro a hS
 refine Z_done (by kernel_rfl) ?_
 refine nT (wp_ret ?_)
 refine c_ret1 hS Tryz.results93 (.tmp rfl) ?_
 exact ⟨(), by rw [hd_at hx], hS.chg, hS.ok (rdA br (some ⟨b, off, none⟩) c l p) (by repeat constructor), fun b hb => .inl hb⟩
theorem tw_at {pd : UInt8 → Bool} : ∀ {L : List UInt8} {k : Nat}, k ≤ (L.takeWhile pd).length → one pd (L.drop k) = decide (k < (L.takeWhile pd).length)
 | [], k, h => by rw [List.drop_nil]; exact (decide_eq_false (by simp)).symm
 | x :: t, 0, _ => by
   show pd x = _
   cases hx : pd x
   · rw [List.takeWhile_cons_of_neg (by rw [hx]; decide)]; rfl
   · rw [List.takeWhile_cons_of_pos hx]; exact (decide_eq_true (by simp)).symm
 | x :: t, k + 1, h => by
   cases hx : pd x
   · rw [List.takeWhile_cons_of_neg (by rw [hx]; decide)] at h; simp at h
   · rw [List.takeWhile_cons_of_pos hx] at h ⊢
     rw [List.drop_succ_cons, tw_at (by simpa using h)]
     exact decide_eq_decide.2 (by simp)
def stN (pd : UInt8 → Bool) (L : List UInt8) : Nat := if one pd L then 1 else 0
theorem st_le {pd : UInt8 → Bool} {l : List UInt8} {p : Nat} (hp : p ≤ l.length) : p + stN pd (l.drop p) ≤ l.length := by
 unfold stN
 split
 · rename_i h
   rcases Nat.lt_or_ge p l.length with h1 | h1
   · omega
   · rw [one_end pd h1] at h; cases h
 · omega
set_option maxRecDepth 100000 in
theorem jMay_M (W0 : World) (br : Nat) (q : Option Addr) (c : Nat) (l : List UInt8) (ht : TxA W0 q c l) (s : ByteArray) (pd : UInt8 → Bool) (hs : Some s pd) (p : Nat) (hp : p ≤ l.length) (w0 : World) (h : (rdA br q c l p).φ w0) (ho : oldφ W0 w0) (hb : W0.heap.size ≤ br) :
 MutC Tryz.prog 92 [.pointer (some ⟨br, 0, none⟩), .string s] w0 (rdA br q c l p) (fun _ : Unit => .bool (one pd (l.drop p))) (fun _ => rdA br q c l (p + stN pd (l.drop p))) := by
 have hn := ht.n
 refine c_enter [(0, .pointer (some ⟨br, 0, none⟩)), (1, .string s)] [rdA br q c l p, oldA W0] (fun k => k = br) Tryz.func92 rfl Tryz.ntmps92 ⟨rfl, rfl, trivial⟩ rfl (okC (ok_blk h) (okC (old_ok ho) okN)) (disC (sepC (fun k h1 h2 => by have h1 : k = br := h1; have h2 : k < W0.heap.size := h2; omega) sepN) dis1) (mineO (fun _ hb => hb) (mineC rfl mineN)) ?_
 intro a hS
 refine cS (cR ?_)
 unfold rdA rdB at hS
 refine L_e hS (e_assign rfl) rfl ?_; clear hS a; intro a hS
 refine nL (nT (cS (cS ?_)))
 refine c_drawS [] (by kernel_rfl) hS (sub_cons (X := .blk br [.slice q l.length c, .int .i64 (p : Int)] 93) (by repeat constructor) (sub_cons (X := oldA W0) (by repeat constructor) sub_nil)) ?_; clear hS; intro w hS
 simp only [List.length_cons, List.length_nil, Nat.zero_add, Nat.reduceAdd, List.replicate]
 refine Ry hS (.o 0 (tf 1 24) rfl wN (e_move rfl) rfl <| .o 1 (tf 2 23) rfl wN (e_nilCheck rfl) rfl .n) ?_; clear hS a; intro a hS
 (first | refine Zt0 2 (tf 3 22) hS rfl want_none (e_fa0 rfl ty_fo93_1) rfl (by kernel_rfl) rfl ?_ | refine Zt0 2 (tf 3 22) hS rfl want_none (e_faK rfl ty_fo93_1) rfl (by kernel_rfl) rfl ?_); clear hS a; intro a hS
 refine Rz hS (sub_cons (by repeat constructor) (sub_cons (by repeat constructor) sub_nil)) (.y 3 (tf 4 21) rfl wN (e_load rfl (by repeat constructor) ty_sc3 (by rfl)) rfl <| .o 4 (tf 5 20) rfl wN (e_move rfl) rfl <| .o 5 (tf 6 19) rfl wN (e_nilCheck rfl) rfl .n) ?_; clear hS a; intro a hS
 (first | refine Zt0 6 (tf 7 18) hS rfl want_none (e_fa0 rfl ty_fo93_0) rfl (by kernel_rfl) rfl ?_ | refine Zt0 6 (tf 7 18) hS rfl want_none (e_faK rfl ty_fo93_0) rfl (by kernel_rfl) rfl ?_); clear hS a; intro a hS
 refine Rz hS (sub_cons (by repeat constructor) (sub_cons (by repeat constructor) sub_nil)) (.y 7 (tf 8 17) rfl wN (e_load rfl (by repeat constructor) ty_sc27 (by rfl)) rfl <| .o 8 (tf 9 16) rfl wN (e_len rfl rfl ty_sl27) rfl <| .o 9 (tf 10 15) rfl wN (e_bin rfl rfl rfl) rfl <| .o 10 (tf 11 14) rfl wN (e_move rfl) rfl .n) ?_; clear hS a; intro a hS
 refine Z_merge 0 (tf 25 0) 29 (.bool (!(one pd (l.drop p)))) hS ?_ ?_
 · intro hcM29
   (first | refine g_splitD (t := 15) hS rfl ?_ ?_ | refine g_split (t := 15) hS rfl ?_ ?_) <;> (clear hS; intro hg15 hS)
   ·
    refine Ry hS (.f 11 (tf 12 13) rfl rfl rfl rfl <| .f 12 (tf 13 12) rfl rfl rfl rfl <| .f 13 (tf 14 11) rfl rfl rfl rfl <| .f 14 (tf 15 10) rfl rfl rfl rfl <| .f 15 (tf 16 9) rfl rfl rfl rfl <| .f 16 (tf 17 8) rfl rfl rfl rfl <| .f 17 (tf 18 7) rfl rfl rfl rfl <| .f 18 (tf 19 6) rfl rfl rfl rfl <| .f 19 (tf 20 5) rfl rfl rfl rfl <| .f 20 (tf 21 4) rfl rfl rfl rfl <| .f 21 (tf 22 3) rfl rfl rfl rfl <| .f 22 (tf 23 2) rfl rfl rfl rfl <| .f 23 (tf 24 1) rfl rfl rfl rfl <| .o 24 (tf 25 0) rfl wN (e_pk rfl rfl) rfl .n) ?_; clear hS a; intro a hS
    exact hcM29 _ _ (hS.ends 15 29 15 rfl (congrArg Value.bool (by rw [one_end pd (by omega)]; rfl)) rfl rfl (by first | exact congrArg Value.bool (decide_eq_true hg15).symm | exact congrArg Value.bool hg15.symm | simp [hg15]) rfl)
   have hpl : p < l.length := by omega
   obtain ⟨b, off, x, hq, hx, hc⟩ := ht.cell hpl
   subst hq
   refine Ry hS (.o 11 (tf 12 13) rfl (want_go rfl rfl) (e_move rfl) rfl <| .o 12 (tf 13 12) rfl (want_go rfl rfl) (e_move rfl) rfl <| .o 13 (tf 14 11) rfl (want_go rfl rfl) (e_nilCheck rfl) rfl .n) ?_; clear hS a; intro a hS
   (first | refine Zt0 14 (tf 15 10) hS rfl (want_go rfl rfl) (e_fa0 rfl ty_fo93_0) rfl (by kernel_rfl) rfl ?_ | refine Zt0 14 (tf 15 10) hS rfl (want_go rfl rfl) (e_faK rfl ty_fo93_0) rfl (by kernel_rfl) rfl ?_); clear hS a; intro a hS
   refine Rz hS (sub_cons (by repeat constructor) (sub_cons (by repeat constructor) sub_nil)) (.y 15 (tf 16 9) rfl (want_go rfl rfl) (e_load rfl (by repeat constructor) ty_sc27 (by rfl)) rfl <| .o 16 (tf 17 8) rfl (want_go rfl rfl) (e_move rfl) rfl <| .o 17 (tf 18 7) rfl (want_go rfl rfl) (e_nilCheck rfl) rfl .n) ?_; clear hS a; intro a hS
   (first | refine Zt0 18 (tf 19 6) hS rfl (want_go rfl rfl) (e_fa0 rfl ty_fo93_1) rfl (by kernel_rfl) rfl ?_ | refine Zt0 18 (tf 19 6) hS rfl (want_go rfl rfl) (e_faK rfl ty_fo93_1) rfl (by kernel_rfl) rfl ?_); clear hS a; intro a hS
   refine Rz hS (sub_cons (by repeat constructor) (sub_cons (by repeat constructor) sub_nil)) (.y 19 (tf 20 5) rfl (want_go rfl rfl) (e_load rfl (by repeat constructor) ty_sc3 (by rfl)) rfl <| .o 20 (tf 21 4) rfl (want_go rfl rfl) (e_ixN rfl rfl ty_sl27 ty_sz5 (by omega)) rfl <| .y 21 (tf 22 3) rfl (want_go rfl rfl) (e_loadC rfl ty_sc5 (fun w hh => by rw [Nat.mul_one]; exact old_cell (hh (oldA W0) (by repeat constructor)) hc)) rfl .n) ?_; clear hS a; intro a hS
   refine Zo 22 (tf 23 2) hS rfl (want_go rfl rfl) rfl (s_callP hS (.cons rfl (.cons rfl .nil)) cf136 rfl (index_P s x _) ?_); clear hS a; intro a w hS
   refine Z_and hS (sub_cons (by repeat constructor) (sub_cons (by repeat constructor) sub_nil)) ?_
   refine Ry hS (.o 23 (tf 24 1) rfl (want_go rfl rfl) (e_bin rfl rfl rfl) rfl <| .o 24 (tf 25 0) rfl wN (e_pk rfl rfl) rfl .n) ?_; clear hS a; intro a hS
   exact hcM29 _ _ (hS.ends 15 29 15 rfl (congrArg Value.bool (by rw [one_at pd hx, hs x, ← decide_not]; exact decide_eq_decide.2 (index_iff _ _))) rfl rfl (by first | exact congrArg Value.bool (decide_eq_false hg15).symm | exact congrArg Value.bool hg15.symm | simp [hg15]) rfl)
 · clear hS a; intro a w hS
   refine Z_done (by kernel_rfl) ?_
   refine nT ?_
   (first | refine c_ifD hS rfl ?_ ?_ | refine c_if hS rfl ?_ ?_) <;> intro hc29
   ·
    refine cS (cR ?_)
    refine L_e hS (e_assign rfl) rfl ?_; clear hS a; intro a hS
    refine nL (nT (wp_ret (r_then ?_)))
    refine c_ret1 hS Tryz.results92 (.tmp rfl) ?_
    have h0 : one pd (l.drop p) = false := by simpa using hc29
    exact ⟨(), by rw [h0], hS.chg, by unfold stN; rw [if_neg (by rw [h0]; decide)]; exact hS.ok (rdA br q c l p) (by repeat constructor), fun b hb => .inl hb⟩
   refine wS (nT (cS (cR ?_)))
   refine Rn hS (.m rfl <| .c (e_nilCheck rfl) .n) ?_; clear hS a; intro a hS
   (first | refine L_e hS (e_fa0 rfl ty_fo93_1) rfl ?_ | refine L_e hS (e_faK rfl ty_fo93_1) rfl ?_); clear hS a; intro a hS
   refine L_e hS (e_load rfl (by repeat constructor) ty_sc3 (by rfl)) rfl ?_; clear hS a; intro a hS
   (first | refine L_e hS (e_binN rfl rfl rfl (by omega)) rfl ?_ | refine L_e hS (e_bin rfl rfl rfl) rfl ?_); clear hS a; intro a hS
   refine L_e hS (e_nilCheck rfl) rfl ?_; clear hS a; intro a hS
   (first | refine L_e hS (e_fa0 rfl ty_fo93_1) rfl ?_ | refine L_e hS (e_faK rfl ty_fo93_1) rfl ?_); clear hS a; intro a hS
   refine L_op (s_store hS rfl rfl rfl ty_sz3 (by repeat constructor) (by repeat constructor) ?_); clear hS; intro w hS
   refine nL (nT (cS (cR ?_)))
   refine L_e hS (e_assign rfl) rfl ?_; clear hS a; intro a hS
   refine nL (nT (wp_ret ?_))
   refine c_ret1 hS Tryz.results92 (.tmp rfl) ?_
   have h1 : one pd (l.drop p) = true := by simpa using hc29
   exact ⟨(), by rw [h1], hS.chg, by unfold stN; rw [if_pos h1]; exact hS.ok (rdA br q c l (p + 1)) (by repeat constructor), fun b hb => .inl hb⟩
def bBl : ByteArray := ⟨#[32, 9, 10, 13]⟩
theorem some_bl : Some bBl jBl := fun x => by
 unfold jBl bBl
 refine decide_eq_decide.2 ?_
 simp only [List.mem_cons, List.not_mem_nil, or_false]
 have e : ∀ y : UInt8, x = y ↔ x.toNat = y.toNat := fun y => ⟨fun h => by rw [h], fun h => UInt8.toNat_inj.1 h⟩
 rw [e, e, e, e]
 exact Iff.rfl
theorem blN_le (L : List UInt8) : blN L ≤ L.length := (List.takeWhile_sublist _).length_le
theorem dgN_le (L : List UInt8) : dgN L ≤ L.length := (List.takeWhile_sublist _).length_le
set_option maxRecDepth 100000 in
theorem jBlanks_M (W0 : World) (br : Nat) (q : Option Addr) (c : Nat) (l : List UInt8) (ht : TxA W0 q c l) (p : Nat) (hp : p ≤ l.length) (w0 : World) (h : (rdA br q c l p).φ w0) (ho : oldφ W0 w0) (hb : W0.heap.size ≤ br) :
 MutC Tryz.prog 33 [.pointer (some ⟨br, 0, none⟩)] w0 (rdA br q c l p) (fun _ : Unit => .tuple [].toArray) (fun _ => rdA br q c l (p + blN (l.drop p))) := by
 have hle : blN (l.drop p) ≤ l.length - p := by have := blN_le (l.drop p); rwa [List.length_drop] at this
 refine c_enter [(0, .pointer (some ⟨br, 0, none⟩))] [rdA br q c l p, oldA W0] (fun k => k = br) Tryz.func33 rfl Tryz.ntmps33 ⟨rfl, trivial⟩ rfl (okC (ok_blk h) (okC (old_ok ho) okN)) (disC (sepC (fun k h1 h2 => by have h1 : k = br := h1; have h2 : k < W0.heap.size := h2; omega) sepN) dis1) (mineO (fun _ hb => hb) (mineC rfl mineN)) ?_
 intro a hS
 refine wB ?_
 skip
 refine c_loop (γ := Nat) (fun k a w => St 4 (fun k => k = br) w0 a w [(0, .pointer (some ⟨br, 0, none⟩))] [rdA br q c l (p + k), oldA W0] ∧ k ≤ blN (l.drop p)) (fun k => blN (l.drop p) - k) 0 ⟨hS.slots (by repeat (first | exact trivial | refine ⟨rfl, ?_⟩)), Nat.zero_le _⟩ ?_
 clear hS a; intro k a w hI
 obtain ⟨hS, hk⟩ := hI
 have h1 := tw_at (pd := jBl) (L := l.drop p) (k := k) hk
 rw [List.drop_drop] at h1
 refine cS (cS (cR ?_))
 refine L_e hS (e_move rfl) rfl ?_; clear hS a; intro a hS
 refine L_op (s_callM hS (.cons rfl (.cons rfl .nil)) cf92 rfl (jMay_M W0 br q c l ht bBl jBl some_bl (p + k) (by omega) _ (hS.gg (X := rdA br q c l (p + k))) (hS.gg (X := oldA W0)) hb) (fun x => (by repeat constructor)) rfl ?_); clear hS a; intro x3 a w hS
 unfold stN at hS; rw [h1] at hS; simp only [decide_eq_true_eq] at hS
 refine nL (nT ?_)
 (first | refine c_ifD hS rfl ?_ ?_ | refine c_if hS rfl ?_ ?_) <;> intro hc3
 ·
  rw [if_pos hc3] at hS
  refine wS (nT (wB (wp_exit (x_hit ?_))))
  exact ⟨k + 1, by have h2 : k < blN (l.drop p) := hc3; omega, hS.slots (by repeat (first | exact trivial | refine ⟨rfl, ?_⟩)), hc3⟩
 rw [if_neg hc3] at hS
 refine wp_exit ?_
 refine x_then (x_then (x_hit ?_))
 refine r_norm ?_
 refine c_retN hS Tryz.results33 .nil rfl ?_
 obtain rfl : k = blN (l.drop p) := by have h2 : ¬ k < blN (l.drop p) := hc3; omega
 exact ⟨(), rfl, hS.chg, hS.ok (rdA br q c l (p + blN (l.drop p))) (by repeat constructor), fun b hb => .inl hb⟩
def isFault (E : Int → Prop) (v : Value) : Prop := ∃ p e : Int, E e ∧ v = .iface 95 (.agg [.int .i64 p, .int .i64 e].toArray)
def eNo (e : Int) : Prop := e ≠ 0
set_option maxRecDepth 100000 in
theorem jFail_Y (E : Int → Prop) (v : Value) (p e : Int) (he : E e) (X : Asn) (w0 : World) (_hX : X.ok w0) (_hm : X.mine = true) : MayC Tryz.prog 94 [v, .int .i64 p, .int .i64 e] w0 (isFault E) X (fun x : Empty => nomatch x) (fun x => nomatch x) := by
 refine c_enter [(0, v), (1, .int .i64 p), (2, .int .i64 e)] [] (fun k => X.F k) Tryz.func94 rfl Tryz.ntmps94 ⟨rfl, rfl, rfl, trivial⟩ rfl (by simp) (by simp) (by simp) ?_
 intro a hS
 refine cR ?_
 refine Rn hS (.m rfl <| .m rfl <| .c (e_build ty_z95 ty_pl95 (.one rfl rfl rfl (by repeat constructor) (.one rfl rfl rfl (by repeat constructor) .nil))) <| .c (e_mkIfS rfl ty_cc95) .n) ?_; clear hS a; intro a hS
 refine L_op (s_panic hS rfl ?_)
 exact ⟨hS.sl.defers, .inr ⟨_, ⟨p, e, he, rfl⟩, rfl, hS.chg⟩⟩
set_option maxRecDepth 100000 in
theorem jWrong_Y (br : Nat) (q : Option Addr) (c : Nat) (l : List UInt8) (p : Nat) (w0 : World) (h : (rdA br q c l p).φ w0) : MayC Tryz.prog 35 [.pointer (some ⟨br, 0, none⟩)] w0 (isFault eNo) (rdA br q c l p) (fun x : Empty => nomatch x) (fun x => nomatch x) := by
 refine c_enter [(0, .pointer (some ⟨br, 0, none⟩))] [rdA br q c l p] (fun k => k = br) Tryz.func35 rfl Tryz.ntmps35 ⟨rfl, trivial⟩ rfl (okC (ok_blk h) okN) dis1 (mineO (fun _ hb => hb) mineN) ?_
 intro a hS
 refine cR ?_
 unfold rdA rdB at hS
 refine Rn hS (.m rfl <| .m rfl <| .c (e_nilCheck rfl) .n) ?_; clear hS a; intro a hS
 (first | refine L_e hS (e_fa0 rfl ty_fo93_1) rfl ?_ | refine L_e hS (e_faK rfl ty_fo93_1) rfl ?_); clear hS a; intro a hS
 refine L_e hS (e_load rfl (by repeat constructor) ty_sc3 (by rfl)) rfl ?_; clear hS a; intro a hS
 refine L_op (s_callY hS (.cons rfl (.cons rfl (.cons rfl .nil))) cf94 rfl (jFail_Y eNo (.pointer (some ⟨br, 0, none⟩)) (p : Int) 11 (show (11 : Int) ≠ 0 by decide) (.blk br [.slice q l.length c, .int .i64 (p : Int)] 93) _ (hS.ok _ (.head _)) rfl) (fun x => (by repeat constructor)) rfl (by repeat constructor) ?_ ?_)
 ·
  intro vp wp hvp hdp hcp
  exact ⟨hdp, .inr ⟨vp, hvp, rfl, hcp⟩⟩
 clear hS a; intro x7 a w hS
 exact x7.elim
set_option maxRecDepth 100000 in
theorem jMust_Y (W0 : World) (br : Nat) (q : Option Addr) (c : Nat) (l : List UInt8) (ht : TxA W0 q c l) (z : Nat) (p : Nat) (hp : p ≤ l.length) (w0 : World) (h : (rdA br q c l p).φ w0) (ho : oldφ W0 w0) (hb : W0.heap.size ≤ br) :
 MayC Tryz.prog 100 [.pointer (some ⟨br, 0, none⟩), .int .u8 (z : Int)] w0 (fun v => isFault eNo v ∧ one (isB z) (l.drop p) = false) (rdA br q c l p) (fun _ : { _u : Unit // one (isB z) (l.drop p) = true } => .tuple [].toArray) (fun _ => rdA br q c l (p + 1)) := by
 have hn := ht.n
 refine c_enter [(0, .pointer (some ⟨br, 0, none⟩)), (1, .int .u8 (z : Int))] [rdA br q c l p, oldA W0] (fun k => k = br) Tryz.func100 rfl Tryz.ntmps100 ⟨rfl, rfl, trivial⟩ rfl (okC (ok_blk h) (okC (old_ok ho) okN)) (disC (sepC (fun k h1 h2 => by have h1 : k = br := h1; have h2 : k < W0.heap.size := h2; omega) sepN) dis1) (mineO (fun _ hb => hb) (mineC rfl mineN)) ?_
 intro a hS
 refine cS (cS ?_)
 refine c_drawS [] (by kernel_rfl) hS (sub_cons (X := .blk br [.slice q l.length c, .int .i64 (p : Int)] 93) (by repeat constructor) (sub_cons (X := oldA W0) (by repeat constructor) sub_nil)) ?_; clear hS; intro w hS
 simp only [List.length_cons, List.length_nil, Nat.zero_add, Nat.reduceAdd, List.replicate]
 unfold rdA rdB at hS
 refine Ry hS (.o 0 (tf 1 23) rfl wN (e_move rfl) rfl <| .o 1 (tf 2 22) rfl wN (e_nilCheck rfl) rfl .n) ?_; clear hS a; intro a hS
 (first | refine Zt0 2 (tf 3 21) hS rfl want_none (e_fa0 rfl ty_fo93_1) rfl (by kernel_rfl) rfl ?_ | refine Zt0 2 (tf 3 21) hS rfl want_none (e_faK rfl ty_fo93_1) rfl (by kernel_rfl) rfl ?_); clear hS a; intro a hS
 refine Rz hS (sub_cons (by repeat constructor) (sub_cons (by repeat constructor) sub_nil)) (.y 3 (tf 4 20) rfl wN (e_load rfl (by repeat constructor) ty_sc3 (by rfl)) rfl <| .o 4 (tf 5 19) rfl wN (e_move rfl) rfl <| .o 5 (tf 6 18) rfl wN (e_nilCheck rfl) rfl .n) ?_; clear hS a; intro a hS
 (first | refine Zt0 6 (tf 7 17) hS rfl want_none (e_fa0 rfl ty_fo93_0) rfl (by kernel_rfl) rfl ?_ | refine Zt0 6 (tf 7 17) hS rfl want_none (e_faK rfl ty_fo93_0) rfl (by kernel_rfl) rfl ?_); clear hS a; intro a hS
 refine Rz hS (sub_cons (by repeat constructor) (sub_cons (by repeat constructor) sub_nil)) (.y 7 (tf 8 16) rfl wN (e_load rfl (by repeat constructor) ty_sc27 (by rfl)) rfl <| .o 8 (tf 9 15) rfl wN (e_len rfl rfl ty_sl27) rfl <| .o 9 (tf 10 14) rfl wN (e_bin rfl rfl rfl) rfl <| .o 10 (tf 11 13) rfl wN (e_move rfl) rfl .n) ?_; clear hS a; intro a hS
 refine Z_merge 0 (tf 24 0) 27 (.bool (!(one (isB z) (l.drop p)))) hS ?_ ?_
 · intro hcM27
   (first | refine g_splitD (t := 14) hS rfl ?_ ?_ | refine g_split (t := 14) hS rfl ?_ ?_) <;> (clear hS; intro hg14 hS)
   ·
    refine Ry hS (.f 11 (tf 12 12) rfl rfl rfl rfl <| .f 12 (tf 13 11) rfl rfl rfl rfl <| .f 13 (tf 14 10) rfl rfl rfl rfl <| .f 14 (tf 15 9) rfl rfl rfl rfl <| .f 15 (tf 16 8) rfl rfl rfl rfl <| .f 16 (tf 17 7) rfl rfl rfl rfl <| .f 17 (tf 18 6) rfl rfl rfl rfl <| .f 18 (tf 19 5) rfl rfl rfl rfl <| .f 19 (tf 20 4) rfl rfl rfl rfl <| .f 20 (tf 21 3) rfl rfl rfl rfl <| .f 21 (tf 22 2) rfl rfl rfl rfl <| .f 22 (tf 23 1) rfl rfl rfl rfl <| .o 23 (tf 24 0) rfl wN (e_pk rfl rfl) rfl .n) ?_; clear hS a; intro a hS
    exact hcM27 _ _ (hS.ends 14 27 14 rfl (congrArg Value.bool (by rw [one_end (isB z) (by omega)]; rfl)) rfl rfl (by first | exact congrArg Value.bool (decide_eq_true hg14).symm | exact congrArg Value.bool hg14.symm | simp [hg14]) rfl)
   have hpl : p < l.length := by omega
   obtain ⟨b, off, x, hq, hx, hc⟩ := ht.cell hpl
   subst hq
   refine Ry hS (.o 11 (tf 12 12) rfl (want_go rfl rfl) (e_move rfl) rfl <| .o 12 (tf 13 11) rfl (want_go rfl rfl) (e_nilCheck rfl) rfl .n) ?_; clear hS a; intro a hS
   (first | refine Zt0 13 (tf 14 10) hS rfl (want_go rfl rfl) (e_fa0 rfl ty_fo93_0) rfl (by kernel_rfl) rfl ?_ | refine Zt0 13 (tf 14 10) hS rfl (want_go rfl rfl) (e_faK rfl ty_fo93_0) rfl (by kernel_rfl) rfl ?_); clear hS a; intro a hS
   refine Rz hS (sub_cons (by repeat constructor) (sub_cons (by repeat constructor) sub_nil)) (.y 14 (tf 15 9) rfl (want_go rfl rfl) (e_load rfl (by repeat constructor) ty_sc27 (by rfl)) rfl <| .o 15 (tf 16 8) rfl (want_go rfl rfl) (e_move rfl) rfl <| .o 16 (tf 17 7) rfl (want_go rfl rfl) (e_nilCheck rfl) rfl .n) ?_; clear hS a; intro a hS
   (first | refine Zt0 17 (tf 18 6) hS rfl (want_go rfl rfl) (e_fa0 rfl ty_fo93_1) rfl (by kernel_rfl) rfl ?_ | refine Zt0 17 (tf 18 6) hS rfl (want_go rfl rfl) (e_faK rfl ty_fo93_1) rfl (by kernel_rfl) rfl ?_); clear hS a; intro a hS
   refine Rz hS (sub_cons (by repeat constructor) (sub_cons (by repeat constructor) sub_nil)) (.y 18 (tf 19 5) rfl (want_go rfl rfl) (e_load rfl (by repeat constructor) ty_sc3 (by rfl)) rfl <| .o 19 (tf 20 4) rfl (want_go rfl rfl) (e_ixN rfl rfl ty_sl27 ty_sz5 (by omega)) rfl <| .y 20 (tf 21 3) rfl (want_go rfl rfl) (e_loadC rfl ty_sc5 (fun w hh => by rw [Nat.mul_one]; exact old_cell (hh (oldA W0) (by repeat constructor)) hc)) rfl <| .o 21 (tf 22 2) rfl (want_go rfl rfl) (e_move rfl) rfl <| .o 22 (tf 23 1) rfl (want_go rfl rfl) (e_bin rfl rfl rfl) rfl <| .o 23 (tf 24 0) rfl wN (e_pk rfl rfl) rfl .n) ?_; clear hS a; intro a hS
   exact hcM27 _ _ (hS.ends 14 27 14 rfl (congrArg Value.bool (by rw [one_at (isB z) hx]; unfold isB; rw [← decide_not]; exact decide_eq_decide.2 (by omega))) rfl rfl (by first | exact congrArg Value.bool (decide_eq_false hg14).symm | exact congrArg Value.bool hg14.symm | simp [hg14]) rfl)
 · clear hS a; intro a w hS
   refine Z_done (by kernel_rfl) ?_
   refine nT ?_
   (first | refine c_ifD hS rfl ?_ ?_ | refine c_if hS rfl ?_ ?_) <;> intro hc27
   ·
    refine cR ?_
    refine L_e hS (e_move rfl) rfl ?_; clear hS a; intro a hS
    refine L_op (s_callY hS (.cons rfl .nil) cf35 rfl (jWrong_Y br q c l p _ (hS.gg (X := rdA br q c l p))) (fun x => (by repeat constructor)) rfl (by repeat constructor) ?_ ?_)
    ·
     intro vp wp hvp hdp hcp
     refine p_then ?_
     exact ⟨hdp, .inr ⟨vp, ⟨hvp, by simpa using hc27⟩, rfl, hcp⟩⟩
    clear hS a; intro x29 a w hS
    exact x29.elim
   refine wS (nT (cR ?_))
   refine Rn hS (.m rfl <| .c (e_nilCheck rfl) .n) ?_; clear hS a; intro a hS
   (first | refine L_e hS (e_fa0 rfl ty_fo93_1) rfl ?_ | refine L_e hS (e_faK rfl ty_fo93_1) rfl ?_); clear hS a; intro a hS
   refine L_e hS (e_load rfl (by repeat constructor) ty_sc3 (by rfl)) rfl ?_; clear hS a; intro a hS
   (first | refine L_e hS (e_binN rfl rfl rfl (by omega)) rfl ?_ | refine L_e hS (e_bin rfl rfl rfl) rfl ?_); clear hS a; intro a hS
   refine L_e hS (e_nilCheck rfl) rfl ?_; clear hS a; intro a hS
   (first | refine L_e hS (e_fa0 rfl ty_fo93_1) rfl ?_ | refine L_e hS (e_faK rfl ty_fo93_1) rfl ?_); clear hS a; intro a hS
   refine L_op (s_store hS rfl rfl rfl ty_sz3 (by repeat constructor) (by repeat constructor) ?_); clear hS; intro w hS
   refine nL (r_norm ?_)
   refine c_retN hS Tryz.results100 .nil rfl ?_
   exact .inl ⟨⟨(), by simpa using hc27⟩, rfl, hS.chg, hS.ok (rdA br q c l (p + 1)) (by repeat constructor), fun b hb => .inl hb⟩
def bDg : ByteArray := ⟨#[48, 49, 50, 51, 52, 53, 54, 55, 56, 57]⟩
theorem some_dg : Some bDg jDg := fun x => by
 unfold jDg bDg
 refine decide_eq_decide.2 ?_
 simp only [List.mem_cons, List.not_mem_nil, or_false]
 have e : ∀ y : UInt8, x = y ↔ x.toNat = y.toNat := fun y => ⟨fun h => by rw [h], fun h => UInt8.toNat_inj.1 h⟩
 rw [e, e, e, e, e, e, e, e, e, e]
 show _ ↔ x.toNat = 48 ∨ x.toNat = 49 ∨ x.toNat = 50 ∨ x.toNat = 51 ∨ x.toNat = 52 ∨ x.toNat = 53 ∨ x.toNat = 54 ∨ x.toNat = 55 ∨ x.toNat = 56 ∨ x.toNat = 57
 omega
set_option maxRecDepth 100000 in
theorem jSome_Y (W0 : World) (br : Nat) (q : Option Addr) (c : Nat) (l : List UInt8) (ht : TxA W0 q c l) (p : Nat) (hp : p ≤ l.length) (w0 : World) (h : (rdA br q c l p).φ w0) (ho : oldφ W0 w0) (hb : W0.heap.size ≤ br) :
 MayC Tryz.prog 142 [.pointer (some ⟨br, 0, none⟩)] w0 (fun v => isFault eNo v ∧ someF (l.drop p) = none) (rdA br q c l p) (fun _ : { k : Nat // someF (l.drop p) = some k } => .tuple [].toArray) (fun x => rdA br q c l (p + x.1)) := by
 have hle : dgN (l.drop p) ≤ l.length - p := by have := dgN_le (l.drop p); rwa [List.length_drop] at this
 have h1 : ∀ {k}, k ≤ dgN (l.drop p) → one jDg (l.drop (p + k)) = decide (k < dgN (l.drop p)) := fun {k} hk => by
  have := tw_at (pd := jDg) (L := l.drop p) (k := k) hk
  rwa [List.drop_drop] at this
 have h0 := h1 (Nat.zero_le _)
 rw [Nat.add_zero] at h0
 refine c_enter [(0, .pointer (some ⟨br, 0, none⟩))] [rdA br q c l p, oldA W0] (fun k => k = br) Tryz.func142 rfl Tryz.ntmps142 ⟨rfl, trivial⟩ rfl (okC (ok_blk h) (okC (old_ok ho) okN)) (disC (sepC (fun k h1 h2 => by have h1 : k = br := h1; have h2 : k < W0.heap.size := h2; omega) sepN) dis1) (mineO (fun _ hb => hb) (mineC rfl mineN)) ?_
 intro a hS
 refine cS (cS (cR ?_))
 refine L_e hS (e_move rfl) rfl ?_; clear hS a; intro a hS
 refine L_op (s_callM hS (.cons rfl (.cons rfl .nil)) cf92 rfl (jMay_M W0 br q c l ht bDg jDg some_dg p hp _ (hS.gg (X := rdA br q c l p)) (hS.gg (X := oldA W0)) hb) (fun x => (by repeat constructor)) rfl ?_); clear hS a; intro x3 a w hS
 unfold stN at hS; rw [h0] at hS; simp only [decide_eq_true_eq] at hS
 refine L_e hS (e_not rfl) rfl ?_; clear hS a; intro a hS
 refine nL (nT ?_)
 (first | refine c_ifD hS rfl ?_ ?_ | refine c_if hS rfl ?_ ?_) <;> intro hc4
 ·
  have hz : dgN (l.drop p) = 0 := by simpa using hc4
  rw [if_neg (by omega)] at hS
  refine cR ?_
  refine L_e hS (e_move rfl) rfl ?_; clear hS a; intro a hS
  refine L_op (s_callY hS (.cons rfl .nil) cf35 rfl (jWrong_Y br q c l (p + 0) _ (hS.gg (X := rdA br q c l (p + 0)))) (fun x => (by repeat constructor)) rfl (by repeat constructor) ?_ ?_)
  ·
   intro vp wp hvp hdp hcp
   refine p_then ?_
   exact ⟨hdp, .inr ⟨vp, ⟨hvp, if_pos hz⟩, rfl, hcp⟩⟩
  clear hS a; intro x6 a w hS
  exact x6.elim
 have hz : 0 < dgN (l.drop p) := by simpa using hc4
 rw [if_pos hz] at hS
 refine wS (nT (wB ?_))
 skip
 refine c_loop (γ := Nat) (fun k a w => St 9 (fun k => k = br) w0 a w [(0, .pointer (some ⟨br, 0, none⟩))] [rdA br q c l (p + k), oldA W0] ∧ k ≤ dgN (l.drop p)) (fun k => dgN (l.drop p) - k) 1 ⟨hS.slots (by repeat (first | exact trivial | refine ⟨rfl, ?_⟩)), hz⟩ ?_
 clear hS a; intro k a w hI
 obtain ⟨hS, hk⟩ := hI
 refine cS (cS (cR ?_))
 refine L_e hS (e_move rfl) rfl ?_; clear hS a; intro a hS
 refine L_op (s_callM hS (.cons rfl (.cons rfl .nil)) cf92 rfl (jMay_M W0 br q c l ht bDg jDg some_dg (p + k) (by omega) _ (hS.gg (X := rdA br q c l (p + k))) (hS.gg (X := oldA W0)) hb) (fun x => (by repeat constructor)) rfl ?_); clear hS a; intro x8 a w hS
 unfold stN at hS; rw [h1 hk] at hS; simp only [decide_eq_true_eq] at hS
 refine nL (nT ?_)
 (first | refine c_ifD hS rfl ?_ ?_ | refine c_if hS rfl ?_ ?_) <;> intro hc8
 ·
  rw [if_pos hc8] at hS
  refine wS (nT (wB (wp_exit (x_hit ?_))))
  exact ⟨k + 1, by omega, hS.slots (by repeat (first | exact trivial | refine ⟨rfl, ?_⟩)), hc8⟩
 rw [if_neg hc8] at hS
 refine wp_exit ?_
 refine x_then (x_then (x_hit ?_))
 refine r_norm ?_
 refine c_retN hS Tryz.results142 .nil rfl ?_
 obtain rfl : k = dgN (l.drop p) := by omega
 exact .inl ⟨⟨dgN (l.drop p), if_neg (by omega)⟩, rfl, hS.chg, hS.ok (rdA br q c l (p + dgN (l.drop p))) (by repeat constructor), fun b hb => .inl hb⟩
theorem some_one (x : UInt8) : Some ⟨#[x]⟩ (isB x.toNat) := fun y => by
 unfold isB
 refine decide_eq_decide.2 ?_
 simp only [List.mem_cons, List.not_mem_nil, or_false]
 exact ⟨fun h => UInt8.toNat_inj.1 h, fun h => by rw [h]⟩
theorem some_two (x y : UInt8) (pd : UInt8 → Bool) (h : ∀ z, pd z = decide (z.toNat = x.toNat ∨ z.toNat = y.toNat)) : Some ⟨#[x, y]⟩ pd := fun z => by
 rw [h]
 refine decide_eq_decide.2 ?_
 simp only [List.mem_cons, List.not_mem_nil, or_false]
 have e : ∀ u : UInt8, z = u ↔ z.toNat = u.toNat := fun u => ⟨fun h => by rw [h], fun h => UInt8.toNat_inj.1 h⟩
 rw [e, e]
theorem str_bs (l : List UInt8) : strOfNums (bsI l) = tx l := by
 unfold strOfNums bsI tx
 congr 1
 rw [List.map_map]
 have : ((fun n : Int => UInt8.ofNat n.toNat) ∘ fun b : UInt8 => (b.toNat : Int)) = id := by
  funext b; simp
 rw [this, List.map_id]
theorem bsI_piece (l : List UInt8) (a b : Nat) : ((bsI l).take b).drop a = bsI ((l.take b).drop a) := by unfold bsI; rw [List.map_drop, List.map_take]
theorem sign_st (L : List UInt8) : signN L = stN (isB 45) L := rfl
theorem num_no1 {l : List UInt8} {p : Nat} (h : intF (l.drop (p + signN (l.drop p))) = none) : numF (l.drop p) = none := by
 unfold numF; rw [List.drop_drop, h]
theorem num_no2 {l : List UInt8} {p a : Nat} (h : intF (l.drop (p + signN (l.drop p))) = some a) (h2 : fracF (l.drop (p + signN (l.drop p) + a)) = none) : numF (l.drop p) = none := by
 unfold numF; rw [List.drop_drop, h]; simp only; rw [List.drop_drop, ← Nat.add_assoc, h2]
theorem num_no3 {l : List UInt8} {p a b : Nat} (h : intF (l.drop (p + signN (l.drop p))) = some a) (h2 : fracF (l.drop (p + signN (l.drop p) + a)) = some b) (h3 : expF (l.drop (p + signN (l.drop p) + a + b)) = none) : numF (l.drop p) = none := by
 unfold numF; rw [List.drop_drop, h]; simp only; rw [List.drop_drop, ← Nat.add_assoc, h2]; simp only; rw [List.drop_drop, ← Nat.add_assoc, ← Nat.add_assoc, h3]
theorem num_end {l : List UInt8} {p a b c : Nat} (h : intF (l.drop (p + signN (l.drop p))) = some a) (h2 : fracF (l.drop (p + signN (l.drop p) + a)) = some b) (h3 : expF (l.drop (p + signN (l.drop p) + a + b)) = some c) : numF (l.drop p) = if 40 < signN (l.drop p) + a + b + c then none else some (signN (l.drop p) + a + b + c) := by
 unfold numF; rw [List.drop_drop, h]; simp only; rw [List.drop_drop, ← Nat.add_assoc, h2]; simp only; rw [List.drop_drop, ← Nat.add_assoc, ← Nat.add_assoc, h3]
theorem some_le {L : List UInt8} {k : Nat} (h : someF L = some k) : k ≤ L.length := by
 unfold someF at h
 split at h
 · cases h
 · injection h with h; rw [← h]; exact dgN_le L
def numV (s : List UInt8) : Value := .agg [.int .i64 3, .string (tx s), .slice none 0 0, .slice none 0 0].toArray
set_option maxHeartbeats 2000000 in
set_option maxRecDepth 100000 in
theorem jNumber_Y (W0 : World) (br : Nat) (q : Option Addr) (c : Nat) (l : List UInt8) (ht : TxA W0 q c l) (p : Nat) (hp : p ≤ l.length) (w0 : World) (h : (rdA br q c l p).φ w0) (ho : oldφ W0 w0) (hb : W0.heap.size ≤ br) :
 MayC Tryz.prog 98 [.pointer (some ⟨br, 0, none⟩)] w0 (fun v => isFault eNo v ∧ numF (l.drop p) = none) (rdA br q c l p) (fun x : { k : Nat // numF (l.drop p) = some k } => numV ((l.drop p).take x.1)) (fun x => rdA br q c l (p + x.1)) := by
 have hn := ht.n
 obtain ⟨sg, hsg⟩ : ∃ sg, signN (l.drop p) = sg := ⟨_, rfl⟩
 have hsl := st_le (pd := isB 45) hp
 rw [← sign_st, hsg] at hsl
 have dl : ∀ i, (l.drop i).length = l.length - i := fun i => List.length_drop
 refine c_enter [(0, .pointer (some ⟨br, 0, none⟩))] [rdA br q c l p, oldA W0] (fun k => k = br) Tryz.func98 rfl Tryz.ntmps98 ⟨rfl, trivial⟩ rfl (okC (ok_blk h) (okC (old_ok ho) okN)) (disC (sepC (fun k h1 h2 => by have h1 : k = br := h1; have h2 : k < W0.heap.size := h2; omega) sepN) dis1) (mineO (fun _ hb => hb) (mineC rfl mineN)) ?_
 intro a hS
 refine cS (cR ?_)
 refine L_op (s_alloc hS ty_z37 rfl ?_); clear hS a; intro a w b2 hS
 refine nL (nT (cS (cR ?_)))
 unfold rdA rdB at hS
 refine Rn hS (.m rfl <| .c (e_nilCheck rfl) .n) ?_; clear hS a; intro a hS
 (first | refine L_e hS (e_fa0 rfl ty_fo93_1) rfl ?_ | refine L_e hS (e_faK rfl ty_fo93_1) rfl ?_); clear hS a; intro a hS
 refine Rn hS (.c (e_load rfl (by repeat constructor) ty_sc3 (by rfl)) <| .a rfl .n) ?_; clear hS a; intro a hS
 refine nL (nT (cS (cR ?_)))
 refine L_e hS (e_move rfl) rfl ?_; clear hS a; intro a hS
 refine L_op (s_callM hS (.cons rfl (.cons rfl .nil)) cf92 rfl (jMay_M W0 br q c l ht ⟨#[45]⟩ (isB 45) (some_one 45) p hp _ (hS.gg (X := rdA br q c l p)) (hS.gg (X := oldA W0)) hb) (fun x => (by repeat constructor)) rfl ?_); clear hS a; intro x9 a w hS
 rw [← sign_st, hsg] at hS
 refine nL (nT ?_)
 refine c_cut (fun a w => ∃ k, intF (l.drop (p + sg)) = some k ∧ p + sg + k ≤ l.length ∧ St 47 (fun k => k = br) w0 a w [(3, .int .i64 (p : Int)), (0, .pointer (some ⟨br, 0, none⟩)), (2, .pointer (some ⟨b2, 0, none⟩))] [rdA br q c l (p + sg + k), .blk b2 [.int .i64 0, .string ⟨#[]⟩, .slice none 0 0, .slice none 0 0] 37, oldA W0]) ?_ ?_
 ·
  refine cS (cR ?_)
  refine L_e hS (e_move rfl) rfl ?_; clear hS a; intro a hS
  refine L_op (s_callM hS (.cons rfl (.cons rfl .nil)) cf92 rfl (jMay_M W0 br q c l ht ⟨#[48]⟩ (isB 48) (some_one 48) (p + sg) hsl _ (hS.gg (X := rdA br q c l (p + sg))) (hS.gg (X := oldA W0)) hb) (fun x => (by repeat constructor)) rfl ?_); clear hS a; intro x11 a w hS
  refine L_e hS (e_not rfl) rfl ?_; clear hS a; intro a hS
  refine nL (nT ?_)
  (first | refine c_ifD hS rfl ?_ ?_ | refine c_if hS rfl ?_ ?_) <;> intro hc12
  ·
   have h1 : one (isB 48) (l.drop (p + sg)) = false := by simpa using hc12
   have h2 : intF (l.drop (p + sg)) = someF (l.drop (p + sg)) := by unfold intF; rw [if_neg (by rw [h1]; decide)]
   rw [show stN (isB 48) (l.drop (p + sg)) = 0 from if_neg (by rw [h1]; decide), Nat.add_zero] at hS
   refine cR ?_
   refine L_e hS (e_move rfl) rfl ?_; clear hS a; intro a hS
   refine L_op (s_callY hS (.cons rfl .nil) cf142 rfl (jSome_Y W0 br q c l ht (p + sg) hsl _ (hS.gg (X := rdA br q c l (p + sg))) (hS.gg (X := oldA W0)) hb) (fun x => (by repeat constructor)) rfl (by repeat constructor) ?_ ?_)
   ·
    intro vp wp hvp hdp hcp
    refine p_then ?_
    exact ⟨hdp, .inr ⟨vp, ⟨hvp.1, num_no1 (by rw [hsg, h2]; exact hvp.2)⟩, rfl, hcp⟩⟩
   clear hS a; intro x14 a w hS
   refine nL ?_
   first
   | (have hq := h2
      exact ⟨x14.1, h2.trans x14.2, by have := some_le x14.2; rw [dl] at this; omega, (hS.slots (by repeat (first | exact trivial | refine ⟨rfl, ?_⟩))).pick (by repeat (first | exact Pick.nil | (refine Pick.cons (by repeat (first | exact Rem.head | apply Rem.tail)) ?_)))⟩)
   | (have h3 : one (isB 48) (l.drop (p + sg)) = true := by simpa using hc12
      rw [show stN (isB 48) (l.drop (p + sg)) = 1 from if_pos h3] at hS
      have h4 := st_le (pd := isB 48) hsl
      rw [show stN (isB 48) (l.drop (p + sg)) = 1 from if_pos h3] at h4
      exact ⟨1, by unfold intF; rw [if_pos h3], h4, (hS.slots (by repeat (first | exact trivial | refine ⟨rfl, ?_⟩))).pick (by repeat (first | exact Pick.nil | (refine Pick.cons (by repeat (first | exact Rem.head | apply Rem.tail)) ?_)))⟩)
  refine wS ?_
  first
  | (have hq := h2
     exact ⟨x14.1, h2.trans x14.2, by have := some_le x14.2; rw [dl] at this; omega, (hS.slots (by repeat (first | exact trivial | refine ⟨rfl, ?_⟩))).pick (by repeat (first | exact Pick.nil | (refine Pick.cons (by repeat (first | exact Rem.head | apply Rem.tail)) ?_)))⟩)
  | (have h3 : one (isB 48) (l.drop (p + sg)) = true := by simpa using hc12
     rw [show stN (isB 48) (l.drop (p + sg)) = 1 from if_pos h3] at hS
     have h4 := st_le (pd := isB 48) hsl
     rw [show stN (isB 48) (l.drop (p + sg)) = 1 from if_pos h3] at h4
     exact ⟨1, by unfold intF; rw [if_pos h3], h4, (hS.slots (by repeat (first | exact trivial | refine ⟨rfl, ?_⟩))).pick (by repeat (first | exact Pick.nil | (refine Pick.cons (by repeat (first | exact Rem.head | apply Rem.tail)) ?_)))⟩)
 clear hS a; intro a w hS
 obtain ⟨k1, hk1, hl1, hS⟩ := hS
 refine c_cut (fun a w => ∃ k, fracF (l.drop (p + sg + k1)) = some k ∧ p + sg + k1 + k ≤ l.length ∧ St 47 (fun k => k = br) w0 a w [(3, .int .i64 (p : Int)), (0, .pointer (some ⟨br, 0, none⟩)), (2, .pointer (some ⟨b2, 0, none⟩))] [rdA br q c l (p + sg + k1 + k), .blk b2 [.int .i64 0, .string ⟨#[]⟩, .slice none 0 0, .slice none 0 0] 37, oldA W0]) ?_ ?_
 ·
  refine cS (cR ?_)
  refine L_e hS (e_move rfl) rfl ?_; clear hS a; intro a hS
  refine L_op (s_callM hS (.cons rfl (.cons rfl .nil)) cf92 rfl (jMay_M W0 br q c l ht ⟨#[46]⟩ (isB 46) (some_one 46) (p + sg + k1) hl1 _ (hS.gg (X := rdA br q c l (p + sg + k1))) (hS.gg (X := oldA W0)) hb) (fun x => (by repeat constructor)) rfl ?_); clear hS a; intro x16 a w hS
  refine nL (nT ?_)
  (first | refine c_ifD hS rfl ?_ ?_ | refine c_if hS rfl ?_ ?_) <;> intro hc16
  ·
   have h4 := st_le (pd := isB 46) hl1
   rw [show stN (isB 46) (l.drop (p + sg + k1)) = 1 from if_pos hc16] at h4 hS
   have h2 : fracF (l.drop (p + sg + k1)) = (someF (l.drop (p + sg + k1 + 1))).map (· + 1) := by unfold fracF; rw [if_pos hc16, List.drop_drop]
   refine cR ?_
   refine L_e hS (e_move rfl) rfl ?_; clear hS a; intro a hS
   refine L_op (s_callY hS (.cons rfl .nil) cf142 rfl (jSome_Y W0 br q c l ht (p + sg + k1 + 1) h4 _ (hS.gg (X := rdA br q c l (p + sg + k1 + 1))) (hS.gg (X := oldA W0)) hb) (fun x => (by repeat constructor)) rfl (by repeat constructor) ?_ ?_)
   ·
    intro vp wp hvp hdp hcp
    refine p_then ?_
    exact ⟨hdp, .inr ⟨vp, ⟨hvp.1, num_no2 (by rw [hsg]; exact hk1) (by rw [hsg, h2, hvp.2]; rfl)⟩, rfl, hcp⟩⟩
   clear hS a; intro x18 a w hS
   refine nL ?_
   first
   | (have hq := h2
      exact ⟨x18.1 + 1, h2.trans (congrArg (Option.map (· + 1)) x18.2), by have := some_le x18.2; rw [dl] at this; omega, by rw [show p + sg + k1 + (x18.1 + 1) = p + sg + k1 + 1 + x18.1 by omega]; exact (hS.slots (by repeat (first | exact trivial | refine ⟨rfl, ?_⟩))).pick (by repeat (first | exact Pick.nil | (refine Pick.cons (by repeat (first | exact Rem.head | apply Rem.tail)) ?_)))⟩)
   | (have h3 : ¬ one (isB 46) (l.drop (p + sg + k1)) = true := by rw [hc16]; decide
      rw [show stN (isB 46) (l.drop (p + sg + k1)) = 0 from if_neg h3] at hS
      exact ⟨0, by unfold fracF; rw [if_neg h3], hl1, (hS.slots (by repeat (first | exact trivial | refine ⟨rfl, ?_⟩))).pick (by repeat (first | exact Pick.nil | (refine Pick.cons (by repeat (first | exact Rem.head | apply Rem.tail)) ?_)))⟩)
  refine wS ?_
  first
  | (have hq := h2
     exact ⟨x18.1 + 1, h2.trans (congrArg (Option.map (· + 1)) x18.2), by have := some_le x18.2; rw [dl] at this; omega, by rw [show p + sg + k1 + (x18.1 + 1) = p + sg + k1 + 1 + x18.1 by omega]; exact (hS.slots (by repeat (first | exact trivial | refine ⟨rfl, ?_⟩))).pick (by repeat (first | exact Pick.nil | (refine Pick.cons (by repeat (first | exact Rem.head | apply Rem.tail)) ?_)))⟩)
  | (have h3 : ¬ one (isB 46) (l.drop (p + sg + k1)) = true := by rw [hc16]; decide
     rw [show stN (isB 46) (l.drop (p + sg + k1)) = 0 from if_neg h3] at hS
     exact ⟨0, by unfold fracF; rw [if_neg h3], hl1, (hS.slots (by repeat (first | exact trivial | refine ⟨rfl, ?_⟩))).pick (by repeat (first | exact Pick.nil | (refine Pick.cons (by repeat (first | exact Rem.head | apply Rem.tail)) ?_)))⟩)
 clear hS a; intro a w hS
 obtain ⟨k2, hk2, hl2, hS⟩ := hS
 refine c_cut (fun a w => ∃ k, expF (l.drop (p + sg + k1 + k2)) = some k ∧ p + sg + k1 + k2 + k ≤ l.length ∧ St 47 (fun k => k = br) w0 a w [(3, .int .i64 (p : Int)), (0, .pointer (some ⟨br, 0, none⟩)), (2, .pointer (some ⟨b2, 0, none⟩))] [rdA br q c l (p + sg + k1 + k2 + k), .blk b2 [.int .i64 0, .string ⟨#[]⟩, .slice none 0 0, .slice none 0 0] 37, oldA W0]) ?_ ?_
 ·
  refine cS (cR ?_)
  refine L_e hS (e_move rfl) rfl ?_; clear hS a; intro a hS
  refine L_op (s_callM hS (.cons rfl (.cons rfl .nil)) cf92 rfl (jMay_M W0 br q c l ht ⟨#[101, 69]⟩ jE (some_two 101 69 jE (fun _ => rfl)) (p + sg + k1 + k2) hl2 _ (hS.gg (X := rdA br q c l (p + sg + k1 + k2))) (hS.gg (X := oldA W0)) hb) (fun x => (by repeat constructor)) rfl ?_); clear hS a; intro x20 a w hS
  refine nL (nT ?_)
  (first | refine c_ifD hS rfl ?_ ?_ | refine c_if hS rfl ?_ ?_) <;> intro hc20
  ·
   have h4 := st_le (pd := jE) hl2
   rw [show stN jE (l.drop (p + sg + k1 + k2)) = 1 from if_pos hc20] at h4 hS
   have h5 := st_le (pd := jPM) h4
   refine cS (cR ?_)
   refine L_e hS (e_move rfl) rfl ?_; clear hS a; intro a hS
   refine L_op (s_callM hS (.cons rfl (.cons rfl .nil)) cf92 rfl (jMay_M W0 br q c l ht ⟨#[43, 45]⟩ jPM (some_two 43 45 jPM (fun _ => rfl)) (p + sg + k1 + k2 + 1) h4 _ (hS.gg (X := rdA br q c l (p + sg + k1 + k2 + 1))) (hS.gg (X := oldA W0)) hb) (fun x => (by repeat constructor)) rfl ?_); clear hS a; intro x22 a w hS
   obtain ⟨s2, hs2⟩ : ∃ s2, stN jPM (l.drop (p + sg + k1 + k2 + 1)) = s2 := ⟨_, rfl⟩
   rw [hs2] at h5 hS
   have h2 : expF (l.drop (p + sg + k1 + k2)) = (someF (l.drop (p + sg + k1 + k2 + 1 + s2))).map (· + (1 + s2)) := by
    unfold expF
    rw [if_pos hc20, List.drop_drop, show pmN (l.drop (p + sg + k1 + k2 + 1)) = s2 from hs2, List.drop_drop, ← Nat.add_assoc]
   refine nL (nT (cR ?_))
   refine L_e hS (e_move rfl) rfl ?_; clear hS a; intro a hS
   refine L_op (s_callY hS (.cons rfl .nil) cf142 rfl (jSome_Y W0 br q c l ht (p + sg + k1 + k2 + 1 + s2) h5 _ (hS.gg (X := rdA br q c l (p + sg + k1 + k2 + 1 + s2))) (hS.gg (X := oldA W0)) hb) (fun x => (by repeat constructor)) rfl (by repeat constructor) ?_ ?_)
   ·
    intro vp wp hvp hdp hcp
    refine p_then ?_
    exact ⟨hdp, .inr ⟨vp, ⟨hvp.1, num_no3 (by rw [hsg]; exact hk1) (by rw [hsg]; exact hk2) (by rw [hsg, h2, hvp.2]; rfl)⟩, rfl, hcp⟩⟩
   clear hS a; intro x24 a w hS
   refine nL ?_
   first
   | (have hq := h2
      exact ⟨x24.1 + (1 + s2), h2.trans (congrArg (Option.map (· + (1 + s2))) x24.2), by have := some_le x24.2; rw [dl] at this; omega, by rw [show p + sg + k1 + k2 + (x24.1 + (1 + s2)) = p + sg + k1 + k2 + 1 + s2 + x24.1 by omega]; exact (hS.slots (by repeat (first | exact trivial | refine ⟨rfl, ?_⟩))).pick (by repeat (first | exact Pick.nil | (refine Pick.cons (by repeat (first | exact Rem.head | apply Rem.tail)) ?_)))⟩)
   | (have h3 : ¬ one jE (l.drop (p + sg + k1 + k2)) = true := by rw [hc20]; decide
      rw [show stN jE (l.drop (p + sg + k1 + k2)) = 0 from if_neg h3] at hS
      exact ⟨0, by unfold expF; rw [if_neg h3], hl2, (hS.slots (by repeat (first | exact trivial | refine ⟨rfl, ?_⟩))).pick (by repeat (first | exact Pick.nil | (refine Pick.cons (by repeat (first | exact Rem.head | apply Rem.tail)) ?_)))⟩)
  refine wS ?_
  first
  | (have hq := h2
     exact ⟨x24.1 + (1 + s2), h2.trans (congrArg (Option.map (· + (1 + s2))) x24.2), by have := some_le x24.2; rw [dl] at this; omega, by rw [show p + sg + k1 + k2 + (x24.1 + (1 + s2)) = p + sg + k1 + k2 + 1 + s2 + x24.1 by omega]; exact (hS.slots (by repeat (first | exact trivial | refine ⟨rfl, ?_⟩))).pick (by repeat (first | exact Pick.nil | (refine Pick.cons (by repeat (first | exact Rem.head | apply Rem.tail)) ?_)))⟩)
  | (have h3 : ¬ one jE (l.drop (p + sg + k1 + k2)) = true := by rw [hc20]; decide
     rw [show stN jE (l.drop (p + sg + k1 + k2)) = 0 from if_neg h3] at hS
     exact ⟨0, by unfold expF; rw [if_neg h3], hl2, (hS.slots (by repeat (first | exact trivial | refine ⟨rfl, ?_⟩))).pick (by repeat (first | exact Pick.nil | (refine Pick.cons (by repeat (first | exact Rem.head | apply Rem.tail)) ?_)))⟩)
 clear hS a; intro a w hS
 obtain ⟨k3, hk3, hl3, hS⟩ := hS
 have hend := num_end (l := l) (p := p) (by rw [hsg]; exact hk1) (by rw [hsg]; exact hk2) (by rw [hsg]; exact hk3)
 rw [hsg] at hend
 refine cS (cS (cR ?_))
 unfold rdA rdB at hS
 refine Rn hS (.m rfl <| .c (e_nilCheck rfl) .n) ?_; clear hS a; intro a hS
 (first | refine L_e hS (e_fa0 rfl ty_fo93_1) rfl ?_ | refine L_e hS (e_faK rfl ty_fo93_1) rfl ?_); clear hS a; intro a hS
 refine Rn hS (.c (e_load rfl (by repeat constructor) ty_sc3 (by rfl)) <| .m rfl .n) ?_; clear hS a; intro a hS
 (first | refine L_e hS (e_binN rfl rfl rfl (by omega)) rfl ?_ | refine L_e hS (e_bin rfl rfl rfl) rfl ?_); clear hS a; intro a hS
 refine L_e hS (e_bin rfl rfl rfl) rfl ?_; clear hS a; intro a hS
 refine nL (nT ?_)
 (first | refine c_ifD hS rfl ?_ ?_ | refine c_if hS rfl ?_ ?_) <;> intro hc31
 ·
  refine cR ?_
  refine Rn hS (.m rfl <| .m rfl .n) ?_; clear hS a; intro a hS
  refine L_op (s_callY hS (.cons rfl (.cons rfl (.cons rfl .nil))) cf94 rfl (jFail_Y eNo (.pointer (some ⟨br, 0, none⟩)) (p : Int) 8 (show (8 : Int) ≠ 0 by decide) (.blk br [.slice q l.length c, .int .i64 ((p + sg + k1 + k2 + k3 : Nat) : Int)] 93) _ (hS.ok _ (by repeat constructor)) rfl) (fun x => (by repeat constructor)) rfl (by repeat constructor) ?_ ?_)
  ·
   intro vp wp hvp hdp hcp
   refine p_then ?_
   exact ⟨hdp, .inr ⟨vp, ⟨hvp, by rw [hend, if_pos (by omega)]⟩, rfl, hcp⟩⟩
  clear hS a; intro x34 a w hS
  exact x34.elim
 have hfin : numF (l.drop p) = some (sg + k1 + k2 + k3) := by rw [hend, if_neg (by omega)]
 have hcap : l.length ≤ c ∨ l.length = 0 := by
  rcases Nat.eq_zero_or_pos l.length with h0 | h0
  · exact .inr h0
  · obtain ⟨b, off, c', e, h1, _⟩ := ht.lies.some (fun e => by have := congrArg List.length e; rw [bsI_len] at this; simp only [List.length_nil] at this; omega)
    injection e with _ _ e3
    rw [bsI_len] at h1; exact .inl (by omega)
 refine wS (nT (cS ?_))
 refine c_drawS [12] (by kernel_rfl) hS (sub_cons (X := .blk br [.slice q l.length c, .int .i64 ((p + sg + k1 + k2 + k3 : Nat) : Int)] 93) (by repeat constructor) (sub_cons (X := oldA W0) (by repeat constructor) sub_nil)) ?_; clear hS; intro w hS
 simp only [List.length_cons, List.length_nil, Nat.zero_add, Nat.reduceAdd, List.replicate]
 refine Ry hS (.o 0 (tf 1 12) rfl wN (e_move rfl) rfl <| .o 1 (tf 2 11) rfl wN (e_nilCheck rfl) rfl .n) ?_; clear hS a; intro a hS
 (first | refine Zt0 2 (tf 3 10) hS rfl want_none (e_fa0 rfl ty_fo93_0) rfl (by kernel_rfl) rfl ?_ | refine Zt0 2 (tf 3 10) hS rfl want_none (e_faK rfl ty_fo93_0) rfl (by kernel_rfl) rfl ?_); clear hS a; intro a hS
 refine Rz hS (sub_cons (by repeat constructor) (sub_cons (by repeat constructor) sub_nil)) (.y 3 (tf 4 9) rfl wN (e_load rfl (by repeat constructor) ty_sc27 (by rfl)) rfl <| .o 4 (tf 5 8) rfl wN (e_move rfl) rfl <| .o 5 (tf 6 7) rfl wN (e_move rfl) rfl <| .o 6 (tf 7 6) rfl wN (e_nilCheck rfl) rfl .n) ?_; clear hS a; intro a hS
 (first | refine Zt0 7 (tf 8 5) hS rfl want_none (e_fa0 rfl ty_fo93_1) rfl (by kernel_rfl) rfl ?_ | refine Zt0 7 (tf 8 5) hS rfl want_none (e_faK rfl ty_fo93_1) rfl (by kernel_rfl) rfl ?_); clear hS a; intro a hS
 refine Rz hS (sub_cons (by repeat constructor) (sub_cons (by repeat constructor) sub_nil)) (.y 8 (tf 9 4) rfl wN (e_load rfl (by repeat constructor) ty_sc3 (by rfl)) rfl <| .o 9 (tf 10 3) rfl wN (e_slB (i := p) (j := p + sg + k1 + k2 + k3) rfl rfl rfl ty_sl27 ty_sz5 ⟨by omega, by omega⟩) rfl <| .y 10 (tf 11 2) rfl wN (e_str (l := ((bsI l).take (p + sg + k1 + k2 + k3)).drop p) rfl ty_sl27 ty_u5 ty_u9 (fun w hh => (old_by (hh (oldA W0) (by repeat constructor)) ht.lies).piece (by omega) hl3)) rfl <| .o 11 (tf 12 1) rfl wN (e_build ty_z37 ty_pl37 (.one rfl rfl rfl (by repeat constructor) (.one rfl rfl rfl (by repeat constructor) .nil))) rfl .n) ?_; clear hS a; intro a hS
 refine Zo 12 (tf 13 0) hS rfl wN rfl (s_storeA hS rfl rfl ty_sz37 (by repeat constructor) (by rfl) (by rfl) (by rfl) ?_); clear hS; intro w hS
 refine Z_last (by simp) ?_
 refine Z_done (by kernel_rfl) ?_
 refine nT (wp_ret ?_)
 refine c_ret1 hS Tryz.results98 (.cellA rfl (by repeat constructor) ty_st37 ty_sz37 (by rfl)) ?_
 refine .inl ⟨⟨sg + k1 + k2 + k3, hfin⟩, ?_, hS.chg, ?_, fun b hb => .inl hb⟩
 · rw [bsI_piece, str_bs]
   unfold numV
   rw [show (l.take (p + sg + k1 + k2 + k3)).drop p = (l.drop p).take (sg + k1 + k2 + k3) by rw [List.take_drop, Nat.add_assoc, Nat.add_assoc, Nat.add_assoc, Nat.add_assoc, Nat.add_assoc]]
 · have h9 := hS.ok (rdA br q c l (p + sg + k1 + k2 + k3)) (by repeat constructor)
   rw [show p + sg + k1 + k2 + k3 = p + (sg + k1 + k2 + k3) by omega] at h9
   exact h9
end Go.Proofs.YtlccmgeclhdegaaGreatDoor
namespace Go.Proofs
open Go.Shelf
def Tryz.lays7d_ren : Go.Shelf.Ren := ⟨fun | 32 => 141 | 49 => 185 | n => n, fun | 30 => 27 | 21 => 21 | 3 => 3 | 0 => 0 | 5 => 5 | 4 => 4 | 33 => 211 | 66 => 200 | 25 => 204 | 69 => 203 | 68 => 202 | n => n, fun | 2 => 0 | 3 => 1 | n => n⟩
theorem Tryz.lays7d : Go.Proofs.Lays7.n32 Tryz.prog Tryz.lays7d_ren := {
  mixed := by kernel_rfl
  f32 := Tryz.func141.trans (congrArg some (by kernel_rfl))
  f49 := Tryz.func185.trans (congrArg some (by kernel_rfl))
  t0 := Tryz.underlying0
  a0 := Tryz.isAgg0
  z0 := Tryz.sizeOf0
  v0 := Tryz.zeroValue0
  i0 := by kernel_rfl
  t3 := Tryz.underlying3
  a3 := Tryz.isAgg3
  z3 := Tryz.sizeOf3
  v3 := Tryz.zeroValue3
  i3 := by kernel_rfl
  t4 := Tryz.underlying4
  a4 := Tryz.isAgg4
  z4 := Tryz.sizeOf4
  v4 := Tryz.zeroValue4
  i4 := by kernel_rfl
  t5 := Tryz.underlying5
  a5 := Tryz.isAgg5
  z5 := Tryz.sizeOf5
  v5 := Tryz.zeroValue5
  i5 := by kernel_rfl
  t21 := Tryz.underlying21
  a21 := Tryz.isAgg21
  z21 := Tryz.sizeOf21
  v21 := Tryz.zeroValue21
  i21 := by kernel_rfl
  t25 := Tryz.underlying204
  a25 := Tryz.isAgg204
  z25 := Tryz.sizeOf204
  v25 := Tryz.zeroValue204
  i25 := by kernel_rfl
  t30 := Tryz.underlying27
  a30 := Tryz.isAgg27
  z30 := Tryz.sizeOf27
  v30 := Tryz.zeroValue27
  i30 := by kernel_rfl
  t33 := Tryz.underlying211
  a33 := Tryz.isAgg211
  z33 := Tryz.sizeOf211
  v33 := Tryz.zeroValue211
  i33 := by kernel_rfl
  t66 := Tryz.underlying200
  a66 := Tryz.isAgg200
  z66 := Tryz.sizeOf200
  t68 := Tryz.underlying202
  a68 := Tryz.isAgg202
  z68 := Tryz.sizeOf202
  v68 := Tryz.zeroValue202
  i68 := by kernel_rfl
  t69 := Tryz.underlying203
  a69 := Tryz.isAgg203
  z69 := Tryz.sizeOf203
  v69 := Tryz.zeroValue203
  i69 := by kernel_rfl
  g2 := by kernel_rfl
  g3 := by kernel_rfl }
end Go.Proofs
namespace Go.Proofs.YtlccmgeclhdegaaGreatDoor
open Go.RowKit
theorem dec_hiJ {b : UInt8} {t : List UInt8} (h : 128 ≤ b.toNat) : (Lib.decodeL (b :: t)).1 = 65533 ∨ 2 ≤ (Lib.decodeL (b :: t)).2 := by
 rw [Lib.decodeL_N]
 have h0 : ((b :: t).getD 0 0).toNat = b.toNat := rfl
 rw [h0]
 generalize (List.getD (b :: t) 1 0).toNat = y1
 generalize (List.getD (b :: t) 2 0).toNat = y2
 generalize (List.getD (b :: t) 3 0).toNat = y3
 unfold Lib.decodeN
 rw [if_neg (by omega)]
 repeat' split
 all_goals first | exact .inl rfl | exact .inr (by simp)
theorem dec_multi {n y0 y1 y2 y3 r k : Nat} (h : Lib.decodeN n y0 y1 y2 y3 = (r, k)) (h0 : 128 ≤ y0) (hk : 2 ≤ k) :
 (k = 2 ∧ 1 < n ∧ 128 ≤ y1 ∧ ∀ m z2 z3, 1 < m → Lib.decodeN m y0 y1 z2 z3 = (r, k)) ∨ (k = 3 ∧ 2 < n ∧ 128 ≤ y1 ∧ 128 ≤ y2 ∧ ∀ m z3, 2 < m → Lib.decodeN m y0 y1 y2 z3 = (r, k)) ∨ (k = 4 ∧ 3 < n ∧ 128 ≤ y1 ∧ 128 ≤ y2 ∧ 128 ≤ y3 ∧ ∀ m, 3 < m → Lib.decodeN m y0 y1 y2 y3 = (r, k)) := by
 unfold Lib.decodeN at h
 rw [if_neg (by omega)] at h
 by_cases c1 : y0 / 32 = 6 ∧ (1 < n ∧ y1 / 64 = 2)
 · rw [if_pos c1] at h
   split at h
   · rename_i c2
     refine .inl ⟨by injection h with _ e; exact e.symm, c1.2.1, by omega, fun m z2 z3 hm => ?_⟩
     unfold Lib.decodeN
     rw [if_neg (by omega), if_pos ⟨c1.1, hm, c1.2.2⟩, if_pos c2]; exact h
   · injection h with _ e; omega
 rw [if_neg c1] at h
 by_cases c2 : y0 / 16 = 14 ∧ (1 < n ∧ y1 / 64 = 2) ∧ (2 < n ∧ y2 / 64 = 2)
 · rw [if_pos c2] at h
   split at h
   · rename_i c3
     refine .inr (.inl ⟨by injection h with _ e; exact e.symm, c2.2.2.1, by omega, by omega, fun m z3 hm => ?_⟩)
     unfold Lib.decodeN
     rw [if_neg (by omega), if_neg (by omega), if_pos ⟨c2.1, ⟨by omega, c2.2.1.2⟩, hm, c2.2.2.2⟩, if_pos c3]; exact h
   · injection h with _ e; omega
 rw [if_neg c2] at h
 by_cases c3 : y0 / 8 = 30 ∧ (1 < n ∧ y1 / 64 = 2) ∧ (2 < n ∧ y2 / 64 = 2) ∧ (3 < n ∧ y3 / 64 = 2)
 · rw [if_pos c3] at h
   split at h
   · rename_i c4
     refine .inr (.inr ⟨by injection h with _ e; exact e.symm, c3.2.2.2.1, by omega, by omega, by omega, fun m hm => ?_⟩)
     unfold Lib.decodeN
     rw [if_neg (by omega), if_neg (by omega), if_neg (by omega), if_pos ⟨c3.1, ⟨by omega, c3.2.1.2⟩, ⟨by omega, c3.2.2.1.2⟩, hm, c3.2.2.2.2⟩, if_pos c4]; exact h
   · injection h with _ e; omega
 rw [if_neg c3] at h
 injection h with _ e; omega
theorem dec_take {b : UInt8} {t : List UInt8} (hb : 128 ≤ b.toNat) (hk : 2 ≤ (Lib.decodeL (b :: t)).2) :
 (Lib.decodeL (b :: t)).2 ≤ (b :: t).length ∧ (∀ c ∈ (b :: t).take (Lib.decodeL (b :: t)).2, 128 ≤ c.toNat) ∧ ∀ X, Lib.decodeL ((b :: t).take (Lib.decodeL (b :: t)).2 ++ X) = Lib.decodeL (b :: t) := by
 obtain ⟨r, k, e⟩ : ∃ r k, Lib.decodeL (b :: t) = (r, k) := ⟨_, _, rfl⟩
 rw [e] at hk ⊢
 rw [Lib.decodeL_N] at e
 simp only at hk ⊢
 rcases dec_multi e (show 128 ≤ ((b :: t).getD 0 0).toNat from hb) hk with ⟨rfl, h1, h2, h3⟩ | ⟨rfl, h1, h2, h3, h4⟩ | ⟨rfl, h1, h2, h3, h4, h5⟩
 · match t, h1, h2, h3 with
   | c :: t, _, h2, h3 =>
     refine ⟨by simp, fun x hx => ?_, fun X => ?_⟩
     · simp at hx; rcases hx with rfl | rfl; exact hb; exact h2
     · rw [Lib.decodeL_N]; exact h3 _ _ _ (by simp)
 · match t, h1, h2, h3, h4 with
   | c :: d :: t, _, h2, h3, h4 =>
     refine ⟨by simp, fun x hx => ?_, fun X => ?_⟩
     · simp at hx; rcases hx with rfl | rfl | rfl; exact hb; exact h2; exact h3
     · rw [Lib.decodeL_N]; exact h4 _ _ (by simp)
   | [c], h1, _, _, _ => simp at h1
 · match t, h1, h2, h3, h4, h5 with
   | c :: d :: f :: t, _, h2, h3, h4, h5 =>
     refine ⟨by simp, fun x hx => ?_, fun X => ?_⟩
     · simp at hx; rcases hx with rfl | rfl | rfl | rfl; exact hb; exact h2; exact h3; exact h4
     · rw [Lib.decodeL_N]; exact h5 _ (by simp)
   | [c], h1, _, _, _, _ => simp at h1
   | [c, d], h1, _, _, _, _ => simp at h1
def hxD (n : Nat) : UInt8 := if n < 10 then UInt8.ofNat (48 + n) else UInt8.ofNat (87 + n)
def qB (c : UInt8) : List UInt8 := if c.toNat = 34 ∨ c.toNat = 92 then [92, c] else if c.toNat < 32 ∨ c.toNat = 127 then [92, 117, 48, 48, hxD (c.toNat / 16), hxD (c.toNat % 16)] else [c]
def quoteL (s : List UInt8) : List UInt8 := 34 :: s.flatMap qB ++ [34]
theorem hx_back : ∀ n : Nat, n < 16 → hexV (hxD n).toNat = some n := by decide
theorem four_back {c : UInt8} (X : List UInt8) (h : c.toNat < 256) : fourF (48 :: 48 :: hxD (c.toNat / 16) :: hxD (c.toNat % 16) :: X) = some c.toNat := by
 unfold fourF
 simp only
 rw [hx_back _ (by omega), hx_back _ (by omega), show hexV (48 : UInt8).toNat = some 0 from rfl]
 simp only
 congr 1
 omega
theorem rune_ascii {b : UInt8} (h : b.toNat < 128) : Lib.encodeRune (b.toNat : Int) = [b] := by
 unfold Lib.encodeRune
 rw [Lib.encodeRuneZ_one (by omega) (by omega)]
 simp
theorem q_plain {c : UInt8} (h : ¬ (c.toNat = 34 ∨ c.toNat = 92)) (h2 : ¬ (c.toNat < 32 ∨ c.toNat = 127)) : qB c = [c] := by unfold qB; rw [if_neg h, if_neg h2]
theorem q_high {l : List UInt8} (h : ∀ c ∈ l, 128 ≤ c.toNat) : l.flatMap qB = l := by
 induction l with
 | nil => rfl
 | cons c t ih =>
   have := h c (.head _)
   rw [List.flatMap_cons, q_plain (by omega) (by omega), ih (fun x hx => h x (.tail _ hx))]; rfl
theorem str_quote : ∀ (m : Nat) (s : List UInt8), s.length ≤ m → Lib.validD s = true → ∀ (n : Nat) (rest acc : List UInt8) (u : Nat), s.length < n → strF n (s.flatMap qB ++ 34 :: rest) acc u = some (acc ++ s, u + (s.flatMap qB).length + 1)
 | _, [], _, _, n, rest, acc, u, hn => by
   obtain ⟨n, rfl⟩ : ∃ k, n = k + 1 := ⟨n - 1, by simp at hn; omega⟩
   simp [strF]
 | 0, b :: t, hm, _, _, _, _, _, _ => by simp at hm
 | m + 1, b :: t, hm, hv, n, rest, acc, u, hn => by
   obtain ⟨n, rfl⟩ : ∃ k, n = k + 1 := ⟨n - 1, by simp at hn; omega⟩
   have hm' : t.length ≤ m := by simpa using hm
   have hn' : t.length < n := by simpa using hn
   rw [Lib.validD_step _ (by simp)] at hv
   by_cases hb : b.toNat < 128
   · rw [Lib.decodeL_ascii b t hb] at hv
     rw [if_neg (by simp only; omega)] at hv
     simp only [List.drop_succ_cons, List.drop_zero] at hv
     have ih := str_quote m t hm' hv n rest (acc ++ [b])
     by_cases h1 : b.toNat = 34 ∨ b.toNat = 92
     · have e : qB b = [92, b] := by unfold qB; rw [if_pos h1]
       have he : escF (b :: (t.flatMap qB ++ 34 :: rest)) = some (b.toNat, 1) := by
        rcases h1 with h | h
        · obtain rfl : b = 34 := UInt8.toNat_inj.1 h; rfl
        · obtain rfl : b = 92 := UInt8.toNat_inj.1 h; rfl
       rw [List.flatMap_cons, e, List.append_assoc]
       show strF (n + 1) (92 :: b :: (t.flatMap qB ++ 34 :: rest)) acc u = _
       unfold strF
       simp only
       rw [if_neg (by decide), if_neg (by decide), if_pos (by decide), he]
       simp only
       rw [rune_ascii hb, List.drop_succ_cons, List.drop_zero, ih (u + 1 + 1) hn', List.append_assoc]
       simp; omega
     · by_cases h2 : b.toNat < 32 ∨ b.toNat = 127
       · have e : qB b = [92, 117, 48, 48, hxD (b.toNat / 16), hxD (b.toNat % 16)] := by unfold qB; rw [if_neg h1, if_pos h2]
         have he : escF (117 :: 48 :: 48 :: hxD (b.toNat / 16) :: hxD (b.toNat % 16) :: (t.flatMap qB ++ 34 :: rest)) = some (b.toNat, 5) := by
          unfold escF
          simp only
          rw [show marksL.findIdx? (· == (117 : UInt8)) = none by decide]
          simp only
          rw [if_pos (by decide), four_back _ (by omega)]
          simp only
          rw [if_pos (by omega)]
         rw [List.flatMap_cons, e, List.append_assoc]
         show strF (n + 1) (92 :: 117 :: 48 :: 48 :: hxD (b.toNat / 16) :: hxD (b.toNat % 16) :: (t.flatMap qB ++ 34 :: rest)) acc u = _
         unfold strF
         simp only
         rw [if_neg (by decide), if_neg (by decide), if_pos (by decide), he]
         simp only
         rw [rune_ascii hb]
         show strF n (t.flatMap qB ++ 34 :: rest) _ _ = _
         rw [ih (u + 1 + 5) hn', List.append_assoc]
         simp; omega
       · rw [List.flatMap_cons, q_plain h1 h2, List.append_assoc]
         show strF (n + 1) (b :: (t.flatMap qB ++ 34 :: rest)) acc u = _
         unfold strF
         simp only
         rw [if_neg (by omega), if_neg (by omega), if_neg (by omega), Lib.decodeL_ascii b _ hb, if_neg (by simp only; omega)]
         simp only [List.drop_succ_cons, List.drop_zero, List.take_succ_cons, List.take_zero]
         rw [ih (u + 1) hn', List.append_assoc]
         simp; omega
   · have hb' : 128 ≤ b.toNat := by omega
     split at hv
     · cases hv
     rename_i hno
     have hk : 2 ≤ (Lib.decodeL (b :: t)).2 := by
      rcases dec_hiJ (t := t) hb' with h | h
      · have := Lib.decodeL_width (b :: t)
        have h3 : (Lib.decodeL (b :: t)).2 ≠ 1 := fun e => hno ⟨h, e⟩
        have h4 : (Lib.decodeL (b :: t)).2 ≠ 0 := by omega
        omega
      · exact h
     obtain ⟨k1, k2, k3⟩ := dec_take hb' hk
     obtain ⟨r, k, e⟩ : ∃ r k, Lib.decodeL (b :: t) = (r, k) := ⟨_, _, rfl⟩
     rw [e] at hk hv k1 k2 k3 hno
     simp only at hk hv k1 k2 k3 hno
     have hsplit : (b :: t).flatMap qB = (b :: t).take k ++ ((b :: t).drop k).flatMap qB := by
      conv => lhs; rw [← List.take_append_drop k (b :: t)]
      rw [List.flatMap_append, q_high k2]
     rw [hsplit, List.append_assoc]
     obtain ⟨k', rfl⟩ : ∃ k', k = k' + 1 := ⟨k - 1, by omega⟩
     have hd := k3 (((b :: t).drop (k' + 1)).flatMap qB ++ 34 :: rest)
     have ih := str_quote m ((b :: t).drop (k' + 1)) (by rw [List.length_drop]; omega) hv n rest (acc ++ (b :: t).take (k' + 1)) (u + (k' + 1)) (by rw [List.length_drop, List.length_cons]; omega)
     rw [List.take_succ_cons] at hd ⊢
     show strF (n + 1) (b :: (t.take k' ++ _)) acc u = _
     unfold strF
     simp only
     rw [if_neg (by omega), if_neg (by omega), if_neg (by omega)]
     rw [List.cons_append] at hd
     rw [hd, if_neg hno]
     simp only
     have hl : (b :: t.take k').length = k' + 1 := by rw [← List.take_succ_cons, List.length_take]; omega
     have e1 : (b :: (t.take k' ++ (((b :: t).drop (k' + 1)).flatMap qB ++ 34 :: rest))).drop (k' + 1) = ((b :: t).drop (k' + 1)).flatMap qB ++ 34 :: rest := by
      rw [← List.cons_append, List.drop_append, hl, Nat.sub_self, List.drop_eq_nil_of_le (by omega)]; rfl
     have e2 : (b :: (t.take k' ++ (((b :: t).drop (k' + 1)).flatMap qB ++ 34 :: rest))).take (k' + 1) = (b :: t).take (k' + 1) := by
      rw [← List.cons_append, List.take_append, hl, Nat.sub_self, List.take_of_length_le (by omega), List.take_zero, List.append_nil]; rfl
     rw [e1, e2, ih]
     congr 1
     refine Prod.ext ?_ ?_
     · show acc ++ (b :: t).take (k' + 1) ++ (b :: t).drop (k' + 1) = acc ++ b :: t
       rw [List.append_assoc, List.take_append_drop]
     · simp only [List.length_append, hl]; omega
def blanks (b : List UInt8) : Prop := ∀ x ∈ b, jBl x = true
theorem blanks_nil : blanks [] := fun _ h => by cases h
theorem bl_app {b l : List UInt8} (hb : blanks b) (hl : one jBl l = false) : blN (b ++ l) = b.length := by
 induction b with
 | nil =>
   cases l with
   | nil => rfl
   | cons x t => unfold blN; rw [List.nil_append, List.takeWhile_cons_of_neg (by simpa [one] using hl)]
 | cons x b ih =>
   unfold blN at *
   rw [List.cons_append, List.takeWhile_cons_of_pos (hb x (.head _)), List.length_cons, ih (fun y hy => hb y (.tail _ hy)), List.length_cons]
theorem drop_app (x y : List UInt8) : (x ++ y).drop x.length = y := by simp
theorem drop_more {l y : List UInt8} {n : Nat} (x : List UInt8) (h : l.drop n = x ++ y) : l.drop (n + x.length) = y := by rw [← List.drop_drop, h, drop_app]
theorem drop_one1 {l y : List UInt8} {n : Nat} {c : UInt8} (h : l.drop n = c :: y) : l.drop (n + 1) = y := by rw [← List.drop_drop, h]; rfl
structure endJ (rest : List UInt8) : Prop where
 d : one jDg rest = false
 p : one (isB 46) rest = false
 e : one jE rest = false
theorem end_byte {c : UInt8} (X : List UInt8) (h : c.toNat = 44 ∨ c.toNat = 125 ∨ c.toNat = 93 ∨ jBl c = true) : endJ (c :: X) := by
 have h2 : c.toNat = 44 ∨ c.toNat = 125 ∨ c.toNat = 93 ∨ c.toNat = 32 ∨ c.toNat = 9 ∨ c.toNat = 10 ∨ c.toNat = 13 := by
  rcases h with h | h | h | h
  · exact .inl h
  · exact .inr (.inl h)
  · exact .inr (.inr (.inl h))
  · have := of_decide_eq_true h; omega
 exact ⟨decide_eq_false (by omega), decide_eq_false (by omega), decide_eq_false (by omega)⟩
theorem end_nil : endJ [] := ⟨rfl, rfl, rfl⟩
theorem end_app {b : List UInt8} {c : UInt8} (X : List UInt8) (hb : blanks b) (h : c.toNat = 44 ∨ c.toNat = 125 ∨ c.toNat = 93) : endJ (b ++ c :: X) := by
 cases b with
 | nil => exact end_byte X (h.elim .inl (fun h => .inr (h.elim .inl (fun h => .inr (.inl h)))))
 | cons x t => exact end_byte _ (.inr (.inr (.inr (hb x (.head _)))))
structure numLit (t : List UInt8) : Prop where
 f : ∃ s ds, t = s ++ ds ∧ (s = [] ∨ s = [45]) ∧ (∀ x ∈ ds, jDg x = true) ∧ ds ≠ [] ∧ (ds.head? = some 48 → ds = [48])
 n : t.length ≤ 40
theorem dg_app {ds rest : List UInt8} (h : ∀ x ∈ ds, jDg x = true) (h2 : one jDg rest = false) : dgN (ds ++ rest) = ds.length := by
 induction ds with
 | nil =>
   cases rest with
   | nil => rfl
   | cons x t => unfold dgN; rw [List.nil_append, List.takeWhile_cons_of_neg (by simpa [one] using h2)]
 | cons x ds ih =>
   unfold dgN at *
   rw [List.cons_append, List.takeWhile_cons_of_pos (h x (.head _)), List.length_cons, ih (fun y hy => h y (.tail _ hy)), List.length_cons]
theorem num_read {t : List UInt8} (h : numLit t) (rest : List UInt8) (he : endJ rest) : numF (t ++ rest) = some t.length := by
 obtain ⟨⟨s, ds, rfl, hs, hd, hne, h0⟩, hn⟩ := h
 have hsN : signN (s ++ ds ++ rest) = s.length := by
  rcases hs with rfl | rfl
  · cases ds with
    | nil => exact absurd rfl hne
    | cons x t =>
      have := of_decide_eq_true (hd x (.head _))
      unfold signN
      rw [if_neg]; rfl
      show ¬ isB 45 x = true
      unfold isB; rw [decide_eq_true_eq]; omega
  · rfl
 have hdr : (s ++ ds ++ rest).drop s.length = ds ++ rest := by rw [List.append_assoc, drop_app]
 have hi : intF (ds ++ rest) = some ds.length := by
  cases ds with
  | nil => exact absurd rfl hne
  | cons x t =>
    unfold intF
    by_cases hx : x = 48
    · subst hx
      have := h0 rfl
      rw [this]; rfl
    · rw [if_neg (by
        show ¬ isB 48 x = true
        unfold isB; rw [decide_eq_true_eq]
        exact fun e => hx (UInt8.toNat_inj.1 e))]
      unfold someF
      rw [dg_app hd he.d, if_neg (by simp)]
 have hdr2 : (s ++ ds ++ rest).drop (s.length + ds.length) = rest := by
  rw [show s.length + ds.length = (s ++ ds).length by simp, drop_app]
 unfold numF
 rw [hsN, hdr, hi]
 simp only
 rw [hdr2, show fracF rest = some 0 by unfold fracF; rw [he.p]; rfl]
 simp only
 rw [Nat.add_zero, hdr2, show expF rest = some 0 by unfold expF; rw [he.e]; rfl]
 simp only
 rw [List.length_append] at hn ⊢
 rw [if_neg (by omega)]
 rfl
theorem quote_len (s : List UInt8) : (quoteL s).length = (s.flatMap qB).length + 2 := by unfold quoteL; simp
theorem q_len (s : List UInt8) : s.length ≤ (s.flatMap qB).length := by
 induction s with
 | nil => exact Nat.le_refl _
 | cons c t ih =>
   rw [List.flatMap_cons, List.length_append, List.length_cons]
   have : 1 ≤ (qB c).length := by unfold qB; split; simp; split <;> simp
   omega
structure Rd (d N : Nat) (v : JV) (tv : List UInt8) : Prop where
 rd : ∀ n rest, N ≤ n → endJ rest → valF n d (tv ++ rest) = some (v, tv.length)
 h0 : ∀ X, one jBl (tv ++ X) = false
theorem rd_num (d : Nat) {t : List UInt8} (h : numLit t) : Rd d 1 (jNum t) t := by
 obtain ⟨x, t', e, hx⟩ : ∃ x t', t = x :: t' ∧ (x.toNat = 45 ∨ (48 ≤ x.toNat ∧ x.toNat ≤ 57)) := by
  obtain ⟨⟨s, ds, rfl, hs, hd, hne, _⟩, _⟩ := h
  cases ds with
  | nil => exact absurd rfl hne
  | cons x t' =>
    rcases hs with rfl | rfl
    · exact ⟨x, t', rfl, .inr (of_decide_eq_true (hd x (.head _)))⟩
    · exact ⟨45, x :: t', rfl, .inl rfl⟩
 refine ⟨fun n rest hn he => ?_, fun X => ?_⟩
 · obtain ⟨n, rfl⟩ : ∃ k, n = k + 1 := ⟨n - 1, by omega⟩
   have hr := num_read h rest he
   rw [e] at hr ⊢
   rw [List.cons_append] at hr ⊢
   unfold valF
   simp only
   rw [if_neg (by omega), if_neg (by omega), if_neg (by omega), if_pos hx, hr, Option.map_some]
   congr 2
   rw [← List.cons_append, List.take_append, Nat.sub_self, List.take_zero, List.append_nil, List.take_of_length_le (Nat.le_refl _)]
 · rw [e]; exact decide_eq_false (by omega)
theorem rd_str (d : Nat) {s : List UInt8} (h : Lib.validD s = true) : Rd d 1 (jStr s) (quoteL s) := by
 refine ⟨fun n rest hn _ => ?_, fun X => rfl⟩
 obtain ⟨n, rfl⟩ : ∃ k, n = k + 1 := ⟨n - 1, by omega⟩
 have hq := q_len s
 show valF (n + 1) d (34 :: (s.flatMap qB ++ [34]) ++ rest) = _
 rw [List.cons_append, List.append_assoc]
 unfold valF
 simp only
 rw [if_neg (by decide), if_neg (by decide), if_pos (by decide)]
 show (strF _ (s.flatMap qB ++ 34 :: rest) [] 1).map _ = _
 rw [str_quote s.length s (Nat.le_refl _) h _ rest [] 1 (by show s.length < (s.flatMap qB ++ 34 :: rest).length; rw [List.length_append, List.length_cons]; omega), Option.map_some, List.nil_append, quote_len]
 congr 2
 omega
theorem rd_word (d : Nat) {i : Nat} (h : i < 3) : Rd d 1 (.mk i [] [] []) (wordsJ.getD i []) := by
 refine ⟨fun n rest hn _ => ?_, fun X => ?_⟩
 · obtain ⟨n, rfl⟩ : ∃ k, n = k + 1 := ⟨n - 1, by omega⟩
   obtain _ | _ | _ | i := i
   · show valF (n + 1) d (110 :: 117 :: 108 :: 108 :: rest) = _
     unfold valF; simp only; rw [if_neg (by decide), if_neg (by decide), if_neg (by decide), if_neg (by decide)]; rfl
   · show valF (n + 1) d (102 :: 97 :: 108 :: 115 :: 101 :: rest) = _
     unfold valF; simp only; rw [if_neg (by decide), if_neg (by decide), if_neg (by decide), if_neg (by decide)]; rfl
   · show valF (n + 1) d (116 :: 114 :: 117 :: 101 :: rest) = _
     unfold valF; simp only; rw [if_neg (by decide), if_neg (by decide), if_neg (by decide), if_neg (by decide)]; rfl
   · omega
 · obtain _ | _ | _ | i := i
   · rfl
   · rfl
   · rfl
   · omega
inductive PM (pv : JV → List UInt8 → Prop) : List (List UInt8) → List JV → List UInt8 → Prop
 | one {n tv b1 b2 b3 b4 : List UInt8} {v : JV} (hn : Lib.validD n = true) (hv : pv v tv) (h1 : blanks b1) (h2 : blanks b2) (h3 : blanks b3) (h4 : blanks b4) : PM pv [n] [v] (b1 ++ (quoteL n ++ (b2 ++ 58 :: (b3 ++ (tv ++ b4)))))
 | more {n tv b1 b2 b3 b4 txt : List UInt8} {v : JV} {ns : List (List UInt8)} {l : List JV} (hn : Lib.validD n = true) (hv : pv v tv) (h1 : blanks b1) (h2 : blanks b2) (h3 : blanks b3) (h4 : blanks b4) (h : PM pv ns l txt) : PM pv (n :: ns) (v :: l) (b1 ++ (quoteL n ++ (b2 ++ 58 :: (b3 ++ (tv ++ (b4 ++ 44 :: txt))))))
theorem mem_read {d N m : Nat} {pre : List (List UInt8)} {preL : List JV} {n tv b1 b2 b3 b4 X : List UInt8} {v : JV} {c : UInt8} {u : Nat} (hn : Lib.validD n = true) (hv : Rd (d + 1) N v tv) (h1 : blanks b1) (h2 : blanks b2) (h3 : blanks b3) (h4 : blanks b4) (hm : N ≤ m)
 (hc : c.toNat = 44 ∨ c.toNat = 125 ∨ c.toNat = 93) (hpre : n ∉ pre) (hlen : preL.length ≠ 1000) :
 objL (m + 1) d (b1 ++ (quoteL n ++ (b2 ++ 58 :: (b3 ++ (tv ++ (b4 ++ c :: X)))))) pre preL u =
  if c.toNat = 125 then some (.mk 6 [] (pre ++ [n]) (preL ++ [v]), u + ((b1 ++ (quoteL n ++ (b2 ++ 58 :: (b3 ++ (tv ++ b4))))).length + 1))
  else if c.toNat = 44 then objL m d X (pre ++ [n]) (preL ++ [v]) (u + ((b1 ++ (quoteL n ++ (b2 ++ 58 :: (b3 ++ (tv ++ b4))))).length + 1))
  else none := by
 obtain ⟨l, hl⟩ : ∃ l, b1 ++ (quoteL n ++ (b2 ++ 58 :: (b3 ++ (tv ++ (b4 ++ c :: X))))) = l := ⟨_, rfl⟩
 have hbl : blN l = b1.length := by rw [← hl]; exact bl_app h1 rfl
 have hcb : one jBl (c :: X) = false := decide_eq_false (by omega)
 have d1 : l.drop b1.length = quoteL n ++ (b2 ++ 58 :: (b3 ++ (tv ++ (b4 ++ c :: X)))) := by rw [← hl, drop_app]
 have d1' : l.drop (b1.length + 1) = n.flatMap qB ++ 34 :: (b2 ++ 58 :: (b3 ++ (tv ++ (b4 ++ c :: X)))) := by
  rw [drop_one1 (c := 34) (y := n.flatMap qB ++ [34] ++ (b2 ++ 58 :: (b3 ++ (tv ++ (b4 ++ c :: X))))) d1, List.append_assoc]; rfl
 have hq := q_len n
 have hql := quote_len n
 have hlen2 : l.length = b1.length + ((quoteL n).length + (b2.length + (b3.length + (tv.length + (b4.length + (X.length + 1))) + 1))) := by rw [← hl]; simp only [List.length_append, List.length_cons]
 have hs : strF l.length (l.drop (b1.length + 1)) [] (b1.length + 1) = some (n, b1.length + (quoteL n).length) := by
  rw [d1', str_quote n.length n (Nat.le_refl _) hn _ _ _ _ (by omega), List.nil_append, hql]
  congr 2; omega
 have d2 : l.drop (b1.length + (quoteL n).length) = b2 ++ 58 :: (b3 ++ (tv ++ (b4 ++ c :: X))) := drop_more _ d1
 have e2 : blN (l.drop (b1.length + (quoteL n).length)) = b2.length := by rw [d2]; exact bl_app h2 rfl
 have d3 : l.drop (b1.length + (quoteL n).length + b2.length) = 58 :: (b3 ++ (tv ++ (b4 ++ c :: X))) := drop_more _ d2
 have d4 : l.drop (b1.length + (quoteL n).length + b2.length + 1) = b3 ++ (tv ++ (b4 ++ c :: X)) := drop_one1 d3
 have e4 : blN (l.drop (b1.length + (quoteL n).length + b2.length + 1)) = b3.length := by rw [d4]; exact bl_app h3 (hv.h0 _)
 have d5 : l.drop (b1.length + (quoteL n).length + b2.length + 1 + b3.length) = tv ++ (b4 ++ c :: X) := drop_more _ d4
 have e5 : valF m (d + 1) (l.drop (b1.length + (quoteL n).length + b2.length + 1 + b3.length)) = some (v, tv.length) := by rw [d5]; exact hv.rd m _ hm (end_app X h4 hc)
 have d6 : l.drop (b1.length + (quoteL n).length + b2.length + 1 + b3.length + tv.length) = b4 ++ c :: X := drop_more _ d5
 have e6 : blN (l.drop (b1.length + (quoteL n).length + b2.length + 1 + b3.length + tv.length)) = b4.length := by rw [d6]; exact bl_app h4 hcb
 have d7 : l.drop (b1.length + (quoteL n).length + b2.length + 1 + b3.length + tv.length + b4.length) = c :: X := drop_more _ d6
 have d8 := drop_one1 d7
 rw [hl]
 conv => lhs; unfold objL
 rw [hbl, d1, if_neg (by show ¬ true = false; decide), if_neg hlen, hs]
 simp only
 rw [if_neg hpre, e2, d3, if_neg (by show ¬ true = false; decide), e4, e5]
 simp only
 rw [e6, d7, d8]
 have hsum : b1.length + (quoteL n).length + b2.length + 1 + b3.length + tv.length + b4.length + 1 = (b1 ++ (quoteL n ++ (b2 ++ 58 :: (b3 ++ (tv ++ b4))))).length + 1 := by
  simp only [List.length_append, List.length_cons]; omega
 rw [hsum]
 have o1 : one (isB 125) (c :: X) = decide (c.toNat = 125) := rfl
 have o2 : one (isB 44) (c :: X) = decide (c.toNat = 44) := rfl
 rw [o1, o2]
 simp only [decide_eq_true_eq]
theorem obj_read {pv : JV → List UInt8 → Prop} {d N : Nat} (hpv : ∀ v tv, pv v tv → Rd (d + 1) N v tv) {ns : List (List UInt8)} {l : List JV} {txt : List UInt8} (h : PM pv ns l txt) : ∀ (m : Nat) (rest : List UInt8) (pre : List (List UInt8)) (preL : List JV) (u : Nat), (pre ++ ns).Nodup → preL.length + l.length ≤ 1000 → N + ns.length ≤ m →
 objL m d (txt ++ 125 :: rest) pre preL u = some (.mk 6 [] (pre ++ ns) (preL ++ l), u + txt.length + 1) := by
 induction h with
 | @one n tv b1 b2 b3 b4 v hn hv h1 h2 h3 h4 =>
   intro m rest pre preL u hd hl hm
   obtain ⟨m, rfl⟩ : ∃ k, m = k + 1 := ⟨m - 1, by simp at hm; omega⟩
   have hnp : n ∉ pre := fun h => (List.nodup_append.1 hd).2.2 n h n (.head _) rfl
   have := mem_read (d := d) (N := N) (m := m) (pre := pre) (preL := preL) (X := rest) (c := 125) (u := u) hn (hpv v tv hv) h1 h2 h3 h4 (by simp at hm; omega) (.inr (.inl rfl)) hnp (by simp at hl; omega)
   rw [if_pos (by decide)] at this
   rw [show b1 ++ (quoteL n ++ (b2 ++ 58 :: (b3 ++ (tv ++ b4)))) ++ 125 :: rest = b1 ++ (quoteL n ++ (b2 ++ 58 :: (b3 ++ (tv ++ (b4 ++ 125 :: rest))))) by simp [List.append_assoc], this]
   congr 2
 | @more n tv b1 b2 b3 b4 txt v ns l hn hv h1 h2 h3 h4 h ih =>
   intro m rest pre preL u hd hl hm
   obtain ⟨m, rfl⟩ : ∃ k, m = k + 1 := ⟨m - 1, by simp at hm; omega⟩
   have hnp : n ∉ pre := fun h => (List.nodup_append.1 hd).2.2 n h n (.head _) rfl
   have := mem_read (d := d) (N := N) (m := m) (pre := pre) (preL := preL) (X := txt ++ 125 :: rest) (c := 44) (u := u) hn (hpv v tv hv) h1 h2 h3 h4 (by simp at hm; omega) (.inl rfl) hnp (by simp at hl; omega)
   rw [if_neg (by decide), if_pos (by decide), ih m rest (pre ++ [n]) (preL ++ [v]) _ (by rw [List.append_assoc]; exact hd) (by simp at hl ⊢; omega) (by simp at hm ⊢; omega)] at this
   rw [show b1 ++ (quoteL n ++ (b2 ++ 58 :: (b3 ++ (tv ++ (b4 ++ 44 :: txt))))) ++ 125 :: rest = b1 ++ (quoteL n ++ (b2 ++ 58 :: (b3 ++ (tv ++ (b4 ++ 44 :: (txt ++ 125 :: rest)))))) by simp [List.append_assoc], this]
   rw [List.append_assoc, List.append_assoc]
   congr 2
   simp only [List.length_append, List.length_cons]; omega
theorem pm_head {pv : JV → List UInt8 → Prop} {ns : List (List UInt8)} {l : List JV} {txt : List UInt8} (h : PM pv ns l txt) : ∃ b X, blanks b ∧ txt = b ++ 34 :: X := by
 cases h with
 | one _ _ h1 => exact ⟨_, _, h1, rfl⟩
 | more _ _ h1 => exact ⟨_, _, h1, rfl⟩
theorem rd_obj {pv : JV → List UInt8 → Prop} {d N : Nat} (hd : d < 32) (hpv : ∀ v tv, pv v tv → Rd (d + 1) N v tv) {ns : List (List UInt8)} {l : List JV} {txt : List UInt8} (h : PM pv ns l txt) (hn : ns.Nodup) (hl : l.length ≤ 1000) : Rd d (N + ns.length + 1) (.mk 6 [] ns l) (123 :: (txt ++ [125])) := by
 refine ⟨fun m rest hm _ => ?_, fun X => rfl⟩
 obtain ⟨m, rfl⟩ : ∃ k, m = k + 1 := ⟨m - 1, by omega⟩
 obtain ⟨b, X, hb, e⟩ := pm_head h
 rw [List.cons_append, List.append_assoc]
 show valF (m + 1) d (123 :: (txt ++ 125 :: rest)) = _
 unfold valF
 simp only
 rw [if_pos (by decide), if_neg (by omega)]
 have hbl : blN (txt ++ 125 :: rest) = b.length := by rw [e, List.append_assoc]; exact bl_app hb rfl
 rw [hbl, show (txt ++ 125 :: rest).drop b.length = 34 :: X ++ 125 :: rest by rw [e, List.append_assoc, drop_app]]
 rw [if_neg (by show ¬ false = true; decide), obj_read hpv h m rest [] [] 1 (by simpa using hn) (by simpa using hl) (by omega)]
 simp only [List.nil_append]
 congr 2
 simp only [List.length_cons, List.length_append, List.length_nil]; omega
theorem rd_empty {d : Nat} (hd : d < 32) {b : List UInt8} (hb : blanks b) : Rd d 1 (.mk 6 [] [] []) (123 :: (b ++ [125])) := by
 refine ⟨fun m rest hm _ => ?_, fun X => rfl⟩
 obtain ⟨m, rfl⟩ : ∃ k, m = k + 1 := ⟨m - 1, by omega⟩
 rw [List.cons_append, List.append_assoc]
 show valF (m + 1) d (123 :: (b ++ 125 :: rest)) = _
 unfold valF
 simp only
 rw [if_pos (by decide), if_neg (by omega), show blN (b ++ 125 :: rest) = b.length from bl_app hb rfl, drop_app, if_pos (show one (isB 125) (125 :: rest) = true from rfl)]
 congr 2
 simp only [List.length_cons, List.length_append, List.length_nil]; omega
theorem parse_rd {N : Nat} {v : JV} {b tv b' : List UInt8} (h : Rd 0 N v tv) (hb : blanks b) (hb' : blanks b') (hl : (b ++ (tv ++ b')).length ≤ 65536) (hN : N ≤ 2 * (b ++ (tv ++ b')).length + 2) : parseF (b ++ (tv ++ b')) = some v := by
 obtain ⟨l, e⟩ : ∃ l, b ++ (tv ++ b') = l := ⟨_, rfl⟩
 have hbl : blN l = b.length := by rw [← e]; exact bl_app hb (h.h0 _)
 have d1 : l.drop b.length = tv ++ b' := by rw [← e, drop_app]
 have d2 : l.drop (b.length + tv.length) = b' := drop_more _ d1
 have hend : endJ b' := by
  cases b' with
  | nil => exact end_nil
  | cons x t => exact end_byte _ (.inr (.inr (.inr (hb' x (.head _)))))
 have hlb : blN b' = b'.length := by have := bl_app (l := []) hb' rfl; rwa [List.append_nil] at this
 have hlen : l.length = b.length + (tv.length + b'.length) := by rw [← e]; simp
 rw [e] at hl hN ⊢
 unfold parseF
 rw [if_neg (by omega), hbl, d1, h.rd _ _ hN hend]
 simp only
 rw [d2, hlb, if_neg (by omega)]
section
variable {P : Program} {n : NN} {a : Act} {L : List (Nat × Value)} {Γ : List Asn} {dst : Option Nat} {ty : Nat} {pos : String} {af : Array Edge} {g : Option (Nat × Bool)}
theorem e_ixA {T s b i : Nat} {x y : Operand} {k : IntKind} (hx : ev L x = some (.pointer (some ⟨b, 0, none⟩))) (hy : ev L y = some (.int k (i : Int))) (hT : P.underlying T = some (.array (P.arrayLen T) (P.elem T))) (hs : szOf P (P.elem T) = some s) (hi : i < P.arrayLen T) :
 Ex P n a L Γ ⟨dst, .indexAddr T x y, ty, pos, af, g⟩ (.pointer (some ⟨b, i * s, none⟩)) := fun hs' w _ => by
 have h1 := run_indexAt_array (P := P) (w := w) T ⟨b, 0, none⟩ k (i : Int) hT
 rw [if_pos ⟨by omega, by omega⟩, sizeOf_run hs] at h1
 simp only [Result.andThen_ok, Int.toNat_natCast, addr_add, Nat.zero_add] at h1
 simp [execOp, hs'.ev hx, hs'.ev hy, h1]
theorem e_shr {t t' : TypeId} {x : Operand} {k k' : IntKind} {i : Int} {j : Nat} (hx : ev L x = some (.int k i)) (hj : j ≤ k.bits) :
 Ex P n a L Γ ⟨dst, .binOp .shr t x (.const (.int k' (j : Int))) t', ty, pos, af, g⟩ (.int k (i / 2 ^ j)) := fun hs w _ => by
 have he : a.eval (.const (.int k' (j : Int))) = .int k' (j : Int) := rfl
 have h : ¬ (j : Int) < 0 := by omega
 simp only [execOp, hs.ev hx, he, eqGuard, binOp, Op.shift, Sem.run_bind]
 simp [h, Nat.min_eq_left hj]
 rw [Int.fdiv_eq_ediv_of_nonneg]
 exact Int.le_of_lt (Int.pow_pos (by decide))
theorem e_bitA {t t' : TypeId} {x y : Operand} {k : IntKind} {i j : Int} (hx : ev L x = some (.int k i)) (hy : ev L y = some (.int k j)) : Ex P n a L Γ ⟨dst, .binOp .and t x y t', ty, pos, af, g⟩ (.int k (bits .and k i j)) := fun hs w _ => by
 simp [execOp, hs.ev hx, hs.ev hy, eqGuard, binOp, intBits_and]
theorem e_bitO {t t' : TypeId} {x y : Operand} {k : IntKind} {i j : Int} (hx : ev L x = some (.int k i)) (hy : ev L y = some (.int k j)) : Ex P n a L Γ ⟨dst, .binOp .or t x y t', ty, pos, af, g⟩ (.int k (bits .or k i j)) := fun hs w _ => by
 simp [execOp, hs.ev hx, hs.ev hy, eqGuard, binOp, intBits_or]
end
theorem first_and : ∀ b : Fin 256, bits .and .u8 ((Lib.firstT b.val : Nat) : Int) 7 = ((Lib.firstT b.val % 8 : Nat) : Int) := by decide +kernel
theorem first_lt : ∀ b : Fin 256, Lib.firstT b.val < 256 ∧ Lib.firstT b.val / 16 < 16 := by decide +kernel
theorem first_sz : ∀ b : Fin 256, (1 < Lib.firstT b.val % 8 → 128 ≤ b.val) ∧ (b.val / 32 = 6 → 2 ≤ Lib.firstT b.val % 8 ∨ b.val = 192 ∨ b.val = 193) ∧ (b.val / 16 = 14 → Lib.firstT b.val % 8 = 3) ∧ (b.val / 8 = 30 → 4 ≤ Lib.firstT b.val % 8 ∨ 245 ≤ b.val) ∧ (Lib.firstT b.val % 8 ≤ 4) ∧ (1 ≤ Lib.firstT b.val % 8 ∨ b.val < 128) ∧ (b.val / 8 = 30 → Lib.firstT b.val % 8 = 4 ∨ Lib.firstT b.val % 8 = 1) ∧ (b.val / 32 = 6 → Lib.firstT b.val % 8 = 2 ∨ Lib.firstT b.val % 8 = 1) := by decide +kernel
theorem dec_short {x : UInt8} {t : List UInt8} (h : (x :: t).length < Lib.firstT x.toNat % 8) : Lib.decodeL (x :: t) = (65533, 1) := by
 have hx := x.toNat_lt
 have hs := first_sz ⟨x.toNat, hx⟩
 simp only at hs
 obtain ⟨h1, h2, h3, h4, h5, h6, h7, h8⟩ := hs
 have hl : 1 ≤ (x :: t).length := by simp
 rw [Lib.decodeL_N, show ((x :: t).getD 0 0).toNat = x.toNat from rfl]
 unfold Lib.decodeN
 have hb := h1 (by omega)
 rw [if_neg (by omega), if_neg (by omega), if_neg (by omega), if_neg (by omega)]
set_option maxRecDepth 100000 in
theorem full_P (W0 : World) (hU : Lib.Utf8Tabs 0 1 W0) (q : Option Addr) (c : Nat) (l : List UInt8) (hne : l ≠ []) (ht : TxA W0 q c l) (w0 : World) (ho : oldφ W0 w0) :
  NewC Tryz.prog 140 [.slice q l.length c] w0 (fun x : { b : Bool // b = false → Lib.decodeL l = (65533, 1) } => .bool x.1) (fun _ => none_) := by
  have hn := ht.n
  obtain ⟨x, t, hl⟩ : ∃ x t, l = x :: t := by cases l with | nil => exact absurd rfl hne | cons x t => exact ⟨x, t, rfl⟩
  have hpos : 0 < l.length := by rw [hl]; simp
  obtain ⟨b, off, x0, hq, hx0, hc0⟩ := ht.cell hpos
  obtain rfl : x0 = x := by rw [hl] at hx0; exact (Option.some.inj hx0).symm
  have hcell : ∀ j, j < l.length → ∃ y : UInt8, W0.cell? ⟨b, off + j, none⟩ = some (.int .u8 (y.toNat : Int)) := fun j hj => by
   obtain ⟨b', off', y, hq', _, hc⟩ := ht.cell hj
   rw [hq] at hq'
   injection hq' with hq'
   injection hq' with e1 e2
   subst e1; subst e2
   exact ⟨y, hc⟩
  subst hq
  have hxl := x0.toNat_lt
  have hf := hU.1 x0.toNat hxl
  have hlt := first_lt ⟨x0.toNat, hxl⟩
  have hand := first_and ⟨x0.toNat, hxl⟩
  simp only at hlt hand
  refine c_enter [(0, .slice (some ⟨b, off, none⟩) l.length c)] [oldA W0] noB Tryz.func140 rfl Tryz.ntmps140 ⟨rfl, trivial⟩ rfl (okC (old_ok ho) okN) dis1 (mineC (by rfl) mineN) ?_
  intro a hS
  refine cS (cR ?_)
  refine L_e hS (e_assign rfl) rfl ?_; clear hS a; intro a hS
  refine nL (nT (cS (cR ?_)))
  refine Rn hS (.m rfl <| .c (e_len rfl rfl ty_sl27) <| .a rfl .n) ?_; clear hS a; intro a hS
  refine nL (nT (cS (cS (cR ?_))))
  refine Rn hS (.m rfl <| .c (e_bin rfl rfl rfl) .n) ?_; clear hS a; intro a hS
  refine nL (nT ?_)
  replace hS := hS.is (t := 9) (c := false) rfl ((decide_eq_false (by omega)))
  refine c_if_f hS rfl ?_
  refine wS (nT (cS (cR ?_)))
  refine Rn hS (.m rfl <| .c (e_ixN (i := 0) rfl rfl ty_sl27 ty_sz5 (by omega)) <| .c (e_loadC rfl ty_sc5 (fun w hh => by rw [Nat.mul_one]; exact old_cell (hh (oldA W0) (by repeat constructor)) hc0)) <| .c (e_ixA (i := x0.toNat) rfl rfl (by kernel_rfl) (s := 1) (by kernel_rfl) (show x0.toNat < 256 from hxl)) <| .c (e_loadC rfl ty_sc5 (fun w hh => by rw [Nat.mul_one]; exact old_cell (hh (oldA W0) (by repeat constructor)) hf)) <| .a rfl .n) ?_; clear hS a; intro a hS
  refine nL (nT (cS (cS (cR ?_))))
  refine Rn hS (.m rfl <| .m rfl <| .c (e_bitA rfl rfl) .n) ?_; clear hS a; intro a hS
  rw [hand] at hS
  (first | refine L_e hS (e_convN rfl ty_u5 ty_u3 (by omega)) rfl ?_ | refine L_e hS (e_conv rfl ty_u5 ty_u3) rfl ?_); clear hS a; intro a hS
  refine L_e hS (e_bin rfl rfl rfl) rfl ?_; clear hS a; intro a hS
  refine nL (nT ?_)
  (first | refine c_ifD hS rfl ?_ ?_ | refine c_if hS rfl ?_ ?_) <;> intro hc19
  ·
   refine cS (cR ?_)
   refine L_e hS (e_assign rfl) rfl ?_; clear hS a; intro a hS
   refine nL (nT (wp_ret (r_then ?_)))
   refine c_ret1 hS Tryz.results140 (.tmp rfl) ?_
   exact ⟨⟨true, fun h => by cases h⟩, rfl, hS.chg, none_ok _, fun b hb => hb.elim⟩
  have hsh : Lib.decodeL l = (65533, 1) := by rw [hl]; exact dec_short (by rw [← hl]; omega)
  obtain ⟨ix, hix⟩ : ∃ ix, Lib.firstT x0.toNat / 16 = ix := ⟨_, rfl⟩
  rw [hix] at hlt
  have hac := hU.2 ix hlt.2
  refine wS (nT (cS (cR ?_)))
  refine Rn hS (.m rfl <| .c (e_shr (j := 4) rfl (by decide)) .n) ?_; clear hS a; intro a hS
  rw [show ((Lib.firstT x0.toNat : Nat) : Int) / 2 ^ 4 = ((Lib.firstT x0.toNat / 16 : Nat) : Int) by omega, hix] at hS
  refine L_e hS (e_ixA (i := ix) rfl rfl (by kernel_rfl) (s := 2) (by kernel_rfl) (show ix < 16 from hlt.2)) rfl ?_; clear hS a; intro a hS
  refine L_op (s_e hS (e_loadAC (l := [.int .u8 (Lib.accLo ix : Int), .int .u8 (Lib.accHi ix : Int)]) rfl ty_st202 ty_sz202 (fun w hh j v hj => by
 match j, hj with
 | 0, hj => injection hj with hj; subst hj; rw [Nat.mul_comm]; exact old_cell (hh (oldA W0) (by repeat constructor)) hac.1
 | 1, hj => injection hj with hj; subst hj; rw [Nat.mul_comm]; exact old_cell (hh (oldA W0) (by repeat constructor)) hac.2)) rfl ?_); clear hS a; intro a hS
  refine L_op (s_alloc hS ty_z202 rfl ?_); clear hS a; intro a w b5 hS
  refine L_op (s_storeA hS rfl rfl ty_sz202 (by repeat constructor) (by rfl) (by rfl) (by rfl) ?_); clear hS; intro w hS
  refine nL (nT (cS (cS ?_)))
  refine c_drawS [] (by kernel_rfl) hS (sub_cons (X := .blk b5 [.int .u8 (Lib.accLo ix : Int), .int .u8 (Lib.accHi ix : Int)] 202) (by repeat constructor) (sub_cons (X := oldA W0) (by repeat constructor) sub_nil)) ?_; clear hS; intro w hS
  simp only [List.length_cons, List.length_nil, Nat.zero_add, Nat.reduceAdd, List.replicate]
  refine Ry hS (.o 0 (tf 1 17) rfl wN (e_move rfl) rfl <| .o 1 (tf 2 16) rfl wN (e_bin rfl rfl rfl) rfl <| .o 2 (tf 3 15) rfl wN (e_move rfl) rfl .n) ?_; clear hS a; intro a hS
  (first | refine g_splitD (t := 26) hS rfl ?_ ?_ | refine g_split (t := 26) hS rfl ?_ ?_) <;> (clear hS; intro hg26 hS)
  ·
   obtain ⟨y1, hy1⟩ := hcell 1 (by omega)
   refine Rz hS (sub_cons (by repeat constructor) (sub_cons (by repeat constructor) sub_nil)) (.o 3 (tf 4 14) rfl (want_go rfl rfl) (e_move rfl) rfl <| .o 4 (tf 5 13) rfl (want_go rfl rfl) (e_ixN (i := 1) rfl rfl ty_sl27 ty_sz5 (by omega)) rfl <| .y 5 (tf 6 12) rfl (want_go rfl rfl) (e_loadC rfl ty_sc5 (fun w hh => by rw [Nat.mul_one]; exact old_cell (hh (oldA W0) (by repeat constructor)) hy1)) rfl .n) ?_; clear hS a; intro a hS
   (first | refine Zt0 6 (tf 7 11) hS rfl (want_go rfl rfl) (e_fa0 rfl ty_fo202_0) rfl (by kernel_rfl) rfl ?_ | refine Zt0 6 (tf 7 11) hS rfl (want_go rfl rfl) (e_faK rfl ty_fo202_0) rfl (by kernel_rfl) rfl ?_); clear hS a; intro a hS
   refine Rz hS (sub_cons (by repeat constructor) (sub_cons (by repeat constructor) sub_nil)) (.y 7 (tf 8 10) rfl (want_go rfl rfl) (e_load rfl (by repeat constructor) ty_sc5 (by rfl)) rfl <| .o 8 (tf 9 9) rfl (want_go rfl rfl) (e_bin rfl rfl rfl) rfl <| .o 9 (tf 10 8) rfl (want_go rfl rfl) (e_move rfl) rfl .n) ?_; clear hS a; intro a hS
   (first | refine g_splitD (t := 33) hS rfl ?_ ?_ | refine g_split (t := 33) hS rfl ?_ ?_) <;> (clear hS; intro hg33 hS)
   ·
    refine Ry hS (.f 10 (tf 11 7) rfl rfl rfl rfl <| .f 11 (tf 12 6) rfl rfl rfl rfl <| .f 12 (tf 13 5) rfl rfl rfl rfl <| .f 13 (tf 14 4) rfl rfl rfl rfl <| .f 14 (tf 15 3) rfl rfl rfl rfl <| .f 15 (tf 16 2) rfl rfl rfl rfl <| .o 16 (tf 17 1) rfl (want_go rfl rfl) (e_pk rfl rfl) rfl <| .o 17 (tf 18 0) rfl wN (e_pk rfl rfl) rfl .n) ?_; clear hS a; intro a hS
    refine Z_done (by kernel_rfl) ?_
    refine nT ?_
    refine c_if_t hS rfl ?_
    refine cS (cR ?_)
    refine L_e hS (e_assign rfl) rfl ?_; clear hS a; intro a hS
    refine nL (nT (wp_ret (r_then ?_)))
    refine c_ret1 hS Tryz.results140 (.tmp rfl) ?_
    exact ⟨⟨true, fun h => by cases h⟩, rfl, hS.chg, none_ok _, fun b hb => hb.elim⟩
   (first | refine Zt0 10 (tf 11 7) hS rfl (want_go rfl rfl) (e_fa0 rfl ty_fo202_1) rfl (by kernel_rfl) rfl ?_ | refine Zt0 10 (tf 11 7) hS rfl (want_go rfl rfl) (e_faK rfl ty_fo202_1) rfl (by kernel_rfl) rfl ?_); clear hS a; intro a hS
   refine Rz hS (sub_cons (by repeat constructor) (sub_cons (by repeat constructor) sub_nil)) (.y 11 (tf 12 6) rfl (want_go rfl rfl) (e_load rfl (by repeat constructor) ty_sc5 (by rfl)) rfl <| .o 12 (tf 13 5) rfl (want_go rfl rfl) (e_move rfl) rfl <| .o 13 (tf 14 4) rfl (want_go rfl rfl) (e_ixN (i := 1) rfl rfl ty_sl27 ty_sz5 (by omega)) rfl <| .y 14 (tf 15 3) rfl (want_go rfl rfl) (e_loadC rfl ty_sc5 (fun w hh => by rw [Nat.mul_one]; exact old_cell (hh (oldA W0) (by repeat constructor)) hy1)) rfl <| .o 15 (tf 16 2) rfl (want_go rfl rfl) (e_bin rfl rfl rfl) rfl <| .o 16 (tf 17 1) rfl (want_go rfl rfl) (e_pk rfl rfl) rfl <| .o 17 (tf 18 0) rfl wN (e_pk rfl rfl) rfl .n) ?_; clear hS a; intro a hS
   refine Z_done (by kernel_rfl) ?_
   refine nT ?_
   (first | refine c_ifD hS rfl ?_ ?_ | refine c_if hS rfl ?_ ?_) <;> intro hc41
   ·
    refine cS (cR ?_)
    refine L_e hS (e_assign rfl) rfl ?_; clear hS a; intro a hS
    refine nL (nT (wp_ret (r_then ?_)))
    refine c_ret1 hS Tryz.results140 (.tmp rfl) ?_
    exact ⟨⟨true, fun h => by cases h⟩, rfl, hS.chg, none_ok _, fun b hb => hb.elim⟩
   refine cS (cR ?_)
   refine Rn hS (.m rfl <| .c (e_bin rfl rfl rfl) <| .m rfl .n) ?_; clear hS a; intro a hS
   (first | refine g_splitD (t := 44) hS rfl ?_ ?_ | refine g_split (t := 44) hS rfl ?_ ?_) <;> (clear hS; intro hg44 hS)
   ·
    obtain ⟨y2, hy2⟩ := hcell 2 (by omega)
    refine Rn hS (.g rfl rfl (e_move rfl) <| .g rfl rfl (e_ixN (i := 2) rfl rfl ty_sl27 ty_sz5 (by omega)) <| .g rfl rfl (e_loadC rfl ty_sc5 (fun w hh => by rw [Nat.mul_one]; exact old_cell (hh (oldA W0) (by repeat constructor)) hy2)) <| .g rfl rfl (e_bin rfl rfl rfl) <| .g rfl rfl (e_move rfl) .n) ?_; clear hS a; intro a hS
    (first | refine g_splitD (t := 49) hS rfl ?_ ?_ | refine g_split (t := 49) hS rfl ?_ ?_) <;> (clear hS; intro hg49 hS)
    ·
     refine Rn hS (.f rfl rfl <| .f rfl rfl <| .f rfl rfl <| .f rfl rfl <| .g rfl rfl (e_pk rfl rfl) <| .c (e_pk rfl rfl) .n) ?_; clear hS a; intro a hS
     refine nL (nT ?_)
     refine c_if_t hS rfl ?_
     refine cS (cR ?_)
     refine L_e hS (e_assign rfl) rfl ?_; clear hS a; intro a hS
     refine nL (nT (wp_ret (r_then ?_)))
     refine c_ret1 hS Tryz.results140 (.tmp rfl) ?_
     exact ⟨⟨true, fun h => by cases h⟩, rfl, hS.chg, none_ok _, fun b hb => hb.elim⟩
    refine Rn hS (.g rfl rfl (e_move rfl) <| .g rfl rfl (e_ixN (i := 2) rfl rfl ty_sl27 ty_sz5 (by omega)) <| .g rfl rfl (e_loadC rfl ty_sc5 (fun w hh => by rw [Nat.mul_one]; exact old_cell (hh (oldA W0) (by repeat constructor)) hy2)) <| .g rfl rfl (e_bin rfl rfl rfl) <| .g rfl rfl (e_pk rfl rfl) <| .c (e_pk rfl rfl) .n) ?_; clear hS a; intro a hS
    refine nL (nT ?_)
    (first | refine c_ifD hS rfl ?_ ?_ | refine c_if hS rfl ?_ ?_) <;> intro hc55
    ·
     refine cS (cR ?_)
     refine L_e hS (e_assign rfl) rfl ?_; clear hS a; intro a hS
     refine nL (nT (wp_ret (r_then ?_)))
     refine c_ret1 hS Tryz.results140 (.tmp rfl) ?_
     exact ⟨⟨true, fun h => by cases h⟩, rfl, hS.chg, none_ok _, fun b hb => hb.elim⟩
    refine wS (nT (cS (cR ?_)))
    refine L_e hS (e_assign rfl) rfl ?_; clear hS a; intro a hS
    refine nL (nT (wp_ret ?_))
    refine c_ret1 hS Tryz.results140 (.tmp rfl) ?_
    exact ⟨⟨false, fun _ => hsh⟩, rfl, hS.chg, none_ok _, fun b hb => hb.elim⟩
   refine Rn hS (.t rfl rfl <| .t rfl rfl <| .t rfl rfl <| .t rfl rfl <| .t rfl rfl .n) ?_; clear hS a; intro a hS
   refine L_skip_u hS rfl rfl rfl ?_; clear hS a; intro a hS
   refine L_skip_u hS rfl rfl rfl ?_; clear hS a; intro a hS
   refine L_skip_u hS rfl rfl rfl ?_; clear hS a; intro a hS
   refine L_skip_u hS rfl rfl rfl ?_; clear hS a; intro a hS
   refine Rn hS (.t rfl rfl <| .c (e_pk rfl rfl) .n) ?_; clear hS a; intro a hS
   refine nL (nT ?_)
   refine c_if_f hS rfl ?_
   refine wS (nT (cS (cR ?_)))
   refine L_e hS (e_assign rfl) rfl ?_; clear hS a; intro a hS
   refine nL (nT (wp_ret ?_))
   refine c_ret1 hS Tryz.results140 (.tmp rfl) ?_
   exact ⟨⟨false, fun _ => hsh⟩, rfl, hS.chg, none_ok _, fun b hb => hb.elim⟩
  refine Ry hS (.t 3 (tf 4 14) rfl rfl rfl rfl <| .t 4 (tf 5 13) rfl rfl rfl rfl <| .t 5 (tf 6 12) rfl rfl rfl rfl <| .t 6 (tf 7 11) rfl rfl rfl rfl <| .t 7 (tf 8 10) rfl rfl rfl rfl <| .t 8 (tf 9 9) rfl rfl rfl rfl <| .t 9 (tf 10 8) rfl rfl rfl rfl <| .u 10 (tf 11 7) rfl rfl rfl rfl <| .u 11 (tf 12 6) rfl rfl rfl rfl <| .u 12 (tf 13 5) rfl rfl rfl rfl <| .u 13 (tf 14 4) rfl rfl rfl rfl <| .u 14 (tf 15 3) rfl rfl rfl rfl <| .u 15 (tf 16 2) rfl rfl rfl rfl <| .t 16 (tf 17 1) rfl rfl rfl rfl <| .o 17 (tf 18 0) rfl wN (e_pk rfl rfl) rfl .n) ?_; clear hS a; intro a hS
  refine Z_done (by kernel_rfl) ?_
  refine nT ?_
  refine c_if_f hS rfl ?_
  refine cS (cR ?_)
  refine Rn hS (.m rfl <| .c (e_bin rfl rfl rfl) <| .m rfl .n) ?_; clear hS a; intro a hS
  (first | refine g_splitD (t := 44) hS rfl ?_ ?_ | refine g_split (t := 44) hS rfl ?_ ?_) <;> (clear hS; intro hg44 hS)
  ·
   obtain ⟨y2, hy2⟩ := hcell 2 (by omega)
   refine Rn hS (.g rfl rfl (e_move rfl) <| .g rfl rfl (e_ixN (i := 2) rfl rfl ty_sl27 ty_sz5 (by omega)) <| .g rfl rfl (e_loadC rfl ty_sc5 (fun w hh => by rw [Nat.mul_one]; exact old_cell (hh (oldA W0) (by repeat constructor)) hy2)) <| .g rfl rfl (e_bin rfl rfl rfl) <| .g rfl rfl (e_move rfl) .n) ?_; clear hS a; intro a hS
   (first | refine g_splitD (t := 49) hS rfl ?_ ?_ | refine g_split (t := 49) hS rfl ?_ ?_) <;> (clear hS; intro hg49 hS)
   ·
    refine Rn hS (.f rfl rfl <| .f rfl rfl <| .f rfl rfl <| .f rfl rfl <| .g rfl rfl (e_pk rfl rfl) <| .c (e_pk rfl rfl) .n) ?_; clear hS a; intro a hS
    refine nL (nT ?_)
    refine c_if_t hS rfl ?_
    refine cS (cR ?_)
    refine L_e hS (e_assign rfl) rfl ?_; clear hS a; intro a hS
    refine nL (nT (wp_ret (r_then ?_)))
    refine c_ret1 hS Tryz.results140 (.tmp rfl) ?_
    exact ⟨⟨true, fun h => by cases h⟩, rfl, hS.chg, none_ok _, fun b hb => hb.elim⟩
   refine Rn hS (.g rfl rfl (e_move rfl) <| .g rfl rfl (e_ixN (i := 2) rfl rfl ty_sl27 ty_sz5 (by omega)) <| .g rfl rfl (e_loadC rfl ty_sc5 (fun w hh => by rw [Nat.mul_one]; exact old_cell (hh (oldA W0) (by repeat constructor)) hy2)) <| .g rfl rfl (e_bin rfl rfl rfl) <| .g rfl rfl (e_pk rfl rfl) <| .c (e_pk rfl rfl) .n) ?_; clear hS a; intro a hS
   refine nL (nT ?_)
   (first | refine c_ifD hS rfl ?_ ?_ | refine c_if hS rfl ?_ ?_) <;> intro hc55
   ·
    refine cS (cR ?_)
    refine L_e hS (e_assign rfl) rfl ?_; clear hS a; intro a hS
    refine nL (nT (wp_ret (r_then ?_)))
    refine c_ret1 hS Tryz.results140 (.tmp rfl) ?_
    exact ⟨⟨true, fun h => by cases h⟩, rfl, hS.chg, none_ok _, fun b hb => hb.elim⟩
   refine wS (nT (cS (cR ?_)))
   refine L_e hS (e_assign rfl) rfl ?_; clear hS a; intro a hS
   refine nL (nT (wp_ret ?_))
   refine c_ret1 hS Tryz.results140 (.tmp rfl) ?_
   exact ⟨⟨false, fun _ => hsh⟩, rfl, hS.chg, none_ok _, fun b hb => hb.elim⟩
  refine Rn hS (.t rfl rfl <| .t rfl rfl <| .t rfl rfl <| .t rfl rfl <| .t rfl rfl .n) ?_; clear hS a; intro a hS
  refine L_skip_u hS rfl rfl rfl ?_; clear hS a; intro a hS
  refine L_skip_u hS rfl rfl rfl ?_; clear hS a; intro a hS
  refine L_skip_u hS rfl rfl rfl ?_; clear hS a; intro a hS
  refine L_skip_u hS rfl rfl rfl ?_; clear hS a; intro a hS
  refine Rn hS (.t rfl rfl <| .c (e_pk rfl rfl) .n) ?_; clear hS a; intro a hS
  refine nL (nT ?_)
  refine c_if_f hS rfl ?_
  refine wS (nT (cS (cR ?_)))
  refine L_e hS (e_assign rfl) rfl ?_; clear hS a; intro a hS
  refine nL (nT (wp_ret ?_))
  refine c_ret1 hS Tryz.results140 (.tmp rfl) ?_
  exact ⟨⟨false, fun _ => hsh⟩, rfl, hS.chg, none_ok _, fun b hb => hb.elim⟩
end Go.Proofs.YtlccmgeclhdegaaGreatDoor
namespace Go.Proofs.YtlccmgeclhdegaaGreatDoor
open Go.RowKit
def hx (L : List UInt8) (j : Nat) : Option Nat := match L[j]? with
 | some c => hexV c.toNat
 | none => none
theorem four_def (L : List UInt8) : fourF L = match hx L 0, hx L 1, hx L 2, hx L 3 with | some x, some y, some z, some u => some (((x * 16 + y) * 16 + z) * 16 + u) | _, _, _, _ => none := by
 match L with
 | [] => rfl
 | [a] => unfold hx fourF; simp only [List.getElem?_cons_zero, List.getElem?_cons_succ, List.getElem?_nil]; cases hexV a.toNat <;> rfl
 | [a, b] => unfold hx fourF; simp only [List.getElem?_cons_zero, List.getElem?_cons_succ, List.getElem?_nil]; cases hexV a.toNat <;> cases hexV b.toNat <;> rfl
 | [a, b, c] => unfold hx fourF; simp only [List.getElem?_cons_zero, List.getElem?_cons_succ, List.getElem?_nil]; cases hexV a.toNat <;> cases hexV b.toNat <;> cases hexV c.toNat <;> rfl
 | a :: b :: c :: d :: t => rfl
theorem four_none {L : List UInt8} {k : Nat} (hk : k < 4) (h : hx L k = none) : fourF L = none := by
 rw [four_def]
 match k, hk with
 | 0, _ => rw [h]
 | 1, _ => rw [h]; cases hx L 0 <;> rfl
 | 2, _ => rw [h]; cases hx L 0 <;> cases hx L 1 <;> rfl
 | 3, _ => rw [h]; cases hx L 0 <;> cases hx L 1 <;> cases hx L 2 <;> rfl
theorem four_le {L : List UInt8} {x : Nat} (h : fourF L = some x) : 4 ≤ L.length := by
 match L with
 | [] => cases h
 | [_] => cases h
 | [_, _] => cases h
 | [_, _, _] => cases h
 | _ :: _ :: _ :: _ :: t => simp
def bHx : ByteArray := ⟨#[48, 49, 50, 51, 52, 53, 54, 55, 56, 57, 97, 98, 99, 100, 101, 102]⟩
theorem or_byte : ∀ c : Fin 256, bits .or .u8 ((c.val : Nat) : Int) 32 = (((UInt8.ofNat c.val) ||| 32).toNat : Int) := by decide +kernel
theorem hex_test : ∀ c : Fin 256, (hexV c.val = none ∧ (Lib.indexByte bHx.data.toList ((UInt8.ofNat c.val) ||| 32) < 0 ∨ c.val < 48 ∨ (57 < c.val ∧ c.val < 65))) ∨ (¬ (Lib.indexByte bHx.data.toList ((UInt8.ofNat c.val) ||| 32) < 0 ∨ c.val < 48 ∨ (57 < c.val ∧ c.val < 65)) ∧ hexV c.val = some (Lib.indexByte bHx.data.toList ((UInt8.ofNat c.val) ||| 32)).toNat ∧ Lib.indexByte bHx.data.toList ((UInt8.ofNat c.val) ||| 32) ≤ 15) := by decide +kernel
theorem hx_lt {n x : Nat} (h : hexV n = some x) : x < 16 := by
 unfold hexV at h
 split at h
 · injection h; omega
 · split at h
   · injection h; omega
   · split at h
     · injection h; omega
     · cases h
def dgs16 (ds : List Nat) : Nat := ds.foldl (fun a d => a * 16 + d) 0
theorem dgs16_lt : ∀ (ds : List Nat) (a : Nat), (∀ d ∈ ds, d < 16) → ds.foldl (fun a d => a * 16 + d) a < (a + 1) * 16 ^ ds.length
 | [], a, _ => by simp
 | d :: t, a, h => by
   have h1 := dgs16_lt t (a * 16 + d) (fun x hx => h x (.tail _ hx))
   have h2 := h d (.head _)
   rw [List.foldl_cons, List.length_cons]
   refine Nat.lt_of_lt_of_le h1 ?_
   rw [Nat.pow_succ, Nat.mul_comm (16 ^ t.length) 16, ← Nat.mul_assoc]
   exact Nat.mul_le_mul_right _ (by omega)
theorem dgs16_bd {ds : List Nat} (h : ∀ d ∈ ds, d < 16) (hl : ds.length ≤ 4) : dgs16 ds < 65536 := by
 have h1 := dgs16_lt ds 0 h
 have h2 : 16 ^ ds.length ≤ 16 ^ 4 := Nat.pow_le_pow_right (by decide) hl
 unfold dgs16
 rw [Nat.zero_add, Nat.one_mul] at h1
 exact Nat.lt_of_lt_of_le h1 h2
theorem four_yes {L : List UInt8} {ds : List Nat} (hl : ds.length = 4) (h : ∀ j, j < 4 → hx L j = ds[j]?) : fourF L = some (dgs16 ds) := by
 match ds, hl with
 | [a, b, c, d], _ =>
   rw [four_def, h 0 (by decide), h 1 (by decide), h 2 (by decide), h 3 (by decide)]
   simp [dgs16]
set_option maxHeartbeats 1000000 in
set_option maxRecDepth 100000 in
theorem jFour_Y (W0 : World) (br : Nat) (q : Option Addr) (c : Nat) (l : List UInt8) (ht : TxA W0 q c l) (p : Nat) (hp : p ≤ l.length) (pl : Int) (w0 : World) (h : (rdA br q c l p).φ w0) (ho : oldφ W0 w0) (hb : W0.heap.size ≤ br) :
 MayC Tryz.prog 184 [.pointer (some ⟨br, 0, none⟩), .int .i64 pl] w0 (fun v => isFault eNo v ∧ fourF (l.drop p) = none) (rdA br q c l p) (fun x : { x : Nat // fourF (l.drop p) = some x } => .int .i32 (x.1 : Int)) (fun _ => rdA br q c l (p + 4)) := by
 have hn := ht.n
 refine c_enter [(0, .pointer (some ⟨br, 0, none⟩)), (1, .int .i64 pl)] [rdA br q c l p, oldA W0] (fun k => k = br) Tryz.func184 rfl Tryz.ntmps184 ⟨rfl, rfl, trivial⟩ rfl (okC (ok_blk h) (okC (old_ok ho) okN)) (disC (sepC (fun k h1 h2 => by have h1 : k = br := h1; have h2 : k < W0.heap.size := h2; omega) sepN) dis1) (mineO (fun _ hb => hb) (mineC rfl mineN)) ?_
 intro a hS
 refine cS (cR ?_)
 refine L_e hS (e_assign rfl) rfl ?_; clear hS a; intro a hS
 refine nL (nT (cS (cR ?_)))
 refine L_e hS (e_assign rfl) rfl ?_; clear hS a; intro a hS
 refine nL (nT (cS (cS (cR ?_))))
 refine L_e hS (e_move rfl) rfl ?_; clear hS a; intro a hS
 refine nL (nT (wB ?_))
 skip
 refine c_loop (γ := List Nat) (fun ds a w => St 66 (fun k => k = br) w0 a w [(5, .int .i32 (dgs16 ds : Int)), (8, .int .i64 (ds.length : Int)), (0, .pointer (some ⟨br, 0, none⟩)), (1, .int .i64 pl)] [rdA br q c l (p + ds.length), oldA W0] ∧ ds.length ≤ 4 ∧ p + ds.length ≤ l.length ∧ (∀ d ∈ ds, d < 16) ∧ ∀ j, j < ds.length → hx (l.drop p) j = ds[j]?) (fun ds => 4 - ds.length) [] ⟨hS.slots (by repeat (first | exact trivial | refine ⟨rfl, ?_⟩)), Nat.zero_le _, hp, fun d hd => (by cases hd), fun j hj => absurd hj (Nat.not_lt_zero _)⟩ ?_
 clear hS a; intro ds a w hI
 obtain ⟨hS, hk, hpk, hd16, hxs⟩ := hI
 have hbd := dgs16_bd hd16 hk
 unfold rdA rdB at hS
 refine cS (cR ?_)
 refine L_e hS (e_bin rfl rfl rfl) rfl ?_; clear hS a; intro a hS
 refine nL (nT (cS ?_))
 (first | refine c_ifD hS rfl ?_ ?_ | refine c_if hS rfl ?_ ?_) <;> intro hc9
 ·
  refine wS (nT (cS (wB (cS (cS ?_)))))
  refine c_drawS [] (by kernel_rfl) hS (sub_cons (X := .blk br [.slice q l.length c, .int .i64 ((p + ds.length : Nat) : Int)] 93) (by repeat constructor) sub_nil) ?_; clear hS; intro w hS
  simp only [List.length_cons, List.length_nil, Nat.zero_add, Nat.reduceAdd, List.replicate]
  refine Ry hS (.o 0 (tf 1 9) rfl wN (e_move rfl) rfl <| .o 1 (tf 2 8) rfl wN (e_nilCheck rfl) rfl .n) ?_; clear hS a; intro a hS
  (first | refine Zt0 2 (tf 3 7) hS rfl want_none (e_fa0 rfl ty_fo93_1) rfl (by kernel_rfl) rfl ?_ | refine Zt0 2 (tf 3 7) hS rfl want_none (e_faK rfl ty_fo93_1) rfl (by kernel_rfl) rfl ?_); clear hS a; intro a hS
  refine Rz hS (sub_cons (by repeat constructor) sub_nil) (.y 3 (tf 4 6) rfl wN (e_load rfl (by repeat constructor) ty_sc3 (by rfl)) rfl <| .o 4 (tf 5 5) rfl wN (e_move rfl) rfl <| .o 5 (tf 6 4) rfl wN (e_nilCheck rfl) rfl .n) ?_; clear hS a; intro a hS
  (first | refine Zt0 6 (tf 7 3) hS rfl want_none (e_fa0 rfl ty_fo93_0) rfl (by kernel_rfl) rfl ?_ | refine Zt0 6 (tf 7 3) hS rfl want_none (e_faK rfl ty_fo93_0) rfl (by kernel_rfl) rfl ?_); clear hS a; intro a hS
  refine Rz hS (sub_cons (by repeat constructor) sub_nil) (.y 7 (tf 8 2) rfl wN (e_load rfl (by repeat constructor) ty_sc27 (by rfl)) rfl <| .o 8 (tf 9 1) rfl wN (e_len rfl rfl ty_sl27) rfl <| .o 9 (tf 10 0) rfl wN (e_bin rfl rfl rfl) rfl .n) ?_; clear hS a; intro a hS
  refine Z_done (by kernel_rfl) ?_
  refine nT ?_
  (first | refine c_ifD hS rfl ?_ ?_ | refine c_if hS rfl ?_ ?_) <;> intro hc19
  ·
   have hno : hx (l.drop p) ds.length = none := by unfold hx; rw [List.getElem?_drop, List.getElem?_eq_none (by omega)]
   refine cR ?_
   refine L_e hS (e_move rfl) rfl ?_; clear hS a; intro a hS
   refine L_op (s_callY hS (.cons rfl .nil) cf35 rfl (jWrong_Y br q c l (p + ds.length) _ (hS.gg (X := rdA br q c l (p + ds.length)))) (fun x => (by repeat constructor)) rfl (by repeat constructor) ?_ ?_)
   ·
    intro vp wp hvp hdp hcp
    refine p_then (p_block (p_then (p_then (p_block (p_then ?_)))))
    exact ⟨hdp, .inr ⟨vp, ⟨hvp, four_none (by omega) hno⟩, rfl, hcp⟩⟩
   clear hS a; intro x21 a w hS
   exact x21.elim
  have hpl : p + ds.length < l.length := by omega
  obtain ⟨b, off, x, hq, hx1, hc1⟩ := ht.cell hpl
  have hhx : hx (l.drop p) ds.length = hexV x.toNat := by unfold hx; rw [List.getElem?_drop, hx1]
  subst hq
  have htst := hex_test ⟨x.toNat, x.toNat_lt⟩
  have hor := or_byte ⟨x.toNat, x.toNat_lt⟩
  simp only [UInt8.ofNat_toNat] at htst hor
  refine wS (nT (cS ?_))
  refine c_drawS [] (by kernel_rfl) hS (sub_cons (X := .blk br [.slice (some ⟨b, off, none⟩) l.length c, .int .i64 ((p + ds.length : Nat) : Int)] 93) (by repeat constructor) (sub_cons (X := oldA W0) (by repeat constructor) sub_nil)) ?_; clear hS; intro w hS
  simp only [List.length_cons, List.length_nil, Nat.zero_add, Nat.reduceAdd, List.replicate]
  refine Ry hS (.o 0 (tf 1 10) rfl wN (e_move rfl) rfl <| .o 1 (tf 2 9) rfl wN (e_nilCheck rfl) rfl .n) ?_; clear hS a; intro a hS
  (first | refine Zt0 2 (tf 3 8) hS rfl want_none (e_fa0 rfl ty_fo93_0) rfl (by kernel_rfl) rfl ?_ | refine Zt0 2 (tf 3 8) hS rfl want_none (e_faK rfl ty_fo93_0) rfl (by kernel_rfl) rfl ?_); clear hS a; intro a hS
  refine Rz hS (sub_cons (by repeat constructor) (sub_cons (by repeat constructor) sub_nil)) (.y 3 (tf 4 7) rfl wN (e_load rfl (by repeat constructor) ty_sc27 (by rfl)) rfl <| .o 4 (tf 5 6) rfl wN (e_move rfl) rfl <| .o 5 (tf 6 5) rfl wN (e_nilCheck rfl) rfl .n) ?_; clear hS a; intro a hS
  (first | refine Zt0 6 (tf 7 4) hS rfl want_none (e_fa0 rfl ty_fo93_1) rfl (by kernel_rfl) rfl ?_ | refine Zt0 6 (tf 7 4) hS rfl want_none (e_faK rfl ty_fo93_1) rfl (by kernel_rfl) rfl ?_); clear hS a; intro a hS
  refine Rz hS (sub_cons (by repeat constructor) (sub_cons (by repeat constructor) sub_nil)) (.y 7 (tf 8 3) rfl wN (e_load rfl (by repeat constructor) ty_sc3 (by rfl)) rfl <| .o 8 (tf 9 2) rfl wN (e_ixN rfl rfl ty_sl27 ty_sz5 (by omega)) rfl <| .y 9 (tf 10 1) rfl wN (e_loadC rfl ty_sc5 (fun w hh => by rw [Nat.mul_one]; exact old_cell (hh (oldA W0) (by repeat constructor)) hc1)) rfl <| .o 10 (tf 11 0) rfl wN (e_assign rfl) rfl .n) ?_; clear hS a; intro a hS
  refine Z_done (by kernel_rfl) ?_
  refine nT (cS (cR ?_))
  refine Rn hS (.m rfl <| .c (e_bitO rfl rfl) .n) ?_; clear hS a; intro a hS
  rw [hor] at hS
  refine L_op (s_callP hS (.cons rfl (.cons rfl .nil)) cf136 rfl (index_P bHx (x ||| 32) _) ?_); clear hS a; intro a w hS
  refine L_e hS (e_assign rfl) rfl ?_; clear hS a; intro a hS
  refine nL (nT (cS (cS (cR ?_))))
  refine Rn hS (.m rfl <| .c (e_bin rfl rfl rfl) <| .m rfl .n) ?_; clear hS a; intro a hS
  refine L_merge 3 40 (.bool (decide (Lib.indexByte bHx.data.toList (x ||| 32) < 0 ∨ x.toNat < 48))) hS ?_ ?_
  · intro hcM40
    (first | refine g_splitD (t := 37) hS rfl ?_ ?_ | refine g_split (t := 37) hS rfl ?_ ?_) <;> (clear hS; intro hg37 hS)
    ·
     refine Rn hS (.f rfl rfl <| .f rfl rfl <| .c (e_pk rfl rfl) .n) ?_; clear hS a; intro a hS
     exact hcM40 _ _ (hS.ends 4 40 37 rfl (congrArg Value.bool (by exact (decide_eq_true (.inl hg37)).symm)) rfl rfl (by first | exact congrArg Value.bool (decide_eq_true hg37).symm | exact congrArg Value.bool hg37.symm | simp [hg37]) rfl)
    refine Rn hS (.g rfl rfl (e_move rfl) <| .g rfl rfl (e_bin rfl rfl rfl) <| .c (e_pk rfl rfl) .n) ?_; clear hS a; intro a hS
    exact hcM40 _ _ (hS.ends 4 40 37 rfl (congrArg Value.bool (by exact decide_eq_decide.2 (by omega))) rfl rfl (by first | exact congrArg Value.bool (decide_eq_false hg37).symm | exact congrArg Value.bool hg37.symm | simp [hg37]) rfl)
  · clear hS a; intro a w hS
    simp only [List.drop_succ_cons, List.drop_zero]
    refine L_e hS (e_move rfl) rfl ?_; clear hS a; intro a hS
    refine L_merge 7 48 (.bool (decide (Lib.indexByte bHx.data.toList (x ||| 32) < 0 ∨ x.toNat < 48 ∨ (57 < x.toNat ∧ x.toNat < 65)))) hS ?_ ?_
    · intro hcM48
      (first | refine g_splitD (t := 41) hS rfl ?_ ?_ | refine g_split (t := 41) hS rfl ?_ ?_) <;> (clear hS; intro hg41 hS)
      ·
       refine Rn hS (.f rfl rfl <| .f rfl rfl <| .f rfl rfl .n) ?_; clear hS a; intro a hS
       refine L_skip_u hS rfl rfl rfl ?_; clear hS a; intro a hS
       refine L_skip_u hS rfl rfl rfl ?_; clear hS a; intro a hS
       refine Rn hS (.f rfl rfl <| .c (e_pk rfl rfl) .n) ?_; clear hS a; intro a hS
       exact hcM48 _ _ (hS.ends 8 48 41 rfl (congrArg Value.bool (by exact (decide_eq_true (hg41.elim .inl (fun h => .inr (.inl h)))).symm)) rfl rfl (by first | exact congrArg Value.bool (decide_eq_true hg41).symm | exact congrArg Value.bool hg41.symm | simp [hg41]) rfl)
      refine Rn hS (.g rfl rfl (e_move rfl) <| .g rfl rfl (e_bin rfl rfl rfl) <| .g rfl rfl (e_move rfl) .n) ?_; clear hS a; intro a hS
      refine L_merge 3 47 (.bool (decide (57 < x.toNat ∧ x.toNat < 65))) hS ?_ ?_
      · intro hcM47
        (first | refine g_splitD (t := 44) hS rfl ?_ ?_ | refine g_split (t := 44) hS rfl ?_ ?_) <;> (clear hS; intro hg44 hS)
        ·
         refine Rn hS (.g rfl rfl (e_move rfl) <| .g rfl rfl (e_bin rfl rfl rfl) <| .g rfl rfl (e_pk rfl rfl) .n) ?_; clear hS a; intro a hS
         exact hcM47 _ _ (hS.ends 4 47 44 rfl (congrArg Value.bool (by first | rfl | (simp; done) | (simp; omega) | grind)) rfl rfl (by first | exact congrArg Value.bool (decide_eq_true hg44).symm | exact congrArg Value.bool hg44.symm | simp [hg44]) rfl)
        refine Rn hS (.t rfl rfl <| .t rfl rfl <| .g rfl rfl (e_pk rfl rfl) .n) ?_; clear hS a; intro a hS
        exact hcM47 _ _ (hS.ends 4 47 44 rfl (congrArg Value.bool (by first | rfl | (simp; done) | (simp; omega) | grind)) rfl rfl (by first | exact congrArg Value.bool (decide_eq_false hg44).symm | exact congrArg Value.bool hg44.symm | simp [hg44]) rfl)
      · clear hS a; intro a w hS
        simp only [List.drop_succ_cons, List.drop_zero]
        refine L_e hS (e_pk rfl rfl) rfl ?_; clear hS a; intro a hS
        exact hcM48 _ _ (hS.ends 6 48 41 rfl (congrArg Value.bool (by exact decide_eq_decide.2 (by omega))) rfl rfl (by first | exact congrArg Value.bool (decide_eq_false hg41).symm | exact congrArg Value.bool hg41.symm | simp [hg41]) rfl)
    · clear hS a; intro a w hS
      simp only [List.drop_succ_cons, List.drop_zero]
      refine nL (nT ?_)
      (first | refine c_ifD hS rfl ?_ ?_ | refine c_if hS rfl ?_ ?_) <;> intro hc48
      ·
       refine cR ?_
       refine Rn hS (.m rfl <| .m rfl .n) ?_; clear hS a; intro a hS
       refine L_op (s_callY hS (.cons rfl (.cons rfl (.cons rfl .nil))) cf94 rfl (jFail_Y eNo (.pointer (some ⟨br, 0, none⟩)) pl 11 (show (11 : Int) ≠ 0 by decide) (.blk br [.slice (some ⟨b, off, none⟩) l.length c, .int .i64 ((p + ds.length : Nat) : Int)] 93) _ (hS.ok _ (by repeat constructor)) rfl) (fun x => (by repeat constructor)) rfl (by repeat constructor) ?_ ?_)
       ·
        intro vp wp hvp hdp hcp
        refine p_then (p_block (p_then (p_then (p_block (p_then ?_)))))
        exact ⟨hdp, .inr ⟨vp, ⟨hvp, four_none (by omega) (hhx.trans (htst.elim (fun h => h.1) (fun h => absurd hc48 h.1)))⟩, rfl, hcp⟩⟩
       clear hS a; intro x51 a w hS
       exact x51.elim
      obtain ⟨_, hval, h15⟩ := htst.resolve_left (fun h => hc48 h.2)
      have hge : 0 ≤ Lib.indexByte bHx.data.toList (x ||| 32) := by rcases Int.lt_or_le (Lib.indexByte bHx.data.toList (x ||| 32)) 0 with h | h; exact absurd (.inl h) hc48; exact h
      obtain ⟨dg, hdg⟩ : ∃ dg : Nat, Lib.indexByte bHx.data.toList (x ||| 32) = (dg : Int) := ⟨(Lib.indexByte bHx.data.toList (x ||| 32)).toNat, by omega⟩
      rw [hdg] at hS h15 hval
      rw [Int.toNat_natCast] at hval
      refine wS (nT (cS (cR ?_)))
      refine Rn hS (.m rfl <| .c (e_bin rfl rfl rfl) .n) ?_; clear hS a; intro a hS
      rw [IntWalk.i32_in _ (by omega)] at hS
      refine Rn hS (.m rfl <| .c (e_conv rfl ty_u3 ty_u21) .n) ?_; clear hS a; intro a hS
      rw [IntWalk.i32_in _ (by omega)] at hS
      refine L_e hS (e_bin rfl rfl rfl) rfl ?_; clear hS a; intro a hS
      rw [IntWalk.i32_in _ (by omega)] at hS
      refine L_e hS (e_assign rfl) rfl ?_; clear hS a; intro a hS
      refine nL (nT (cR ?_))
      refine Rn hS (.m rfl <| .c (e_nilCheck rfl) .n) ?_; clear hS a; intro a hS
      (first | refine L_e hS (e_fa0 rfl ty_fo93_1) rfl ?_ | refine L_e hS (e_faK rfl ty_fo93_1) rfl ?_); clear hS a; intro a hS
      refine L_e hS (e_load rfl (by repeat constructor) ty_sc3 (by rfl)) rfl ?_; clear hS a; intro a hS
      (first | refine L_e hS (e_binN rfl rfl rfl (by omega)) rfl ?_ | refine L_e hS (e_bin rfl rfl rfl) rfl ?_); clear hS a; intro a hS
      refine L_e hS (e_nilCheck rfl) rfl ?_; clear hS a; intro a hS
      (first | refine L_e hS (e_fa0 rfl ty_fo93_1) rfl ?_ | refine L_e hS (e_faK rfl ty_fo93_1) rfl ?_); clear hS a; intro a hS
      refine L_op (s_store hS rfl rfl rfl ty_sz3 (by repeat constructor) (by repeat constructor) ?_); clear hS; intro w hS
      refine nL (n_block (nT (cR ?_)))
      (first | refine L_e hS (e_binN rfl rfl rfl (by omega)) rfl ?_ | refine L_e hS (e_bin rfl rfl rfl) rfl ?_); clear hS a; intro a hS
      refine L_e hS (e_move rfl) rfl ?_; clear hS a; intro a hS
      refine nL ?_
      have hlen : (ds ++ [dg]).length = ds.length + 1 := by simp
      have hfo : (dgs16 (ds ++ [dg]) : Int) = 16 * (dgs16 ds : Int) + (dg : Int) := by unfold dgs16; rw [List.foldl_append, List.foldl_cons, List.foldl_nil]; omega
      refine ⟨ds ++ [dg], by rw [hlen]; omega, ?_, by rw [hlen]; omega, by rw [hlen]; omega, fun d hd => ?_, fun j hj => ?_⟩
      · rw [hfo, hlen]
        exact hS.slots (by repeat (first | exact trivial | refine ⟨rfl, ?_⟩))
      · rcases List.mem_append.1 hd with hd | hd
        · exact hd16 d hd
        · obtain rfl := List.mem_singleton.1 hd; omega
      · rw [hlen] at hj
        rcases Nat.lt_or_ge j ds.length with h2 | h2
        · rw [hxs j h2, List.getElem?_append_left h2]
        · obtain rfl : j = ds.length := by omega
          rw [hhx, hval, List.getElem?_append_right (Nat.le_refl _), Nat.sub_self]; rfl
 refine wp_exit ?_
 refine x_then (x_then (x_hit ?_))
 refine nT (cS (cR ?_))
 refine Rn hS (.m rfl <| .a rfl .n) ?_; clear hS a; intro a hS
 refine nL (nT (wp_ret ?_))
 refine c_ret1 hS Tryz.results184 (.tmp rfl) ?_
 have h4 : ds.length = 4 := by omega
 have hfin := four_yes h4 (fun j hj => hxs j (by omega))
 rw [h4] at hS
 exact .inl ⟨⟨dgs16 ds, hfin⟩, rfl, hS.chg, hS.ok (rdA br q c l (p + 4)) (by repeat constructor), fun b hb => .inl hb⟩
section
variable {P : Program} {n : NN} {a : Act} {L : List (Nat × Value)} {Γ : List Asn} {dst : Option Nat} {ty : Nat} {pos : String} {af : Array Edge} {g : Option (Nat × Bool)}
theorem e_shl {t t' : TypeId} {x : Operand} {k k' : IntKind} {i : Int} {j : Nat} (hx : ev L x = some (.int k i)) (hj : j ≤ k.bits) :
 Ex P n a L Γ ⟨dst, .binOp .shl t x (.const (.int k' (j : Int))) t', ty, pos, af, g⟩ (.int k (k.wrap (i * 2 ^ j))) := fun hs w _ => by
 have he : a.eval (.const (.int k' (j : Int))) = .int k' (j : Int) := rfl
 have h : ¬ (j : Int) < 0 := by omega
 simp only [execOp, hs.ev hx, he, eqGuard, binOp, Op.shift, Sem.run_bind]
 simp [h, Nat.min_eq_left hj]
end
theorem rk_cell {b E : Nat} {cs : List Value} {w : World} (h : (rkA b cs E).φ w) {i : Nat} {v : Value} (hv : cs[i]? = some v) : w.cell? ⟨b, i, none⟩ = some v := by
 obtain ⟨f, hf⟩ := h
 unfold World.cell?
 rw [hf]
 simpa using hv
def bMk : ByteArray := ⟨#[34, 92, 47, 98, 102, 110, 114, 116]⟩
def bMt : ByteArray := ⟨#[34, 92, 47, 8, 12, 10, 13, 9]⟩
theorem mark_test : ∀ c : Fin 256, (Lib.indexByte bMk.data.toList (UInt8.ofNat c.val) < 0 ∧ marksL.findIdx? (· == UInt8.ofNat c.val) = none) ∨ (0 ≤ Lib.indexByte bMk.data.toList (UInt8.ofNat c.val) ∧ Lib.indexByte bMk.data.toList (UInt8.ofNat c.val) ≤ 7 ∧ marksL.findIdx? (· == UInt8.ofNat c.val) = some (Lib.indexByte bMk.data.toList (UInt8.ofNat c.val)).toNat) := by decide +kernel
theorem esc_mark {l : List UInt8} {p i : Nat} {x : UInt8} (hx : l[p]? = some x) (h : marksL.findIdx? (· == x) = some i) : escF (l.drop p) = some ((meantL.getD i 0).toNat, 1) := by
 rw [List.drop_eq_getElem_cons (List.getElem?_eq_some_iff.1 hx).1, (List.getElem?_eq_some_iff.1 hx).2]
 unfold escF; simp only; rw [h]
theorem esc_cons {l : List UInt8} {p : Nat} {x : UInt8} (hx : l[p]? = some x) (h : marksL.findIdx? (· == x) = none) : escF (l.drop p) = if x.toNat = 117 then match fourF (l.drop (p + 1)) with
 | none => none
 | some x => if x < 55296 ∨ 57344 ≤ x then some (x, 5) else if 56320 ≤ x then none else
   if (l.getD (p + 5) 0).toNat = 92 ∧ (l.getD (p + 6) 0).toNat = 117 then match fourF (l.drop (p + 7)) with
    | none => none
    | some y => if y < 56320 ∨ 57344 ≤ y then none else some (65536 + (x - 55296) * 1024 + (y - 56320), 11)
   else none
 else none := by
 conv => lhs; rw [List.drop_eq_getElem_cons (List.getElem?_eq_some_iff.1 hx).1, (List.getElem?_eq_some_iff.1 hx).2]
 unfold escF; simp only; rw [h]
 simp only [List.drop_drop, List.getD_eq_getElem?_getD, List.getElem?_drop]
 rfl
theorem getD_of {l : List UInt8} {k : Nat} {x : UInt8} (h : l[k]? = some x) : l.getD k 0 = x := by rw [List.getD_eq_getElem?_getD, h]; rfl
theorem getD_end {l : List UInt8} {k : Nat} (h : l.length ≤ k) : (l.getD k 0).toNat = 0 := by rw [List.getD_eq_getElem?_getD, List.getElem?_eq_none h]; rfl
set_option maxHeartbeats 2000000 in
set_option maxRecDepth 100000 in
theorem jEsc_Y (W0 : World) (br : Nat) (q : Option Addr) (c : Nat) (l : List UInt8) (ht : TxA W0 q c l) (p : Nat) (hp : p < l.length) (w0 : World) (h : (rdA br q c l p).φ w0) (ho : oldφ W0 w0) (hb : W0.heap.size ≤ br) :
 MayC Tryz.prog 139 [.pointer (some ⟨br, 0, none⟩)] w0 (fun v => isFault eNo v ∧ escF (l.drop (p + 1)) = none) (rdA br q c l p) (fun x : { x : Nat × Nat // escF (l.drop (p + 1)) = some x ∧ p + 1 + x.2 ≤ l.length } => .int .i32 (x.1.1 : Int)) (fun x => rdA br q c l (p + 1 + x.1.2)) := by
 have hn := ht.n
 refine c_enter [(0, .pointer (some ⟨br, 0, none⟩))] [rdA br q c l p, oldA W0] (fun k => k = br) Tryz.func139 rfl Tryz.ntmps139 ⟨rfl, trivial⟩ rfl (okC (ok_blk h) (okC (old_ok ho) okN)) (disC (sepC (fun k h1 h2 => by have h1 : k = br := h1; have h2 : k < W0.heap.size := h2; omega) sepN) dis1) (mineO (fun _ hb => hb) (mineC rfl mineN)) ?_
 intro a hS
 refine cS (cR ?_)
 refine L_e hS (e_assign rfl) rfl ?_; clear hS a; intro a hS
 refine nL (nT (cS (cR ?_)))
 unfold rdA rdB at hS
 refine Rn hS (.m rfl <| .c (e_nilCheck rfl) .n) ?_; clear hS a; intro a hS
 (first | refine L_e hS (e_fa0 rfl ty_fo93_1) rfl ?_ | refine L_e hS (e_faK rfl ty_fo93_1) rfl ?_); clear hS a; intro a hS
 refine Rn hS (.c (e_load rfl (by repeat constructor) ty_sc3 (by rfl)) <| .a rfl .n) ?_; clear hS a; intro a hS
 refine nL (nT (cS (cR ?_)))
 refine Rn hS (.m rfl <| .c (e_nilCheck rfl) .n) ?_; clear hS a; intro a hS
 (first | refine L_e hS (e_fa0 rfl ty_fo93_1) rfl ?_ | refine L_e hS (e_faK rfl ty_fo93_1) rfl ?_); clear hS a; intro a hS
 refine L_e hS (e_load rfl (by repeat constructor) ty_sc3 (by rfl)) rfl ?_; clear hS a; intro a hS
 (first | refine L_e hS (e_binN rfl rfl rfl (by omega)) rfl ?_ | refine L_e hS (e_bin rfl rfl rfl) rfl ?_); clear hS a; intro a hS
 refine L_e hS (e_nilCheck rfl) rfl ?_; clear hS a; intro a hS
 (first | refine L_e hS (e_fa0 rfl ty_fo93_1) rfl ?_ | refine L_e hS (e_faK rfl ty_fo93_1) rfl ?_); clear hS a; intro a hS
 refine L_op (s_store hS rfl rfl rfl ty_sz3 (by repeat constructor) (by repeat constructor) ?_); clear hS; intro w hS
 refine nL (nT (cS (cS ?_)))
 refine c_drawS [] (by kernel_rfl) hS (sub_cons (X := .blk br [.slice q l.length c, .int .i64 ((p + 1 : Nat) : Int)] 93) (by repeat constructor) sub_nil) ?_; clear hS; intro w hS
 simp only [List.length_cons, List.length_nil, Nat.zero_add, Nat.reduceAdd, List.replicate]
 refine Ry hS (.o 0 (tf 1 9) rfl wN (e_move rfl) rfl <| .o 1 (tf 2 8) rfl wN (e_nilCheck rfl) rfl .n) ?_; clear hS a; intro a hS
 (first | refine Zt0 2 (tf 3 7) hS rfl want_none (e_fa0 rfl ty_fo93_1) rfl (by kernel_rfl) rfl ?_ | refine Zt0 2 (tf 3 7) hS rfl want_none (e_faK rfl ty_fo93_1) rfl (by kernel_rfl) rfl ?_); clear hS a; intro a hS
 refine Rz hS (sub_cons (by repeat constructor) sub_nil) (.y 3 (tf 4 6) rfl wN (e_load rfl (by repeat constructor) ty_sc3 (by rfl)) rfl <| .o 4 (tf 5 5) rfl wN (e_move rfl) rfl <| .o 5 (tf 6 4) rfl wN (e_nilCheck rfl) rfl .n) ?_; clear hS a; intro a hS
 (first | refine Zt0 6 (tf 7 3) hS rfl want_none (e_fa0 rfl ty_fo93_0) rfl (by kernel_rfl) rfl ?_ | refine Zt0 6 (tf 7 3) hS rfl want_none (e_faK rfl ty_fo93_0) rfl (by kernel_rfl) rfl ?_); clear hS a; intro a hS
 refine Rz hS (sub_cons (by repeat constructor) sub_nil) (.y 7 (tf 8 2) rfl wN (e_load rfl (by repeat constructor) ty_sc27 (by rfl)) rfl <| .o 8 (tf 9 1) rfl wN (e_len rfl rfl ty_sl27) rfl <| .o 9 (tf 10 0) rfl wN (e_bin rfl rfl rfl) rfl .n) ?_; clear hS a; intro a hS
 refine Z_done (by kernel_rfl) ?_
 refine nT ?_
 (first | refine c_ifD hS rfl ?_ ?_ | refine c_if hS rfl ?_ ?_) <;> intro hc30
 ·
  refine cR ?_
  refine L_e hS (e_move rfl) rfl ?_; clear hS a; intro a hS
  refine L_op (s_callY hS (.cons rfl .nil) cf35 rfl (jWrong_Y br q c l (p + 1) _ (hS.gg (X := rdA br q c l (p + 1)))) (fun x => (by repeat constructor)) rfl (by repeat constructor) ?_ ?_)
  ·
   intro vp wp hvp hdp hcp
   refine p_then ?_
   exact ⟨hdp, .inr ⟨vp, ⟨hvp, by rw [List.drop_eq_nil_of_le (by omega)]; rfl⟩, rfl, hcp⟩⟩
  clear hS a; intro x32 a w hS
  exact x32.elim
 have hp1 : p + 1 < l.length := by omega
 obtain ⟨b, off, x, hq, hx1, hc1⟩ := ht.cell hp1
 subst hq
 have hmk := mark_test ⟨x.toNat, x.toNat_lt⟩
 simp only [UInt8.ofNat_toNat] at hmk
 refine wS (nT (cS ?_))
 refine c_drawS [] (by kernel_rfl) hS (sub_cons (X := .blk br [.slice (some ⟨b, off, none⟩) l.length c, .int .i64 ((p + 1 : Nat) : Int)] 93) (by repeat constructor) (sub_cons (X := oldA W0) (by repeat constructor) sub_nil)) ?_; clear hS; intro w hS
 simp only [List.length_cons, List.length_nil, Nat.zero_add, Nat.reduceAdd, List.replicate]
 refine Ry hS (.o 0 (tf 1 10) rfl wN (e_move rfl) rfl <| .o 1 (tf 2 9) rfl wN (e_nilCheck rfl) rfl .n) ?_; clear hS a; intro a hS
 (first | refine Zt0 2 (tf 3 8) hS rfl want_none (e_fa0 rfl ty_fo93_0) rfl (by kernel_rfl) rfl ?_ | refine Zt0 2 (tf 3 8) hS rfl want_none (e_faK rfl ty_fo93_0) rfl (by kernel_rfl) rfl ?_); clear hS a; intro a hS
 refine Rz hS (sub_cons (by repeat constructor) (sub_cons (by repeat constructor) sub_nil)) (.y 3 (tf 4 7) rfl wN (e_load rfl (by repeat constructor) ty_sc27 (by rfl)) rfl <| .o 4 (tf 5 6) rfl wN (e_move rfl) rfl <| .o 5 (tf 6 5) rfl wN (e_nilCheck rfl) rfl .n) ?_; clear hS a; intro a hS
 (first | refine Zt0 6 (tf 7 4) hS rfl want_none (e_fa0 rfl ty_fo93_1) rfl (by kernel_rfl) rfl ?_ | refine Zt0 6 (tf 7 4) hS rfl want_none (e_faK rfl ty_fo93_1) rfl (by kernel_rfl) rfl ?_); clear hS a; intro a hS
 refine Rz hS (sub_cons (by repeat constructor) (sub_cons (by repeat constructor) sub_nil)) (.y 7 (tf 8 3) rfl wN (e_load rfl (by repeat constructor) ty_sc3 (by rfl)) rfl <| .o 8 (tf 9 2) rfl wN (e_ixN (i := p + 1) rfl rfl ty_sl27 ty_sz5 (by omega)) rfl <| .y 9 (tf 10 1) rfl wN (e_loadC rfl ty_sc5 (fun w hh => by rw [Nat.mul_one]; exact old_cell (hh (oldA W0) (by repeat constructor)) hc1)) rfl <| .o 10 (tf 11 0) rfl wN (e_assign rfl) rfl .n) ?_; clear hS a; intro a hS
 refine Z_done (by kernel_rfl) ?_
 refine nT (cS (cR ?_))
 refine Rn hS (.m rfl <| .c (e_nilCheck rfl) .n) ?_; clear hS a; intro a hS
 (first | refine L_e hS (e_fa0 rfl ty_fo93_1) rfl ?_ | refine L_e hS (e_faK rfl ty_fo93_1) rfl ?_); clear hS a; intro a hS
 refine L_e hS (e_load rfl (by repeat constructor) ty_sc3 (by rfl)) rfl ?_; clear hS a; intro a hS
 (first | refine L_e hS (e_binN rfl rfl rfl (by omega)) rfl ?_ | refine L_e hS (e_bin rfl rfl rfl) rfl ?_); clear hS a; intro a hS
 refine L_e hS (e_nilCheck rfl) rfl ?_; clear hS a; intro a hS
 (first | refine L_e hS (e_fa0 rfl ty_fo93_1) rfl ?_ | refine L_e hS (e_faK rfl ty_fo93_1) rfl ?_); clear hS a; intro a hS
 refine L_op (s_store hS rfl rfl rfl ty_sz3 (by repeat constructor) (by repeat constructor) ?_); clear hS; intro w hS
 refine nL (nT (cS (cS (cR ?_))))
 refine L_e hS (e_move rfl) rfl ?_; clear hS a; intro a hS
 refine L_op (s_callP hS (.cons rfl (.cons rfl .nil)) cf136 rfl (index_P bMk x _) ?_); clear hS a; intro a w hS
 refine L_e hS (e_assign rfl) rfl ?_; clear hS a; intro a hS
 refine nL (nT (cS (cR ?_)))
 refine Rn hS (.m rfl <| .c (e_bin rfl rfl rfl) .n) ?_; clear hS a; intro a hS
 refine nL (nT ?_)
 (first | refine c_ifD hS rfl ?_ ?_ | refine c_if hS rfl ?_ ?_) <;> intro hc53
 ·
  obtain ⟨hge, h7, hfi⟩ := hmk.resolve_left (fun h => by omega)
  obtain ⟨i, hi⟩ : ∃ i : Nat, Lib.indexByte bMk.data.toList x = (i : Int) := ⟨(Lib.indexByte bMk.data.toList x).toNat, by omega⟩
  rw [hi] at hS h7 hfi
  rw [Int.toNat_natCast] at hfi
  refine cS (cR ?_)
  refine Rn hS (.m rfl <| .c (e_ixS rfl rfl ty_u9 (by show 0 ≤ (i : Int) ∧ (i : Int) < 8; omega)) .n) ?_; clear hS a; intro a hS
  rw [Int.toNat_natCast] at hS
  refine L_e hS (e_conv rfl ty_u5 ty_u21) rfl ?_; clear hS a; intro a hS
  rw [IntWalk.i32_in _ (by have := ((bMt.data.toList.getD i 0)).toNat_lt; show -2147483648 ≤ (((bMt.data.toList.getD i 0)).toNat : Int) ∧ (((bMt.data.toList.getD i 0)).toNat : Int) ≤ 2147483647; omega)] at hS
  refine L_e hS (e_assign rfl) rfl ?_; clear hS a; intro a hS
  refine nL (nT (wp_ret (r_then ?_)))
  refine c_ret1 hS Tryz.results139 (.tmp rfl) ?_
  exact .inl ⟨⟨((meantL.getD i 0).toNat, 1), esc_mark hx1 hfi, by show p + 1 + 1 ≤ l.length; omega⟩, rfl, hS.chg, hS.ok (rdA br (some ⟨b, off, none⟩) c l (p + 1 + 1)) (by repeat constructor), fun b hb => .inl hb⟩
 have hno := (hmk.resolve_right (fun h => by omega)).2
 have hec := esc_cons hx1 hno
 refine wS (nT (cS (cS (cR ?_))))
 refine Rn hS (.m rfl <| .c (e_bin rfl rfl rfl) .n) ?_; clear hS a; intro a hS
 refine nL (nT ?_)
 (first | refine c_ifD hS rfl ?_ ?_ | refine c_if hS rfl ?_ ?_) <;> intro hc58
 ·
  rw [if_neg (by omega)] at hec
  refine cR ?_
  refine Rn hS (.m rfl <| .m rfl .n) ?_; clear hS a; intro a hS
  refine L_op (s_callY hS (.cons rfl (.cons rfl (.cons rfl .nil))) cf94 rfl (jFail_Y eNo (.pointer (some ⟨br, 0, none⟩)) (p : Int) 11 (show (11 : Int) ≠ 0 by decide) (.blk br [.slice (some ⟨b, off, none⟩) l.length c, .int .i64 ((p + 1 + 1 : Nat) : Int)] 93) _ (hS.ok _ (by repeat constructor)) rfl) (fun x => (by repeat constructor)) rfl (by repeat constructor) ?_ ?_)
  ·
   intro vp wp hvp hdp hcp
   refine p_then ?_
   exact ⟨hdp, .inr ⟨vp, ⟨hvp, hec⟩, rfl, hcp⟩⟩
  clear hS a; intro x61 a w hS
  exact x61.elim
 rw [if_pos (by omega)] at hec
 refine wS (nT (cS (cR ?_)))
 refine Rn hS (.m rfl <| .m rfl .n) ?_; clear hS a; intro a hS
 refine L_op (s_callY hS (.cons rfl (.cons rfl .nil)) cf184 rfl (jFour_Y W0 br (some ⟨b, off, none⟩) c l ht (p + 1 + 1) (by omega) (p : Int) _ (hS.gg (X := rdA br (some ⟨b, off, none⟩) c l (p + 1 + 1))) (hS.gg (X := oldA W0)) hb) (fun x => (by repeat constructor)) rfl (by repeat constructor) ?_ ?_)
 ·
  intro vp wp hvp hdp hcp
  refine p_then ?_
  exact ⟨hdp, .inr ⟨vp, ⟨hvp.1, by rw [hec, hvp.2]⟩, rfl, hcp⟩⟩
 clear hS a; intro x64 a w hS
 obtain ⟨u, hu⟩ := x64
 have hu4 := four_le hu
 rw [List.length_drop] at hu4
 rw [hu] at hec
 simp only at hec hS
 have hu16 : u < 65536 := by
  rw [four_def] at hu
  split at hu
  · rename_i a1 a2 a3 a4 q1 q2 q3 q4
    have k1 : ∀ {j y}, hx (l.drop (p + 1 + 1)) j = some y → y < 16 := fun {j y} hq => by
     unfold hx at hq
     split at hq
     · exact hx_lt hq
     · cases hq
    have := k1 q1; have := k1 q2; have := k1 q3; have := k1 q4
    injection hu with hu; omega
  · cases hu
 refine L_e hS (e_assign rfl) rfl ?_; clear hS a; intro a hS
 refine nL (nT (cS (cS (cR ?_))))
 refine Rn hS (.m rfl <| .c (e_bin rfl rfl rfl) <| .m rfl .n) ?_; clear hS a; intro a hS
 refine L_merge 3 70 (.bool (decide (u < 55296 ∨ 57344 ≤ u))) hS ?_ ?_
 · intro hcM70
   (first | refine g_splitD (t := 67) hS rfl ?_ ?_ | refine g_split (t := 67) hS rfl ?_ ?_) <;> (clear hS; intro hg67 hS)
   ·
    refine Rn hS (.f rfl rfl <| .f rfl rfl <| .c (e_pk rfl rfl) .n) ?_; clear hS a; intro a hS
    exact hcM70 _ _ (hS.ends 4 70 67 rfl (congrArg Value.bool (by exact (decide_eq_true (.inl (by omega))).symm)) rfl rfl (by first | exact congrArg Value.bool (decide_eq_true hg67).symm | exact congrArg Value.bool hg67.symm | simp [hg67]) rfl)
   refine Rn hS (.g rfl rfl (e_move rfl) <| .g rfl rfl (e_bin rfl rfl rfl) <| .c (e_pk rfl rfl) .n) ?_; clear hS a; intro a hS
   exact hcM70 _ _ (hS.ends 4 70 67 rfl (congrArg Value.bool (by exact decide_eq_decide.2 (by omega))) rfl rfl (by first | exact congrArg Value.bool (decide_eq_false hg67).symm | exact congrArg Value.bool hg67.symm | simp [hg67]) rfl)
 · clear hS a; intro a w hS
   simp only [List.drop_succ_cons, List.drop_zero]
   refine nL (nT ?_)
   (first | refine c_ifD hS rfl ?_ ?_ | refine c_if hS rfl ?_ ?_) <;> intro hc70
   ·
    refine cS (cR ?_)
    refine Rn hS (.m rfl <| .a rfl .n) ?_; clear hS a; intro a hS
    refine nL (nT (wp_ret (r_then ?_)))
    refine c_ret1 hS Tryz.results139 (.tmp rfl) ?_
    rw [if_pos hc70] at hec
    exact .inl ⟨⟨(u, 5), hec, by show p + 1 + 5 ≤ l.length; omega⟩, rfl, hS.chg, hS.ok (rdA br (some ⟨b, off, none⟩) c l (p + 1 + 1 + 4)) (by repeat constructor), fun b hb => .inl hb⟩
   rw [if_neg hc70] at hec
   refine wS (nT (cS (cS (cR ?_))))
   refine Rn hS (.m rfl <| .c (e_bin rfl rfl rfl) .n) ?_; clear hS a; intro a hS
   refine nL (nT ?_)
   (first | refine c_ifD hS rfl ?_ ?_ | refine c_if hS rfl ?_ ?_) <;> intro hc73
   ·
    rw [if_pos (by omega)] at hec
    refine cR ?_
    unfold rdA rdB at hS
    refine Rn hS (.m rfl <| .m rfl .n) ?_; clear hS a; intro a hS
    refine L_op (s_callY hS (.cons rfl (.cons rfl (.cons rfl .nil))) cf94 rfl (jFail_Y eNo (.pointer (some ⟨br, 0, none⟩)) (p : Int) 11 (show (11 : Int) ≠ 0 by decide) (.blk br [.slice (some ⟨b, off, none⟩) l.length c, .int .i64 ((p + 1 + 1 + 4 : Nat) : Int)] 93) _ (hS.ok _ (by repeat constructor)) rfl) (fun x => (by repeat constructor)) rfl (by repeat constructor) ?_ ?_)
    ·
     intro vp wp hvp hdp hcp
     refine p_then ?_
     exact ⟨hdp, .inr ⟨vp, ⟨hvp, hec⟩, rfl, hcp⟩⟩
    clear hS a; intro x76 a w hS
    exact x76.elim
   rw [if_neg (by omega)] at hec
   refine wS (nT (cS (cS (cR ?_))))
   refine L_op (s_bslice hS ty_sl27 ty_sz5 ty_z5 rfl rfl rfl rfl (.one rfl rfl rfl (.one rfl rfl rfl .nil)) rfl ?_); clear hS a; intro a w b77 hS
   refine L_op (s_convConst hS rfl ty_sl27 ty_u5 rfl (by repeat constructor) ?_); clear hS a; intro a w hS
   refine Rn hS (.c (e_len rfl rfl ty_sl27) <| .m rfl .n) ?_; clear hS a; intro a hS
   refine nL (nT (wB ?_))
   skip
   refine c_loop (γ := Nat) (fun k a w => St 138 (fun k => k = br) w0 a w [(80, .int .i64 (k : Int)), (79, .int .i64 2), (78, .slice (some ⟨b77, 0, none⟩) 2 2), (6, .int .i32 (u : Int)), (3, .int .i64 (p : Int)), (0, .pointer (some ⟨br, 0, none⟩))] [rdA br (some ⟨b, off, none⟩) c l (p + 1 + 1 + 4 + k), rkA b77 [.int .u8 92, .int .u8 117] 5, oldA W0] ∧ k ≤ 2 ∧ p + 1 + 1 + 4 + k ≤ l.length ∧ (1 ≤ k → (l.getD (p + 1 + 5) 0).toNat = 92) ∧ (2 ≤ k → (l.getD (p + 1 + 6) 0).toNat = 117)) (fun k => 2 - k) 0 ⟨(hS.slots (by repeat (first | exact trivial | refine ⟨rfl, ?_⟩))).pick (by repeat (first | exact Pick.nil | (refine Pick.cons (by repeat (first | exact Rem.head | apply Rem.tail)) ?_))), Nat.zero_le _, by omega, fun h => absurd h (by decide), fun h => absurd h (by decide)⟩ ?_
   clear hS a; intro k a w hI
   obtain ⟨hS, hk, hpk, hz1, hz2⟩ := hI
   unfold rdA rdB at hS
   refine cS (cR ?_)
   refine L_e hS (e_bin rfl rfl rfl) rfl ?_; clear hS a; intro a hS
   refine nL (nT (cS ?_))
   (first | refine c_ifD hS rfl ?_ ?_ | refine c_if hS rfl ?_ ?_) <;> intro hc81
   ·
    have hk2 : k < 2 := by omega
    obtain ⟨z, hz⟩ : ∃ z : Nat, ([.int .u8 92, .int .u8 117] : List Value)[k]? = some (.int .u8 (z : Int)) ∧ ((k = 0 ∧ z = 92) ∨ (k = 1 ∧ z = 117)) := by
     match k, hk2 with
     | 0, _ => exact ⟨92, rfl, .inl ⟨rfl, rfl⟩⟩
     | 1, _ => exact ⟨117, rfl, .inr ⟨rfl, rfl⟩⟩
    have hbad : ∀ y : Nat, (l.getD (p + 1 + 1 + 4 + k) 0).toNat = y → y ≠ z → escF (l.drop (p + 1)) = none := fun y hy hne => by
     rw [hec, if_neg]
     rintro ⟨h1, h2⟩
     rcases hz.2 with ⟨rfl, rfl⟩ | ⟨rfl, rfl⟩
     · exact hne (hy.symm.trans h1)
     · exact hne (hy.symm.trans h2)
    refine wS (nT (cS (wB (cS (cR ?_)))))
    refine Rn hS (.c (e_ixN (i := k) rfl rfl ty_sl27 ty_sz5 (by omega)) <| .c (e_loadC rfl ty_sc5 (fun w hh => by rw [Nat.mul_one, Nat.zero_add]; exact rk_cell (hh (rkA b77 [.int .u8 92, .int .u8 117] 5) (by repeat constructor)) hz.1)) <| .a rfl .n) ?_; clear hS a; intro a hS
    refine nL (nT (cS (cS ?_)))
    refine c_drawS [] (by kernel_rfl) hS (sub_cons (X := .blk br [.slice (some ⟨b, off, none⟩) l.length c, .int .i64 ((p + 1 + 1 + 4 + k : Nat) : Int)] 93) (by repeat constructor) sub_nil) ?_; clear hS; intro w hS
    simp only [List.length_cons, List.length_nil, Nat.zero_add, Nat.reduceAdd, List.replicate]
    refine Ry hS (.o 0 (tf 1 9) rfl wN (e_move rfl) rfl <| .o 1 (tf 2 8) rfl wN (e_nilCheck rfl) rfl .n) ?_; clear hS a; intro a hS
    (first | refine Zt0 2 (tf 3 7) hS rfl want_none (e_fa0 rfl ty_fo93_1) rfl (by kernel_rfl) rfl ?_ | refine Zt0 2 (tf 3 7) hS rfl want_none (e_faK rfl ty_fo93_1) rfl (by kernel_rfl) rfl ?_); clear hS a; intro a hS
    refine Rz hS (sub_cons (by repeat constructor) sub_nil) (.y 3 (tf 4 6) rfl wN (e_load rfl (by repeat constructor) ty_sc3 (by rfl)) rfl <| .o 4 (tf 5 5) rfl wN (e_move rfl) rfl <| .o 5 (tf 6 4) rfl wN (e_nilCheck rfl) rfl .n) ?_; clear hS a; intro a hS
    (first | refine Zt0 6 (tf 7 3) hS rfl want_none (e_fa0 rfl ty_fo93_0) rfl (by kernel_rfl) rfl ?_ | refine Zt0 6 (tf 7 3) hS rfl want_none (e_faK rfl ty_fo93_0) rfl (by kernel_rfl) rfl ?_); clear hS a; intro a hS
    refine Rz hS (sub_cons (by repeat constructor) sub_nil) (.y 7 (tf 8 2) rfl wN (e_load rfl (by repeat constructor) ty_sc27 (by rfl)) rfl <| .o 8 (tf 9 1) rfl wN (e_len rfl rfl ty_sl27) rfl <| .o 9 (tf 10 0) rfl wN (e_bin rfl rfl rfl) rfl .n) ?_; clear hS a; intro a hS
    refine Z_done (by kernel_rfl) ?_
    refine nT ?_
    (first | refine c_ifD hS rfl ?_ ?_ | refine c_if hS rfl ?_ ?_) <;> intro hc93
    ·
     refine cR ?_
     refine L_e hS (e_move rfl) rfl ?_; clear hS a; intro a hS
     refine L_op (s_callY hS (.cons rfl .nil) cf35 rfl (jWrong_Y br (some ⟨b, off, none⟩) c l (p + 1 + 1 + 4 + k) _ (hS.gg (X := rdA br (some ⟨b, off, none⟩) c l (p + 1 + 1 + 4 + k)))) (fun x => (by repeat constructor)) rfl (by repeat constructor) ?_ ?_)
     ·
      intro vp wp hvp hdp hcp
      refine p_then (p_block (p_then (p_then (p_block (p_then ?_)))))
      exact ⟨hdp, .inr ⟨vp, ⟨hvp, hbad 0 (getD_end (by omega)) (by omega)⟩, rfl, hcp⟩⟩
     clear hS a; intro x95 a w hS
     exact x95.elim
    obtain ⟨b', off', y, hq', hy1, hcy⟩ := ht.cell (show p + 1 + 1 + 4 + k < l.length by omega)
    injection hq' with hq'
    injection hq' with e1 e2
    subst e1; subst e2
    refine wS (nT (cS (cS ?_)))
    refine c_drawS [] (by kernel_rfl) hS (sub_cons (X := .blk br [.slice (some ⟨b, off, none⟩) l.length c, .int .i64 ((p + 1 + 1 + 4 + k : Nat) : Int)] 93) (by repeat constructor) (sub_cons (X := oldA W0) (by repeat constructor) sub_nil)) ?_; clear hS; intro w hS
    simp only [List.length_cons, List.length_nil, Nat.zero_add, Nat.reduceAdd, List.replicate]
    refine Ry hS (.o 0 (tf 1 11) rfl wN (e_move rfl) rfl <| .o 1 (tf 2 10) rfl wN (e_nilCheck rfl) rfl .n) ?_; clear hS a; intro a hS
    (first | refine Zt0 2 (tf 3 9) hS rfl want_none (e_fa0 rfl ty_fo93_0) rfl (by kernel_rfl) rfl ?_ | refine Zt0 2 (tf 3 9) hS rfl want_none (e_faK rfl ty_fo93_0) rfl (by kernel_rfl) rfl ?_); clear hS a; intro a hS
    refine Rz hS (sub_cons (by repeat constructor) (sub_cons (by repeat constructor) sub_nil)) (.y 3 (tf 4 8) rfl wN (e_load rfl (by repeat constructor) ty_sc27 (by rfl)) rfl <| .o 4 (tf 5 7) rfl wN (e_move rfl) rfl <| .o 5 (tf 6 6) rfl wN (e_nilCheck rfl) rfl .n) ?_; clear hS a; intro a hS
    (first | refine Zt0 6 (tf 7 5) hS rfl want_none (e_fa0 rfl ty_fo93_1) rfl (by kernel_rfl) rfl ?_ | refine Zt0 6 (tf 7 5) hS rfl want_none (e_faK rfl ty_fo93_1) rfl (by kernel_rfl) rfl ?_); clear hS a; intro a hS
    refine Rz hS (sub_cons (by repeat constructor) (sub_cons (by repeat constructor) sub_nil)) (.y 7 (tf 8 4) rfl wN (e_load rfl (by repeat constructor) ty_sc3 (by rfl)) rfl <| .o 8 (tf 9 3) rfl wN (e_ixN (i := p + 1 + 1 + 4 + k) rfl rfl ty_sl27 ty_sz5 (by omega)) rfl <| .y 9 (tf 10 2) rfl wN (e_loadC rfl ty_sc5 (fun w hh => by rw [Nat.mul_one]; exact old_cell (hh (oldA W0) (by repeat constructor)) hcy)) rfl <| .o 10 (tf 11 1) rfl wN (e_move rfl) rfl <| .o 11 (tf 12 0) rfl wN (e_bin rfl rfl rfl) rfl .n) ?_; clear hS a; intro a hS
    refine Z_done (by kernel_rfl) ?_
    refine nT ?_
    (first | refine c_ifD hS rfl ?_ ?_ | refine c_if hS rfl ?_ ?_) <;> intro hc107
    ·
     refine cR ?_
     refine Rn hS (.m rfl <| .m rfl .n) ?_; clear hS a; intro a hS
     refine L_op (s_callY hS (.cons rfl (.cons rfl (.cons rfl .nil))) cf94 rfl (jFail_Y eNo (.pointer (some ⟨br, 0, none⟩)) (p : Int) 11 (show (11 : Int) ≠ 0 by decide) (.blk br [.slice (some ⟨b, off, none⟩) l.length c, .int .i64 ((p + 1 + 1 + 4 + k : Nat) : Int)] 93) _ (hS.ok _ (by repeat constructor)) rfl) (fun x => (by repeat constructor)) rfl (by repeat constructor) ?_ ?_)
     ·
      intro vp wp hvp hdp hcp
      refine p_then (p_block (p_then (p_then (p_block (p_then ?_)))))
      exact ⟨hdp, .inr ⟨vp, ⟨hvp, hbad y.toNat (by rw [getD_of hy1]) (by omega)⟩, rfl, hcp⟩⟩
     clear hS a; intro x110 a w hS
     exact x110.elim
    refine wS (nT (cR ?_))
    refine Rn hS (.m rfl <| .c (e_nilCheck rfl) .n) ?_; clear hS a; intro a hS
    (first | refine L_e hS (e_fa0 rfl ty_fo93_1) rfl ?_ | refine L_e hS (e_faK rfl ty_fo93_1) rfl ?_); clear hS a; intro a hS
    refine L_e hS (e_load rfl (by repeat constructor) ty_sc3 (by rfl)) rfl ?_; clear hS a; intro a hS
    (first | refine L_e hS (e_binN rfl rfl rfl (by omega)) rfl ?_ | refine L_e hS (e_bin rfl rfl rfl) rfl ?_); clear hS a; intro a hS
    refine L_e hS (e_nilCheck rfl) rfl ?_; clear hS a; intro a hS
    (first | refine L_e hS (e_fa0 rfl ty_fo93_1) rfl ?_ | refine L_e hS (e_faK rfl ty_fo93_1) rfl ?_); clear hS a; intro a hS
    refine L_op (s_store hS rfl rfl rfl ty_sz3 (by repeat constructor) (by repeat constructor) ?_); clear hS; intro w hS
    refine nL (n_block (nT (cR ?_)))
    (first | refine L_e hS (e_binN rfl rfl rfl (by omega)) rfl ?_ | refine L_e hS (e_bin rfl rfl rfl) rfl ?_); clear hS a; intro a hS
    refine L_e hS (e_move rfl) rfl ?_; clear hS a; intro a hS
    refine nL ?_
    have hyz : y.toNat = z := by omega
    refine ⟨k + 1, by omega, (hS.slots (by repeat (first | exact trivial | refine ⟨rfl, ?_⟩))).pick (by repeat (first | exact Pick.nil | (refine Pick.cons (by repeat (first | exact Rem.head | apply Rem.tail)) ?_))), by omega, by omega, fun h1 => ?_, fun h2 => ?_⟩
    · rcases Nat.eq_zero_or_pos k with h0 | h0
      · subst h0
        rw [show p + 1 + 5 = p + 1 + 1 + 4 + 0 by omega, getD_of hy1, hyz]
        rcases hz.2 with ⟨_, h⟩ | ⟨h, _⟩
        · exact h
        · omega
      · exact hz1 h0
    · have h1 : k = 1 := by omega
      subst h1
      rw [show p + 1 + 6 = p + 1 + 1 + 4 + 1 by omega, getD_of hy1, hyz]
      rcases hz.2 with ⟨h, _⟩ | ⟨_, h⟩
      · omega
      · exact h
   obtain rfl : k = 2 := by omega
   rw [if_pos ⟨hz1 (by decide), hz2 (by decide)⟩] at hec
   refine wp_exit ?_
   refine x_then (x_then (x_hit ?_))
   refine nT (cS (cR ?_))
   refine Rn hS (.m rfl <| .m rfl .n) ?_; clear hS a; intro a hS
   refine L_op (s_callY hS (.cons rfl (.cons rfl .nil)) cf184 rfl (jFour_Y W0 br (some ⟨b, off, none⟩) c l ht (p + 1 + 1 + 4 + 2) hpk (p : Int) _ (hS.gg (X := rdA br (some ⟨b, off, none⟩) c l (p + 1 + 1 + 4 + 2))) (hS.gg (X := oldA W0)) hb) (fun x => (by repeat constructor)) rfl (by repeat constructor) ?_ ?_)
   ·
    intro vp wp hvp hdp hcp
    refine p_then ?_
    exact ⟨hdp, .inr ⟨vp, ⟨hvp.1, by rw [hec, show p + 1 + 7 = p + 1 + 1 + 4 + 2 by omega, hvp.2]⟩, rfl, hcp⟩⟩
   clear hS a; intro x121 a w hS
   obtain ⟨v, hv⟩ := x121
   have hv4 := four_le hv
   rw [List.length_drop] at hv4
   rw [show p + 1 + 7 = p + 1 + 1 + 4 + 2 by omega, hv] at hec
   simp only at hec hS
   refine L_e hS (e_assign rfl) rfl ?_; clear hS a; intro a hS
   refine nL (nT (cS (cS (cR ?_))))
   refine Rn hS (.m rfl <| .c (e_bin rfl rfl rfl) <| .m rfl .n) ?_; clear hS a; intro a hS
   refine L_merge 3 127 (.bool (decide (v < 56320 ∨ 57344 ≤ v))) hS ?_ ?_
   · intro hcM127
     (first | refine g_splitD (t := 124) hS rfl ?_ ?_ | refine g_split (t := 124) hS rfl ?_ ?_) <;> (clear hS; intro hg124 hS)
     ·
      refine Rn hS (.f rfl rfl <| .f rfl rfl <| .c (e_pk rfl rfl) .n) ?_; clear hS a; intro a hS
      exact hcM127 _ _ (hS.ends 4 127 124 rfl (congrArg Value.bool (by exact (decide_eq_true (.inl (by omega))).symm)) rfl rfl (by first | exact congrArg Value.bool (decide_eq_true hg124).symm | exact congrArg Value.bool hg124.symm | simp [hg124]) rfl)
     refine Rn hS (.g rfl rfl (e_move rfl) <| .g rfl rfl (e_bin rfl rfl rfl) <| .c (e_pk rfl rfl) .n) ?_; clear hS a; intro a hS
     exact hcM127 _ _ (hS.ends 4 127 124 rfl (congrArg Value.bool (by exact decide_eq_decide.2 (by omega))) rfl rfl (by first | exact congrArg Value.bool (decide_eq_false hg124).symm | exact congrArg Value.bool hg124.symm | simp [hg124]) rfl)
   · clear hS a; intro a w hS
     simp only [List.drop_succ_cons, List.drop_zero]
     refine nL (nT ?_)
     (first | refine c_ifD hS rfl ?_ ?_ | refine c_if hS rfl ?_ ?_) <;> intro hc127
     ·
      rw [if_pos hc127] at hec
      refine cR ?_
      unfold rdA rdB at hS
      refine Rn hS (.m rfl <| .m rfl .n) ?_; clear hS a; intro a hS
      refine L_op (s_callY hS (.cons rfl (.cons rfl (.cons rfl .nil))) cf94 rfl (jFail_Y eNo (.pointer (some ⟨br, 0, none⟩)) (p : Int) 11 (show (11 : Int) ≠ 0 by decide) (.blk br [.slice (some ⟨b, off, none⟩) l.length c, .int .i64 ((p + 1 + 1 + 4 + 2 + 4 : Nat) : Int)] 93) _ (hS.ok _ (by repeat constructor)) rfl) (fun x => (by repeat constructor)) rfl (by repeat constructor) ?_ ?_)
      ·
       intro vp wp hvp hdp hcp
       refine p_then ?_
       exact ⟨hdp, .inr ⟨vp, ⟨hvp, hec⟩, rfl, hcp⟩⟩
      clear hS a; intro x130 a w hS
      exact x130.elim
     rw [if_neg hc127] at hec
     refine wS (nT (cS (cR ?_)))
     refine Rn hS (.m rfl <| .c (e_bin rfl rfl rfl) .n) ?_; clear hS a; intro a hS
     rw [IntWalk.i32_in _ (by omega)] at hS
     refine L_e hS (e_shl (j := 10) rfl (by decide)) rfl ?_; clear hS a; intro a hS
     rw [IntWalk.i32_in _ (by omega)] at hS
     refine L_e hS (e_bin rfl rfl rfl) rfl ?_; clear hS a; intro a hS
     rw [IntWalk.i32_in _ (by omega)] at hS
     refine Rn hS (.m rfl <| .c (e_bin rfl rfl rfl) .n) ?_; clear hS a; intro a hS
     rw [IntWalk.i32_in _ (by omega)] at hS
     refine L_e hS (e_bin rfl rfl rfl) rfl ?_; clear hS a; intro a hS
     rw [IntWalk.i32_in _ (by omega), show (65536 : Int) + ((u : Int) - 55296) * 2 ^ 10 + ((v : Int) - 56320) = ((65536 + (u - 55296) * 1024 + (v - 56320) : Nat) : Int) by omega] at hS
     refine L_e hS (e_assign rfl) rfl ?_; clear hS a; intro a hS
     refine nL (nT (wp_ret ?_))
     refine c_ret1 hS Tryz.results139 (.tmp rfl) ?_
     exact .inl ⟨⟨(65536 + (u - 55296) * 1024 + (v - 56320), 11), hec, by show p + 1 + 11 ≤ l.length; omega⟩, rfl, hS.chg, hS.ok (rdA br (some ⟨b, off, none⟩) c l (p + 1 + 1 + 4 + 2 + 4)) (by repeat constructor), fun b hb => .inl hb⟩
end Go.Proofs.YtlccmgeclhdegaaGreatDoor
namespace Go.Proofs.YtlccmgeclhdegaaGreatDoor
open Go.RowKit
theorem dec_pos (L : List UInt8) (h : L ≠ []) : 1 ≤ (Lib.decodeL L).2 ∧ (Lib.decodeL L).2 ≤ L.length := by
 have h1 := Lib.decodeL_width L
 have h2 := Lib.decodeL_le L h
 omega
theorem strF_fuel : ∀ (n m : Nat) (L acc : List UInt8) (u : Nat), L.length ≤ n → L.length ≤ m → strF n L acc u = strF m L acc u
 | 0, m, L, acc, u, hn, _ => by
   obtain rfl : L = [] := List.eq_nil_of_length_eq_zero (by omega)
   cases m <;> rfl
 | n + 1, 0, L, acc, u, _, hm => by
   obtain rfl : L = [] := List.eq_nil_of_length_eq_zero (by omega)
   rfl
 | n + 1, m + 1, [], acc, u, _, _ => rfl
 | n + 1, m + 1, c :: t, acc, u, hn, hm => by
   have hd := dec_pos (c :: t) (by simp)
   have hn' : t.length ≤ n := by simpa using hn
   have hm' : t.length ≤ m := by simpa using hm
   unfold strF
   simp only
   split
   · rfl
   · split
     · rfl
     · split
       · cases escF t with
         | none => rfl
         | some x => exact strF_fuel n m _ _ _ (by rw [List.length_drop]; omega) (by rw [List.length_drop]; omega)
       · split
         · rfl
         · exact strF_fuel n m _ _ _ (by rw [List.length_drop, List.length_cons]; omega) (by rw [List.length_drop, List.length_cons]; omega)
def strB (L acc : List UInt8) (u : Nat) : Option (List UInt8 × Nat) := strF L.length L acc u
theorem strB_any {n : Nat} {L acc : List UInt8} {u : Nat} (h : L.length ≤ n) : strF n L acc u = strB L acc u := strF_fuel _ _ _ _ _ h (Nat.le_refl _)
theorem strB_cons (c : UInt8) (t acc : List UInt8) (u : Nat) : strB (c :: t) acc u = if c.toNat < 32 then none else if c.toNat = 34 then some (acc, u + 1) else
 if c.toNat = 92 then match escF t with
  | none => none
  | some (r, k) => strB (t.drop k) (acc ++ Lib.encodeRune r) (u + 1 + k)
 else if (Lib.decodeL (c :: t)).1 = 65533 ∧ (Lib.decodeL (c :: t)).2 = 1 then none
 else strB ((c :: t).drop (Lib.decodeL (c :: t)).2) (acc ++ (c :: t).take (Lib.decodeL (c :: t)).2) (u + (Lib.decodeL (c :: t)).2) := by
 have hd := dec_pos (c :: t) (by simp)
 conv => lhs; unfold strB; rw [List.length_cons]; unfold strF
 simp only
 split
 · rfl
 · split
   · rfl
   · split
     · cases escF t with
       | none => rfl
       | some x => exact strB_any (by rw [List.length_drop]; omega)
     · split
       · rfl
       · exact strB_any (by rw [List.length_drop, List.length_cons]; omega)
theorem TxA.drop {W0 : World} {q : Option Addr} {c : Nat} {l : List UInt8} (h : TxA W0 q c l) {p : Nat} (hp : p ≤ l.length) : TxA W0 (tailP q p c 1) (c - p) (l.drop p) := by
 refine ⟨?_, by have := h.n; rw [List.length_drop]; omega⟩
 have h1 := h.lies.piece (j := p) (k := l.length) hp (Nat.le_refl _)
 rw [bsI_piece, List.take_length] at h1
 rwa [List.length_drop]
theorem decR_P (W0 : World) (hU : Lib.Utf8Tabs 0 1 W0) (q : Option Addr) (c : Nat) (l : List UInt8) (hne : l ≠ []) (ht : TxA W0 q c l) (w0 : World) (ho : oldφ W0 w0) :
 PureC Tryz.prog 141 [.slice q l.length c] w0 (.tuple [.int .i32 ((Lib.decodeL l).1 : Int), .int .i64 ((Lib.decodeL l).2 : Int)].toArray) := by
 have hpos : 0 < l.length := List.length_pos_iff.2 hne
 obtain ⟨b, off, x, hq, _, _⟩ := ht.cell hpos
 have hs : (tx l).size = l.length := tx_size l
 have hd : Lib.decodeGo (tx l) = Lib.decodeL l := by
  unfold Lib.decodeGo
  rw [if_neg (by omega)]; rfl
 have hU0 : Lib.Utf8Tabs 0 1 w0 := ⟨fun c hc => old_cell ho (hU.1 c hc), fun i hi => ⟨old_cell ho (hU.2 i hi).1, old_cell ho (hU.2 i hi).2⟩⟩
 have h := Any7.utf8_DecodeRune Tryz.lays7d (tx l) b off c w0 hU0 (fun j hj => by
   obtain ⟨b', off', y, hq', hy, hc⟩ := ht.cell (show j < l.length by omega)
   rw [hq] at hq'
   injection hq' with hq'
   injection hq' with e1 e2
   subst e1; subst e2
   have e3 : (tx l).get! j = y := by
     have h1 : (tx l).data[j]? = some y := by show l.toArray[j]? = some y; simpa using hy
     show (tx l).data[j]! = y
     rw [getElem!_def, h1]
   rw [e3]
   exact old_cell ho hc)
 rw [hd, hs] at h
 subst hq
 exact h.mono fun _ _ ⟨he, hb⟩ => ⟨he, Chg.of_below hb⟩
theorem own_base {w : World} {B E s : Nat} {v : Value} {m : Nat} {xs : List Value} (h : w.ownsRow 0 E s v m xs) (hB : ∀ k, v.ownBlock = some k → B ≤ k) : w.ownsRow B E s v m xs := by
 refine ⟨h.1, h.2.imp id ?_⟩
 rintro ⟨g, cap, cur, rfl, _, h2⟩
 exact ⟨g, cap, cur, rfl, hB g rfl, h2⟩
theorem own_base0 {w : World} {B E s : Nat} {v : Value} {m : Nat} {xs : List Value} (h : w.ownsRow B E s v m xs) : w.ownsRow 0 E s v m xs ∧ ∀ k, v.ownBlock = some k → B ≤ k := by
 refine ⟨⟨h.1, h.2.imp id ?_⟩, fun k hk => ?_⟩
 · rintro ⟨g, cap, cur, rfl, _, h2⟩
   exact ⟨g, cap, cur, rfl, Nat.zero_le _, h2⟩
 · rcases h.2 with ⟨rfl, _⟩ | ⟨g, cap, cur, rfl, h1, _⟩
   · cases hk
   · have : g = k := by simpa [Value.ownBlock] using hk
     omega
section
variable {P : Program} {n : NN} {F0 : Nat → Prop} {w0 : World} {a : Act} {w : World} {L : List (Nat × Value)} {Γ : List Asn}
variable {K : Act → World → Prop} {Q : Exit → Act → World → Prop} {d ty : Nat} {pos : String} {af : Array Edge} {g : Option (Nat × Bool)}
theorem s_callA {E s m m' : Nat} {v : Value} {xs xs' : List Value} {f : FuncId} {os : List Operand} {vs : List Value} {ts : Array TypeId} (hS : St n F0 w0 a w L (ownA E s v m xs :: Γ)) (hx : Evs L os vs) (hf : CallsTo P f) (hn : Nat.blt d n.n = true)
 (hold : ∀ X ∈ Γ, ∀ b, X.F b → b < w0.heap.size) (hvB : ∀ k, v.ownBlock = some k → w0.heap.size ≤ k)
 (hc : w.ownsRow w0.heap.size E s v m xs → w0.heap.size ≤ w.heap.size → Calls P f vs.toArray w fun e w' => ∃ v', e = .returned v' ∧ w'.ownsRow w0.heap.size E s v' m' xs' ∧ Chg (fun k => v.ownBlock = some k) w w')
 (h : ∀ v' a' w', (∀ k, v'.ownBlock = some k → w0.heap.size ≤ k) → St n F0 w0 a' w' ((d, v') :: L) (ownA E s v' m' xs' :: Γ) → K a' w') : OW P ⟨some d, .call ⟨.value (.func f), os.toArray, ts⟩, ty, pos, af, g⟩ a w K Q := by
 have hown : w.ownsRow 0 E s v m xs := hS.get (.head _)
 refine s_call hS hx hf (hc (own_base hown hvB) hS.chg.size) fun e w' ⟨v', he, ho, hch⟩ => ⟨v', he, ?_⟩
 obtain ⟨ho0, hvB'⟩ := own_base0 ho
 have hdis := List.pairwise_cons.1 hS.dis
 refine h v' _ _ hvB' (St.put ⟨hS.sl, hS.chg.trans hch (fun i hi hlt => absurd (hvB i hi) (by omega)), fun X hX => ?_, List.pairwise_cons.2 ⟨fun X hX b h1 h2 => ?_, hdis.2⟩, fun X hX hm b hb => ?_⟩ hn v')
 · rcases List.mem_cons.1 hX with rfl | hX
   · exact ok_own ho0
   · exact (hS.ok X (.tail _ hX)).keep hch (fun b hb h2 => by have := hold X hX b hb; have := hvB b h2; omega)
 · have := hold X hX b h2; have := hvB' b h1; omega
 · rcases List.mem_cons.1 hX with rfl | hX
   · exact .inl (hvB' b hb)
   · exact hS.mine X (.tail _ hX) hm b hb
end
def u8C (l : List UInt8) : List Value := l.map fun b => .int .u8 (b.toNat : Int)
theorem u8C_len (l : List UInt8) : (u8C l).length = l.length := List.length_map ..
theorem u8C_app (a b : List UInt8) : u8C (a ++ b) = u8C a ++ u8C b := List.map_append
theorem rune_cells (r : Nat) : Lib.runeCells (r : Int) = u8C (Lib.encodeRune (r : Int)) := by
 unfold Lib.runeCells u8C Lib.encodeRune
 rw [List.map_map]
 refine List.map_congr_left fun z hz => ?_
 have hb := Lib.encodeRuneZ_byte (r : Int) z hz
 show Value.int .u8 z = .int .u8 ((z.toNat.toUInt8).toNat : Int)
 congr 1
 rw [show z.toNat.toUInt8 = UInt8.ofNat z.toNat from rfl, UInt8.toNat_ofNat', Nat.mod_eq_of_lt (by omega)]
 omega
theorem rune_len (r : Nat) : (Lib.encodeRune (r : Int)).length ≤ 4 := by unfold Lib.encodeRune; rw [List.length_map]; exact (Lib.encodeRuneZ_length _).2
end Go.Proofs.YtlccmgeclhdegaaGreatDoor
namespace Go.Proofs.YtlccmgeclhdegaaGreatDoor
open Go.RowKit
theorem four_lt {L : List UInt8} {u : Nat} (hu : fourF L = some u) : u < 65536 := by
 rw [four_def] at hu
 split at hu
 · rename_i a1 a2 a3 a4 q1 q2 q3 q4
   have k1 : ∀ {j y}, hx L j = some y → y < 16 := fun {j y} hq => by
    unfold hx at hq
    split at hq
    · exact hx_lt hq
    · cases hq
   have := k1 q1; have := k1 q2; have := k1 q3; have := k1 q4
   injection hu with hu; omega
 · cases hu
theorem esc_rune {L : List UInt8} {x : Nat × Nat} (h : escF L = some x) : x.1 < 1114112 := by
 unfold escF at h
 split at h
 · cases h
 · split at h
   · injection h with h
     rw [← h]
     show (UInt8.toNat _) < _
     exact Nat.lt_of_lt_of_le (UInt8.toNat_lt _) (by decide)
   · split at h
     · split at h
       · cases h
       · rename_i u hu
         have h1 := four_lt hu
         split at h
         · injection h with h; rw [← h]; simp only; omega
         · split at h
           · cases h
           · split at h
             · split at h
               · cases h
               · split at h
                 · cases h
                 · injection h with h; rw [← h]; simp only; omega
             · cases h
     · cases h
theorem u8_int (l : List UInt8) : u8C l = (bsI l).map (Value.int .u8) := by unfold u8C bsI; rw [List.map_map]; rfl
theorem by_u8 {E : Nat} {v : Value} {l : List UInt8} {w : World} (h : w.ownsRow 0 E 1 v l.length (u8C l)) : ByAt v (bsI l) w := by
 rw [u8_int, ← bsI_len] at h
 exact by_of_own (ok_own h)
theorem drop_at {l : List UInt8} {p : Nat} {x : UInt8} (h : l[p]? = some x) : l.drop p = x :: l.drop (p + 1) := by
 rw [List.drop_eq_getElem_cons (List.getElem?_eq_some_iff.1 h).1, (List.getElem?_eq_some_iff.1 h).2]
set_option maxHeartbeats 2000000 in
set_option maxRecDepth 100000 in
theorem jText_Y (W0 : World) (hU : Lib.Utf8Tabs 0 1 W0) (br : Nat) (q : Option Addr) (c : Nat) (l : List UInt8) (ht : TxA W0 q c l) (p : Nat) (hp : p ≤ l.length) (w0 : World) (h : (rdA br q c l p).φ w0) (ho : oldφ W0 w0) (hb : W0.heap.size ≤ br) :
 MayC Tryz.prog 97 [.pointer (some ⟨br, 0, none⟩)] w0 (fun v => isFault eNo v ∧ (one (isB 34) (l.drop p) = false ∨ strB (l.drop (p + 1)) [] 1 = none)) (rdA br q c l p)
  (fun x : { x : List UInt8 × Nat // one (isB 34) (l.drop p) = true ∧ strB (l.drop (p + 1)) [] 1 = some x ∧ p + x.2 ≤ l.length } => .string (tx x.1.1)) (fun x => rdA br q c l (p + x.1.2)) := by
 have hn := ht.n
 have hbr : br < w0.heap.size := (ok_blk h).lt br rfl
 have hW := ho.1
 refine c_enter [(0, .pointer (some ⟨br, 0, none⟩))] [rdA br q c l p, oldA W0] (fun k => k = br) Tryz.func97 rfl Tryz.ntmps97 ⟨rfl, trivial⟩ rfl (okC (ok_blk h) (okC (old_ok ho) okN)) (disC (sepC (fun k h1 h2 => by have h1 : k = br := h1; have h2 : k < W0.heap.size := h2; omega) sepN) dis1) (mineO (fun _ hb => hb) (mineC rfl mineN)) ?_
 intro a hS
 refine cS (cR ?_)
 refine L_e hS (e_assign rfl) rfl ?_; clear hS a; intro a hS
 refine nL (nT (cS (cR ?_)))
 refine L_e hS (e_move rfl) rfl ?_; clear hS a; intro a hS
 refine L_op (s_callY hS (.cons rfl (.cons rfl .nil)) cf100 rfl (jMust_Y W0 br q c l ht 34 p hp _ (hS.gg (X := rdA br q c l p)) (hS.gg (X := oldA W0)) hb) (fun x => (by repeat constructor)) rfl (by repeat constructor) ?_ ?_)
 ·
  intro vp wp hvp hdp hcp
  refine p_then ?_
  exact ⟨hdp, .inr ⟨vp, ⟨hvp.1, .inl hvp.2⟩, rfl, hcp⟩⟩
 clear hS a; intro x8 a w hS
 obtain ⟨_, hq34⟩ := x8
 have hpl : p < l.length := by
  rcases Nat.lt_or_ge p l.length with h | h
  · exact h
  · rw [one_end _ h] at hq34; cases hq34
 refine nL (nT (cS (cR ?_)))
 refine L_e hS (e_assign rfl) rfl ?_; clear hS a; intro a hS
 refine nL (nT (wB ?_))
 skip
 refine c_loop (γ := (Nat × List UInt8 × Value)) (fun G a w => St 111 (fun k => k = br) w0 a w [(3, G.2.2), (0, .pointer (some ⟨br, 0, none⟩))] [ownA 5 1 G.2.2 G.2.1.length (u8C G.2.1), rdA br q c l (p + G.1), oldA W0] ∧ p + G.1 ≤ l.length ∧ strB (l.drop (p + G.1)) G.2.1 G.1 = strB (l.drop (p + 1)) [] 1 ∧ (∀ k, G.2.2.ownBlock = some k → w0.heap.size ≤ k) ∧ G.2.1.length ≤ 4 * G.1) (fun G => l.length - (p + G.1)) (1, [], .slice none 0 0) ⟨((hS.own_nil 5 1).slots (by repeat (first | exact trivial | refine ⟨rfl, ?_⟩))).pick (by repeat (first | exact Pick.nil | (refine Pick.cons (by repeat (first | exact Rem.head | apply Rem.tail)) ?_))), hpl, rfl, fun k hk => (by cases hk), Nat.zero_le _⟩ ?_
 clear hS a; intro G a w hI
 obtain ⟨u, acc, vo⟩ := G
 obtain ⟨hS, hpu, hgo, hvB, hal⟩ := hI
 simp only at hS hpu hgo hvB hal
 obtain ⟨qo, co, rfl⟩ := own_slice (hS.gg (X := ownA 5 1 vo acc.length (u8C acc)))
 refine wB (cS (cR ?_))
 refine L_e hS (e_move rfl) rfl ?_; clear hS a; intro a hS
 refine L_op (s_callM hS (.cons rfl .nil) cf93 rfl (jHere_M W0 br q c l ht (p + u) hpu _ (hS.gg (X := rdA br q c l (p + u))) (hS.gg (X := oldA W0)) hb) (fun x => (by repeat constructor)) rfl ?_); clear hS a; intro x10 a w hS
 refine L_e hS (e_assign rfl) rfl ?_; clear hS a; intro a hS
 refine nL (nT (wB (cS ?_)))
 refine c_drawS [] (by kernel_rfl) hS (sub_cons (X := .blk br [.slice q l.length c, .int .i64 ((p + u : Nat) : Int)] 93) (by repeat constructor) sub_nil) ?_; clear hS; intro w hS
 simp only [List.length_cons, List.length_nil, Nat.zero_add, Nat.reduceAdd, List.replicate]
 unfold rdA rdB at hS
 refine Ry hS (.o 0 (tf 1 14) rfl wN (e_move rfl) rfl <| .o 1 (tf 2 13) rfl wN (e_nilCheck rfl) rfl .n) ?_; clear hS a; intro a hS
 (first | refine Zt0 2 (tf 3 12) hS rfl want_none (e_fa0 rfl ty_fo93_1) rfl (by kernel_rfl) rfl ?_ | refine Zt0 2 (tf 3 12) hS rfl want_none (e_faK rfl ty_fo93_1) rfl (by kernel_rfl) rfl ?_); clear hS a; intro a hS
 refine Rz hS (sub_cons (by repeat constructor) sub_nil) (.y 3 (tf 4 11) rfl wN (e_load rfl (by repeat constructor) ty_sc3 (by rfl)) rfl <| .o 4 (tf 5 10) rfl wN (e_move rfl) rfl <| .o 5 (tf 6 9) rfl wN (e_nilCheck rfl) rfl .n) ?_; clear hS a; intro a hS
 (first | refine Zt0 6 (tf 7 8) hS rfl want_none (e_fa0 rfl ty_fo93_0) rfl (by kernel_rfl) rfl ?_ | refine Zt0 6 (tf 7 8) hS rfl want_none (e_faK rfl ty_fo93_0) rfl (by kernel_rfl) rfl ?_); clear hS a; intro a hS
 refine Rz hS (sub_cons (by repeat constructor) sub_nil) (.y 7 (tf 8 7) rfl wN (e_load rfl (by repeat constructor) ty_sc27 (by rfl)) rfl <| .o 8 (tf 9 6) rfl wN (e_len rfl rfl ty_sl27) rfl <| .o 9 (tf 10 5) rfl wN (e_bin rfl rfl rfl) rfl <| .o 10 (tf 11 4) rfl wN (e_move rfl) rfl .n) ?_; clear hS a; intro a hS
 refine Z_merge 1 (tf 14 1) 89 (.bool (decide (l.length ≤ p + u ∨ hd0 (l.drop (p + u)) < 32))) hS ?_ ?_
 · intro hcM89
   (first | refine g_splitD (t := 86) hS rfl ?_ ?_ | refine g_split (t := 86) hS rfl ?_ ?_) <;> (clear hS; intro hg86 hS)
   ·
    refine Ry hS (.f 11 (tf 12 3) rfl rfl rfl rfl <| .f 12 (tf 13 2) rfl rfl rfl rfl <| .o 13 (tf 14 1) rfl wN (e_pk rfl rfl) rfl .n) ?_; clear hS a; intro a hS
    exact hcM89 _ _ (hS.ends 4 89 86 rfl (congrArg Value.bool (by exact (decide_eq_true (.inl (by omega))).symm)) rfl rfl (by first | exact congrArg Value.bool (decide_eq_true hg86).symm | exact congrArg Value.bool hg86.symm | simp [hg86]) rfl)
   refine Ry hS (.o 11 (tf 12 3) rfl (want_go rfl rfl) (e_move rfl) rfl <| .o 12 (tf 13 2) rfl (want_go rfl rfl) (e_bin rfl rfl rfl) rfl <| .o 13 (tf 14 1) rfl wN (e_pk rfl rfl) rfl .n) ?_; clear hS a; intro a hS
   exact hcM89 _ _ (hS.ends 4 89 86 rfl (congrArg Value.bool (by exact decide_eq_decide.2 (by omega))) rfl rfl (by first | exact congrArg Value.bool (decide_eq_false hg86).symm | exact congrArg Value.bool hg86.symm | simp [hg86]) rfl)
 · clear hS a; intro a w hS
   refine Zt0 14 (tf 15 0) hS rfl want_none (e_assign rfl) rfl (by kernel_rfl) rfl ?_; clear hS a; intro a hS
   refine Z_done (by kernel_rfl) ?_
   refine nT ?_
   (first | refine c_ifD hS rfl ?_ ?_ | refine c_if hS rfl ?_ ?_) <;> intro hc75
   ·
    have hno : strB (l.drop (p + 1)) [] 1 = none := by
     rw [← hgo]
     rcases Nat.lt_or_ge (p + u) l.length with h1 | h1
     · have hx : l[p + u]? = some l[p + u] := List.getElem?_eq_getElem h1
       rw [drop_at hx, strB_cons, if_pos (by have := hc75.resolve_left (by omega); rwa [hd_at hx] at this)]
     · rw [List.drop_eq_nil_of_le h1]; rfl
    refine cR ?_
    refine L_e hS (e_move rfl) rfl ?_; clear hS a; intro a hS
    refine L_op (s_callY hS (.cons rfl .nil) cf35 rfl (jWrong_Y br q c l (p + u) _ (hS.gg (X := rdA br q c l (p + u)))) (fun x => (by repeat constructor)) rfl (by repeat constructor) ?_ ?_)
    ·
     intro vp wp hvp hdp hcp
     refine p_block (p_block (p_then (p_block ?_)))
     exact ⟨hdp, .inr ⟨vp, ⟨hvp, .inr hno⟩, rfl, hcp⟩⟩
    clear hS a; intro x91 a w hS
    exact x91.elim
   have hpul : p + u < l.length := by omega
   obtain ⟨b, off, x, hq, hx1, hc1⟩ := ht.cell hpul
   rw [hd_at hx1] at hS hc75
   rw [drop_at hx1, strB_cons, if_neg (by omega)] at hgo
   refine cS (cR ?_)
   refine Rn hS (.m rfl <| .c (e_bin rfl rfl rfl) <| .a rfl .n) ?_; clear hS a; intro a hS
   refine nL (nT ?_)
   (first | refine c_ifD hS rfl ?_ ?_ | refine c_if hS rfl ?_ ?_) <;> intro hc92
   ·
    refine cS (cR ?_)
    refine Rn hS (.m rfl <| .c (e_nilCheck rfl) .n) ?_; clear hS a; intro a hS
    (first | refine L_e hS (e_fa0 rfl ty_fo93_1) rfl ?_ | refine L_e hS (e_faK rfl ty_fo93_1) rfl ?_); clear hS a; intro a hS
    refine L_e hS (e_load rfl (by repeat constructor) ty_sc3 (by rfl)) rfl ?_; clear hS a; intro a hS
    (first | refine L_e hS (e_binN rfl rfl rfl (by omega)) rfl ?_ | refine L_e hS (e_bin rfl rfl rfl) rfl ?_); clear hS a; intro a hS
    refine L_e hS (e_nilCheck rfl) rfl ?_; clear hS a; intro a hS
    (first | refine L_e hS (e_fa0 rfl ty_fo93_1) rfl ?_ | refine L_e hS (e_faK rfl ty_fo93_1) rfl ?_); clear hS a; intro a hS
    refine L_op (s_store hS rfl rfl rfl ty_sz3 (by repeat constructor) (by repeat constructor) ?_); clear hS; intro w hS
    refine nL (nT (cS (cR ?_)))
    refine Rn hS (.m rfl <| .c (e_str (l := bsI acc) rfl ty_sl27 ty_u5 ty_u9 (fun w hh => by_u8 (hh (ownA 5 1 (.slice qo acc.length co) acc.length (u8C acc)) (by repeat constructor)))) .n) ?_; clear hS a; intro a hS
    rw [str_bs] at hS
    refine L_e hS (e_assign rfl) rfl ?_; clear hS a; intro a hS
    refine nL (nT (wp_ret ?_))
    refine r_block (r_block (r_then (r_block ?_)))
    refine c_ret1 hS Tryz.results97 (.tmp rfl) ?_
    rw [if_pos (by omega)] at hgo
    exact .inl ⟨⟨(acc, u + 1), hq34, hgo.symm, by show p + (u + 1) ≤ l.length; omega⟩, rfl, hS.chg, hS.ok (rdA br q c l (p + u + 1)) (by repeat constructor), fun b hb => .inl hb⟩
   rw [if_neg (by omega)] at hgo
   refine cS (cR ?_)
   refine Rn hS (.m rfl <| .c (e_bin rfl rfl rfl) <| .a rfl .n) ?_; clear hS a; intro a hS
   refine nL (nT ?_)
   (first | refine c_ifD hS rfl ?_ ?_ | refine c_if hS rfl ?_ ?_) <;> intro hc104
   ·
    rw [if_pos (by omega)] at hgo
    refine cR ?_
    refine Rn hS (.m rfl <| .m rfl .n) ?_; clear hS a; intro a hS
    refine L_op (s_callY hS (.cons rfl .nil) cf139 rfl (jEsc_Y W0 br q c l ht (p + u) hpul _ (hS.gg (X := rdA br q c l (p + u))) (hS.gg (X := oldA W0)) hb) (fun x => (by repeat constructor)) rfl (by repeat constructor) ?_ ?_)
    ·
     intro vp wp hvp hdp hcp
     refine p_block (p_block (p_then (p_block ?_)))
     exact ⟨hdp, .inr ⟨vp, ⟨hvp.1, .inr (by rw [← hgo, hvp.2])⟩, rfl, hcp⟩⟩
    clear hS a; intro x109 a w hS
    obtain ⟨⟨r, k⟩, hes, hek⟩ := x109
    simp only at hes hek hS
    rw [hes] at hgo
    simp only at hgo
    have hr := esc_rune hes
    refine L_op (s_callA (m' := (acc ++ Lib.encodeRune (r : Int)).length) (xs' := u8C (acc ++ Lib.encodeRune (r : Int))) hS (.cons rfl (.cons rfl .nil)) cf138 rfl (fun X hX b hbX => ?_) hvB (fun hown hsz => ?_) ?_)
    · rcases List.mem_cons.1 hX with rfl | hX
      · have : b = br := hbX; omega
      · rcases List.mem_cons.1 hX with rfl | hX
        · have : b < W0.heap.size := hbX; omega
        · cases hX
    · have hap := Tryz.utf8_AppendRune_plain w0.heap.size (.slice qo acc.length co) acc.length (u8C acc) (r : Int) (by omega) (by omega) w hown (by omega) hsz
      refine hap.mono fun e w' ⟨v', he, h1, o, h2⟩ => ⟨v', he, ?_, (Chg.alloc _ w o).trans (Chg.grown h2) (fun i hi _ => hi)⟩
      rw [rune_cells, u8C_len] at h1
      rw [List.length_append, u8C_app]; exact h1
    clear hS a; intro v110 a w hvB' hS
    refine L_e hS (e_assign rfl) rfl ?_; clear hS a; intro a hS
    refine nL (n_block (n_block ?_))
    first
    | (have hq := hvB'
       rw [List.drop_drop] at hgo
       refine ⟨(u + 1 + k, acc ++ Lib.encodeRune (r : Int), v110), by show l.length - (p + (u + 1 + k)) < l.length - (p + u); omega, ?_, by show p + (u + 1 + k) ≤ l.length; omega, ?_, hvB', ?_⟩
       · show St _ _ _ _ _ _ [_, rdA br q c l (p + (u + 1 + k)), _]
         rw [show p + (u + 1 + k) = p + u + 1 + k by omega]
         exact (hS.slots (by repeat (first | exact trivial | refine ⟨rfl, ?_⟩))).pick (by repeat (first | exact Pick.nil | (refine Pick.cons (by repeat (first | exact Rem.head | apply Rem.tail)) ?_)))
       · show strB (l.drop (p + (u + 1 + k))) _ _ = _
         rw [← hgo]
         congr 2; omega
       · show (acc ++ Lib.encodeRune (r : Int)).length ≤ 4 * (u + 1 + k)
         have := rune_len r; rw [List.length_append]; omega)
    | (have htk : (l.take (p + u + dk)).drop (p + u) = (l.drop (p + u)).take dk := by rw [List.take_drop]
       have hkl : ((l.drop (p + u)).take dk).length = dk := by rw [List.length_take, List.length_drop]; omega
       rw [htk] at hS
       refine ⟨(u + dk, acc ++ (l.drop (p + u)).take dk, v66), by show l.length - (p + (u + dk)) < l.length - (p + u); omega, ?_, by show p + (u + dk) ≤ l.length; omega, ?_, ?_, ?_⟩
       · show St _ _ _ _ _ _ [ownA _ _ _ (acc ++ (l.drop (p + u)).take dk).length (u8C (acc ++ (l.drop (p + u)).take dk)), rdA br q c l (p + (u + dk)), _]
         rw [List.length_append, hkl, u8C_app, show p + (u + dk) = p + u + dk by omega]
         have hS2 := hS
         rw [show p + u + dk - (p + u) = dk by omega] at hS2
         exact (hS2.slots (by repeat (first | exact trivial | refine ⟨rfl, ?_⟩))).pick (by repeat (first | exact Pick.nil | (refine Pick.cons (by repeat (first | exact Rem.head | apply Rem.tail)) ?_)))
       · show strB (l.drop (p + (u + dk))) _ _ = _
         rw [← hgo]
         congr 2; omega
       · intro k hk
         rcases hS.mine (ownA 5 1 v66 (acc.length + (p + u + dk - (p + u))) (u8C acc ++ u8C ((l.drop (p + u)).take dk))) (by repeat constructor) rfl k hk with h1 | h1
         · exact h1
         · exact (hS.sep (X := ownA 5 1 v66 (acc.length + (p + u + dk - (p + u))) (u8C acc ++ u8C ((l.drop (p + u)).take dk))) (Y := rdA br q c l (p + u + dk)) (by repeat (first | exact Rem.head | apply Rem.tail)) (by repeat constructor) k hk h1).elim
       · show (acc ++ (l.drop (p + u)).take dk).length ≤ 4 * (u + dk)
         rw [List.length_append, hkl]; omega)
   rw [if_neg (by omega)] at hgo
   refine cS (cS ?_)
   rw [← drop_at hx1] at hgo
   refine c_drawS [] (by kernel_rfl) hS (sub_cons (X := .blk br [.slice q l.length c, .int .i64 ((p + u : Nat) : Int)] 93) (by repeat constructor) (sub_cons (X := oldA W0) (by repeat constructor) sub_nil)) ?_; clear hS; intro w hS
   simp only [List.length_cons, List.length_nil, Nat.zero_add, Nat.reduceAdd, List.replicate]
   refine Ry hS (.o 0 (tf 1 10) rfl wN (e_move rfl) rfl <| .o 1 (tf 2 9) rfl wN (e_nilCheck rfl) rfl .n) ?_; clear hS a; intro a hS
   (first | refine Zt0 2 (tf 3 8) hS rfl want_none (e_fa0 rfl ty_fo93_0) rfl (by kernel_rfl) rfl ?_ | refine Zt0 2 (tf 3 8) hS rfl want_none (e_faK rfl ty_fo93_0) rfl (by kernel_rfl) rfl ?_); clear hS a; intro a hS
   refine Rz hS (sub_cons (by repeat constructor) (sub_cons (by repeat constructor) sub_nil)) (.y 3 (tf 4 7) rfl wN (e_load rfl (by repeat constructor) ty_sc27 (by rfl)) rfl <| .o 4 (tf 5 6) rfl wN (e_move rfl) rfl <| .o 5 (tf 6 5) rfl wN (e_nilCheck rfl) rfl .n) ?_; clear hS a; intro a hS
   (first | refine Zt0 6 (tf 7 4) hS rfl want_none (e_fa0 rfl ty_fo93_1) rfl (by kernel_rfl) rfl ?_ | refine Zt0 6 (tf 7 4) hS rfl want_none (e_faK rfl ty_fo93_1) rfl (by kernel_rfl) rfl ?_); clear hS a; intro a hS
   refine Rz hS (sub_cons (by repeat constructor) (sub_cons (by repeat constructor) sub_nil)) (.y 7 (tf 8 3) rfl wN (e_load rfl (by repeat constructor) ty_sc3 (by rfl)) rfl <| .o 8 (tf 9 2) rfl wN (e_slT (j := p + u) rfl rfl ty_sl27 ty_sz5 (by omega)) rfl .n) ?_; clear hS a; intro a hS
   rw [show l.length - (p + u) = (l.drop (p + u)).length from List.length_drop.symm] at hS
   refine Zo 9 (tf 10 1) hS rfl wN rfl (s_callN hS (.cons rfl .nil) cf140 rfl (full_P W0 hU (tailP q (p + u) c 1) (c - (p + u)) (l.drop (p + u)) (by rw [drop_at hx1]; simp) (ht.drop hpu) _ (hS.gg (X := oldA W0))) ?_); clear hS a; intro x20 a w hS
   refine Z_and hS (sub_cons (by repeat constructor) (sub_cons (by repeat constructor) sub_nil)) ?_
   refine Zt0 10 (tf 11 0) hS rfl want_none (e_not rfl) rfl (by kernel_rfl) rfl ?_; clear hS a; intro a hS
   refine Z_done (by kernel_rfl) ?_
   refine nT ?_
   (first | refine c_ifD hS rfl ?_ ?_ | refine c_if hS rfl ?_ ?_) <;> intro hc21
   ·
    have hd := x20.2 (by simpa using hc21)
    rw [hd, if_pos ⟨rfl, rfl⟩] at hgo
    refine cR ?_
    refine Rn hS (.m rfl <| .m rfl <| .c (e_nilCheck rfl) .n) ?_; clear hS a; intro a hS
    (first | refine L_e hS (e_fa0 rfl ty_fo93_0) rfl ?_ | refine L_e hS (e_faK rfl ty_fo93_0) rfl ?_); clear hS a; intro a hS
    refine Rn hS (.c (e_load rfl (by repeat constructor) ty_sc27 (by rfl)) <| .c (e_len rfl rfl ty_sl27) .n) ?_; clear hS a; intro a hS
    refine L_op (s_callY hS (.cons rfl (.cons rfl (.cons rfl .nil))) cf94 rfl (jFail_Y eNo (.pointer (some ⟨br, 0, none⟩)) (l.length : Int) 11 (show (11 : Int) ≠ 0 by decide) (.blk br [.slice q l.length c, .int .i64 ((p + u : Nat) : Int)] 93) _ (hS.ok _ (by repeat constructor)) rfl) (fun x => (by repeat constructor)) rfl (by repeat constructor) ?_ ?_)
    ·
     intro vp wp hvp hdp hcp
     refine p_then (p_block (p_block (p_then (p_block ?_))))
     exact ⟨hdp, .inr ⟨vp, ⟨hvp, .inr hgo.symm⟩, rfl, hcp⟩⟩
    clear hS a; intro x28 a w hS
    exact x28.elim
   obtain ⟨fb, hfb⟩ := x20
   simp only at hS hc21
   clear hfb
   refine wS (nT (cS ?_))
   obtain ⟨dr, dk, hdk⟩ : ∃ dr dk, Lib.decodeL (l.drop (p + u)) = (dr, dk) := ⟨_, _, rfl⟩
   have hdp := dec_pos (l.drop (p + u)) (by rw [drop_at hx1]; simp)
   rw [List.length_drop] at hdp
   rw [hdk] at hgo hdp
   simp only at hgo hdp
   refine c_drawS [] (by kernel_rfl) hS (sub_cons (X := .blk br [.slice q l.length c, .int .i64 ((p + u : Nat) : Int)] 93) (by repeat constructor) (sub_cons (X := oldA W0) (by repeat constructor) sub_nil)) ?_; clear hS; intro w hS
   simp only [List.length_cons, List.length_nil, Nat.zero_add, Nat.reduceAdd, List.replicate]
   refine Ry hS (.o 0 (tf 1 14) rfl wN (e_move rfl) rfl <| .o 1 (tf 2 13) rfl wN (e_nilCheck rfl) rfl .n) ?_; clear hS a; intro a hS
   (first | refine Zt0 2 (tf 3 12) hS rfl want_none (e_fa0 rfl ty_fo93_0) rfl (by kernel_rfl) rfl ?_ | refine Zt0 2 (tf 3 12) hS rfl want_none (e_faK rfl ty_fo93_0) rfl (by kernel_rfl) rfl ?_); clear hS a; intro a hS
   refine Rz hS (sub_cons (by repeat constructor) (sub_cons (by repeat constructor) sub_nil)) (.y 3 (tf 4 11) rfl wN (e_load rfl (by repeat constructor) ty_sc27 (by rfl)) rfl <| .o 4 (tf 5 10) rfl wN (e_move rfl) rfl <| .o 5 (tf 6 9) rfl wN (e_nilCheck rfl) rfl .n) ?_; clear hS a; intro a hS
   (first | refine Zt0 6 (tf 7 8) hS rfl want_none (e_fa0 rfl ty_fo93_1) rfl (by kernel_rfl) rfl ?_ | refine Zt0 6 (tf 7 8) hS rfl want_none (e_faK rfl ty_fo93_1) rfl (by kernel_rfl) rfl ?_); clear hS a; intro a hS
   refine Rz hS (sub_cons (by repeat constructor) (sub_cons (by repeat constructor) sub_nil)) (.y 7 (tf 8 7) rfl wN (e_load rfl (by repeat constructor) ty_sc3 (by rfl)) rfl <| .o 8 (tf 9 6) rfl wN (e_slT (j := p + u) rfl rfl ty_sl27 ty_sz5 (by omega)) rfl .n) ?_; clear hS a; intro a hS
   rw [show l.length - (p + u) = (l.drop (p + u)).length from List.length_drop.symm] at hS
   refine Zo 9 (tf 10 5) hS rfl wN rfl (s_callP hS (.cons rfl .nil) cf141 rfl (decR_P W0 hU (tailP q (p + u) c 1) (c - (p + u)) (l.drop (p + u)) (by rw [drop_at hx1]; simp) (ht.drop hpu) _ (hS.gg (X := oldA W0))) ?_); clear hS a; intro a w hS
   refine Z_and hS (sub_cons (by repeat constructor) (sub_cons (by repeat constructor) sub_nil)) ?_
   refine Ry hS (.o 10 (tf 11 4) rfl wN (e_move rfl) rfl <| .o 11 (tf 12 3) rfl wN (e_extract rfl rfl) rfl <| .o 12 (tf 13 2) rfl wN (e_extract rfl rfl) rfl <| .o 13 (tf 14 1) rfl wN (e_assign rfl) rfl <| .o 14 (tf 15 0) rfl wN (e_assign rfl) rfl .n) ?_; clear hS a; intro a hS
   refine Z_done (by kernel_rfl) ?_
   refine nT (cS (cS ?_))
   rw [hdk] at hS; simp only at hS
   refine cR ?_
   refine Rn hS (.m rfl <| .c (e_bin rfl rfl rfl) <| .m rfl .n) ?_; clear hS a; intro a hS
   refine L_merge 3 47 (.bool (decide (dr = 65533 ∧ dk = 1))) hS ?_ ?_
   · intro hcM47
     (first | refine g_splitD (t := 44) hS rfl ?_ ?_ | refine g_split (t := 44) hS rfl ?_ ?_) <;> (clear hS; intro hg44 hS)
     ·
      refine Rn hS (.g rfl rfl (e_move rfl) <| .g rfl rfl (e_bin rfl rfl rfl) <| .c (e_pk rfl rfl) .n) ?_; clear hS a; intro a hS
      exact hcM47 _ _ (hS.ends 4 47 44 rfl (congrArg Value.bool (by first | rfl | (simp; done) | (simp; omega) | grind)) rfl rfl (by first | exact congrArg Value.bool (decide_eq_true hg44).symm | exact congrArg Value.bool hg44.symm | simp [hg44]) rfl)
     refine Rn hS (.t rfl rfl <| .t rfl rfl <| .c (e_pk rfl rfl) .n) ?_; clear hS a; intro a hS
     exact hcM47 _ _ (hS.ends 4 47 44 rfl (congrArg Value.bool (by first | rfl | (simp; done) | (simp; omega) | grind)) rfl rfl (by first | exact congrArg Value.bool (decide_eq_false hg44).symm | exact congrArg Value.bool hg44.symm | simp [hg44]) rfl)
   · clear hS a; intro a w hS
     simp only [List.drop_succ_cons, List.drop_zero]
     refine nL (nT ?_)
     (first | refine c_ifD hS rfl ?_ ?_ | refine c_if hS rfl ?_ ?_) <;> intro hc47
     ·
      rw [if_pos hc47] at hgo
      refine cR ?_
      refine L_e hS (e_move rfl) rfl ?_; clear hS a; intro a hS
      refine L_op (s_callY hS (.cons rfl .nil) cf35 rfl (jWrong_Y br q c l (p + u) _ (hS.gg (X := rdA br q c l (p + u)))) (fun x => (by repeat constructor)) rfl (by repeat constructor) ?_ ?_)
      ·
       intro vp wp hvp hdp hcp
       refine p_then (p_block (p_block (p_then (p_block ?_))))
       exact ⟨hdp, .inr ⟨vp, ⟨hvp, .inr hgo.symm⟩, rfl, hcp⟩⟩
      clear hS a; intro x49 a w hS
      exact x49.elim
     rw [if_neg hc47, List.drop_drop] at hgo
     have hcap : l.length ≤ c := by
      obtain ⟨b2, off2, c2, e, h1, _⟩ := ht.lies.some (fun e => by have := congrArg List.length e; rw [bsI_len] at this; simp only [List.length_nil] at this; omega)
      injection e with _ _ e3
      rw [bsI_len] at h1; omega
     refine wS (nT (cS ?_))
     refine c_drawS [] (by kernel_rfl) hS (sub_cons (X := .blk br [.slice q l.length c, .int .i64 ((p + u : Nat) : Int)] 93) (by repeat constructor) (sub_cons (X := oldA W0) (by repeat constructor) sub_nil)) ?_; clear hS; intro w hS
     simp only [List.length_cons, List.length_nil, Nat.zero_add, Nat.reduceAdd, List.replicate]
     refine Ry hS (.o 0 (tf 1 17) rfl wN (e_move rfl) rfl <| .o 1 (tf 2 16) rfl wN (e_move rfl) rfl <| .o 2 (tf 3 15) rfl wN (e_nilCheck rfl) rfl .n) ?_; clear hS a; intro a hS
     (first | refine Zt0 3 (tf 4 14) hS rfl want_none (e_fa0 rfl ty_fo93_0) rfl (by kernel_rfl) rfl ?_ | refine Zt0 3 (tf 4 14) hS rfl want_none (e_faK rfl ty_fo93_0) rfl (by kernel_rfl) rfl ?_); clear hS a; intro a hS
     refine Rz hS (sub_cons (by repeat constructor) (sub_cons (by repeat constructor) sub_nil)) (.y 4 (tf 5 13) rfl wN (e_load rfl (by repeat constructor) ty_sc27 (by rfl)) rfl <| .o 5 (tf 6 12) rfl wN (e_move rfl) rfl <| .o 6 (tf 7 11) rfl wN (e_nilCheck rfl) rfl .n) ?_; clear hS a; intro a hS
     (first | refine Zt0 7 (tf 8 10) hS rfl want_none (e_fa0 rfl ty_fo93_1) rfl (by kernel_rfl) rfl ?_ | refine Zt0 7 (tf 8 10) hS rfl want_none (e_faK rfl ty_fo93_1) rfl (by kernel_rfl) rfl ?_); clear hS a; intro a hS
     refine Rz hS (sub_cons (by repeat constructor) (sub_cons (by repeat constructor) sub_nil)) (.y 8 (tf 9 9) rfl wN (e_load rfl (by repeat constructor) ty_sc3 (by rfl)) rfl <| .o 9 (tf 10 8) rfl wN (e_move rfl) rfl <| .o 10 (tf 11 7) rfl wN (e_nilCheck rfl) rfl .n) ?_; clear hS a; intro a hS
     (first | refine Zt0 11 (tf 12 6) hS rfl want_none (e_fa0 rfl ty_fo93_1) rfl (by kernel_rfl) rfl ?_ | refine Zt0 11 (tf 12 6) hS rfl want_none (e_faK rfl ty_fo93_1) rfl (by kernel_rfl) rfl ?_); clear hS a; intro a hS
     refine Rz hS (sub_cons (by repeat constructor) (sub_cons (by repeat constructor) sub_nil)) (.y 12 (tf 13 5) rfl wN (e_load rfl (by repeat constructor) ty_sc3 (by rfl)) rfl <| .o 13 (tf 14 4) rfl wN (e_move rfl) rfl <| .o 14 (tf 15 3) rfl wN (e_binN rfl rfl rfl (by omega)) rfl .n) ?_; clear hS a; intro a hS
     rw [show ((p + u : Nat) : Int) + (dk : Int) = ((p + u + dk : Nat) : Int) from rfl] at hS
     refine Zt0 15 (tf 16 2) hS rfl want_none (e_slB (i := p + u) (j := p + u + dk) rfl rfl rfl ty_sl27 ty_sz5 ⟨by omega, by omega⟩) rfl (by kernel_rfl) rfl ?_; clear hS a; intro a hS
     refine Zo 16 (tf 17 1) hS rfl wN rfl (s_appendL hS rfl rfl ty_sl27 ty_sz5 ty_by5 ty_z5 rfl rfl rfl (by repeat constructor) (ys := u8C ((l.take (p + u + dk)).drop (p + u))) (by rw [u8C_len, List.length_drop, List.length_take]; omega) (by rw [u8_int, ← bsI_piece]; exact by_read ((old_by (hS.gg (X := oldA W0)) ht.lies).piece (j := p + u) (k := p + u + dk) (by omega) (by omega))) (by rw [u8_int]; exact one_B _) (by omega) (fun _ => (by repeat constructor)) ?_); clear hS a; intro v66 a w hv66 hS
     refine Z_and hS (sub_cons (by repeat constructor) (sub_cons (by repeat constructor) sub_nil)) ?_
     refine Zt0 17 (tf 18 0) hS rfl want_none (e_assign rfl) rfl (by kernel_rfl) rfl ?_; clear hS a; intro a hS
     refine Z_done (by kernel_rfl) ?_
     refine nT (cR ?_)
     refine Rn hS (.m rfl <| .c (e_nilCheck rfl) .n) ?_; clear hS a; intro a hS
     (first | refine L_e hS (e_fa0 rfl ty_fo93_1) rfl ?_ | refine L_e hS (e_faK rfl ty_fo93_1) rfl ?_); clear hS a; intro a hS
     refine Rn hS (.c (e_load rfl (by repeat constructor) ty_sc3 (by rfl)) <| .m rfl .n) ?_; clear hS a; intro a hS
     (first | refine L_e hS (e_binN rfl rfl rfl (by omega)) rfl ?_ | refine L_e hS (e_bin rfl rfl rfl) rfl ?_); clear hS a; intro a hS
     refine L_e hS (e_nilCheck rfl) rfl ?_; clear hS a; intro a hS
     (first | refine L_e hS (e_fa0 rfl ty_fo93_1) rfl ?_ | refine L_e hS (e_faK rfl ty_fo93_1) rfl ?_); clear hS a; intro a hS
     refine L_op (s_store hS rfl rfl rfl ty_sz3 (by repeat constructor) (by repeat constructor) ?_); clear hS; intro w hS
     refine nL (n_block (n_block ?_))
     first
     | (have hq := hvB'
        rw [List.drop_drop] at hgo
        refine ⟨(u + 1 + k, acc ++ Lib.encodeRune (r : Int), v110), by show l.length - (p + (u + 1 + k)) < l.length - (p + u); omega, ?_, by show p + (u + 1 + k) ≤ l.length; omega, ?_, hvB', ?_⟩
        · show St _ _ _ _ _ _ [_, rdA br q c l (p + (u + 1 + k)), _]
          rw [show p + (u + 1 + k) = p + u + 1 + k by omega]
          exact (hS.slots (by repeat (first | exact trivial | refine ⟨rfl, ?_⟩))).pick (by repeat (first | exact Pick.nil | (refine Pick.cons (by repeat (first | exact Rem.head | apply Rem.tail)) ?_)))
        · show strB (l.drop (p + (u + 1 + k))) _ _ = _
          rw [← hgo]
          congr 2; omega
        · show (acc ++ Lib.encodeRune (r : Int)).length ≤ 4 * (u + 1 + k)
          have := rune_len r; rw [List.length_append]; omega)
     | (have htk : (l.take (p + u + dk)).drop (p + u) = (l.drop (p + u)).take dk := by rw [List.take_drop]
        have hkl : ((l.drop (p + u)).take dk).length = dk := by rw [List.length_take, List.length_drop]; omega
        rw [htk] at hS
        refine ⟨(u + dk, acc ++ (l.drop (p + u)).take dk, v66), by show l.length - (p + (u + dk)) < l.length - (p + u); omega, ?_, by show p + (u + dk) ≤ l.length; omega, ?_, ?_, ?_⟩
        · show St _ _ _ _ _ _ [ownA _ _ _ (acc ++ (l.drop (p + u)).take dk).length (u8C (acc ++ (l.drop (p + u)).take dk)), rdA br q c l (p + (u + dk)), _]
          rw [List.length_append, hkl, u8C_app, show p + (u + dk) = p + u + dk by omega]
          have hS2 := hS
          rw [show p + u + dk - (p + u) = dk by omega] at hS2
          exact (hS2.slots (by repeat (first | exact trivial | refine ⟨rfl, ?_⟩))).pick (by repeat (first | exact Pick.nil | (refine Pick.cons (by repeat (first | exact Rem.head | apply Rem.tail)) ?_)))
        · show strB (l.drop (p + (u + dk))) _ _ = _
          rw [← hgo]
          congr 2; omega
        · intro k hk
          rcases hS.mine (ownA 5 1 v66 (acc.length + (p + u + dk - (p + u))) (u8C acc ++ u8C ((l.drop (p + u)).take dk))) (by repeat constructor) rfl k hk with h1 | h1
          · exact h1
          · exact (hS.sep (X := ownA 5 1 v66 (acc.length + (p + u + dk - (p + u))) (u8C acc ++ u8C ((l.drop (p + u)).take dk))) (Y := rdA br q c l (p + u + dk)) (by repeat (first | exact Rem.head | apply Rem.tail)) (by repeat constructor) k hk h1).elim
        · show (acc ++ (l.drop (p + u)).take dk).length ≤ 4 * (u + dk)
          rw [List.length_append, hkl]; omega)
def encS (x : List UInt8) : List Value := [.string (tx x)]
def RwAt (s : Nat) (v : Value) (rows : List (List Value)) (w : World) : Prop := (rows = [] ∧ ∃ a c, v = .slice a 0 c) ∨ ∃ b off c, rows ≠ [] ∧ v = .slice (some ⟨b, off, none⟩) rows.length c ∧ RowAt b off s rows w ∧ b < w.heap.size
theorem RwAt.shape {s : Nat} {v : Value} {rows : List (List Value)} {w : World} (h : RwAt s v rows w) : ∃ a c, v = .slice a rows.length c := by
 rcases h with ⟨rfl, a, c, rfl⟩ | ⟨b, off, c, _, rfl, _⟩
 · exact ⟨a, c, rfl⟩
 · exact ⟨_, c, rfl⟩
theorem RwAt.keep {s : Nat} {v : Value} {rows : List (List Value)} {w w' : World} (h : RwAt s v rows w) (hw : ∀ b, v.ownBlock = some b → w'.heap[b]? = w.heap[b]?) : RwAt s v rows w' := by
 rcases h with h | ⟨b, off, c, h1, rfl, h3, h4⟩
 · exact .inl h
 · have hb := hw b rfl
   refine .inr ⟨b, off, c, h1, rfl, h3.keep hb, ?_⟩
   rcases Nat.lt_or_ge b w'.heap.size with h5 | h5
   · exact h5
   · rw [Array.getElem?_eq_none h5, Array.getElem?_eq_getElem h4] at hb; cases hb
theorem rw_of_own {α : Type} {enc : α → List Value} {s E : Nat} {v : Value} {xs : List α} {w : World} (hl : ∀ x, (enc x).length = s) (h : (ownA E s v xs.length (xs.flatMap enc)).ok w) : RwAt s v (xs.map enc) w := by
 obtain ⟨q, c, rfl⟩ := own_slice h.now
 by_cases hx : xs = []
 · subst hx; exact .inl ⟨rfl, _, _, rfl⟩
 · obtain ⟨g, rfl⟩ := own_at h.now (fun e => hx (List.eq_nil_of_length_eq_zero e))
   exact .inr ⟨g, 0, c, by simpa using hx, by rw [List.length_map], row_of_own hl h.now, h.lt g rfl⟩
def JAt : Nat → JV → List Value → World → Prop
 | 0, _, _, _ => False
 | d + 1, .mk k t ns l, cs, w => ∃ (lv nv : Value) (rows : List (List Value)), cs = [.int .i64 (k : Int), .string (tx t), lv, nv] ∧ RwAt 1 nv (ns.map encS) w ∧ RwAt 4 lv rows w ∧ rows.length = l.length ∧ ∀ (i : Nat) (v : JV) (r : List Value), l[i]? = some v → rows[i]? = some r → JAt d v r w
theorem JAt.four {d : Nat} {v : JV} {cs : List Value} {w : World} (h : JAt d v cs w) : ∃ lv nv, (∃ a m c, lv = .slice a m c) ∧ (∃ a m c, nv = .slice a m c) ∧ cs = [.int .i64 (v.k : Int), .string (tx v.t), lv, nv] := by
 cases d with
 | zero => exact h.elim
 | succ d =>
   cases v with
   | mk k t ns l =>
     obtain ⟨lv, nv, rows, e, h1, h2, _⟩ := h
     obtain ⟨a, c, e1⟩ := h2.shape
     obtain ⟨a2, c2, e2⟩ := h1.shape
     exact ⟨lv, nv, ⟨a, _, c, e1⟩, ⟨a2, _, c2, e2⟩, e⟩
structure JX where
 v : JV
 cs : List Value
 F : Nat → Prop
 len : cs.length = 4
 one : cs.all isOne = true
def jxA (d : Nat) (x : JX) : Asn := .any x.F (JAt d x.v x.cs) true
def kidF (l : List JX) (k : Nat) : Prop := ∃ x ∈ l, x.F k
def kidsA (d : Nat) (l : List JX) : Asn := .any (kidF l) (fun w => ∀ x ∈ l, (jxA d x).ok w) true
theorem kids_ok {d : Nat} {l : List JX} {w : World} (h : ∀ x ∈ l, (jxA d x).ok w) : (kidsA d l).ok w :=
 ⟨fun b ⟨x, hx, hb⟩ => (h x hx).lt b hb, fun _ hw x hx => (h x hx).agree fun k hk => hw k ⟨x, hx, hk⟩⟩
theorem kids_add {d : Nat} {l : List JX} {x : JX} {n : NN} {F0 : Nat → Prop} {w0 w : World} {a : Act} {L : List (Nat × Value)} {Γ : List Asn} (h : St n F0 w0 a w L (jxA d x :: kidsA d l :: Γ)) : St n F0 w0 a w L (kidsA d (l ++ [x]) :: Γ) :=
 h.join (Y := kidsA d l) (Z := kidsA d (l ++ [x])) .head (kids_ok fun y hy => by
   rcases List.mem_append.1 hy with hy | hy
   · exact h.get (X := kidsA d l) (.tail _ (.head _)) y hy
   · obtain rfl := List.mem_singleton.1 hy; exact h.ok _ (.head _)) (fun b ⟨y, hy, hb⟩ => by
   rcases List.mem_append.1 hy with hy | hy
   · exact .inr ⟨y, hy, hb⟩
   · obtain rfl := List.mem_singleton.1 hy; exact .inl hb) (fun _ => ⟨rfl, rfl⟩)
theorem jx_leaf (d k : Nat) (t : List UInt8) : ∀ w, (Asn.any (fun _ => False) (JAt (d + 1) (.mk k t [] []) [.int .i64 (k : Int), .string (tx t), .slice none 0 0, .slice none 0 0]) true).ok w := fun w =>
 ⟨fun _ h => h.elim, fun w' _ => ⟨_, _, [], rfl, .inl ⟨rfl, _, _, rfl⟩, .inl ⟨rfl, _, _, rfl⟩, rfl, fun i v r h => by cases h⟩⟩
theorem jx_node {d k : Nat} {t : List UInt8} {ns : List (List UInt8)} {kids : List JX} {lv nv : Value} {n : NN} {F0 : Nat → Prop} {w0 w : World} {a : Act} {L : List (Nat × Value)} {Γ : List Asn}
 (h : St n F0 w0 a w L (ownA 37 4 lv kids.length (kids.flatMap JX.cs) :: ownA 9 1 nv ns.length (ns.flatMap encS) :: kidsA d kids :: Γ)) :
 St n F0 w0 a w L (.any (fun b => lv.ownBlock = some b ∨ nv.ownBlock = some b ∨ kidF kids b) (JAt (d + 1) (.mk k t ns (kids.map JX.v)) [.int .i64 (k : Int), .string (tx t), lv, nv]) true :: Γ) := by
 have o1 := h.ok _ (.head _)
 have o2 := h.ok _ (.tail _ (.head _))
 have o3 := h.ok _ (.tail _ (.tail _ (.head _)))
 have hdis := List.pairwise_cons.1 h.dis
 have hdis2 := List.pairwise_cons.1 hdis.2
 have hdis3 := List.pairwise_cons.1 hdis2.2
 have hz : (Asn.any (fun b => lv.ownBlock = some b ∨ nv.ownBlock = some b ∨ kidF kids b) (JAt (d + 1) (.mk k t ns (kids.map JX.v)) [.int .i64 (k : Int), .string (tx t), lv, nv]) true).ok w := by
  refine ⟨fun b hb => hb.elim (o1.lt b) (fun hb => hb.elim (o2.lt b) (o3.lt b)), fun w' hw => ?_⟩
  have p1 := o1.agree (w' := w') (fun b hb => hw b (.inl hb))
  have p2 := o2.agree (w' := w') (fun b hb => hw b (.inr (.inl hb)))
  have p3 := o3.agree (w' := w') (fun b hb => hw b (.inr (.inr hb)))
  refine ⟨lv, nv, kids.map JX.cs, rfl, rw_of_own (fun _ => rfl) p2, rw_of_own (enc := JX.cs) JX.len p1, by simp, fun i v r hv hr => ?_⟩
  rw [List.getElem?_map, Option.map_eq_some_iff] at hv hr
  obtain ⟨x, hx, rfl⟩ := hv
  obtain ⟨y, hy, rfl⟩ := hr
  rw [hx] at hy
  cases hy
  exact (p3.now x (List.mem_of_getElem? hx)).now
 refine ⟨h.sl, h.chg, fun X hX => ?_, List.pairwise_cons.2 ⟨fun X hX b hb hb2 => ?_, hdis3.2⟩, fun X hX hm b hb => ?_⟩
 · rcases List.mem_cons.1 hX with rfl | hX
   · exact hz
   · exact h.ok X (.tail _ (.tail _ (.tail _ hX)))
 · rcases hb with hb | hb | hb
   · exact hdis.1 X (.tail _ (.tail _ hX)) b hb hb2
   · exact hdis2.1 X (.tail _ hX) b hb hb2
   · exact hdis3.1 X hX b hb hb2
 · rcases List.mem_cons.1 hX with rfl | hX
   · rcases hb with hb | hb | hb
     · exact h.mine _ (.head _) rfl b hb
     · exact h.mine _ (.tail _ (.head _)) rfl b hb
     · exact h.mine _ (.tail _ (.tail _ (.head _))) rfl b hb
   · exact h.mine X (.tail _ (.tail _ (.tail _ hX))) hm b hb
def bBg : ByteArray := ⟨#[123, 91, 34, 45, 48, 49, 50, 51, 52, 53, 54, 55, 56, 57, 110, 102, 116]⟩
theorem some_bg : Some bBg jBegin := fun x => by unfold jBegin bBg; rw [List.contains_eq_mem]
set_option maxRecDepth 100000 in
theorem jBegins_M (W0 : World) (br : Nat) (q : Option Addr) (c : Nat) (l : List UInt8) (ht : TxA W0 q c l) (p : Nat) (hp : p ≤ l.length) (w0 : World) (h : (rdA br q c l p).φ w0) (ho : oldφ W0 w0) (hb : W0.heap.size ≤ br) :
 MutC Tryz.prog 137 [.pointer (some ⟨br, 0, none⟩)] w0 (rdA br q c l p) (fun _ : Unit => .bool (one jBegin (l.drop p))) (fun _ => rdA br q c l p) := by
 have hn := ht.n
 refine c_enter [(0, .pointer (some ⟨br, 0, none⟩))] [rdA br q c l p, oldA W0] (fun k => k = br) Tryz.func137 rfl Tryz.ntmps137 ⟨rfl, trivial⟩ rfl (okC (ok_blk h) (okC (old_ok ho) okN)) (disC (sepC (fun k h1 h2 => by have h1 : k = br := h1; have h2 : k < W0.heap.size := h2; omega) sepN) dis1) (mineO (fun _ hb => hb) (mineC rfl mineN)) ?_
 intro a hS
 refine cS (cR ?_)
 unfold rdA rdB at hS
 refine L_e hS (e_assign rfl) rfl ?_; clear hS a; intro a hS
 refine nL (nT (cS ?_))
 refine c_drawS [] (by kernel_rfl) hS (sub_cons (X := .blk br [.slice q l.length c, .int .i64 (p : Int)] 93) (by repeat constructor) (sub_cons (X := oldA W0) (by repeat constructor) sub_nil)) ?_; clear hS; intro w hS
 simp only [List.length_cons, List.length_nil, Nat.zero_add, Nat.reduceAdd, List.replicate]
 refine Ry hS (.o 0 (tf 1 24) rfl wN (e_move rfl) rfl <| .o 1 (tf 2 23) rfl wN (e_nilCheck rfl) rfl .n) ?_; clear hS a; intro a hS
 (first | refine Zt0 2 (tf 3 22) hS rfl want_none (e_fa0 rfl ty_fo93_1) rfl (by kernel_rfl) rfl ?_ | refine Zt0 2 (tf 3 22) hS rfl want_none (e_faK rfl ty_fo93_1) rfl (by kernel_rfl) rfl ?_); clear hS a; intro a hS
 refine Rz hS (sub_cons (by repeat constructor) (sub_cons (by repeat constructor) sub_nil)) (.y 3 (tf 4 21) rfl wN (e_load rfl (by repeat constructor) ty_sc3 (by rfl)) rfl <| .o 4 (tf 5 20) rfl wN (e_move rfl) rfl <| .o 5 (tf 6 19) rfl wN (e_nilCheck rfl) rfl .n) ?_; clear hS a; intro a hS
 (first | refine Zt0 6 (tf 7 18) hS rfl want_none (e_fa0 rfl ty_fo93_0) rfl (by kernel_rfl) rfl ?_ | refine Zt0 6 (tf 7 18) hS rfl want_none (e_faK rfl ty_fo93_0) rfl (by kernel_rfl) rfl ?_); clear hS a; intro a hS
 refine Rz hS (sub_cons (by repeat constructor) (sub_cons (by repeat constructor) sub_nil)) (.y 7 (tf 8 17) rfl wN (e_load rfl (by repeat constructor) ty_sc27 (by rfl)) rfl <| .o 8 (tf 9 16) rfl wN (e_len rfl rfl ty_sl27) rfl <| .o 9 (tf 10 15) rfl wN (e_bin rfl rfl rfl) rfl <| .o 10 (tf 11 14) rfl wN (e_move rfl) rfl .n) ?_; clear hS a; intro a hS
 refine Z_merge 1 (tf 24 1) 26 (.bool (one jBegin (l.drop p))) hS ?_ ?_
 · intro hcM26
   (first | refine g_splitD (t := 13) hS rfl ?_ ?_ | refine g_split (t := 13) hS rfl ?_ ?_) <;> (clear hS; intro hg13 hS)
   ·
    have hpl : p < l.length := by omega
    obtain ⟨b, off, x, hq, hx, hc⟩ := ht.cell hpl
    subst hq
    refine Ry hS (.o 11 (tf 12 13) rfl (want_go rfl rfl) (e_move rfl) rfl <| .o 12 (tf 13 12) rfl (want_go rfl rfl) (e_nilCheck rfl) rfl .n) ?_; clear hS a; intro a hS
    (first | refine Zt0 13 (tf 14 11) hS rfl (want_go rfl rfl) (e_fa0 rfl ty_fo93_0) rfl (by kernel_rfl) rfl ?_ | refine Zt0 13 (tf 14 11) hS rfl (want_go rfl rfl) (e_faK rfl ty_fo93_0) rfl (by kernel_rfl) rfl ?_); clear hS a; intro a hS
    refine Rz hS (sub_cons (by repeat constructor) (sub_cons (by repeat constructor) sub_nil)) (.y 14 (tf 15 10) rfl (want_go rfl rfl) (e_load rfl (by repeat constructor) ty_sc27 (by rfl)) rfl <| .o 15 (tf 16 9) rfl (want_go rfl rfl) (e_move rfl) rfl <| .o 16 (tf 17 8) rfl (want_go rfl rfl) (e_nilCheck rfl) rfl .n) ?_; clear hS a; intro a hS
    (first | refine Zt0 17 (tf 18 7) hS rfl (want_go rfl rfl) (e_fa0 rfl ty_fo93_1) rfl (by kernel_rfl) rfl ?_ | refine Zt0 17 (tf 18 7) hS rfl (want_go rfl rfl) (e_faK rfl ty_fo93_1) rfl (by kernel_rfl) rfl ?_); clear hS a; intro a hS
    refine Rz hS (sub_cons (by repeat constructor) (sub_cons (by repeat constructor) sub_nil)) (.y 18 (tf 19 6) rfl (want_go rfl rfl) (e_load rfl (by repeat constructor) ty_sc3 (by rfl)) rfl <| .o 19 (tf 20 5) rfl (want_go rfl rfl) (e_ixN rfl rfl ty_sl27 ty_sz5 (by omega)) rfl <| .y 20 (tf 21 4) rfl (want_go rfl rfl) (e_loadC rfl ty_sc5 (fun w hh => by rw [Nat.mul_one]; exact old_cell (hh (oldA W0) (by repeat constructor)) hc)) rfl .n) ?_; clear hS a; intro a hS
    refine Zo 21 (tf 22 3) hS rfl (want_go rfl rfl) rfl (s_callP hS (.cons rfl (.cons rfl .nil)) cf136 rfl (index_P bBg x _) ?_); clear hS a; intro a w hS
    refine Z_and hS (sub_cons (by repeat constructor) (sub_cons (by repeat constructor) sub_nil)) ?_
    refine Ry hS (.o 22 (tf 23 2) rfl (want_go rfl rfl) (e_bin rfl rfl rfl) rfl <| .o 23 (tf 24 1) rfl wN (e_pk rfl rfl) rfl .n) ?_; clear hS a; intro a hS
    exact hcM26 _ _ (hS.ends 14 26 13 rfl (congrArg Value.bool (by rw [one_at jBegin hx, some_bg x]; exact decide_eq_decide.2 (by have := index_iff bBg.data.toList x; constructor <;> intro h <;> (first | omega | skip); exact Classical.not_not.1 (fun h2 => by have := this.2 h2; omega); exact Int.not_lt.1 (fun h2 => this.1 h2 h)))) rfl rfl (by first | exact congrArg Value.bool (decide_eq_true hg13).symm | exact congrArg Value.bool hg13.symm | simp [hg13]) rfl)
   refine Ry hS (.t 11 (tf 12 13) rfl rfl rfl rfl <| .t 12 (tf 13 12) rfl rfl rfl rfl <| .t 13 (tf 14 11) rfl rfl rfl rfl <| .t 14 (tf 15 10) rfl rfl rfl rfl <| .t 15 (tf 16 9) rfl rfl rfl rfl <| .t 16 (tf 17 8) rfl rfl rfl rfl <| .t 17 (tf 18 7) rfl rfl rfl rfl <| .t 18 (tf 19 6) rfl rfl rfl rfl <| .t 19 (tf 20 5) rfl rfl rfl rfl <| .t 20 (tf 21 4) rfl rfl rfl rfl <| .t 21 (tf 22 3) rfl rfl rfl rfl <| .t 22 (tf 23 2) rfl rfl rfl rfl <| .o 23 (tf 24 1) rfl wN (e_pk rfl rfl) rfl .n) ?_; clear hS a; intro a hS
   exact hcM26 _ _ (hS.ends 14 26 13 rfl (congrArg Value.bool (by rw [one_end jBegin (by omega)])) rfl rfl (by first | exact congrArg Value.bool (decide_eq_false hg13).symm | exact congrArg Value.bool hg13.symm | simp [hg13]) rfl)
 · clear hS a; intro a w hS
   refine Zt0 24 (tf 25 0) hS rfl want_none (e_assign rfl) rfl (by kernel_rfl) rfl ?_; clear hS a; intro a hS
   refine Z_done (by kernel_rfl) ?_
   refine nT (wp_ret ?_)
   refine c_ret1 hS Tryz.results137 (.tmp rfl) ?_
   exact ⟨(), rfl, hS.chg, hS.ok (rdA br _ c l p) (by repeat constructor), fun b hb => .inl hb⟩
def pR (v : Value) : List PanicEntry := [{ v := v, recovered := true }]
section
variable {P : Program} {n : NN} {F0 : Nat → Prop} {w0 : World} {a : Act} {w : World} {L : List (Nat × Value)} {Γ : List Asn}
variable {K : Act → World → Prop} {Q : Exit → Act → World → Prop} {d ty : Nat} {dst : Option Tmp} {pos : String} {af : Array Edge} {g : Option (Nat × Bool)}
theorem post_S {fn : Func} {c₀ : Frame} {cs : List Frame} {R : Ending → FrameMode → World → Prop} {u1 : FrameMode} {e : Exit} (h : bodyPost P fn (fun e w' => R e u1 w') e a w) : bodyPostS P fn c₀ cs R e a ({ c₀ with mode := u1 } :: cs) w := by
 cases e with
 | normal => obtain ⟨h1, v, h2, h3⟩ := h; exact ⟨h1, u1, rfl, v, h2, h3⟩
 | ret => obtain ⟨h1, v, h2, h3⟩ := h; exact ⟨h1, u1, rfl, v, h2, h3⟩
 | panic ch => obtain ⟨h1, h2⟩ := h; exact ⟨h1, u1, rfl, h2⟩
 | exit i => exact h.elim
 | goto l => exact h.elim
 | outgrown => exact ⟨u1, h⟩
theorem callsD_rec {f : FuncId} {fn : Func} {y : Code} {args : List Value} {R : Ending → FrameMode → World → Prop} {m rid : Nat} {ts : Array TypeId} {u u1 : FrameMode} {rv : Value}
 (hrec : (u = .returning ∧ rv = .nilIface ∧ u1 = .returning) ∨ (∃ v, u = .panicking (pE v) ∧ rv = v ∧ u1 = .panicking (pR v)))
 (L : List (Nat × Value)) (Γ : List Asn) (F0 : Nat → Prop) (hf : P.funcs[f]? = some fn) (hb : fn.body = some (.seq (.region rid #[⟨some d, .call ⟨.builtin .recover, #[], ts⟩, ty, pos, af, none⟩] false) y)) (hm : fn.ntmps = m)
 (hA : SubA args L) (hn : Nat.ble args.length m = true) (hd : Nat.blt d m = true) (ok : ∀ X ∈ Γ, X.ok w) (dis : Γ.Pairwise (fun X Y => ∀ b, X.F b → ¬ Y.F b)) (mine : ∀ X ∈ Γ, X.mine = true → ∀ b, X.F b → w.heap.size ≤ b ∨ F0 b)
 (h : ∀ a, St ⟨m, []⟩ F0 w a w ((d, rv) :: L) Γ → y.wp P (bodyPost P fn (fun e w' => R e u1 w')) a w) : CallsD P f args.toArray u w R := by
 have hle : args.length ≤ m := Nat.le_of_ble_eq_true hn
 have hs := Sl.start (l := args) (L := L) (n := m) (m := m - args.length) hA (by omega)
 have hS : St ⟨m, []⟩ F0 w (⟨args.toArray ++ Array.replicate (m - args.length) undef, []⟩ : Act) w L Γ := ⟨hs, Chg.refl _ _, ok, dis, mine⟩
 have hw := h _ (hS.put hd rv)
 refine callsD_of_wpS hf hb (fun c₀ cs hu => ?_)
 rw [hm]
 have e0 : ({ tmps := args.toArray ++ Array.replicate (m - args.toArray.size) undef, defers := [] } : Act) = ⟨args.toArray ++ Array.replicate (m - args.length) undef, []⟩ := by simp
 rw [e0]
 refine wpS_seq (wpS_region ?_)
 generalize (⟨args.toArray ++ Array.replicate (m - args.length) undef, []⟩ : Act) = a at hw
 have hx : (execOp a.eval (⟨some d, .call ⟨.builtin .recover, #[], ts⟩, ty, pos, af, none⟩ : Oper)).run P w = .ok .recover w := by
  first
  | rfl
  | simp [execOp]
 have hwant : Region.wanted (⟨some d, .call ⟨.builtin .recover, #[], ts⟩, ty, pos, af, none⟩ : Oper) (yielded #[⟨some d, .call ⟨.builtin .recover, #[], ts⟩, ty, pos, af, none⟩] a.tmps) = true := by simp [Region.wanted]
 show wpOpsS P _ _ [0] a (c₀ :: cs) w
 have key : ∀ cs', (match recoverD (c₀ :: cs) with | some (v, cs') => (v, cs') | none => (Value.nilIface, c₀ :: cs)) = (rv, cs') → cs' = { c₀ with mode := u1 } :: cs → wpOpsS P #[⟨some d, .call ⟨.builtin .recover, #[], ts⟩, ty, pos, af, none⟩] (Exit.thenS (y.wpS P (bodyPostS P fn c₀ cs R)) (bodyPostS P fn c₀ cs R)) [0] a (c₀ :: cs) w := by
  intro cs' h1 h2
  have hfin : y.wpS P (bodyPostS P fn c₀ cs R) (a.put (some d) rv) cs' w := by
   rw [h2]
   exact wpS_of_wp (Go.wp_mono hw fun e a w hq => post_S hq)
  unfold wpOpsS
  simp only [List.getElem?_toArray, List.getElem?_cons_zero, hwant, if_true, hx]
  cases hr : recoverD (c₀ :: cs) with
  | none =>
    rw [hr] at h1
    simp only [Prod.mk.injEq] at h1
    obtain ⟨e1, e2⟩ := h1
    subst e1; subst e2
    exact hfin
  | some r =>
    obtain ⟨v, c2⟩ := r
    rw [hr] at h1
    simp only [Prod.mk.injEq] at h1
    obtain ⟨e1, e2⟩ := h1
    subst e1; subst e2
    exact hfin
 rcases hrec with ⟨rfl, rfl, rfl⟩ | ⟨v, rfl, rfl, rfl⟩
 · refine key (c₀ :: cs) ?_ ?_
   · cases c₀; simp only at hu; subst hu; rfl
   · cases c₀; simp only at hu; subst hu; rfl
 · refine key _ ?_ rfl
   cases c₀; simp only at hu; subst hu; rfl
theorem c_enterG {f : FuncId} {fn : Func} {c : Code} {args : List Value} {R : Ending → World → Prop} {m : Nat} (L : List (Nat × Value)) (Γ : List Asn) (F0 : Nat → Prop) (hf : P.funcs[f]? = some fn) (hb : fn.body = some c) (hm : fn.ntmps = m)
 (hA : SubA args L) (hn : Nat.ble args.length m = true) (ok : ∀ X ∈ Γ, X.ok w) (dis : Γ.Pairwise (fun X Y => ∀ b, X.F b → ¬ Y.F b)) (mine : ∀ X ∈ Γ, X.mine = true → ∀ b, X.F b → w.heap.size ≤ b ∨ F0 b)
 (h : ∀ a, St ⟨m, []⟩ F0 w a w L Γ → c.wp P (bodyPostD P fn R) a w) : Calls P f args.toArray w R := by
 refine calls_of_wp_defers hf hb ?_
 have hle : args.length ≤ m := Nat.le_of_ble_eq_true hn
 have := Sl.start (l := args) (L := L) (n := m) (m := m - args.length) hA (by omega)
 simpa [hm] using h _ ⟨this, Chg.refl _ _, ok, dis, mine⟩
theorem s_deferV {f : FuncId} {x : Operand} {cs : List Value} {ts : Array TypeId} (hS : St n F0 w0 a w L Γ) (hv : ev L x = some (.func (.func f) #[] cs.toArray))
 (h : ∀ a', St ⟨n.n, ⟨.fn (.func f) cs.toArray, #[]⟩ :: n.D⟩ F0 w0 a' w L Γ → K a' w) : OW P ⟨none, .defer ⟨.value x, #[], ts⟩, ty, pos, af, g⟩ a w K Q := by
 refine ⟨?_⟩
 unfold Oper.wp
 have ef := hS.sl.ev hv
 have he : (execOp a.eval (⟨none, .defer ⟨.value x, #[], ts⟩, ty, pos, af, g⟩ : Oper)).run P w = .ok (.defer ⟨.fn (.func f) cs.toArray, #[]⟩) w := by
  have hr : (resolve a.eval ⟨.value x, #[], ts⟩ ty).run P w = .ok ⟨.fn (.func f) cs.toArray, #[]⟩ w := by
   simp [resolve, ef, Deferred.ofValue]
  show ((resolve a.eval ⟨.value x, #[], ts⟩ ty) >>= fun d => pure (Next.defer d)).run P w = _
  rw [Sem.run_bind, hr]
  simp
 rw [he]
 exact h _ (hS.moreD _)
theorem s_callvY {γ : Type} {pan : Value → Prop} {V : γ → Value} {X : Asn} {Y : γ → Asn} {Γ' : γ → List Asn} {f : FuncId} {x : Operand} {cs : List Value} {xs : List Operand} {vs : List Value} {ts : Array TypeId} (hS : St n F0 w0 a w L Γ) (hv : ev L x = some (.func (.func f) #[] cs.toArray)) (hx : Evs L xs vs) (hf : CallsTo P f) (hn : Nat.blt d n.n = true)
 (hc : MayC P f (vs ++ cs) w pan X V Y) (hr : ∀ x, Rep X (Y x) Γ (Γ' x)) (hm : X.mine = true) {Γp : List Asn} (hr0 : Rep X none_ Γ Γp) (hp : ∀ v w', pan v → St n F0 w0 a w' L Γp → Q (.panic (pE v)) a w') (h : ∀ x a' w', St n F0 w0 a' w' ((d, V x) :: L) (Γ' x) → K a' w') : OW P ⟨some d, .call ⟨.value x, xs.toArray, ts⟩, ty, pos, af, g⟩ a w K Q := by
 refine ⟨?_⟩
 unfold Oper.wp
 have ef := hS.sl.ev hv
 have he : (execOp a.eval (⟨some d, .call ⟨.value x, xs.toArray, ts⟩, ty, pos, af, g⟩ : Oper)).run P w = .ok (.enter f (vs ++ cs).toArray) w := by
  have h1 := hS.sl.evs hx
  have h2 := hf (vs ++ cs).toArray w
  have e1 : (#[] ++ vs.toArray) ++ cs.toArray = (vs ++ cs).toArray := by simp
  have hr : (resolve a.eval ⟨.value x, xs.toArray, ts⟩ ty).run P w = .ok ⟨.fn (.func f) cs.toArray, #[] ++ vs.toArray⟩ w := by
   simp only [resolve, hS.sl.ev hv, h1, Deferred.ofValue]; rfl
  show ((resolve a.eval ⟨.value x, xs.toArray, ts⟩ ty) >>= fun d => invoke d.target d.args).run P w = _
  rw [Sem.run_bind, hr]
  show (callFunc f ((#[] ++ vs.toArray) ++ cs.toArray)).run P w = _
  rw [e1]; exact h2
 rw [he]
 refine Calls.mono hc fun e w' hR => ?_
 rcases hR with ⟨x, rfl, hch, hY, hF⟩ | ⟨v, hv, rfl, hch⟩
 · exact h x _ _ ((hS.upd (hr x) hch hY hF hm).put hn _)
 · exact hp v w' hv (hS.upd hr0 hch (none_ok _) (fun b hb => hb.elim) hm)
theorem g_ret {fn : Func} {R : Ending → World → Prop} (hS : St n F0 w0 a w L Γ) (h : Leaves P fn a.tmps R n.D .returning w) : bodyPostD P fn R .ret a w := by
 show Leaves P fn a.tmps R a.defers .returning w
 rw [hS.sl.defers]; exact h
theorem g_pan {fn : Func} {R : Ending → World → Prop} {ch : List PanicEntry} (hS : St n F0 w0 a w L Γ) (h : Leaves P fn a.tmps R n.D (.panicking ch) w) : bodyPostD P fn R (.panic ch) a w := by
 show Leaves P fn a.tmps R a.defers (.panicking ch) w
 rw [hS.sl.defers]; exact h
theorem g_leave {fn : Func} {R : Ending → World → Prop} {f : FuncId} {cs : List Value} {ds : List Deferred} {u u' : FrameMode} {X Y : Asn} {Γ' : List Asn} {tm : Array Value} (hS : St n F0 w0 a w L Γ) (hu : u ≠ .run) (hf : CallsTo P f)
 (hc : CallsD P f cs.toArray u w fun e u2 w' => u2 = u' ∧ (∃ v, e = .returned v) ∧ Chg X.F w w' ∧ Y.ok w' ∧ ∀ b, Y.F b → X.F b ∨ w.heap.size ≤ b) (hr : Rep X Y Γ Γ') (hm : X.mine = true)
 (h : ∀ w', St n F0 w0 a w' L Γ' → Leaves P fn tm R ds (settle u') w') : Leaves P fn tm R (⟨.fn (.func f) cs.toArray, #[]⟩ :: ds) u w := by
 refine ⟨hu, .func f, cs.toArray, f, cs.toArray, rfl, ?_, ?_⟩
 · have := hf (#[] ++ cs.toArray) w
   simpa [invoke] using this
 · refine hc.mono fun e u2 w' hR => ?_
   obtain ⟨rfl, ⟨v, rfl⟩, hch, hY, hF⟩ := hR
   exact h _ (hS.upd hr hch hY hF hm)
end
section
variable {P : Program} {n : NN} {a : Act} {L : List (Nat × Value)} {Γ : List Asn} {dst : Option Nat} {ty : Nat} {pos : String} {af : Array Edge} {g : Option (Nat × Bool)}
theorem e_asT {T A : TypeId} {x : Operand} {v : Value} (hx : ev L x = some (.iface A v)) (hT : structT P A = true) : Ex P n a L Γ ⟨dst, .typeAssert x T A true, ty, pos, af, g⟩ (.tuple [v, .bool true].toArray) := fun hs w _ => by
 have he := hs.ev hx
 have hr : (Instr.typeAssert (.iface A v) T A true).run P w = .ok (.tuple #[v, .bool true]) w := by
  unfold structT at hT
  cases hu : P.underlying A with
  | none => rw [hu] at hT; cases hT
  | some D =>
    rw [hu] at hT
    unfold Instr.typeAssert
    cases D <;> first | (cases hT; done) | simp [Sem.run_bind, run_underlying hu]
 simp [execOp, he, hr]
theorem e_ifEqN {t t' : TypeId} {x : Operand} (hx : ev L x = some .nilIface) (hu : P.underlying t = some (.interface (P.methodsAt t))) : Ex P n a L Γ ⟨dst, .binOp .eql t x (.const .nilIface) t', ty, pos, af, g⟩ (.bool true) := fun hs w _ => by
 have he : a.eval (.const .nilIface) = .nilIface := rfl
 have := run_eql_nil_nil (P := P) w t hu
 simp [execOp, hs.ev hx, he, eqGuard_nil_constR, this]
theorem e_ifEqS {t t' : TypeId} {x : Operand} {u : TypeId} {p : Value} (hx : ev L x = some (.iface u p)) (hu : P.underlying t = some (.interface (P.methodsAt t))) : Ex P n a L Γ ⟨dst, .binOp .eql t x (.const .nilIface) t', ty, pos, af, g⟩ (.bool false) := fun hs w _ => by
 have he : a.eval (.const .nilIface) = .nilIface := rfl
 have := run_eql_held_nil (P := P) w t u p hu
 simp [execOp, hs.ev hx, he, eqGuard, this]
end
end Go.Proofs.YtlccmgeclhdegaaGreatDoor
namespace Go.Proofs.YtlccmgeclhdegaaGreatDoor
open Go.RowKit
set_option maxRecDepth 100000 in
theorem guardF_ret (bv bf : Nat) (w0 : World) :
 CallsD Tryz.prog 91 [.pointer (some ⟨bv, 0, none⟩), .pointer (some ⟨bf, 0, none⟩)].toArray .returning w0 (fun e u2 w' => u2 = .returning ∧ (∃ v, e = .returned v) ∧ Chg noB w0 w') := by
 refine callsD_rec (d := 5) (.inl ⟨rfl, rfl, rfl⟩) [(0, .pointer (some ⟨bv, 0, none⟩)), (1, .pointer (some ⟨bf, 0, none⟩))] [] noB Tryz.func91 rfl Tryz.ntmps91 ⟨rfl, rfl, trivial⟩ rfl rfl okN disN mineN ?_
 intro a hS
 refine wB (cS (cR ?_))
 (first | refine L_e hS (e_ifEqN rfl ty_if20) rfl ?_ | refine L_e hS (e_ifEqS rfl ty_if20) rfl ?_); clear hS a; intro a hS
 refine nL (nT ?_)
 replace hS := hS.is (t := 7) (c := true) rfl (rfl)
 refine c_if_t hS rfl ?_
 refine cR ?_
 refine L_e hS (e_assign rfl) rfl ?_; clear hS a; intro a hS
 refine nL (n_block (r_norm ?_))
 refine c_retN hS Tryz.results91 .nil rfl ?_
 exact ⟨rfl, ⟨_, rfl⟩, hS.chg⟩
def faultV (p e : Int) : Value := .iface 95 (.agg [.int .i64 p, .int .i64 e].toArray)
def zeroJ : List Value := [.int .i64 0, .string ⟨#[]⟩, .slice none 0 0, .slice none 0 0]
set_option maxRecDepth 100000 in
theorem guardF_pan (bv bf : Nat) (cs fs : List Value) (p e : Int) (hcs : cs.length = 4) (hfs : fs.length = 2) (w0 : World) (h1 : (Asn.blk bv cs 37).φ w0) (h2 : (Asn.blk bf fs 95).φ w0) (hd : bv ≠ bf) :
 CallsD Tryz.prog 91 [.pointer (some ⟨bv, 0, none⟩), .pointer (some ⟨bf, 0, none⟩)].toArray (.panicking (pE (faultV p e))) w0 (fun e2 u2 w' => u2 = .panicking (pR (faultV p e)) ∧ (∃ v, e2 = .returned v) ∧ Chg (fun k => k = bv ∨ k = bf) w0 w' ∧ (Asn.blk bv zeroJ 37).ok w' ∧ (Asn.blk bf [.int .i64 p, .int .i64 e] 95).ok w') := by
 unfold faultV
 obtain ⟨c1, c2, c3, c4, rfl⟩ : ∃ c1 c2 c3 c4, cs = [c1, c2, c3, c4] := by
  match cs, hcs with
  | [c1, c2, c3, c4], _ => exact ⟨_, _, _, _, rfl⟩
 obtain ⟨f1, f2, rfl⟩ : ∃ f1 f2, fs = [f1, f2] := by
  match fs, hfs with
  | [f1, f2], _ => exact ⟨_, _, rfl⟩
 refine callsD_rec (d := 5) (.inr ⟨_, rfl, rfl, rfl⟩) [(0, .pointer (some ⟨bv, 0, none⟩)), (1, .pointer (some ⟨bf, 0, none⟩))] [.blk bv [c1, c2, c3, c4] 37, .blk bf [f1, f2] 95] (fun k => k = bv ∨ k = bf) Tryz.func91 rfl Tryz.ntmps91 ⟨rfl, rfl, trivial⟩ rfl rfl (okC (ok_blk h1) (okC (ok_blk h2) okN)) (disC (sepC (fun k hk hk2 => by have a : k = bv := hk; have b : k = bf := hk2; exact hd (a.symm.trans b)) sepN) dis1) (mineO (fun _ hb => .inl hb) (mineO (fun _ hb => .inr hb) mineN)) ?_
 intro a hS
 refine wB (cS (cR ?_))
 (first | refine L_e hS (e_ifEqN rfl ty_if20) rfl ?_ | refine L_e hS (e_ifEqS rfl ty_if20) rfl ?_); clear hS a; intro a hS
 refine nL (nT ?_)
 replace hS := hS.is (t := 7) (c := false) rfl (rfl)
 refine c_if_f hS rfl ?_
 refine cS (cR ?_)
 refine Rn hS (.c (e_asT rfl ty_st95) <| .c (e_extract rfl rfl) <| .c (e_extract rfl rfl) .n) ?_; clear hS a; intro a hS
 refine nL (nT ?_)
 replace hS := hS.is (t := 9) (c := true) rfl (rfl)
 refine c_if_t hS rfl ?_
 refine cS (cR ?_)
 refine L_op (s_alloc hS ty_z95 rfl ?_); clear hS a; intro a w b3 hS
 refine L_op (s_storeA hS rfl rfl ty_sz95 (by repeat constructor) (by rfl) (by rfl) (by rfl) ?_); clear hS; intro w hS
 refine nL (nT ?_)
 refine c_drawS [3] (by kernel_rfl) hS (sub_cons (X := .blk b3 [.int .i64 p, .int .i64 e] 95) (by repeat constructor) sub_nil) ?_; clear hS; intro w hS
 simp only [List.length_cons, List.length_nil, Nat.zero_add, Nat.reduceAdd, List.replicate]
 refine Rz hS (sub_cons (by repeat constructor) sub_nil) (.o 0 [true, false, false, false] rfl wN (e_build ty_z37 ty_pl37 .nil) rfl <| .y 1 [true, true, false, false] rfl wN (e_loadA rfl (by repeat constructor) ty_st95 ty_sz95 (by rfl)) rfl .n) ?_; clear hS a; intro a hS
 refine Zo 2 [true, true, true, false] hS rfl wN rfl (s_storeA hS rfl rfl ty_sz37 (by repeat constructor) (by rfl) (by rfl) (by rfl) ?_); clear hS; intro w hS
 refine Z_and hS (sub_cons (by repeat constructor) sub_nil) ?_
 refine Zo 3 [true, true, true, true] hS rfl wN rfl (s_storeA hS rfl rfl ty_sz95 (by repeat constructor) (by rfl) (by rfl) (by rfl) ?_); clear hS; intro w hS
 refine Z_last (by simp) ?_
 refine Z_done (by kernel_rfl) ?_
 refine n_block (r_norm ?_)
 refine c_retN hS Tryz.results91 .nil rfl ?_
 exact ⟨by first | rfl | trivial, ⟨_, rfl⟩, hS.chg, hS.ok (.blk bv zeroJ 37) (by repeat constructor), hS.ok (.blk bf [.int .i64 p, .int .i64 e] 95) (by repeat constructor)⟩
theorem MayC.pan {γ : Type} {P : Program} {f : FuncId} {args : List Value} {w : World} {pan pan' : Value → Prop} {X : Asn} {V : γ → Value} {Y : γ → Asn} (h : MayC P f args w pan X V Y) (hp : ∀ v, pan v → pan' v) : MayC P f args w pan' X V Y :=
 Calls.mono h fun _ _ hR => hR.imp id fun ⟨v, hv, he, hc⟩ => ⟨v, hp v hv, he, hc⟩
def guV {γ : Type} (E : Int → Prop) (V : γ → List Value) : γ ⊕ { pe : Int × Int // E pe.2 } → Value
 | .inl x => .tuple [.agg (V x).toArray, .agg [.int .i64 0, .int .i64 0].toArray].toArray
 | .inr pe => .tuple [.agg zeroJ.toArray, .agg [.int .i64 pe.1.1, .int .i64 pe.1.2].toArray].toArray
def guY {γ : Type} (E : Int → Prop) (Y : γ → Asn) : γ ⊕ { pe : Int × Int // E pe.2 } → Asn
 | .inl x => Y x
 | .inr _ => none_
set_option maxRecDepth 100000 in
theorem guarded_M {γ : Type} (g : Nat) (cb : List Value) (E : Int → Prop) (X : Asn) (V : γ → List Value) (Y : γ → Asn) (cfg : CallsTo Tryz.prog g) (hX : X.mine = true) (hV : ∀ x, ∃ v1 v2 v3 v4, V x = [v1, v2, v3, v4] ∧ isOne v1 = true ∧ isOne v2 = true ∧ isOne v3 = true ∧ isOne v4 = true) (w0 : World) (hYm : ∀ x, (Y x).mine = true) (h : X.ok w0)
 (hc : ∀ w, X.ok w → Chg X.F w0 w → MayC Tryz.prog g cb w (isFault E) X (fun x => .agg (V x).toArray) Y) :
 MutC Tryz.prog 31 [.func (.func g) #[] cb.toArray] w0 X (guV E V) (guY E Y) := by
 refine c_enterG [(0, .func (.func g) #[] cb.toArray)] [X] X.F Tryz.func31 rfl Tryz.ntmps31 ⟨rfl, trivial⟩ rfl (okC h okN) dis1 (mineO (fun _ hb => hb) mineN) ?_
 intro a hS
 refine cS (cR ?_)
 refine L_op (s_alloc hS ty_z37 rfl ?_); clear hS a; intro a w b2 hS
 refine L_op (s_alloc hS ty_z95 rfl ?_); clear hS a; intro a w b3 hS
 refine nL (nT (cS (cR ?_)))
 refine L_e hS (e_makeFunc .nil (.cons rfl (.cons rfl .nil))) rfl ?_; clear hS a; intro a hS
 refine L_op (s_deferV hS rfl ?_); clear hS a; intro a hS
 refine nL (nT (cS (cR ?_)))
 refine L_e hS (e_move rfl) rfl ?_; clear hS a; intro a hS
 refine L_op (s_callvY (cs := cb) hS rfl .nil cfg rfl (hc _ (hS.ok X (by repeat constructor)) hS.chg) (fun x => (by repeat constructor)) hX (Γp := [.blk b3 [.int .i64 0, .int .i64 0] 95, .blk b2 zeroJ 37, none_]) (by repeat constructor) ?_ ?_)
 · clear hS
   intro vp w hvp hS
   obtain ⟨p, e, he, rfl⟩ := hvp
   refine p_then ?_
   refine g_pan hS ?_
   replace hS := (hS.pick (Γ' := [.blk b2 zeroJ 37, .blk b3 [.int .i64 0, .int .i64 0] 95, none_]) (by repeat (first | exact Pick.nil | (refine Pick.cons (by repeat (first | exact Rem.head | apply Rem.tail)) ?_)))).duo rfl rfl
   have hdu : ∀ k, (Asn.blk b2 zeroJ 37).F k → ¬ (Asn.blk b3 [.int .i64 0, .int .i64 0] 95).F k := (hS.get (X := duo (.blk b2 zeroJ 37) (.blk b3 [.int .i64 0, .int .i64 0] 95)) (.head _)).2.2
   have hd1 := hS.get (X := duo (.blk b2 zeroJ 37) (.blk b3 [.int .i64 0, .int .i64 0] 95)) (.head _)
   refine g_leave (cs := [.pointer (some ⟨b2, 0, none⟩), .pointer (some ⟨b3, 0, none⟩)]) (u' := .panicking (pR (faultV p e))) (X := duo (.blk b2 zeroJ 37) (.blk b3 [.int .i64 0, .int .i64 0] 95)) (Y := duo (.blk b2 zeroJ 37) (.blk b3 [.int .i64 p, .int .i64 e] 95)) hS (fun h => by cases h) cf91 ((guardF_pan b2 b3 zeroJ [.int .i64 0, .int .i64 0] p e rfl rfl w hd1.1.now hd1.2.1.now (fun e => hdu b2 rfl e)).mono fun e2 u2 w' ⟨h1, h2, h3, h4, h5⟩ => ⟨h1, h2, h3, duo_ok h4 h5 (fun k hk hk2 => hdu k hk hk2), fun b hb => .inl hb⟩) .head rfl ?_
   clear hS
   intro w hS
   replace hS := hS.unduo
   refine d_retN hS Tryz.results31 (.cons (.cellA rfl (by repeat constructor) ty_st37 ty_sz37 (by rfl)) (.cons (.cellA rfl (by repeat constructor) ty_st95 ty_sz95 (by rfl)) .nil)) rfl ?_
   exact ⟨.inr ⟨(p, e), he⟩, rfl, hS.chg, none_ok _, fun b hb => hb.elim⟩
 clear hS a; intro x6 a w hS
 obtain ⟨v1, v2, v3, v4, hVe, o1, o2, o3, o4⟩ := hV x6
 rw [hVe] at hS
 refine L_e hS (e_build ty_z95 ty_pl95 .nil) rfl ?_; clear hS a; intro a hS
 refine L_op (s_storeB hS rfl rfl ty_sz37 (cs' := [v1, v2, v3, v4]) (by repeat constructor) rfl (.cons .z (.cons (.s .z) (.cons (.s (.s .z)) (.cons (.s (.s (.s .z))) .nil)))) (by simp [o1, o2, o3, o4]) ?_); clear hS; intro w hS
 refine L_op (s_storeA hS rfl rfl ty_sz95 (by repeat constructor) (by rfl) (by rfl) (by rfl) ?_); clear hS; intro w hS
 refine nL (nT (wp_ret ?_))
 refine g_ret hS ?_
 replace hS := hS.none_
 refine g_leave (cs := [.pointer (some ⟨b2, 0, none⟩), .pointer (some ⟨b3, 0, none⟩)]) (u' := .returning) (X := none_) (Y := none_) hS (fun h => by cases h) cf91 ((guardF_ret b2 b3 w).mono fun e2 u2 w' ⟨h1, h2, h3⟩ => ⟨h1, h2, h3, none_ok _, fun b hb => hb.elim⟩) .head rfl ?_
 clear hS
 intro w hS
 refine d_retN hS Tryz.results31 (.cons (.cellA rfl (by repeat constructor) ty_st37 ty_sz37 (by rfl)) (.cons (.cellA rfl (by repeat constructor) ty_st95 ty_sz95 (by rfl)) .nil)) rfl ?_
 exact ⟨.inl x6, by show _ = Ending.returned (.tuple [.agg (V x6).toArray, .agg [.int .i64 0, .int .i64 0].toArray].toArray); rw [hVe], hS.chg, hS.ok (Y x6) (by repeat constructor), fun b hb => (hS.mine (Y x6) (by repeat constructor) (hYm x6) b hb).symm⟩
def ValC (W0 : World) (br : Nat) (q : Option Addr) (c : Nat) (l : List UInt8) (n : Nat) : Prop := ∀ (dep p : Nat) (w0 : World), dep ≤ 32 → p ≤ l.length → 2 * l.length + 2 ≤ 2 * p + n → (rdA br q c l p).φ w0 → oldφ W0 w0 →
 MayC Tryz.prog 34 [.pointer (some ⟨br, 0, none⟩), .int .i64 (dep : Int)] w0 (fun v => isFault eNo v ∧ valF n dep (l.drop p) = none) (rdA br q c l p)
  (fun x : { x : JX × Nat // valF n dep (l.drop p) = some (x.1.v, x.2) ∧ 1 ≤ x.2 ∧ p + x.2 ≤ l.length } => .agg x.1.1.cs.toArray) (fun x => duo (rdA br q c l (p + x.1.2)) (jxA (33 - dep) x.1.1))
def arrV (n d : Nat) (t : List UInt8) : Option (JV × Nat) := if one (isB 93) (t.drop (blN t)) then some (.mk 5 [] [] [], 1 + blN t + 1) else arrL n d t [] 1
theorem arr_step {n d : Nat} {l : List UInt8} {p u : Nat} {acc : List JV} : arrL (n + 1) d (l.drop p) acc u =
 if acc.length = 1000 ∧ one jBegin (l.drop (p + blN (l.drop p))) then none else
 match valF n (d + 1) (l.drop (p + blN (l.drop p))) with
 | none => none
 | some (v, k) =>
   if one (isB 93) (l.drop (p + blN (l.drop p) + k + blN (l.drop (p + blN (l.drop p) + k)))) then some (.mk 5 [] [] (acc ++ [v]), u + (blN (l.drop p) + k + blN (l.drop (p + blN (l.drop p) + k)) + 1))
   else if one (isB 44) (l.drop (p + blN (l.drop p) + k + blN (l.drop (p + blN (l.drop p) + k)))) then arrL n d (l.drop (p + blN (l.drop p) + k + blN (l.drop (p + blN (l.drop p) + k)) + 1)) (acc ++ [v]) (u + (blN (l.drop p) + k + blN (l.drop (p + blN (l.drop p) + k)) + 1))
   else none := by
 conv => lhs; unfold arrL
 simp only [List.drop_drop, Nat.add_assoc]
 rfl
theorem bl_twice (L : List UInt8) : blN (L.drop (blN L)) = 0 := by
 have h := tw_at (pd := jBl) (L := L) (k := blN L) (Nat.le_refl _)
 rw [decide_eq_false (show ¬ blN L < (L.takeWhile jBl).length from Nat.lt_irrefl _)] at h
 cases hd : L.drop (blN L) with
 | nil => rfl
 | cons x t =>
   rw [hd] at h
   unfold blN
   rw [List.takeWhile_cons_of_neg (by simpa [one] using h)]; rfl
theorem arr_skip {n d : Nat} {l : List UInt8} {p u : Nat} {acc : List JV} : arrL (n + 1) d (l.drop p) acc u = arrL (n + 1) d (l.drop (p + blN (l.drop p))) acc (u + blN (l.drop p)) := by
 have h0 : blN (l.drop (p + blN (l.drop p))) = 0 := by have := bl_twice (l.drop p); rwa [List.drop_drop] at this
 rw [arr_step, arr_step, h0]
 simp only [Nat.add_zero, Nat.zero_add]
 by_cases hA : acc.length = 1000 ∧ one jBegin (l.drop (p + blN (l.drop p))) = true
 · rw [if_pos hA, if_pos hA]
 · rw [if_neg hA, if_neg hA]
   cases valF n (d + 1) (l.drop (p + blN (l.drop p))) with
   | none => rfl
   | some x =>
     obtain ⟨v, k⟩ := x
     simp only
     rw [show u + (blN (l.drop p) + k + blN (l.drop (p + blN (l.drop p) + k)) + 1) = u + blN (l.drop p) + (k + blN (l.drop (p + blN (l.drop p) + k)) + 1) by omega]
def arrB (lv : Value) : List Value := [.int .i64 5, .string ⟨#[]⟩, lv, .slice none 0 0]
set_option maxHeartbeats 2000000 in
set_option maxRecDepth 100000 in
theorem jArray_Y (W0 : World) (br : Nat) (q : Option Addr) (c : Nat) (l : List UInt8) (ht : TxA W0 q c l) (hb : W0.heap.size ≤ br) (N : Nat) (IH : ∀ n, n ≤ N → ValC W0 br q c l n) (dep p : Nat) (hdep : dep < 32) (hp : p ≤ l.length) (hN : 2 * l.length + 3 ≤ 2 * p + N) (w0 : World) (h : (rdA br q c l p).φ w0) (ho : oldφ W0 w0) :
 MayC Tryz.prog 96 [.pointer (some ⟨br, 0, none⟩), .int .i64 (dep : Int)] w0 (fun v => isFault eNo v ∧ arrV N dep (l.drop p) = none) (rdA br q c l p)
  (fun x : { x : JX × Nat // arrV N dep (l.drop p) = some (x.1.v, x.2) ∧ 1 ≤ x.2 ∧ p + x.2 ≤ l.length + 1 } => .agg x.1.1.cs.toArray) (fun x => duo (rdA br q c l (p + x.1.2 - 1)) (jxA (33 - dep) x.1.1)) := by
 have hn := ht.n
 have hbl : ∀ i, blN (l.drop i) ≤ l.length - i := fun i => by have := blN_le (l.drop i); rwa [List.length_drop] at this
 obtain ⟨D, hD⟩ : ∃ D, 33 - dep = D + 1 := ⟨32 - dep, by omega⟩
 refine c_enter [(0, .pointer (some ⟨br, 0, none⟩)), (1, .int .i64 (dep : Int))] [rdA br q c l p, oldA W0] (fun k => k = br) Tryz.func96 rfl Tryz.ntmps96 ⟨rfl, rfl, trivial⟩ rfl (okC (ok_blk h) (okC (old_ok ho) okN)) (disC (sepC (fun k h1 h2 => by have h1 : k = br := h1; have h2 : k < W0.heap.size := h2; omega) sepN) dis1) (mineO (fun _ hb => hb) (mineC rfl mineN)) ?_
 intro a hS
 refine cS (cR ?_)
 refine L_op (s_alloc hS ty_z37 rfl ?_); clear hS a; intro a w b4 hS
 refine nL (nT (cS (cR ?_)))
 refine L_e hS (e_build ty_z37 ty_pl37 (.one rfl rfl rfl (by repeat constructor) .nil)) rfl ?_; clear hS a; intro a hS
 refine L_op (s_alloc hS ty_z37 rfl ?_); clear hS a; intro a w b5 hS
 refine L_op (s_storeA hS rfl rfl ty_sz37 (by repeat constructor) (by rfl) (by rfl) (by rfl) ?_); clear hS; intro w hS
 refine nL (nT (cS (cR ?_)))
 refine L_e hS (e_move rfl) rfl ?_; clear hS a; intro a hS
 refine L_op (s_callM hS (.cons rfl .nil) cf33 rfl (jBlanks_M W0 br q c l ht p hp _ (hS.gg (X := rdA br q c l p)) (hS.gg (X := oldA W0)) hb) (fun x => (by repeat constructor)) rfl ?_); clear hS a; intro x8 a w hS
 have hb0 := hbl p
 refine nL (nT (cS (cS (cR ?_))))
 refine L_e hS (e_move rfl) rfl ?_; clear hS a; intro a hS
 refine L_op (s_callM hS (.cons rfl (.cons rfl .nil)) cf92 rfl (jMay_M W0 br q c l ht ⟨#[93]⟩ (isB 93) (some_one 93) (p + blN (l.drop p)) (by omega) _ (hS.gg (X := rdA br q c l (p + blN (l.drop p)))) (hS.gg (X := oldA W0)) hb) (fun x => (by repeat constructor)) rfl ?_); clear hS a; intro x10 a w hS
 refine nL (nT ?_)
 (first | refine c_ifD hS rfl ?_ ?_ | refine c_if hS rfl ?_ ?_) <;> intro hc10
 ·
  have hv : arrV N dep (l.drop p) = some (.mk 5 [] [] [], 1 + blN (l.drop p) + 1) := by unfold arrV; rw [List.drop_drop, if_pos hc10]
  rw [show stN (isB 93) (l.drop (p + blN (l.drop p))) = 1 from if_pos hc10] at hS
  have h4 := st_le (pd := isB 93) (l := l) (p := p + blN (l.drop p)) (by omega)
  rw [show stN (isB 93) (l.drop (p + blN (l.drop p))) = 1 from if_pos hc10] at h4
  refine cS (cR ?_)
  refine L_e hS (e_loadA rfl (by repeat constructor) ty_st37 ty_sz37 (by rfl)) rfl ?_; clear hS a; intro a hS
  refine L_op (s_storeA hS rfl rfl ty_sz37 (by repeat constructor) (by rfl) (by rfl) (by rfl) ?_); clear hS; intro w hS
  refine nL (nT (wp_ret (r_then ?_)))
  refine c_ret1 hS Tryz.results96 (.cellA rfl (by repeat constructor) ty_st37 ty_sz37 (by rfl)) ?_
  have hl := jx_leaf D 5 [] w
  refine .inl ⟨⟨(⟨.mk 5 [] [] [], arrB (.slice none 0 0), fun _ => False, rfl, rfl⟩, 1 + blN (l.drop p) + 1), hv, by omega, by omega⟩, rfl, hS.chg, ?_, ?_⟩
  · show (duo (rdA br q c l (p + (1 + blN (l.drop p) + 1) - 1)) (jxA (33 - dep) _)).ok w
    rw [hD, show p + (1 + blN (l.drop p) + 1) - 1 = p + blN (l.drop p) + 1 by omega]
    exact duo_ok (hS.ok (rdA br q c l (p + blN (l.drop p) + 1)) (by repeat constructor)) hl (fun k _ hk => hk)
  · rintro b (hb | hb)
    · exact .inl hb
    · exact hb.elim
 have hc10' : ¬ one (isB 93) (l.drop (p + blN (l.drop p))) = true := by rw [hc10]; decide
 rw [show stN (isB 93) (l.drop (p + blN (l.drop p))) = 0 from if_neg hc10', Nat.add_zero] at hS
 obtain ⟨N', rfl⟩ : ∃ k, N = k + 1 := ⟨N - 1, by omega⟩
 have hv0 : arrV (N' + 1) dep (l.drop p) = arrL (N' + 1) dep (l.drop (p + blN (l.drop p))) [] (1 + blN (l.drop p)) := by
  unfold arrV; rw [List.drop_drop, if_neg hc10', arr_skip]
 refine wS (nT (wB ?_))
 skip
 refine c_loop (γ := (Nat × Nat × Nat × List JX × Value)) (fun G a w => St 44 (fun k => k = br) w0 a w [(0, .pointer (some ⟨br, 0, none⟩)), (1, .int .i64 (dep : Int)), (4, .pointer (some ⟨b4, 0, none⟩)), (5, .pointer (some ⟨b5, 0, none⟩))] [rdA br q c l G.2.1, .blk b5 (arrB G.2.2.2.2) 37, ownA 37 4 G.2.2.2.2 G.2.2.2.1.length (G.2.2.2.1.flatMap JX.cs), kidsA D G.2.2.2.1, .blk b4 zeroJ 37, oldA W0] ∧ G.2.1 ≤ l.length ∧ 2 * l.length + 3 ≤ 2 * G.2.1 + G.1 ∧ G.1 ≤ N' + 1 ∧ p + G.2.2.1 = G.2.1 + 1 ∧ arrL G.1 dep (l.drop G.2.1) (G.2.2.2.1.map JX.v) G.2.2.1 = arrV (N' + 1) dep (l.drop p) ∧ G.2.2.2.1.length ≤ G.2.2.1) (fun G => l.length - G.2.1) (N' + 1, p + blN (l.drop p), 1 + blN (l.drop p), [], .slice none 0 0) ⟨(((hS.own_nil 37 4).more (Y := kidsA D []) (kids_ok (fun x hx => by cases hx)) (fun b ⟨x, hx, _⟩ => by cases hx)).slots (by repeat (first | exact trivial | refine ⟨rfl, ?_⟩))).pick (by repeat (first | exact Pick.nil | (refine Pick.cons (by repeat (first | exact Rem.head | apply Rem.tail)) ?_))), by show p + blN (l.drop p) ≤ l.length; omega, by show 2 * l.length + 3 ≤ 2 * (p + blN (l.drop p)) + (N' + 1); omega, Nat.le_refl _, by show p + (1 + blN (l.drop p)) = p + blN (l.drop p) + 1; omega, hv0.symm, Nat.zero_le _⟩ ?_
 clear hS a; intro G a w hI
 obtain ⟨m, pp, u, kids, lv⟩ := G
 obtain ⟨hS, hpp, hm, hmN, hpu, hgo, hku⟩ := hI
 simp only at hS hpp hm hmN hpu hgo hku
 obtain ⟨m, rfl⟩ : ∃ k, m = k + 1 := ⟨m - 1, by omega⟩
 obtain ⟨ql, cl, rfl⟩ := own_slice (hS.gg (X := ownA 37 4 lv kids.length (kids.flatMap JX.cs)))
 obtain ⟨p1, hp1⟩ : ∃ p1, pp + blN (l.drop pp) = p1 := ⟨_, rfl⟩
 have hb1 := hbl pp
 rw [arr_step, hp1, List.length_map] at hgo
 unfold arrB at hS
 refine wB (cS (cR ?_))
 refine L_e hS (e_move rfl) rfl ?_; clear hS a; intro a hS
 refine L_op (s_callM hS (.cons rfl .nil) cf33 rfl (jBlanks_M W0 br q c l ht pp hpp _ (hS.gg (X := rdA br q c l pp)) (hS.gg (X := oldA W0)) hb) (fun x => (by repeat constructor)) rfl ?_); clear hS a; intro x13 a w hS
 rw [hp1] at hS
 refine nL (nT (cS (cS (cR ?_))))
 (first | refine L_e hS (e_fa0 rfl ty_fo37_2) rfl ?_ | refine L_e hS (e_faK rfl ty_fo37_2) rfl ?_); clear hS a; intro a hS
 refine Rn hS (.c (e_load rfl (by repeat constructor) ty_sc34 (by rfl)) <| .c (e_len rfl rfl ty_sl34) <| .c (e_bin rfl rfl rfl) <| .m rfl .n) ?_; clear hS a; intro a hS
 refine L_merge 3 21 (.bool (decide (kids.length = 1000 ∧ one jBegin (l.drop p1) = true))) hS ?_ ?_
 · intro hcM21
   (first | refine g_splitD (t := 18) hS rfl ?_ ?_ | refine g_split (t := 18) hS rfl ?_ ?_) <;> (clear hS; intro hg18 hS)
   ·
    refine L_ge hS rfl rfl (e_move rfl) rfl ?_; clear hS a; intro a hS
    refine L_go hS rfl rfl (s_callM hS (.cons rfl .nil) cf137 rfl (jBegins_M W0 br q c l ht p1 (by omega) _ (hS.gg (X := rdA br q c l p1)) (hS.gg (X := oldA W0)) hb) (fun x => (by repeat constructor)) rfl ?_); clear hS a; intro x20 a w hS
    refine L_e hS (e_pk rfl rfl) rfl ?_; clear hS a; intro a hS
    exact hcM21 _ _ (hS.ends 4 21 18 rfl (congrArg Value.bool (by cases hq : one jBegin (l.drop p1); exact (decide_eq_false (fun h => by cases h.2)).symm; exact (decide_eq_true ⟨by omega, rfl⟩).symm)) rfl rfl (by first | exact congrArg Value.bool (decide_eq_true hg18).symm | exact congrArg Value.bool hg18.symm | simp [hg18]) rfl)
   refine Rn hS (.t rfl rfl <| .t rfl rfl <| .c (e_pk rfl rfl) .n) ?_; clear hS a; intro a hS
   exact hcM21 _ _ (hS.ends 4 21 18 rfl (congrArg Value.bool (by exact (decide_eq_false (fun h => hg18 (by omega))).symm)) rfl rfl (by first | exact congrArg Value.bool (decide_eq_false hg18).symm | exact congrArg Value.bool hg18.symm | simp [hg18]) rfl)
 · clear hS a; intro a w hS
   simp only [List.drop_succ_cons, List.drop_zero]
   refine nL (nT ?_)
   (first | refine c_ifD hS rfl ?_ ?_ | refine c_if hS rfl ?_ ?_) <;> intro hc21
   ·
    rw [if_pos hc21] at hgo
    refine cR ?_
    unfold rdA rdB at hS
    refine Rn hS (.m rfl <| .m rfl <| .c (e_nilCheck rfl) .n) ?_; clear hS a; intro a hS
    (first | refine L_e hS (e_fa0 rfl ty_fo93_1) rfl ?_ | refine L_e hS (e_faK rfl ty_fo93_1) rfl ?_); clear hS a; intro a hS
    refine L_e hS (e_load rfl (by repeat constructor) ty_sc3 (by rfl)) rfl ?_; clear hS a; intro a hS
    refine L_op (s_callY hS (.cons rfl (.cons rfl (.cons rfl .nil))) cf94 rfl (jFail_Y eNo (.pointer (some ⟨br, 0, none⟩)) (p1 : Int) 9 (show (9 : Int) ≠ 0 by decide) (.blk br [.slice q l.length c, .int .i64 (p1 : Int)] 93) _ (hS.ok _ (by repeat constructor)) rfl) (fun x => (by repeat constructor)) rfl (by repeat constructor) ?_ ?_)
    ·
     intro vp wp hvp hdp hcp
     refine p_then (p_block (p_then (p_block ?_)))
     exact ⟨hdp, .inr ⟨vp, ⟨hvp, hgo.symm⟩, rfl, hcp⟩⟩
    clear hS a; intro x27 a w hS
    exact x27.elim
   rw [if_neg hc21] at hgo
   refine wS (nT (cS ?_))
   refine c_drawS [9] (by kernel_rfl) hS (sub_cons (X := .blk b5 [.int .i64 5, .string ⟨#[]⟩, .slice ql kids.length cl, .slice none 0 0] 37) (by repeat constructor) sub_nil) ?_; clear hS; intro w hS
   simp only [List.length_cons, List.length_nil, Nat.zero_add, Nat.reduceAdd, List.replicate]
   (first | refine Zt0 0 (tf 1 9) hS rfl want_none (e_fa0 rfl ty_fo37_2) rfl (by kernel_rfl) rfl ?_ | refine Zt0 0 (tf 1 9) hS rfl want_none (e_faK rfl ty_fo37_2) rfl (by kernel_rfl) rfl ?_); clear hS a; intro a hS
   refine Rz hS (sub_cons (by repeat constructor) sub_nil) (.y 1 (tf 2 8) rfl wN (e_load rfl (by repeat constructor) ty_sc34 (by rfl)) rfl <| .o 2 (tf 3 7) rfl wN (e_move rfl) rfl <| .o 3 (tf 4 6) rfl wN (e_move rfl) rfl .n) ?_; clear hS a; intro a hS
   (first | refine Zt0 4 (tf 5 5) hS rfl want_none (e_binN rfl rfl rfl (by omega)) rfl (by kernel_rfl) rfl ?_ | refine Zt0 4 (tf 5 5) hS rfl want_none (e_bin rfl rfl rfl) rfl (by kernel_rfl) rfl ?_); clear hS a; intro a hS
   refine Zo 5 (tf 6 4) hS rfl wN rfl (s_callY hS (.cons rfl (.cons rfl .nil)) cf34 rfl (IH m (by omega) (dep + 1) p1 _ (by omega) (by omega) (by omega) (hS.gg (X := rdA br q c l p1)) (hS.gg (X := oldA W0))) (fun x => (by repeat constructor)) rfl (by repeat constructor) ?_ ?_)
   ·
    intro vp wp hvp hdp hcp
    refine p_then (p_block (p_then (p_block ?_)))
    exact ⟨hdp, .inr ⟨vp, ⟨hvp.1, by rw [← hgo, hvp.2]⟩, rfl, hcp⟩⟩
   clear hS a; intro x33 a w hS
   obtain ⟨⟨x, k⟩, hx1, hx2, hx3⟩ := x33
   simp only at hx1 hx2 hx3 hS
   rw [show 33 - (dep + 1) = D by omega] at hS
   replace hS := hS.unduo
   obtain ⟨lx, nx, ⟨a1, a2, a3, rfl⟩, ⟨a4, a5, a6, rfl⟩, hcs⟩ := JAt.four (hS.get (X := jxA D x) (.tail _ (.head _)))
   rw [hcs] at hS
   rw [hx1] at hgo
   simp only at hgo
   have hkl : kids.length ≤ 1100000 := by omega
   refine Z_and hS (sub_cons (by repeat constructor) sub_nil) ?_
   refine Zo 6 (tf 7 3) hS rfl wN rfl (s_bslice hS ty_sl34 ty_sz37 ty_z37 rfl rfl rfl rfl (.agg rfl rfl .nil) rfl ?_); clear hS a; intro a w b34 hS
   refine Z_and hS (sub_cons (by repeat constructor) sub_nil) ?_
   refine Zo 7 (tf 8 2) hS rfl wN rfl (s_append1 hS rfl rfl ty_sl34 ty_sz37 ty_by37 ty_z37 rfl rfl rfl (by repeat constructor) (by repeat constructor) (by rfl) (by rfl) (fun _ => (by repeat constructor)) (by omega) ?_); clear hS a; intro v35 a w hv35 hS
   obtain ⟨q35, c35, rfl⟩ := own_slice (hS.gg (X := ownA 37 4 v35 (kids.length + 1) _))
   refine Z_and hS (sub_cons (by repeat constructor) sub_nil) ?_
   (first | refine Zt0 8 (tf 9 1) hS rfl want_none (e_fa0 rfl ty_fo37_2) rfl (by kernel_rfl) rfl ?_ | refine Zt0 8 (tf 9 1) hS rfl want_none (e_faK rfl ty_fo37_2) rfl (by kernel_rfl) rfl ?_); clear hS a; intro a hS
   refine Zo 9 (tf 10 0) hS rfl wN rfl (s_store hS rfl rfl rfl ty_sz34 (by repeat constructor) (by repeat constructor) ?_); clear hS; intro w hS
   refine Z_last (by simp) ?_
   refine Z_done (by kernel_rfl) ?_
   refine nT (cS ?_)
   obtain ⟨p2, hp2⟩ : ∃ p2, p1 + k = p2 := ⟨_, rfl⟩
   obtain ⟨p3, hp3⟩ : ∃ p3, p2 + blN (l.drop p2) = p3 := ⟨_, rfl⟩
   have hb2 := hbl p2
   have hfl : (kids ++ [x]).flatMap JX.cs = kids.flatMap JX.cs ++ ([.int .i64 (x.v.k : Int), .string (tx x.v.t), .slice a1 a2 a3, .slice a4 a5 a6] ++ []) := by rw [List.flatMap_append, ← hcs]; simp
   have hkl1 : (kids ++ [x]).length = kids.length + 1 := by simp
   replace hS := hS.pick (Γ' := [jxA D x, kidsA D kids, rdA br q c l (p1 + k), .blk b5 [.int .i64 5, .string ⟨#[]⟩, .slice q35 (kids.length + 1) c35, .slice none 0 0] 37, ownA 37 4 (.slice q35 (kids.length + 1) c35) (kids.length + 1) (kids.flatMap JX.cs ++ ([.int .i64 (x.v.k : Int), .string (tx x.v.t), .slice a1 a2 a3, .slice a4 a5 a6] ++ [])), .blk b4 zeroJ 37, oldA W0]) (by repeat (first | exact Pick.nil | (refine Pick.cons (by repeat (first | exact Rem.head | apply Rem.tail)) ?_)))
   replace hS := kids_add hS
   rw [← hfl, hp2] at hS
   rw [hp2, hp3] at hgo
   refine cR ?_
   refine L_e hS (e_move rfl) rfl ?_; clear hS a; intro a hS
   refine L_op (s_callM hS (.cons rfl .nil) cf33 rfl (jBlanks_M W0 br q c l ht p2 (by omega) _ (hS.gg (X := rdA br q c l p2)) (hS.gg (X := oldA W0)) hb) (fun x => (by repeat constructor)) rfl ?_); clear hS a; intro x38 a w hS
   rw [hp3] at hS
   refine nL (nT (cS (cS (cR ?_))))
   refine L_e hS (e_move rfl) rfl ?_; clear hS a; intro a hS
   refine L_op (s_callM hS (.cons rfl (.cons rfl .nil)) cf92 rfl (jMay_M W0 br q c l ht ⟨#[93]⟩ (isB 93) (some_one 93) p3 (by omega) _ (hS.gg (X := rdA br q c l p3)) (hS.gg (X := oldA W0)) hb) (fun x => (by repeat constructor)) rfl ?_); clear hS a; intro x40 a w hS
   refine nL (nT ?_)
   (first | refine c_ifD hS rfl ?_ ?_ | refine c_if hS rfl ?_ ?_) <;> intro hc40
   ·
    have h4 := st_le (pd := isB 93) (l := l) (p := p3) (by omega)
    rw [show stN (isB 93) (l.drop p3) = 1 from if_pos hc40] at hS h4
    rw [if_pos hc40] at hgo
    refine cS (cR ?_)
    refine L_e hS (e_loadA rfl (by repeat constructor) ty_st37 ty_sz37 (by rfl)) rfl ?_; clear hS a; intro a hS
    refine L_op (s_storeA hS rfl rfl ty_sz37 (by repeat constructor) (by rfl) (by rfl) (by rfl) ?_); clear hS; intro w hS
    refine nL (nT (wp_ret ?_))
    refine r_then (r_block (r_then (r_block ?_)))
    refine c_ret1 hS Tryz.results96 (.cellA rfl (by repeat constructor) ty_st37 ty_sz37 (by rfl)) ?_
    have hS1 := (hS.own_nil 9 1).pick (Γ' := [ownA 37 4 (.slice q35 (kids.length + 1) c35) (kids.length + 1) ((kids ++ [x]).flatMap JX.cs), ownA 9 1 (.slice none 0 0) 0 [], kidsA D (kids ++ [x]), rdA br q c l (p3 + 1)]) (by repeat (first | exact Pick.nil | (refine Pick.cons (by repeat (first | exact Rem.head | apply Rem.tail)) ?_)))
    rw [← hkl1] at hS1
    have hS2 := jx_node (d := D) (k := 5) (t := []) (ns := []) (kids := kids ++ [x]) hS1
    rw [hkl1] at hS2
    obtain ⟨F, hF⟩ : ∃ F : Nat → Prop, F = fun b => (Value.slice q35 (kids.length + 1) c35).ownBlock = some b ∨ (Value.slice none 0 0).ownBlock = some b ∨ kidF (kids ++ [x]) b := ⟨_, rfl⟩
    rw [← hF] at hS2
    refine .inl ⟨⟨(⟨.mk 5 [] [] ((kids ++ [x]).map JX.v), arrB (.slice q35 (kids.length + 1) c35), F, rfl, rfl⟩, u + (blN (l.drop pp) + k + blN (l.drop p2) + 1)), by rw [← hgo, List.map_append]; rfl, by show 1 ≤ u + (blN (l.drop pp) + k + blN (l.drop p2) + 1); omega, by show p + (u + (blN (l.drop pp) + k + blN (l.drop p2) + 1)) ≤ l.length + 1; omega⟩, rfl, hS.chg, ?_, ?_⟩
    · show (duo (rdA br q c l (p + (u + (blN (l.drop pp) + k + blN (l.drop p2) + 1)) - 1)) (jxA (33 - dep) _)).ok w
      rw [hD, show p + (u + (blN (l.drop pp) + k + blN (l.drop p2) + 1)) - 1 = p3 + 1 by omega]
      exact duo_ok (hS2.ok _ (.tail _ (.head _))) (hS2.ok _ (.head _)) (fun b h1 h2 => hS2.sep (X := rdA br q c l (p3 + 1)) (by repeat (first | exact Rem.head | apply Rem.tail)) (.head _) b h1 h2)
    · rintro b (hb | hb)
      · exact .inl hb
      · exact (hS2.mine _ (.head _) rfl b hb).symm
   have hc40' : ¬ one (isB 93) (l.drop p3) = true := by rw [hc40]; decide
   rw [show stN (isB 93) (l.drop p3) = 0 from if_neg hc40', Nat.add_zero] at hS
   rw [if_neg hc40'] at hgo
   refine wS (nT (cR ?_))
   refine L_e hS (e_move rfl) rfl ?_; clear hS a; intro a hS
   refine L_op (s_callY hS (.cons rfl (.cons rfl .nil)) cf100 rfl (jMust_Y W0 br q c l ht 44 p3 (by omega) _ (hS.gg (X := rdA br q c l p3)) (hS.gg (X := oldA W0)) hb) (fun x => (by repeat constructor)) rfl (by repeat constructor) ?_ ?_)
   ·
    intro vp wp hvp hdp hcp
    refine p_block (p_then (p_block ?_))
    exact ⟨hdp, .inr ⟨vp, ⟨hvp.1, by rw [← hgo, if_neg (by rw [hvp.2]; decide)]⟩, rfl, hcp⟩⟩
   clear hS a; intro x43 a w hS
   obtain ⟨_, h44⟩ := x43
   rw [if_pos h44] at hgo
   have hpl3 : p3 < l.length := by
    rcases Nat.lt_or_ge p3 l.length with h | h
    · exact h
    · rw [one_end _ h] at h44; cases h44
   refine nL (n_block ?_)
   refine ⟨(m, p3 + 1, u + (blN (l.drop pp) + k + blN (l.drop p2) + 1), kids ++ [x], .slice q35 (kids.length + 1) c35), by show l.length - (p3 + 1) < l.length - pp; omega, ?_, by show p3 + 1 ≤ l.length; omega, by show 2 * l.length + 3 ≤ 2 * (p3 + 1) + m; omega, by show m ≤ N' + 1; omega, by show p + (u + (blN (l.drop pp) + k + blN (l.drop p2) + 1)) = p3 + 1 + 1; omega, ?_, by show (kids ++ [x]).length ≤ u + (blN (l.drop pp) + k + blN (l.drop p2) + 1); omega⟩
   · show St _ _ _ _ _ _ [_, _, ownA _ _ _ (kids ++ [x]).length _, _, _, _]
     rw [hkl1]
     exact (hS.slots (by repeat (first | exact trivial | refine ⟨rfl, ?_⟩))).pick (by repeat (first | exact Pick.nil | (refine Pick.cons (by repeat (first | exact Rem.head | apply Rem.tail)) ?_)))
   · show arrL m dep (l.drop (p3 + 1)) ((kids ++ [x]).map JX.v) _ = _
     rw [List.map_append]; exact hgo
theorem strF_shift : ∀ (n : Nat) (L acc : List UInt8) (u c : Nat), strF n L acc (u + c) = (strF n L acc u).map fun x => (x.1, x.2 + c) := by
 intro n
 induction n with
 | zero => intro L acc u c; rfl
 | succ n ih =>
   intro L acc u c
   unfold strF
   cases L with
   | nil => rfl
   | cons x t =>
     simp only
     by_cases h1 : x.toNat < 32
     · rw [if_pos h1, if_pos h1]; rfl
     · rw [if_neg h1, if_neg h1]
       by_cases h2 : x.toNat = 34
       · rw [if_pos h2, if_pos h2]; simp only [Option.map_some]; rw [show u + c + 1 = u + 1 + c by omega]
       · rw [if_neg h2, if_neg h2]
         by_cases h3 : x.toNat = 92
         · rw [if_pos h3, if_pos h3]
           cases escF t with
           | none => rfl
           | some y => obtain ⟨r, k⟩ := y; simp only; rw [← ih, show u + c + 1 + k = u + 1 + k + c by omega]
         · rw [if_neg h3, if_neg h3]
           by_cases h4 : (Lib.decodeL (x :: t)).1 = 65533 ∧ (Lib.decodeL (x :: t)).2 = 1
           · rw [if_pos h4, if_pos h4]; rfl
           · rw [if_neg h4, if_neg h4, ← ih, show u + c + (Lib.decodeL (x :: t)).2 = u + (Lib.decodeL (x :: t)).2 + c by omega]
theorem strB_shift (L acc : List UInt8) (c : Nat) : strB L acc (c + 1) = (strB L acc 1).map fun x => (x.1, x.2 + c) := by
 unfold strB; rw [Nat.add_comm c 1, strF_shift]
def objV (n d : Nat) (t : List UInt8) : Option (JV × Nat) := if one (isB 125) (t.drop (blN t)) then some (.mk 6 [] [] [], 1 + blN t + 1) else objL n d t [] [] 1
theorem obj_step {n d : Nat} {l : List UInt8} {p u p1 : Nat} {ns : List (List UInt8)} {acc : List JV} (h1 : p + blN (l.drop p) = p1) : objL (n + 1) d (l.drop p) ns acc u =
 if one (isB 34) (l.drop p1) = false then none else
 if acc.length = 1000 then none else
 match strB (l.drop (p1 + 1)) [] 1 with
 | none => none
 | some (nm, a) =>
   if nm ∈ ns then none else
   if one (isB 58) (l.drop (p1 + a + blN (l.drop (p1 + a)))) = false then none else
   match valF n (d + 1) (l.drop (p1 + a + blN (l.drop (p1 + a)) + 1 + blN (l.drop (p1 + a + blN (l.drop (p1 + a)) + 1)))) with
   | none => none
   | some (v, k) =>
     if one (isB 125) (l.drop (p1 + a + blN (l.drop (p1 + a)) + 1 + blN (l.drop (p1 + a + blN (l.drop (p1 + a)) + 1)) + k + blN (l.drop (p1 + a + blN (l.drop (p1 + a)) + 1 + blN (l.drop (p1 + a + blN (l.drop (p1 + a)) + 1)) + k)))) then
      some (.mk 6 [] (ns ++ [nm]) (acc ++ [v]), u + (p1 + a + blN (l.drop (p1 + a)) + 1 + blN (l.drop (p1 + a + blN (l.drop (p1 + a)) + 1)) + k + blN (l.drop (p1 + a + blN (l.drop (p1 + a)) + 1 + blN (l.drop (p1 + a + blN (l.drop (p1 + a)) + 1)) + k)) + 1 - p))
     else if one (isB 44) (l.drop (p1 + a + blN (l.drop (p1 + a)) + 1 + blN (l.drop (p1 + a + blN (l.drop (p1 + a)) + 1)) + k + blN (l.drop (p1 + a + blN (l.drop (p1 + a)) + 1 + blN (l.drop (p1 + a + blN (l.drop (p1 + a)) + 1)) + k)))) then
      objL n d (l.drop (p1 + a + blN (l.drop (p1 + a)) + 1 + blN (l.drop (p1 + a + blN (l.drop (p1 + a)) + 1)) + k + blN (l.drop (p1 + a + blN (l.drop (p1 + a)) + 1 + blN (l.drop (p1 + a + blN (l.drop (p1 + a)) + 1)) + k)) + 1)) (ns ++ [nm]) (acc ++ [v]) (u + (p1 + a + blN (l.drop (p1 + a)) + 1 + blN (l.drop (p1 + a + blN (l.drop (p1 + a)) + 1)) + k + blN (l.drop (p1 + a + blN (l.drop (p1 + a)) + 1 + blN (l.drop (p1 + a + blN (l.drop (p1 + a)) + 1)) + k)) + 1 - p))
     else none := by
 conv => lhs; unfold objL
 simp only [List.drop_drop]
 rw [show p + (blN (l.drop p) + 1) = p1 + 1 by omega, h1]
 rw [strB_any (by rw [List.length_drop, List.length_drop]; omega), strB_shift]
 by_cases g1 : one (isB 34) (l.drop p1) = false
 · rw [if_pos g1, if_pos g1]
 · rw [if_neg g1, if_neg g1]
   by_cases g2 : acc.length = 1000
   · rw [if_pos g2, if_pos g2]
   · rw [if_neg g2, if_neg g2]
     cases strB (l.drop (p1 + 1)) [] 1 with
     | none => rfl
     | some y =>
       obtain ⟨nm, a⟩ := y
       simp only [Option.map_some]
       have e : ∀ i, p + (a + blN (l.drop p) + i) = p1 + a + i := fun i => by omega
       have e0 : p + (a + blN (l.drop p)) = p1 + a := by omega
       by_cases g3 : nm ∈ ns
       · rw [if_pos g3, if_pos g3]
       · rw [if_neg g3, if_neg g3]
         rw [e0, e, Nat.add_assoc (a + blN (l.drop p)), e, ← Nat.add_assoc (p1 + a)]
         by_cases g4 : one (isB 58) (l.drop (p1 + a + blN (l.drop (p1 + a)))) = false
         · rw [if_pos g4, if_pos g4]
         · rw [if_neg g4, if_neg g4]
           obtain ⟨p4, h4⟩ : ∃ k, p1 + a + blN (l.drop (p1 + a)) + 1 = k := ⟨_, rfl⟩
           obtain ⟨q4, hq4⟩ : ∃ k, a + blN (l.drop p) + (blN (l.drop (p1 + a)) + 1) = k := ⟨_, rfl⟩
           have f4 : ∀ i, p + (q4 + i) = p4 + i := fun i => by omega
           rw [h4, hq4, f4]
           cases valF n (d + 1) (l.drop (p4 + blN (l.drop p4))) with
           | none => rfl
           | some y =>
             obtain ⟨v, k⟩ := y
             simp only
             obtain ⟨p6, h6⟩ : ∃ j, p4 + blN (l.drop p4) + k = j := ⟨_, rfl⟩
             obtain ⟨q6, hq6⟩ : ∃ j, q4 + blN (l.drop p4) + k = j := ⟨_, rfl⟩
             have f6 : ∀ i, p + (q6 + i) = p6 + i := fun i => by omega
             have f60 : p + q6 = p6 := by omega
             rw [h6, hq6, f60, f6, Nat.add_assoc q6, f6, ← Nat.add_assoc p6, show p6 + blN (l.drop p6) + 1 - p = q6 + (blN (l.drop p6) + 1) by omega]
theorem obj_skip {n d : Nat} {l : List UInt8} {p u : Nat} {ns : List (List UInt8)} {acc : List JV} : objL (n + 1) d (l.drop p) ns acc u = objL (n + 1) d (l.drop (p + blN (l.drop p))) ns acc (u + blN (l.drop p)) := by
 have h0 : blN (l.drop (p + blN (l.drop p))) = 0 := by have := bl_twice (l.drop p); rwa [List.drop_drop] at this
 obtain ⟨p1, h1⟩ : ∃ k, p + blN (l.drop p) = k := ⟨_, rfl⟩
 rw [h1] at h0 ⊢
 rw [obj_step (p := p) (p1 := p1) h1, obj_step (p := p1) (p1 := p1) (by rw [h0]; rfl)]
 by_cases g1 : one (isB 34) (l.drop p1) = false
 · rw [if_pos g1, if_pos g1]
 · rw [if_neg g1, if_neg g1]
   by_cases g2 : acc.length = 1000
   · rw [if_pos g2, if_pos g2]
   · rw [if_neg g2, if_neg g2]
     cases strB (l.drop (p1 + 1)) [] 1 with
     | none => rfl
     | some y =>
       obtain ⟨nm, a⟩ := y
       simp only
       by_cases g3 : nm ∈ ns
       · rw [if_pos g3, if_pos g3]
       · rw [if_neg g3, if_neg g3]
         by_cases g4 : one (isB 58) (l.drop (p1 + a + blN (l.drop (p1 + a)))) = false
         · rw [if_pos g4, if_pos g4]
         · rw [if_neg g4, if_neg g4]
           obtain ⟨p5, h5⟩ : ∃ k, p1 + a + blN (l.drop (p1 + a)) + 1 + blN (l.drop (p1 + a + blN (l.drop (p1 + a)) + 1)) = k := ⟨_, rfl⟩
           rw [h5]
           cases valF n (d + 1) (l.drop p5) with
           | none => rfl
           | some y =>
             obtain ⟨v, k⟩ := y
             simp only
             rw [show p5 + k + blN (l.drop (p5 + k)) + 1 - p = blN (l.drop p) + (p5 + k + blN (l.drop (p5 + k)) + 1 - p1) by omega, ← Nat.add_assoc u]
set_option maxRecDepth 100000 in
theorem jWords_P (w0 : World) : NewC Tryz.prog 99 [] w0 (fun b : Nat => .slice (some ⟨b, 0, none⟩) 3 3) (fun b => .blk b (wordsJ.flatMap encS) 9) := by
 refine c_enter [] [] noB Tryz.func99 rfl Tryz.ntmps99 trivial rfl (by simp) (by simp) (by simp) ?_
 intro a hS
 refine cS (cR ?_)
 refine L_e hS (e_assign rfl) rfl ?_; clear hS a; intro a hS
 refine nL (nT (cS (cR ?_)))
 refine L_op (s_bslice hS ty_sl35 ty_sz9 ty_z9 rfl rfl rfl rfl (.one rfl rfl rfl (.one rfl rfl rfl (.one rfl rfl rfl .nil))) rfl ?_); clear hS a; intro a w b1 hS
 refine L_e hS (e_assign rfl) rfl ?_; clear hS a; intro a hS
 refine nL (nT (wp_ret ?_))
 refine c_ret1 hS Tryz.results99 (.tmp rfl) ?_
 exact ⟨b1, rfl, hS.chg, hS.new (.head _) rfl⟩
theorem pre_step {w l : List UInt8} {p i : Nat} {x : UInt8} (hx : w[i]? = some x) : (w.drop i).isPrefixOf (l.drop (p + i)) = (one (isB x.toNat) (l.drop (p + i)) && (w.drop (i + 1)).isPrefixOf (l.drop (p + (i + 1)))) := by
 obtain ⟨hi, hx⟩ := List.getElem?_eq_some_iff.1 hx
 rw [List.drop_eq_getElem_cons hi, hx]
 cases hl : l.drop (p + i) with
 | nil => simp [one]
 | cons y t =>
   have : l.drop (p + (i + 1)) = t := by rw [← Nat.add_assoc, ← List.drop_drop (i := 1), hl]; rfl
   rw [this]
   simp only [List.isPrefixOf_cons_cons, one, isB]
   by_cases hxy : x = y
   · subst hxy; simp
   · have h1 : ¬ y.toNat = x.toNat := fun h => hxy (UInt8.toNat_inj.1 h.symm)
     rw [beq_eq_false_iff_ne.2 hxy]; simp [h1]
theorem hd0_cons {L : List UInt8} (h : hd0 L ≠ 0) : ∃ x t, L = x :: t ∧ x.toNat = hd0 L := by
 cases L with
 | nil => exact (h rfl).elim
 | cons x t => exact ⟨x, t, rfl, rfl⟩
theorem hd0_lt {l : List UInt8} {p : Nat} (h : hd0 (l.drop p) ≠ 0) : p < l.length := by
 rcases Nat.lt_or_ge p l.length with g | g
 · exact g
 · rw [List.drop_eq_nil_of_le g] at h; exact (h rfl).elim
theorem hd0_tail {l : List UInt8} {p : Nat} {x : UInt8} {t : List UInt8} (h : l.drop p = x :: t) : l.drop (p + 1) = t := by
 rw [← List.drop_drop, h]; rfl
theorem hd0_one {L : List UInt8} {z : Nat} (hz : z ≠ 0) : one (isB z) L = true ↔ hd0 L = z := by
 cases L with
 | nil => simp only [one, hd0]; exact ⟨(fun h => nomatch h), fun h => (hz h.symm).elim⟩
 | cons x t => simp [one, isB, hd0]
theorem val_obj {n d : Nat} {l : List UInt8} {p : Nat} (h : hd0 (l.drop p) = 123) : valF (n + 1) d (l.drop p) = if 32 ≤ d then none else objV n d (l.drop (p + 1)) := by
 obtain ⟨x, t, hx, hv⟩ := hd0_cons (L := l.drop p) (by omega)
 rw [hd0_tail hx, hx, valF]; rw [if_pos (by omega)]; rfl
theorem val_arr {n d : Nat} {l : List UInt8} {p : Nat} (h : hd0 (l.drop p) = 91) : valF (n + 1) d (l.drop p) = if 32 ≤ d then none else arrV n d (l.drop (p + 1)) := by
 obtain ⟨x, t, hx, hv⟩ := hd0_cons (L := l.drop p) (by omega)
 rw [hd0_tail hx, hx, valF]; rw [if_neg (by omega), if_pos (by omega)]; rfl
theorem val_str {n d : Nat} {l : List UInt8} {p : Nat} (h : hd0 (l.drop p) = 34) : valF (n + 1) d (l.drop p) = (strB (l.drop (p + 1)) [] 1).map fun x => (jStr x.1, x.2) := by
 obtain ⟨x, t, hx, hv⟩ := hd0_cons (L := l.drop p) (by omega)
 rw [hd0_tail hx, hx, valF]; rw [if_neg (by omega), if_neg (by omega), if_pos (by omega)]; rfl
theorem val_num {n d : Nat} {l : List UInt8} {p : Nat} (h : hd0 (l.drop p) = 45 ∨ (48 ≤ hd0 (l.drop p) ∧ hd0 (l.drop p) ≤ 57)) : valF (n + 1) d (l.drop p) = (numF (l.drop p)).map fun k => (jNum ((l.drop p).take k), k) := by
 obtain ⟨x, t, hx, hv⟩ := hd0_cons (L := l.drop p) (by omega)
 rw [hx, valF]; rw [← hv] at h; rw [if_neg (by omega), if_neg (by omega), if_neg (by omega), if_pos h]
theorem wordF_nil : wordF [] = none := by decide
theorem val_word {n d : Nat} {l : List UInt8} {p : Nat} (h1 : hd0 (l.drop p) ≠ 123) (h2 : hd0 (l.drop p) ≠ 91) (h3 : hd0 (l.drop p) ≠ 34) (h4 : ¬ (hd0 (l.drop p) = 45 ∨ (48 ≤ hd0 (l.drop p) ∧ hd0 (l.drop p) ≤ 57))) : valF (n + 1) d (l.drop p) = wordF (l.drop p) := by
 cases hx : l.drop p with
 | nil => rw [valF, wordF_nil]
 | cons x t =>
   rw [hx] at h1 h2 h3 h4
   unfold hd0 at h1 h2 h3 h4
   rw [valF]; rw [if_neg h1, if_neg h2, if_neg h3, if_neg h4]
theorem word_hit {L w : List UInt8} {k : Nat} (hw : wordsJ[k]? = some w) (h : hd0 L = hd0 w) : wordF L = if w.isPrefixOf L then some (.mk k [] [] [], w.length) else none := by
 have hk : k < 3 := (List.getElem?_eq_some_iff.1 hw).1
 cases L with
 | nil =>
   rcases (by omega : k = 0 ∨ k = 1 ∨ k = 2) with rfl | rfl | rfl <;> (cases hw; cases h)
 | cons x t =>
   rcases (by omega : k = 0 ∨ k = 1 ∨ k = 2) with rfl | rfl | rfl <;>
   · cases hw
     have hx : x = _ := UInt8.toNat_inj.1 h
     subst hx
     rfl
theorem word_none {L : List UInt8} (h : ∀ (k : Nat) (w : List UInt8), wordsJ[k]? = some w → hd0 w ≠ hd0 L) : wordF L = none := by
 cases L with
 | nil => exact wordF_nil
 | cons x t =>
   have h0 := h 0 _ rfl
   have h1 := h 1 _ rfl
   have h2 := h 2 _ rfl
   have e : ∀ z : UInt8, z.toNat ≠ x.toNat → ((some z : Option UInt8) == some x) = false := fun z hz => by
    rw [beq_eq_false_iff_ne]; intro g; cases g; exact hz rfl
   have hf : wordsJ.findIdx? (fun w => w.head? == (x :: t).head?) = none := by
    rw [List.findIdx?_eq_none_iff]
    intro w hw
    simp only [wordsJ, List.mem_cons, List.not_mem_nil, or_false] at hw
    rcases hw with rfl | rfl | rfl
    · exact e _ h0
    · exact e _ h1
    · exact e _ h2
   unfold wordF; rw [hf]
theorem str_pos {L s : List UInt8} {k : Nat} (h : strB L [] 1 = some (s, k)) : 1 ≤ k := by
 have h : strF L.length L [] (0 + 1) = some (s, k) := h
 rw [strF_shift] at h
 cases hq : strF L.length L [] 0 with
 | none => rw [hq] at h; cases h
 | some y => rw [hq] at h; simp only [Option.map_some, Option.some.injEq, Prod.mk.injEq] at h; omega
theorem someP_le {L : List UInt8} {k : Nat} (h : someF L = some k) : 1 ≤ k ∧ k ≤ L.length := by
 unfold someF at h
 by_cases h0 : dgN L = 0
 · rw [if_pos h0] at h; cases h
 · rw [if_neg h0] at h; cases h
   exact ⟨by omega, (List.takeWhile_prefix _).length_le⟩
theorem int_le {L : List UInt8} {k : Nat} (h : intF L = some k) : 1 ≤ k ∧ k ≤ L.length := by
 unfold intF at h
 split at h
 · rename_i h1; cases h; cases L with
   | nil => cases h1
   | cons x t => exact ⟨Nat.le_refl _, by simp⟩
 · exact someP_le h
theorem frac_le {L : List UInt8} {k : Nat} (h : fracF L = some k) : k ≤ L.length := by
 unfold fracF at h
 split at h
 · cases hq : someF (L.drop 1) with
   | none => rw [hq] at h; cases h
   | some y => rw [hq] at h; cases h; have := someP_le hq; rw [List.length_drop] at this; show y + 1 ≤ _; omega
 · cases h; exact Nat.zero_le _
theorem exp_le {L : List UInt8} {k : Nat} (h : expF L = some k) : k ≤ L.length := by
 unfold expF at h
 split at h
 · cases hq : someF (L.drop (1 + pmN (L.drop 1))) with
   | none => rw [hq] at h; cases h
   | some y => rw [hq] at h; cases h; have := someP_le hq; rw [List.length_drop] at this; show y + _ ≤ _; omega
 · cases h; exact Nat.zero_le _
theorem num_le {L : List UInt8} {k : Nat} (h : numF L = some k) : 1 ≤ k ∧ k ≤ L.length := by
 unfold numF at h
 cases h1 : intF (L.drop (signN L)) with
 | none => rw [h1] at h; cases h
 | some a =>
   rw [h1] at h; simp only at h
   cases h2 : fracF (L.drop (signN L + a)) with
   | none => rw [h2] at h; cases h
   | some b =>
     rw [h2] at h; simp only at h
     cases h3 : expF (L.drop (signN L + a + b)) with
     | none => rw [h3] at h; cases h
     | some e =>
       rw [h3] at h; simp only at h
       have g1 := int_le h1
       have g2 := frac_le h2
       have g3 := exp_le h3
       rw [List.length_drop] at g1 g2 g3
       split at h
       · cases h
       · cases h; omega
set_option maxHeartbeats 2000000 in
set_option maxRecDepth 100000 in
theorem jValue_Y (W0 : World) (hU : Lib.Utf8Tabs 0 1 W0) (br : Nat) (q : Option Addr) (c : Nat) (l : List UInt8) (ht : TxA W0 q c l) (hb : W0.heap.size ≤ br) (N : Nat)
 (HA : ∀ (dep p : Nat) (w0 : World), dep < 32 → p ≤ l.length → 2 * l.length + 3 ≤ 2 * p + N → (rdA br q c l p).φ w0 → oldφ W0 w0 →
   MayC Tryz.prog 96 [.pointer (some ⟨br, 0, none⟩), .int .i64 (dep : Int)] w0 (fun v => isFault eNo v ∧ arrV N dep (l.drop p) = none) (rdA br q c l p)
   (fun x : { x : JX × Nat // arrV N dep (l.drop p) = some (x.1.v, x.2) ∧ 1 ≤ x.2 ∧ p + x.2 ≤ l.length + 1 } => .agg x.1.1.cs.toArray) (fun x => duo (rdA br q c l (p + x.1.2 - 1)) (jxA (33 - dep) x.1.1)))
 (HO : ∀ (dep p : Nat) (w0 : World), dep < 32 → p ≤ l.length → 2 * l.length + 3 ≤ 2 * p + N → (rdA br q c l p).φ w0 → oldφ W0 w0 →
   MayC Tryz.prog 95 [.pointer (some ⟨br, 0, none⟩), .int .i64 (dep : Int)] w0 (fun v => isFault eNo v ∧ objV N dep (l.drop p) = none) (rdA br q c l p)
   (fun x : { x : JX × Nat // objV N dep (l.drop p) = some (x.1.v, x.2) ∧ 1 ≤ x.2 ∧ p + x.2 ≤ l.length + 1 } => .agg x.1.1.cs.toArray) (fun x => duo (rdA br q c l (p + x.1.2 - 1)) (jxA (33 - dep) x.1.1))) : ValC W0 br q c l (N + 1) := by
 intro dep p w0 hdep hp hN h ho
 have hn := ht.n
 obtain ⟨D, hD⟩ : ∃ D, 33 - dep = D + 1 := ⟨32 - dep, by omega⟩
 obtain ⟨cc, hcc⟩ : ∃ k, hd0 (l.drop p) = k := ⟨_, rfl⟩
 refine c_enter [(0, .pointer (some ⟨br, 0, none⟩)), (1, .int .i64 (dep : Int))] [rdA br q c l p, oldA W0] (fun k => k = br) Tryz.func34 rfl Tryz.ntmps34 ⟨rfl, rfl, trivial⟩ rfl (okC (ok_blk h) (okC (old_ok ho) okN)) (disC (sepC (fun k h1 h2 => by have h1 : k = br := h1; have h2 : k < W0.heap.size := h2; omega) sepN) dis1) (mineO (fun _ hb => hb) (mineC rfl mineN)) ?_
 intro a hS
 refine cS (cR ?_)
 refine L_op (s_alloc hS ty_z37 rfl ?_); clear hS a; intro a w b4 hS
 refine nL (nT (cS (cR ?_)))
 refine L_e hS (e_move rfl) rfl ?_; clear hS a; intro a hS
 refine L_op (s_callM hS (.cons rfl .nil) cf93 rfl (jHere_M W0 br q c l ht p hp _ (hS.gg (X := rdA br q c l p)) (hS.gg (X := oldA W0)) hb) (fun x => (by repeat constructor)) rfl ?_); clear hS a; intro x10 a w hS
 rw [hcc] at hS
 refine L_e hS (e_assign rfl) rfl ?_; clear hS a; intro a hS
 refine nL (nT (cS (wB (cS (cR ?_)))))
 refine Rn hS (.m rfl <| .c (e_bin rfl rfl rfl) <| .m rfl .n) ?_; clear hS a; intro a hS
 refine L_merge 3 17 (.bool (decide (cc = 123 ∨ cc = 91))) hS ?_ ?_
 · intro hcM17
   (first | refine g_splitD (t := 14) hS rfl ?_ ?_ | refine g_split (t := 14) hS rfl ?_ ?_) <;> (clear hS; intro hg14 hS)
   ·
    refine Rn hS (.f rfl rfl <| .f rfl rfl <| .c (e_pk rfl rfl) .n) ?_; clear hS a; intro a hS
    exact hcM17 _ _ (hS.ends 4 17 14 rfl (congrArg Value.bool (by exact (decide_eq_true (.inl (by omega))).symm)) rfl rfl (by first | exact congrArg Value.bool (decide_eq_true hg14).symm | exact congrArg Value.bool hg14.symm | simp [hg14]) rfl)
   refine Rn hS (.g rfl rfl (e_move rfl) <| .g rfl rfl (e_bin rfl rfl rfl) <| .c (e_pk rfl rfl) .n) ?_; clear hS a; intro a hS
   exact hcM17 _ _ (hS.ends 4 17 14 rfl (congrArg Value.bool (by exact decide_eq_decide.2 (by omega))) rfl rfl (by first | exact congrArg Value.bool (decide_eq_false hg14).symm | exact congrArg Value.bool hg14.symm | simp [hg14]) rfl)
 · clear hS a; intro a w hS
   simp only [List.drop_succ_cons, List.drop_zero]
   refine L_e hS (e_assign rfl) rfl ?_; clear hS a; intro a hS
   refine nL (nT ?_)
   (first | refine c_ifD hS rfl ?_ ?_ | refine c_if hS rfl ?_ ?_) <;> intro hc11
   ·
    refine cS (cS (cR ?_))
    refine Rn hS (.m rfl <| .c (e_bin rfl rfl rfl) .n) ?_; clear hS a; intro a hS
    refine nL (nT ?_)
    (first | refine c_ifD hS rfl ?_ ?_ | refine c_if hS rfl ?_ ?_) <;> intro hc19
    ·
     have hv : valF (N + 1) dep (l.drop p) = none := by
      rcases hc11 with h | h
      · rw [val_obj (hcc.trans h), if_pos (by omega)]
      · rw [val_arr (hcc.trans h), if_pos (by omega)]
     refine cR ?_
     unfold rdA rdB at hS
     refine Rn hS (.m rfl <| .m rfl <| .c (e_nilCheck rfl) .n) ?_; clear hS a; intro a hS
     (first | refine L_e hS (e_fa0 rfl ty_fo93_1) rfl ?_ | refine L_e hS (e_faK rfl ty_fo93_1) rfl ?_); clear hS a; intro a hS
     refine L_e hS (e_load rfl (by repeat constructor) ty_sc3 (by rfl)) rfl ?_; clear hS a; intro a hS
     refine L_op (s_callY hS (.cons rfl (.cons rfl (.cons rfl .nil))) cf94 rfl (jFail_Y eNo (.pointer (some ⟨br, 0, none⟩)) (p : Int) 20 (show (20 : Int) ≠ 0 by decide) (.blk br [.slice q l.length c, .int .i64 (p : Int)] 93) _ (hS.ok _ (by repeat constructor)) rfl) (fun x => (by repeat constructor)) rfl (by repeat constructor) ?_ ?_)
     ·
      intro vp wp hvp hdp hcp
      refine p_then (p_block (p_then ?_))
      exact ⟨hdp, .inr ⟨vp, ⟨hvp, hv⟩, rfl, hcp⟩⟩
     clear hS a; intro x25 a w hS
     exact x25.elim
    have hpl : p < l.length := hd0_lt (by omega)
    refine wS (nT (cS (cR ?_)))
    unfold rdA rdB at hS
    refine Rn hS (.m rfl <| .c (e_nilCheck rfl) .n) ?_; clear hS a; intro a hS
    (first | refine L_e hS (e_fa0 rfl ty_fo93_1) rfl ?_ | refine L_e hS (e_faK rfl ty_fo93_1) rfl ?_); clear hS a; intro a hS
    refine L_e hS (e_load rfl (by repeat constructor) ty_sc3 (by rfl)) rfl ?_; clear hS a; intro a hS
    (first | refine L_e hS (e_binN rfl rfl rfl (by omega)) rfl ?_ | refine L_e hS (e_bin rfl rfl rfl) rfl ?_); clear hS a; intro a hS
    refine L_e hS (e_nilCheck rfl) rfl ?_; clear hS a; intro a hS
    (first | refine L_e hS (e_fa0 rfl ty_fo93_1) rfl ?_ | refine L_e hS (e_faK rfl ty_fo93_1) rfl ?_); clear hS a; intro a hS
    refine L_op (s_store hS rfl rfl rfl ty_sz3 (by repeat constructor) (by repeat constructor) ?_); clear hS; intro w hS
    refine nL (nT (cS (cS ?_)))
    replace hS : St _ _ _ _ _ _ [_, rdA br q c l (p + 1), oldA W0] := hS
    refine cR ?_
    refine Rn hS (.m rfl <| .c (e_bin rfl rfl rfl) .n) ?_; clear hS a; intro a hS
    refine nL (nT ?_)
    (first | refine c_ifD hS rfl ?_ ?_ | refine c_if hS rfl ?_ ?_) <;> intro hc34
    ·
     refine cS (cR ?_)
     refine Rn hS (.m rfl <| .m rfl .n) ?_; clear hS a; intro a hS
     refine L_op (s_callY hS (.cons rfl (.cons rfl .nil)) cf95 rfl (HO dep (p + 1) _ (by omega) (by omega) (by omega) (hS.gg (X := rdA br q c l (p + 1))) (hS.gg (X := oldA W0))) (fun x => (by repeat constructor)) rfl (by repeat constructor) ?_ ?_)
     ·
      intro vp wp hvp hdp hcp
      refine p_then (p_then (p_block (p_then ?_)))
      exact ⟨hdp, .inr ⟨vp, ⟨hvp.1, by rw [val_obj (by omega), if_neg (by omega), hvp.2]⟩, rfl, hcp⟩⟩
     clear hS a; intro x37 a w hS
     obtain ⟨⟨x, k⟩, hx1, hx2, hx3⟩ := x37
     simp only at hx1 hx2 hx3 hS
     replace hS := (hS.pick (Γ' := [duo (rdA br q c l (p + 1 + k - 1)) (jxA (33 - dep) x), .blk b4 zeroJ 37, oldA W0]) (by repeat (first | exact Pick.nil | (refine Pick.cons (by repeat (first | exact Rem.head | apply Rem.tail)) ?_)))).unduo
     obtain ⟨lx, nx, ⟨a1, a2, a3, rfl⟩, ⟨a4, a5, a6, rfl⟩, hcs⟩ := JAt.four (hS.get (X := jxA (33 - dep) x) (.tail _ (.head _)))
     rw [hcs] at hS
     refine L_op (s_storeA hS rfl rfl ty_sz37 (by repeat constructor) (by rfl) (by rfl) (by rfl) ?_); clear hS; intro w hS
     refine nL (nT (wp_ret ?_))
     refine r_then (r_block (r_then ?_))
     refine c_ret1 hS Tryz.results34 (.cellA rfl (by repeat constructor) ty_st37 ty_sz37 (by rfl)) ?_
     refine .inl ⟨⟨(x, k), by rw [val_obj (by omega), if_neg (by omega)]; exact hx1, hx2, by show p + k ≤ l.length; omega⟩, by show _ = Ending.returned (Value.agg x.cs.toArray); rw [hcs], hS.chg, ?_, ?_⟩
     · show (duo (rdA br q c l (p + k)) (jxA (33 - dep) x)).ok w
       rw [show p + k = p + 1 + k - 1 by omega]
       exact duo_ok (hS.ok (rdA br q c l (p + 1 + k - 1)) (by repeat constructor)) (hS.ok (jxA (33 - dep) x) (by repeat constructor)) (fun b h1 h2 => hS.sep (X := rdA br q c l (p + 1 + k - 1)) (Y := jxA (33 - dep) x) (by repeat constructor) (by repeat constructor) b h1 h2)
     · rintro b (hb | hb)
       · exact .inl hb
       · exact (hS.mine (jxA (33 - dep) x) (by repeat constructor) rfl b hb).symm
    refine wS (nT (cS (cR ?_)))
    refine Rn hS (.m rfl <| .m rfl .n) ?_; clear hS a; intro a hS
    refine L_op (s_callY hS (.cons rfl (.cons rfl .nil)) cf96 rfl (HA dep (p + 1) _ (by omega) (by omega) (by omega) (hS.gg (X := rdA br q c l (p + 1))) (hS.gg (X := oldA W0))) (fun x => (by repeat constructor)) rfl (by repeat constructor) ?_ ?_)
    ·
     intro vp wp hvp hdp hcp
     refine p_then (p_block (p_then ?_))
     exact ⟨hdp, .inr ⟨vp, ⟨hvp.1, by rw [val_arr (by omega), if_neg (by omega), hvp.2]⟩, rfl, hcp⟩⟩
    clear hS a; intro x40 a w hS
    obtain ⟨⟨x, k⟩, hx1, hx2, hx3⟩ := x40
    simp only at hx1 hx2 hx3 hS
    replace hS := (hS.pick (Γ' := [duo (rdA br q c l (p + 1 + k - 1)) (jxA (33 - dep) x), .blk b4 zeroJ 37, oldA W0]) (by repeat (first | exact Pick.nil | (refine Pick.cons (by repeat (first | exact Rem.head | apply Rem.tail)) ?_)))).unduo
    obtain ⟨lx, nx, ⟨a1, a2, a3, rfl⟩, ⟨a4, a5, a6, rfl⟩, hcs⟩ := JAt.four (hS.get (X := jxA (33 - dep) x) (.tail _ (.head _)))
    rw [hcs] at hS
    refine L_op (s_storeA hS rfl rfl ty_sz37 (by repeat constructor) (by rfl) (by rfl) (by rfl) ?_); clear hS; intro w hS
    refine nL (nT (wp_ret ?_))
    refine r_block (r_then ?_)
    refine c_ret1 hS Tryz.results34 (.cellA rfl (by repeat constructor) ty_st37 ty_sz37 (by rfl)) ?_
    refine .inl ⟨⟨(x, k), by rw [val_arr (by omega), if_neg (by omega)]; exact hx1, hx2, by show p + k ≤ l.length; omega⟩, by show _ = Ending.returned (Value.agg x.cs.toArray); rw [hcs], hS.chg, ?_, ?_⟩
    · show (duo (rdA br q c l (p + k)) (jxA (33 - dep) x)).ok w
      rw [show p + k = p + 1 + k - 1 by omega]
      exact duo_ok (hS.ok (rdA br q c l (p + 1 + k - 1)) (by repeat constructor)) (hS.ok (jxA (33 - dep) x) (by repeat constructor)) (fun b h1 h2 => hS.sep (X := rdA br q c l (p + 1 + k - 1)) (Y := jxA (33 - dep) x) (by repeat constructor) (by repeat constructor) b h1 h2)
    · rintro b (hb | hb)
      · exact .inl hb
      · exact (hS.mine (jxA (33 - dep) x) (by repeat constructor) rfl b hb).symm
   refine cS (cR ?_)
   refine Rn hS (.m rfl <| .c (e_bin rfl rfl rfl) <| .a rfl .n) ?_; clear hS a; intro a hS
   refine nL (nT ?_)
   (first | refine c_ifD hS rfl ?_ ?_ | refine c_if hS rfl ?_ ?_) <;> intro hc41
   ·
    refine cS (cR ?_)
    refine L_e hS (e_move rfl) rfl ?_; clear hS a; intro a hS
    refine L_op (s_callY hS (.cons rfl .nil) cf97 rfl (jText_Y W0 hU br q c l ht p hp _ (hS.gg (X := rdA br q c l p)) (hS.gg (X := oldA W0)) hb) (fun x => (by repeat constructor)) rfl (by repeat constructor) ?_ ?_)
    ·
     intro vp wp hvp hdp hcp
     refine p_then (p_block (p_then ?_))
     exact ⟨hdp, .inr ⟨vp, ⟨hvp.1, by rw [val_str (by omega), hvp.2.resolve_left (by rw [(hd0_one (by decide)).2 (show hd0 (l.drop p) = 34 by omega)]; decide)]; rfl⟩, rfl, hcp⟩⟩
    clear hS a; intro x45 a w hS
    obtain ⟨⟨s, k⟩, hx1, hx2, hx3⟩ := x45
    simp only at hx1 hx2 hx3 hS
    refine L_e hS (e_build ty_z37 ty_pl37 (.one rfl rfl rfl (by repeat constructor) (.one rfl rfl rfl (by repeat constructor) .nil))) rfl ?_; clear hS a; intro a hS
    refine L_op (s_storeA hS rfl rfl ty_sz37 (by repeat constructor) (by rfl) (by rfl) (by rfl) ?_); clear hS; intro w hS
    refine nL (nT (wp_ret ?_))
    refine r_block (r_then ?_)
    refine c_ret1 hS Tryz.results34 (.cellA rfl (by repeat constructor) ty_st37 ty_sz37 (by rfl)) ?_
    have hl := jx_leaf D 4 s w
    refine .inl ⟨⟨(⟨.mk 4 s [] [], [.int .i64 4, .string (tx s), .slice none 0 0, .slice none 0 0], fun _ => False, rfl, rfl⟩, k), by rw [val_str (by omega), hx2]; rfl, str_pos hx2, hx3⟩, rfl, hS.chg, ?_, ?_⟩
    · show (duo (rdA br q c l (p + k)) (jxA (33 - dep) _)).ok w
      rw [hD]; exact duo_ok (hS.ok (rdA br q c l (p + k)) (by repeat constructor)) hl (fun b _ hb => hb)
    · rintro b (hb | hb)
      · exact .inl hb
      · exact hb.elim
   refine cS (cR ?_)
   refine Rn hS (.m rfl <| .c (e_bin rfl rfl rfl) <| .m rfl .n) ?_; clear hS a; intro a hS
   refine L_merge 7 57 (.bool (decide (cc = 45 ∨ (48 ≤ cc ∧ cc ≤ 57)))) hS ?_ ?_
   · intro hcM57
     (first | refine g_splitD (t := 50) hS rfl ?_ ?_ | refine g_split (t := 50) hS rfl ?_ ?_) <;> (clear hS; intro hg50 hS)
     ·
      refine Rn hS (.f rfl rfl <| .f rfl rfl <| .f rfl rfl .n) ?_; clear hS a; intro a hS
      refine L_skip_u hS rfl rfl rfl ?_; clear hS a; intro a hS
      refine L_skip_u hS rfl rfl rfl ?_; clear hS a; intro a hS
      refine Rn hS (.f rfl rfl <| .c (e_pk rfl rfl) .n) ?_; clear hS a; intro a hS
      exact hcM57 _ _ (hS.ends 8 57 50 rfl (congrArg Value.bool (by exact (decide_eq_true (.inl (by omega))).symm)) rfl rfl (by first | exact congrArg Value.bool (decide_eq_true hg50).symm | exact congrArg Value.bool hg50.symm | simp [hg50]) rfl)
     refine Rn hS (.g rfl rfl (e_move rfl) <| .g rfl rfl (e_bin rfl rfl rfl) <| .g rfl rfl (e_move rfl) .n) ?_; clear hS a; intro a hS
     refine L_merge 3 56 (.bool (decide (48 ≤ cc ∧ cc ≤ 57))) hS ?_ ?_
     · intro hcM56
       (first | refine g_splitD (t := 53) hS rfl ?_ ?_ | refine g_split (t := 53) hS rfl ?_ ?_) <;> (clear hS; intro hg53 hS)
       ·
        refine Rn hS (.g rfl rfl (e_move rfl) <| .g rfl rfl (e_bin rfl rfl rfl) <| .g rfl rfl (e_pk rfl rfl) .n) ?_; clear hS a; intro a hS
        exact hcM56 _ _ (hS.ends 4 56 53 rfl (congrArg Value.bool (by exact decide_eq_decide.2 (by omega))) rfl rfl (by first | exact congrArg Value.bool (decide_eq_true hg53).symm | exact congrArg Value.bool hg53.symm | simp [hg53]) rfl)
       refine Rn hS (.t rfl rfl <| .t rfl rfl <| .g rfl rfl (e_pk rfl rfl) .n) ?_; clear hS a; intro a hS
       exact hcM56 _ _ (hS.ends 4 56 53 rfl (congrArg Value.bool (by exact (decide_eq_false (by omega)).symm)) rfl rfl (by first | exact congrArg Value.bool (decide_eq_false hg53).symm | exact congrArg Value.bool hg53.symm | simp [hg53]) rfl)
     · clear hS a; intro a w hS
       simp only [List.drop_succ_cons, List.drop_zero]
       refine L_e hS (e_pk rfl rfl) rfl ?_; clear hS a; intro a hS
       exact hcM57 _ _ (hS.ends 6 57 50 rfl (congrArg Value.bool (by exact decide_eq_decide.2 (by omega))) rfl rfl (by first | exact congrArg Value.bool (decide_eq_false hg50).symm | exact congrArg Value.bool hg50.symm | simp [hg50]) rfl)
   · clear hS a; intro a w hS
     simp only [List.drop_succ_cons, List.drop_zero]
     refine L_e hS (e_assign rfl) rfl ?_; clear hS a; intro a hS
     refine nL (nT ?_)
     (first | refine c_ifD hS rfl ?_ ?_ | refine c_if hS rfl ?_ ?_) <;> intro hc47
     ·
      refine cS (cR ?_)
      refine L_e hS (e_move rfl) rfl ?_; clear hS a; intro a hS
      refine L_op (s_callY hS (.cons rfl .nil) cf98 rfl (jNumber_Y W0 br q c l ht p hp _ (hS.gg (X := rdA br q c l p)) (hS.gg (X := oldA W0)) hb) (fun x => (by repeat constructor)) rfl (by repeat constructor) ?_ ?_)
      ·
       intro vp wp hvp hdp hcp
       refine p_then (p_block (p_then ?_))
       exact ⟨hdp, .inr ⟨vp, ⟨hvp.1, by rw [val_num (by omega), hvp.2]; rfl⟩, rfl, hcp⟩⟩
      clear hS a; intro x59 a w hS
      obtain ⟨k, hx2⟩ := x59
      have hx3 := num_le hx2
      rw [List.length_drop] at hx3
      unfold numV at hS
      refine L_op (s_storeA hS rfl rfl ty_sz37 (by repeat constructor) (by rfl) (by rfl) (by rfl) ?_); clear hS; intro w hS
      refine nL (nT (wp_ret ?_))
      refine r_block (r_then ?_)
      refine c_ret1 hS Tryz.results34 (.cellA rfl (by repeat constructor) ty_st37 ty_sz37 (by rfl)) ?_
      have hl := jx_leaf D 3 ((l.drop p).take k) w
      refine .inl ⟨⟨(⟨.mk 3 ((l.drop p).take k) [] [], [.int .i64 3, .string (tx ((l.drop p).take k)), .slice none 0 0, .slice none 0 0], fun _ => False, rfl, rfl⟩, k), by rw [val_num (by omega), hx2]; rfl, hx3.1, by show p + k ≤ l.length; omega⟩, rfl, hS.chg, ?_, ?_⟩
      · show (duo (rdA br q c l (p + k)) (jxA (33 - dep) _)).ok w
        rw [hD]; exact duo_ok (hS.ok (rdA br q c l (p + k)) (by repeat constructor)) hl (fun b _ hb => hb)
      · rintro b (hb | hb)
        · exact .inl hb
        · exact hb.elim
     have hvw : valF (N + 1) dep (l.drop p) = wordF (l.drop p) := val_word (by omega) (by omega) (by omega) (by rw [hcc]; exact hc47)
     refine wS (n_block (nT (cS (cS (cR ?_)))))
     refine L_op (s_callN hS .nil cf99 rfl (jWords_P _) ?_); clear hS a; intro x60 a w hS
     refine Rn hS (.c (e_len rfl rfl ty_sl35) <| .m rfl .n) ?_; clear hS a; intro a hS
     refine nL (nT (wB ?_))
     skip
     refine c_loop (γ := Nat) (fun k a w => St 88 (fun k => k = br) w0 a w [(62, .int .i64 (k : Int)), (61, .int .i64 3), (60, .slice (some ⟨x60, 0, none⟩) 3 3), (5, .int .u8 (cc : Int)), (4, .pointer (some ⟨b4, 0, none⟩)), (0, .pointer (some ⟨br, 0, none⟩))] [rdA br q c l p, .blk b4 zeroJ 37, .blk x60 (wordsJ.flatMap encS) 9, oldA W0] ∧ k ≤ 3 ∧ ∀ (j : Nat) (w' : List UInt8), j < k → wordsJ[j]? = some w' → hd0 w' ≠ cc) (fun k => 3 - k) 0 ⟨(hS.slots (by repeat (first | exact trivial | refine ⟨rfl, ?_⟩))).pick (by repeat (first | exact Pick.nil | (refine Pick.cons (by repeat (first | exact Rem.head | apply Rem.tail)) ?_))), Nat.zero_le _, fun j _ hj => by omega⟩ ?_
     clear hS a; intro k a w hI
     obtain ⟨hS, hk, hno⟩ := hI
     refine cS (cR ?_)
     refine L_e hS (e_bin rfl rfl rfl) rfl ?_; clear hS a; intro a hS
     refine nL (nT (cS ?_))
     (first | refine c_ifD hS rfl ?_ ?_ | refine c_if hS rfl ?_ ?_) <;> intro hc63
     ·
      have hk3 : k < 3 := by omega
      obtain ⟨ww, hww⟩ : ∃ x, wordsJ[k]? = some x := ⟨wordsJ[k], List.getElem?_eq_getElem hk3⟩
      have hsz : 0 < (tx ww).size := by
       rcases (by omega : k = 0 ∨ k = 1 ∨ k = 2) with rfl | rfl | rfl <;> (cases hww; decide)
      have hx0 : ((tx ww).data.toList.getD (0 : Int).toNat 0).toNat = hd0 ww := by
       rcases (by omega : k = 0 ∨ k = 1 ∨ k = 2) with rfl | rfl | rfl <;> (cases hww; rfl)
      refine wS (nT (cS (wB (cS (cR ?_)))))
      refine Rn hS (.m rfl <| .c (e_ixN rfl rfl ty_sl35 ty_sz9 (by omega)) <| .c (e_loadC rfl ty_sc9 (fun w hh => blkrow_get (enc := encS) (by repeat constructor) (fun _ => rfl) hww w hh 0 (.string (tx ww)) rfl)) <| .a rfl <| .a rfl .n) ?_; clear hS a; intro a hS
      refine nL (nT (cS (cR ?_)))
      refine Rn hS (.m rfl <| .m rfl <| .c (e_ixS rfl rfl ty_u9 (by omega)) <| .c (e_bin rfl rfl rfl) .n) ?_; clear hS a; intro a hS
      refine nL (nT ?_)
      (first | refine c_ifD hS rfl ?_ ?_ | refine c_if hS rfl ?_ ?_) <;> intro hc70
      ·
       have hwh : wordF (l.drop p) = if ww.isPrefixOf (l.drop p) then some (.mk k [] [] [], ww.length) else none := word_hit hww (by omega)
       have hsl : (tx ww).size = ww.length := rfl
       have hlw : ww.length ≤ 5 ∧ 1 ≤ ww.length := by
        rcases (by omega : k = 0 ∨ k = 1 ∨ k = 2) with rfl | rfl | rfl <;> (cases hww; decide)
       refine cS (cS (cR ?_))
       refine Rn hS (.m rfl <| .c (e_lenS rfl rfl ty_u9) .n) ?_; clear hS a; intro a hS
       rw [hsl] at hS
       refine L_e hS (e_move rfl) rfl ?_; clear hS a; intro a hS
       refine nL (nT (wB ?_))
       skip
       refine c_loop (γ := Nat) (fun i a w => St 88 (fun k => k = br) w0 a w [(73, .int .i64 (i : Int)), (72, .int .i64 (ww.length : Int)), (7, .string (tx ww)), (6, .int .i64 (k : Int)), (4, .pointer (some ⟨b4, 0, none⟩)), (0, .pointer (some ⟨br, 0, none⟩))] [rdA br q c l (p + i), .blk b4 zeroJ 37, oldA W0] ∧ i ≤ ww.length ∧ p + i ≤ l.length ∧ (ww.drop i).isPrefixOf (l.drop (p + i)) = ww.isPrefixOf (l.drop p)) (fun i => ww.length - i) 0 ⟨(hS.slots (by repeat (first | exact trivial | refine ⟨rfl, ?_⟩))).pick (by repeat (first | exact Pick.nil | (refine Pick.cons (by repeat (first | exact Rem.head | apply Rem.tail)) ?_))), Nat.zero_le _, hp, rfl⟩ ?_
       clear hS a; intro i a w hI
       obtain ⟨hS, hi, hpi, hpre⟩ := hI
       refine cS (cR ?_)
       refine L_e hS (e_bin rfl rfl rfl) rfl ?_; clear hS a; intro a hS
       refine nL (nT (cS ?_))
       (first | refine c_ifD hS rfl ?_ ?_ | refine c_if hS rfl ?_ ?_) <;> intro hc74
       ·
        have hi2 : i < ww.length := by omega
        obtain ⟨y, hy⟩ : ∃ x, ww[i]? = some x := ⟨ww[i], List.getElem?_eq_getElem hi2⟩
        have hy0 : (tx ww).data.toList.getD (i : Int).toNat 0 = y := by show ww.getD i 0 = y; rw [List.getD_eq_getElem?_getD, hy]; rfl
        refine wS (nT (cS (wB (cS (cR ?_)))))
        refine Rn hS (.m rfl <| .a rfl .n) ?_; clear hS a; intro a hS
        refine nL (nT (cR ?_))
        refine Rn hS (.m rfl <| .m rfl <| .m rfl <| .c (e_ixS rfl rfl ty_u9 (by show 0 ≤ (i : Int) ∧ (i : Int) < (ww.length : Int); omega)) .n) ?_; clear hS a; intro a hS
        rw [hy0] at hS
        refine L_op (s_callY hS (.cons rfl (.cons rfl .nil)) cf100 rfl (jMust_Y W0 br q c l ht y.toNat (p + i) hpi _ (hS.gg (X := rdA br q c l (p + i))) (hS.gg (X := oldA W0)) hb) (fun x => (by repeat constructor)) rfl (by repeat constructor) ?_ ?_)
        ·
         intro vp wp hvp hdp hcp
         refine p_block (p_then (p_then (p_block (p_then (p_block (p_then (p_then (p_block (p_then ?_)))))))))
         exact ⟨hdp, .inr ⟨vp, ⟨hvp.1, by rw [hvw, hwh, ← hpre, pre_step hy, hvp.2]; rfl⟩, rfl, hcp⟩⟩
        clear hS a; intro x80 a w hS
        obtain ⟨_, h80⟩ := x80
        have hpl : p + i < l.length := by
         rcases Nat.lt_or_ge (p + i) l.length with h | h
         · exact h
         · rw [one_end _ h] at h80; cases h80
        rw [pre_step hy, h80, Bool.true_and] at hpre
        refine nL (n_block (nT (cR ?_)))
        (first | refine L_e hS (e_binN rfl rfl rfl (by omega)) rfl ?_ | refine L_e hS (e_bin rfl rfl rfl) rfl ?_); clear hS a; intro a hS
        refine L_e hS (e_move rfl) rfl ?_; clear hS a; intro a hS
        refine nL ?_
        exact ⟨i + 1, by omega, hS.slots (by repeat (first | exact trivial | refine ⟨rfl, ?_⟩)), by omega, by omega, hpre⟩
       refine wp_exit ?_
       refine x_then (x_then (x_hit ?_))
       refine nT (cS (cR ?_))
       refine Rn hS (.m rfl <| .c (e_build ty_z37 ty_pl37 (.one rfl rfl rfl (by repeat constructor) .nil)) .n) ?_; clear hS a; intro a hS
       refine L_op (s_storeA hS rfl rfl ty_sz37 (by repeat constructor) (by rfl) (by rfl) (by rfl) ?_); clear hS; intro w hS
       refine nL (nT (wp_ret ?_))
       refine r_block (r_then (r_then (r_block (r_then ?_))))
       refine c_ret1 hS Tryz.results34 (.cellA rfl (by repeat constructor) ty_st37 ty_sz37 (by rfl)) ?_
       have hie : i = ww.length := by omega
       subst hie
       rw [List.drop_length, show List.isPrefixOf ([] : List UInt8) (l.drop (p + ww.length)) = true by rw [List.isPrefixOf]] at hpre
       have hl := jx_leaf D k [] w
       refine .inl ⟨⟨(⟨.mk k [] [] [], [.int .i64 (k : Int), .string ⟨#[]⟩, .slice none 0 0, .slice none 0 0], fun _ => False, rfl, rfl⟩, ww.length), by rw [hvw, hwh, if_pos hpre.symm], hlw.2, hpi⟩, rfl, hS.chg, ?_, ?_⟩
       · show (duo (rdA br q c l (p + ww.length)) (jxA (33 - dep) _)).ok w
         rw [hD]; exact duo_ok (hS.ok (rdA br q c l (p + ww.length)) (by repeat constructor)) hl (fun b _ hb => hb)
       · rintro b (hb | hb)
         · exact .inl hb
         · exact hb.elim
      refine wS (n_block (nT (cR ?_)))
      (first | refine L_e hS (e_binN rfl rfl rfl (by omega)) rfl ?_ | refine L_e hS (e_bin rfl rfl rfl) rfl ?_); clear hS a; intro a hS
      refine L_e hS (e_move rfl) rfl ?_; clear hS a; intro a hS
      refine nL ?_
      exact ⟨k + 1, by omega, hS.slots (by repeat (first | exact trivial | refine ⟨rfl, ?_⟩)), by omega, fun j w' hj hw' => by
        by_cases e : j = k
        · subst e; rw [hww] at hw'; cases hw'; omega
        · exact hno j w' (by omega) hw'⟩
     refine wp_exit ?_
     refine x_then (x_then (x_hit ?_))
     refine nT (cS (cR ?_))
     refine L_e hS (e_move rfl) rfl ?_; clear hS a; intro a hS
     refine L_op (s_callY hS (.cons rfl .nil) cf35 rfl (jWrong_Y br q c l p _ (hS.gg (X := rdA br q c l p))) (fun x => (by repeat constructor)) rfl (by repeat constructor) ?_ ?_)
     ·
      intro vp wp hvp hdp hcp
      refine p_then ?_
      exact ⟨hdp, .inr ⟨vp, ⟨hvp, by rw [hvw]; exact word_none (fun j w' hw' => by rw [hcc]; exact hno j w' (by have := (List.getElem?_eq_some_iff.1 hw').1; have h3 : wordsJ.length = 3 := rfl; omega) hw')⟩, rfl, hcp⟩⟩
     clear hS a; intro x86 a w hS
     exact x86.elim
abbrev Cnt := List (ByteArray × Int)
def entV (es : Cnt) : List (ByteArray × Value) := es.map fun e => (e.1, .int .i64 e.2)
def getI (es : Cnt) (k : ByteArray) : Int := match es.find? (fun e => decide (e.1 = k)) with
 | some e => e.2
 | none => 0
def setI : Cnt → ByteArray → Int → Cnt
 | [], k, v => [(k, v)]
 | e :: r, k, v => if e.1 = k then (k, v) :: r else e :: setI r k v
theorem lk_ent (es : Cnt) (k : ByteArray) : lkM (entV es) k (.int .i64 0) = .int .i64 (getI es k) := by
 have key : ∀ (es : Cnt) (m : Nat), (match idxM (entV es) k m with | some (_, v) => v | none => Value.int .i64 0) = .int .i64 (getI es k) := by
  intro es
  induction es with
  | nil => intro m; rfl
  | cons e r ih =>
    intro m
    unfold entV getI
    rw [List.map_cons]
    by_cases h : e.1 = k
    · rw [List.find?_cons_of_pos (by simpa using h)]
      unfold idxM; rw [if_pos h]
    · rw [List.find?_cons_of_neg (by simpa using h)]
      unfold idxM; rw [if_neg h]
      exact ih (m + 1)
 exact key es 0
theorem set_ent (es : Cnt) (k : ByteArray) (v : Int) : setM (entV es) k (.int .i64 v) = entV (setI es k v) := by
 induction es with
 | nil => rfl
 | cons e r ih =>
   show setM ((e.1, _) :: entV r) k _ = entV (setI (e :: r) k v)
   unfold setM setI
   split
   · rfl
   · rw [ih]; rfl
theorem get_set (es : Cnt) (k : ByteArray) (v : Int) (k2 : ByteArray) : getI (setI es k v) k2 = if k = k2 then v else getI es k2 := by
 induction es with
 | nil =>
   unfold setI getI
   by_cases h : k = k2
   · rw [List.find?_cons_of_pos (by simpa using h), if_pos h]
   · rw [List.find?_cons_of_neg (by simpa using h), if_neg h]
 | cons e r ih =>
   unfold setI
   by_cases h1 : e.1 = k
   · rw [if_pos h1]
     unfold getI
     by_cases h : k = k2
     · rw [List.find?_cons_of_pos (by simpa using h), if_pos h]
     · rw [List.find?_cons_of_neg (by simpa using h), List.find?_cons_of_neg (by simpa [h1] using h), if_neg h]
   · rw [if_neg h1]
     unfold getI at ih ⊢
     by_cases h2 : e.1 = k2
     · rw [List.find?_cons_of_pos (by simpa using h2), List.find?_cons_of_pos (by simpa using h2), if_neg (fun e' => h1 (h2.trans e'.symm))]
     · rw [List.find?_cons_of_neg (by simpa using h2), List.find?_cons_of_neg (by simpa using h2)]
       exact ih
theorem tx_inj {a b : List UInt8} (h : tx a = tx b) : a = b := by
 have := congrArg (fun x : ByteArray => x.data.toList) h
 exact this
def seenE (ns : List (List UInt8)) : Cnt := ns.map fun n => (tx n, 1)
theorem seen_get (ns : List (List UInt8)) (nm : List UInt8) : getI (seenE ns) (tx nm) = if nm ∈ ns then 1 else 0 := by
 induction ns with
 | nil => rfl
 | cons x t ih =>
   unfold getI at ih ⊢
   show (match List.find? _ ((tx x, 1) :: seenE t) with | some e => e.2 | none => 0) = _
   by_cases h : x = nm
   · subst h
     rw [List.find?_cons_of_pos (by simp), if_pos (.head _)]
   · rw [List.find?_cons_of_neg (by simpa using fun e => h (tx_inj e)), ih]
     by_cases h2 : nm ∈ t
     · rw [if_pos h2, if_pos (.tail _ h2)]
     · rw [if_neg h2, if_neg (fun g => by rcases List.mem_cons.1 g with g | g; exact h g.symm; exact h2 g)]
theorem seen_set {ns : List (List UInt8)} {nm : List UInt8} (h : nm ∉ ns) : setI (seenE ns) (tx nm) 1 = seenE (ns ++ [nm]) := by
 induction ns with
 | nil => rfl
 | cons x t ih =>
   show setI ((tx x, 1) :: seenE t) (tx nm) 1 = (tx x, 1) :: seenE (t ++ [nm])
   unfold setI
   rw [if_neg (fun e => h (by rw [tx_inj e]; exact .head _)), ih (fun g => h (.tail _ g))]
end Go.Proofs.YtlccmgeclhdegaaGreatDoor
