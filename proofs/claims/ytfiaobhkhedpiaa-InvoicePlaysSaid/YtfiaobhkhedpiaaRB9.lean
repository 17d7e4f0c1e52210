/- The reference's Issue, by what it makes of the plain book. -/
import Derived.Test.YtfiaobhkhedpiaaRB8
namespace Go.Proofs.Ytfiaobhkhedpiaa
open Go.RowKit

theorem issE_zero {l : List Inv} {account cur : ByteArray} {at_ f t : Int} {ln : List RLine} (h : issE l account cur at_ f t ln = 0) :
    (1 ≤ ln.length ∧ ln.length ≤ 50 ∧ l.length < 500) ∧ (inU (sumN ln) ∧ inU (sumT ln) ∧ inU (sumN ln + sumT ln)) ∧ sumR ln = (sumN ln, sumT ln, 0) := by
  unfold issE at h
  split at h
  · contradiction
  · rename_i h1
    split at h
    · contradiction
    · split at h
      · contradiction
      · rename_i h3
        have h3 : (sumR ln).2.2 = 0 := by omega
        have h4 : inU (sumN ln) ∧ inU (sumT ln) ∧ inU (sumN ln + sumT ln) := by
          unfold sumR at h3; split at h3
          · assumption
          · cases h3
        refine ⟨?_, h4, by unfold sumR; rw [if_pos h4]⟩
        unfold askE at h1
        split at h1
        · exact absurd (by decide) h1
        · split at h1
          · contradiction
          · split at h1
            · exact absurd (by decide) h1
            · split at h1
              · exact absurd (by decide) h1
              · rename_i h5; omega
theorem issF_no {l : List Inv} {account cur : ByteArray} {at_ f t : Int} {ln : List RLine} (h : issE l account cur at_ f t ln ≠ 0) : issF l account cur at_ f t ln = (l, 0, issE l account cur at_ f t ln) := by unfold issF; rw [if_neg h]
set_option maxRecDepth 100000 in
theorem xIssue_no (bw : Nat) (sv : Value) (its : List IA) (account cur : ByteArray) (at_ f t : Int) (p : Option (Nat × Nat)) (c : Nat) (l : List RLine) (hs : account.size ≤ 4611686018427387904) (hn : its.length ≤ 1000000) (hfit : ∀ x ∈ l, x.fits)
    (w0 : World) (h : rbφ bw sv its w0) (hrow : RowP p 4 (l.map encL) w0) (hb : ∀ q, p = some q → q.1 < w0.heap.size) (hd : ∀ q, p = some q → ¬ rbF bw sv its q.1) (hE : issE (vs its) account cur at_ f t l ≠ 0) :
    PureC Try.prog 72 [.pointer (some ⟨bw, 0, none⟩), .string account, .string cur, .int .i64 at_, .int .i64 f, .int .i64 t, sliceV p l.length c] w0 (.tuple [.int .i64 0, .int .i64 (issE (vs its) account cur at_ f t l)].toArray) := by
  refine c_enter [(0, .pointer (some ⟨bw, 0, none⟩)), (1, .string account), (2, .string cur), (3, .int .i64 at_), (4, .int .i64 f), (5, .int .i64 t), (6, sliceV p l.length c)] [rbA bw sv its false, rowP p 4 (l.map encL)] noB Try.func72 rfl Try.ntmps72 ⟨rfl, rfl, rfl, rfl, rfl, rfl, rfl, trivial⟩ rfl (okC (rb_ok false h) (okC (ok_rowP hrow hb) okN)) (disC (sepC (fun b h1 h2 => by obtain ⟨o, ho⟩ := h2; exact hd _ ho h1) sepN) dis1) (mineC (by rfl) (mineC (by rfl) mineN)) ?_
  intro a hS
  refine c_seq ?_
  refine c_region ?_
  refine L_op (s_e hS (e_assign rfl) rfl ?_); clear hS a; intro a hS
  refine L_op (s_e hS (e_assign rfl) rfl ?_); clear hS a; intro a hS
  refine L_nil ?_
  refine n_then ?_
  refine c_seq ?_
  refine c_region ?_
  refine L_op (s_e hS (e_move rfl) rfl ?_); clear hS a; intro a hS
  refine L_op (s_e hS (e_move rfl) rfl ?_); clear hS a; intro a hS
  refine L_op (s_e hS (e_move rfl) rfl ?_); clear hS a; intro a hS
  refine L_op (s_e hS (e_move rfl) rfl ?_); clear hS a; intro a hS
  refine L_op (s_e hS (e_move rfl) rfl ?_); clear hS a; intro a hS
  refine L_op (s_e hS (e_move rfl) rfl ?_); clear hS a; intro a hS
  refine L_op (s_e hS (e_move rfl) rfl ?_); clear hS a; intro a hS
  refine L_op (s_callP hS (.cons rfl (.cons rfl (.cons rfl (.cons rfl (.cons rfl (.cons rfl (.cons rfl .nil))))))) cf101 rfl (xCheck_P bw sv its account cur at_ f t p c l hs hn hfit _ (hS.get (X := rbA bw sv its false) (by repeat constructor)) (hS.get (X := rowP p 4 (l.map encL)) (by repeat constructor)) (fun q hq => (hS.ok (rowP p 4 (l.map encL)) (by repeat constructor)).lt q.1 ⟨q.2, hq⟩) hd) ?_); clear hS a; (try clear w); intro a w hS
  refine L_op (s_e hS (e_assign rfl) rfl ?_); clear hS a; intro a hS
  refine L_nil ?_
  refine n_then ?_
  refine c_seq ?_
  refine c_seq ?_
  refine c_region ?_
  refine L_op (s_e hS (e_move rfl) rfl ?_); clear hS a; intro a hS
  refine L_op (s_e hS (e_bin rfl rfl rfl) rfl ?_); clear hS a; intro a hS
  refine L_nil ?_
  refine n_then ?_
  replace hS := hS.is (t := 30) (c := true) rfl ((decide_eq_true hE))
  refine c_if_t hS rfl ?_
  refine c_seq ?_
  refine c_region ?_
  refine L_op (s_e hS (e_move rfl) rfl ?_); clear hS a; intro a hS
  refine L_op (s_e hS (e_assign rfl) rfl ?_); clear hS a; intro a hS
  refine L_op (s_e hS (e_assign rfl) rfl ?_); clear hS a; intro a hS
  refine L_nil ?_
  refine n_then ?_
  refine wp_ret ?_
  refine r_then ?_
  refine c_retN hS Try.results72 (.cons (.tmp rfl) (.cons (.tmp rfl) .nil)) rfl ?_
  exact ⟨rfl, hS.chg⟩
theorem issue_fin {bw : Nat} {sv v71 : Value} {its : List IA} {account cur : ByteArray} {at_ f t st : Int} {l : List RLine} {g51 c51 : Nat} {w0 w : World} (hbk : w.heap[bw]? = some (.cells [v71].toArray 56 (0, 0)))
    (hrow : w.ownsRow 0 119 13 v71 (0 + its.length + 1) ([] ++ its.flatMap encA ++ ([.int .i64 ((its.length : Int) + 1), .int .i64 at_, .int .i64 f, .int .i64 t, .string account, .string cur, .slice (some ⟨g51, 0, none⟩) l.length c51, .int .i64 (sumN l), .int .i64 (sumT l), .int .i64 (sumN l + sumT l), .int .i64 0, .int .i64 0, .int .i64 st] ++ [])))
    (hst : st = if sumN l + sumT l = 0 then 2 else 1) (hln : w.ownsRow 0 148 4 (.slice (some ⟨g51, 0, none⟩) l.length c51) l.length (l.flatMap encL)) (hlns : ∀ x ∈ its, lnR x w) (hchg : Chg (rbF bw sv its) w0 w)
    (hm1 : ∀ b, v71.ownBlock = some b → w0.heap.size ≤ b ∨ rbF bw sv its b) (hm2 : w0.heap.size ≤ g51 ∨ rbF bw sv its g51) :
    ∃ x : { y : Value × List IA // vs y.2 = vs its ++ [newInv its.length account cur at_ f t l] ∧ y.2.length = its.length + 1 }, Ending.returned (.tuple [.int .i64 ((its.length : Int) + 1), .int .i64 0].toArray) = Ending.returned (.tuple [.int .i64 ((its.length : Int) + 1), .int .i64 0].toArray) ∧ Chg (rbA bw sv its true).F w0 w ∧ (rbA bw x.1.1 x.1.2 true).ok w ∧ ∀ b, (rbA bw x.1.1 x.1.2 true).F b → (rbA bw sv its true).F b ∨ w0.heap.size ≤ b := by
  obtain ⟨its', hits⟩ : ∃ its', its' = its ++ [(⟨newInv its.length account cur at_ f t l, g51, c51⟩ : IA)] := ⟨_, rfl⟩
  have e1 : its'.length = 0 + its.length + 1 := by rw [hits]; simp
  have e2 : its'.flatMap encA = [] ++ its.flatMap encA ++ ([.int .i64 ((its.length : Int) + 1), .int .i64 at_, .int .i64 f, .int .i64 t, .string account, .string cur, .slice (some ⟨g51, 0, none⟩) l.length c51, .int .i64 (sumN l), .int .i64 (sumT l), .int .i64 (sumN l + sumT l), .int .i64 0, .int .i64 0, .int .i64 st] ++ []) := by
    rw [hits, hst, List.flatMap_append]; simp [encA, encI, lnV, newInv]
  have hmem : ∀ z, z ∈ its' → z ∈ its ∨ z = ⟨newInv its.length account cur at_ f t l, g51, c51⟩ := fun z hz => by rw [hits] at hz; simpa using hz
  have hrb : rbφ bw v71 its' w := ⟨hbk, by rw [e1, e2]; exact hrow, fun z hz => by
    rcases hmem z hz with hz | rfl
    · exact hlns z hz
    · exact hln⟩
  refine ⟨⟨(v71, its'), by rw [hits]; simp [vs], by rw [hits]; simp⟩, rfl, hchg, rb_ok true hrb, fun b hb => ?_⟩
  rcases hb with hb | hb | ⟨z, hz, hzb⟩
  · exact .inl (.inl hb)
  · exact (hm1 b hb).symm
  · rcases hmem z hz with hz | rfl
    · exact .inl (.inr (.inr ⟨z, hz, hzb⟩))
    · rw [hzb]; exact hm2.symm
set_option maxHeartbeats 1000000 in
set_option maxRecDepth 100000 in
theorem xIssue_ok (bw : Nat) (sv : Value) (its : List IA) (account cur : ByteArray) (at_ f t : Int) (br off : Nat) (c : Nat) (l : List RLine) (hs : account.size ≤ 4611686018427387904) (hn : its.length ≤ 1000000) (hfit : ∀ x ∈ l, x.fits)
    (w0 : World) (h : rbφ bw sv its w0) (hrow : RowP (some (br, off)) 4 (l.map encL) w0) (hb : br < w0.heap.size) (hd : ¬ rbF bw sv its br) (hE : issE (vs its) account cur at_ f t l = 0) :
    MutC Try.prog 72 [.pointer (some ⟨bw, 0, none⟩), .string account, .string cur, .int .i64 at_, .int .i64 f, .int .i64 t, sliceV (some (br, off)) l.length c] w0 (rbA bw sv its true) (fun _ : { y : Value × List IA // vs y.2 = vs its ++ [newInv its.length account cur at_ f t l] ∧ y.2.length = its.length + 1 } => .tuple [.int .i64 ((its.length : Int) + 1), .int .i64 0].toArray) (fun y => rbA bw y.1.1 y.1.2 true) := by
  obtain ⟨p, cs, rfl, hsh⟩ := rb_shape h
  have hb' : ∀ q, some (br, off) = some q → q.1 < w0.heap.size := fun q hq => by cases hq; exact hb
  obtain ⟨⟨z1, z2, z3⟩, ⟨i1, i2, i3⟩, hsum⟩ := issE_zero hE
  rw [vs_len] at z3
  have j1 := i1; have j2 := i2; have j3 := i3
  unfold inU at j1 j2 j3
  have hhd : ∀ {w : World}, w.ownsRow 0 119 13 (.slice p its.length cs) its.length (its.flatMap encA) → ReadQ w p its.length cs (its.flatMap encA) := fun {w} hw => by
    have := own_head (k := its.length) hw (fun _ => rfl) (Nat.le_refl _)
    rwa [List.take_length] at this
  refine c_enter [(0, .pointer (some ⟨bw, 0, none⟩)), (1, .string account), (2, .string cur), (3, .int .i64 at_), (4, .int .i64 f), (5, .int .i64 t), (6, sliceV (some (br, off)) l.length c)] [.blk bw [.slice p its.length cs] 56, ownA 119 13 (.slice p its.length cs) its.length (its.flatMap encA), rlnA its, rowP (some (br, off)) 4 (l.map encL)] (rbF bw (.slice p its.length cs) its) Try.func72 rfl Try.ntmps72 ⟨rfl, rfl, rfl, rfl, rfl, rfl, rfl, trivial⟩ rfl (okC (rbΓ_ok h _ (.head _)) (okC (rbΓ_ok h _ (.tail _ (.head _))) (okC (rbΓ_ok h _ (.tail _ (.tail _ (.head _)))) (okC (ok_rowP hrow hb') okN)))) (List.pairwise_append.2 ⟨rbΓ_dis h, dis1, fun X hX Y hY b h1 h2 => by obtain rfl := List.mem_singleton.1 hY; obtain ⟨o, ho⟩ := h2; cases ho; exact hd (((rbΓ_mine (w := w0) X hX (by rcases List.mem_cons.1 hX with rfl | hX; rfl; rcases List.mem_cons.1 hX with rfl | hX; rfl; obtain rfl := List.mem_singleton.1 hX; rfl) _ h1)).resolve_left (by omega))⟩) (mineO (fun b hb => .inl hb) (mineO (fun b hb => .inr (.inl hb)) (mineO (fun b hb => .inr (.inr hb)) (mineC rfl mineN)))) ?_
  intro a hS
  refine c_seq ?_
  refine c_region ?_
  refine L_op (s_e hS (e_assign rfl) rfl ?_); clear hS a; intro a hS
  refine L_op (s_e hS (e_assign rfl) rfl ?_); clear hS a; intro a hS
  refine L_nil ?_
  refine n_then ?_
  refine c_seq ?_
  refine c_region ?_
  refine L_op (s_e hS (e_move rfl) rfl ?_); clear hS a; intro a hS
  refine L_op (s_e hS (e_move rfl) rfl ?_); clear hS a; intro a hS
  refine L_op (s_e hS (e_move rfl) rfl ?_); clear hS a; intro a hS
  refine L_op (s_e hS (e_move rfl) rfl ?_); clear hS a; intro a hS
  refine L_op (s_e hS (e_move rfl) rfl ?_); clear hS a; intro a hS
  refine L_op (s_e hS (e_move rfl) rfl ?_); clear hS a; intro a hS
  refine L_op (s_e hS (e_move rfl) rfl ?_); clear hS a; intro a hS
  refine L_op (s_callP hS (.cons rfl (.cons rfl (.cons rfl (.cons rfl (.cons rfl (.cons rfl (.cons rfl .nil))))))) cf101 rfl (xCheck_P bw (.slice p its.length cs) its account cur at_ f t (some (br, off)) c l hs hn hfit _ ⟨hS.get (X := .blk bw [.slice p its.length cs] 56) (by repeat constructor), hS.get (X := ownA 119 13 (.slice p its.length cs) its.length (its.flatMap encA)) (by repeat constructor), hS.get (X := rlnA its) (by repeat constructor)⟩ (hS.get (X := rowP (some (br, off)) 4 (l.map encL)) (by repeat constructor)) (fun q hq => by cases hq; exact (hS.ok (rowP (some (br, off)) 4 (l.map encL)) (by repeat constructor)).lt br ⟨off, rfl⟩) (fun q hq => by cases hq; exact hd)) ?_); clear hS a; (try clear w); intro a w hS
  refine L_op (s_e hS (e_assign rfl) rfl ?_); clear hS a; intro a hS
  refine L_nil ?_
  refine n_then ?_
  refine c_seq ?_
  refine c_seq ?_
  refine c_region ?_
  refine L_op (s_e hS (e_move rfl) rfl ?_); clear hS a; intro a hS
  refine L_op (s_e hS (e_bin rfl rfl rfl) rfl ?_); clear hS a; intro a hS
  refine L_nil ?_
  refine n_then ?_
  replace hS := hS.is (t := 30) (c := false) rfl ((decide_eq_false (fun hh => hh hE)))
  refine c_if_f hS rfl ?_
  refine wp_skip ?_
  refine n_then ?_
  refine c_seq ?_
  refine c_region ?_
  refine L_op (s_e hS (e_move rfl) rfl ?_); clear hS a; intro a hS
  refine L_op (s_callP hS (.cons rfl .nil) cf102 rfl (xSum_P (some (br, off)) c l (by omega) hfit _ (hS.get (X := rowP (some (br, off)) 4 (l.map encL)) (by repeat constructor)) (fun q hq => by cases hq; exact (hS.ok (rowP (some (br, off)) 4 (l.map encL)) (by repeat constructor)).lt br ⟨off, rfl⟩)) ?_); clear hS a; (try clear w); intro a w hS
  rw [hsum] at hS
  dsimp only at hS
  refine L_op (s_e hS (e_move rfl) rfl ?_); clear hS a; intro a hS
  refine L_op (s_e hS (e_extract rfl rfl) rfl ?_); clear hS a; intro a hS
  refine L_op (s_e hS (e_extract rfl rfl) rfl ?_); clear hS a; intro a hS
  refine L_op (s_e hS (e_extract rfl rfl) rfl ?_); clear hS a; intro a hS
  refine L_op (s_e hS (e_assign rfl) rfl ?_); clear hS a; intro a hS
  refine L_op (s_e hS (e_assign rfl) rfl ?_); clear hS a; intro a hS
  refine L_op (s_e hS (e_assign rfl) rfl ?_); clear hS a; intro a hS
  refine L_nil ?_
  refine n_then ?_
  refine c_seq ?_
  refine c_drawS [21] (by kernel_rfl) hS (sub_cons (X := .blk bw _ _) (by repeat constructor) sub_nil) ?_; clear hS; (try clear w); intro w hS
  simp only [List.length_cons, List.length_nil, Nat.zero_add, Nat.reduceAdd, List.replicate]
  refine Z_take0 (i := 0) hS rfl want_none (e_move rfl) (listed' := [true, false, false, false, false, false, false, false, false, false, false, false, false, false, false, false, false, false, false, false, false, false]) rfl (by kernel_rfl) (by kernel_rfl) (by kernel_rfl) (fun _ _ _ h => h) rfl ?_; clear hS a; intro a hS
  refine Z_take0 (i := 1) hS rfl want_none (e_nilCheck rfl) (listed' := [true, true, false, false, false, false, false, false, false, false, false, false, false, false, false, false, false, false, false, false, false, false]) rfl (by kernel_rfl) (by kernel_rfl) (by kernel_rfl) (fun _ _ _ h => h) rfl ?_; clear hS a; intro a hS
  first | (refine Z_take0 (i := 2) hS rfl want_none (e_fa0 rfl ty_fo56_0) (listed' := [true, true, true, false, false, false, false, false, false, false, false, false, false, false, false, false, false, false, false, false, false, false]) rfl (by kernel_rfl) (by kernel_rfl) (by kernel_rfl) (fun _ _ _ h => h) rfl ?_; clear hS a; intro a hS) | (refine Z_take0 (i := 2) hS rfl want_none (e_faK rfl ty_fo56_0) (listed' := [true, true, true, false, false, false, false, false, false, false, false, false, false, false, false, false, false, false, false, false, false, false]) rfl (by kernel_rfl) (by kernel_rfl) (by kernel_rfl) (fun _ _ _ h => h) rfl ?_; clear hS a; intro a hS)
  refine Z_take (i := 3) hS rfl want_none (e_load rfl (by repeat constructor) ty_sc54 (by rfl)) (listed' := [true, true, true, true, false, false, false, false, false, false, false, false, false, false, false, false, false, false, false, false, false, false]) rfl (by kernel_rfl) (by kernel_rfl) (by kernel_rfl) (by kernel_rfl) (by kernel_rfl) (sub_cons (by repeat constructor) sub_nil) (fun _ _ _ h => h) rfl ?_; clear hS a; intro a hS
  refine Z_take0 (i := 4) hS rfl want_none (e_len rfl rfl ty_sl54) (listed' := [true, true, true, true, true, false, false, false, false, false, false, false, false, false, false, false, false, false, false, false, false, false]) rfl (by kernel_rfl) (by kernel_rfl) (by kernel_rfl) (fun _ _ _ h => h) rfl ?_; clear hS a; intro a hS
  first | (refine Z_take0 (i := 5) hS rfl want_none (e_binN rfl rfl rfl (by omega)) (listed' := [true, true, true, true, true, true, false, false, false, false, false, false, false, false, false, false, false, false, false, false, false, false]) rfl (by kernel_rfl) (by kernel_rfl) (by kernel_rfl) (fun _ _ _ h => h) rfl ?_; clear hS a; intro a hS) | (refine Z_take0 (i := 5) hS rfl want_none (e_bin rfl rfl rfl) (listed' := [true, true, true, true, true, true, false, false, false, false, false, false, false, false, false, false, false, false, false, false, false, false]) rfl (by kernel_rfl) (by kernel_rfl) (by kernel_rfl) (fun _ _ _ h => h) rfl ?_; clear hS a; intro a hS)
  refine Z_take0 (i := 6) hS rfl want_none (e_move rfl) (listed' := [true, true, true, true, true, true, true, false, false, false, false, false, false, false, false, false, false, false, false, false, false, false]) rfl (by kernel_rfl) (by kernel_rfl) (by kernel_rfl) (fun _ _ _ h => h) rfl ?_; clear hS a; intro a hS
  refine Z_take0 (i := 7) hS rfl want_none (e_move rfl) (listed' := [true, true, true, true, true, true, true, true, false, false, false, false, false, false, false, false, false, false, false, false, false, false]) rfl (by kernel_rfl) (by kernel_rfl) (by kernel_rfl) (fun _ _ _ h => h) rfl ?_; clear hS a; intro a hS
  refine Z_take0 (i := 8) hS rfl want_none (e_move rfl) (listed' := [true, true, true, true, true, true, true, true, true, false, false, false, false, false, false, false, false, false, false, false, false, false]) rfl (by kernel_rfl) (by kernel_rfl) (by kernel_rfl) (fun _ _ _ h => h) rfl ?_; clear hS a; intro a hS
  refine Z_take0 (i := 9) hS rfl want_none (e_move rfl) (listed' := [true, true, true, true, true, true, true, true, true, true, false, false, false, false, false, false, false, false, false, false, false, false]) rfl (by kernel_rfl) (by kernel_rfl) (by kernel_rfl) (fun _ _ _ h => h) rfl ?_; clear hS a; intro a hS
  refine Z_take0 (i := 10) hS rfl want_none (e_move rfl) (listed' := [true, true, true, true, true, true, true, true, true, true, true, false, false, false, false, false, false, false, false, false, false, false]) rfl (by kernel_rfl) (by kernel_rfl) (by kernel_rfl) (fun _ _ _ h => h) rfl ?_; clear hS a; intro a hS
  refine Z_take0 (i := 12) hS rfl want_none (e_move rfl) (listed' := [true, true, true, true, true, true, true, true, true, true, true, false, true, false, false, false, false, false, false, false, false, false]) rfl (by kernel_rfl) (by kernel_rfl) (by kernel_rfl) (fun _ _ _ h => h) rfl ?_; clear hS a; intro a hS
  refine Z_take0 (i := 14) hS rfl want_none (e_move rfl) (listed' := [true, true, true, true, true, true, true, true, true, true, true, false, true, false, true, false, false, false, false, false, false, false]) rfl (by kernel_rfl) (by kernel_rfl) (by kernel_rfl) (fun _ _ _ h => h) rfl ?_; clear hS a; intro a hS
  refine Z_take0 (i := 15) hS rfl want_none (e_move rfl) (listed' := [true, true, true, true, true, true, true, true, true, true, true, false, true, false, true, true, false, false, false, false, false, false]) rfl (by kernel_rfl) (by kernel_rfl) (by kernel_rfl) (fun _ _ _ h => h) rfl ?_; clear hS a; intro a hS
  refine Z_take0 (i := 16) hS rfl want_none (e_move rfl) (listed' := [true, true, true, true, true, true, true, true, true, true, true, false, true, false, true, true, true, false, false, false, false, false]) rfl (by kernel_rfl) (by kernel_rfl) (by kernel_rfl) (fun _ _ _ h => h) rfl ?_; clear hS a; intro a hS
  refine Z_take0 (i := 17) hS rfl want_none (e_move rfl) (listed' := [true, true, true, true, true, true, true, true, true, true, true, false, true, false, true, true, true, true, false, false, false, false]) rfl (by kernel_rfl) (by kernel_rfl) (by kernel_rfl) (fun _ _ _ h => h) rfl ?_; clear hS a; intro a hS
  first | (refine Z_take0 (i := 18) hS rfl want_none (e_binN rfl rfl rfl (by omega)) (listed' := [true, true, true, true, true, true, true, true, true, true, true, false, true, false, true, true, true, true, true, false, false, false]) rfl (by kernel_rfl) (by kernel_rfl) (by kernel_rfl) (fun _ _ _ h => h) rfl ?_; clear hS a; intro a hS) | (refine Z_take0 (i := 18) hS rfl want_none (e_bin rfl rfl rfl) (listed' := [true, true, true, true, true, true, true, true, true, true, true, false, true, false, true, true, true, true, true, false, false, false]) rfl (by kernel_rfl) (by kernel_rfl) (by kernel_rfl) (fun _ _ _ h => h) rfl ?_; clear hS a; intro a hS)
  refine Z_many (j := 11) (js := [20]) (by kernel_rfl) ⟨?_, ?_, trivial⟩
  ·
    refine Z_op (i := 11) rfl (want_none a hS.sl) (listed' := [true, true, true, true, true, true, true, true, true, true, true, true, true, false, true, true, true, true, true, false, false, false]) rfl (s_bslice hS ty_sl112 ty_sz148 ty_z148 rfl rfl rfl rfl .nil rfl ?_); clear hS a; (try clear w); intro a w b49 hS
    refine Z_and hS (sub_cons (by repeat constructor) sub_nil) ?_
    refine Z_many (j := 13) (js := [20]) (by kernel_rfl) ⟨?_, ?_, trivial⟩
    ·
      replace hS := hS.swap (X := .blk b49 [] 148) (Y := ownA 148 4 (.slice (some ⟨b49, 0, none⟩) 0 0) 0 []) (by repeat constructor) (own_empty (hS.get (X := .blk b49 [] 148) (by repeat constructor))) (fun b hb => by simpa [ownA, Asn.F, Value.ownBlock, eq_comm] using hb) rfl
      refine Z_op (i := 13) rfl (want_none a hS.sl) (listed' := [true, true, true, true, true, true, true, true, true, true, true, true, true, true, true, true, true, true, true, false, false, false]) rfl (s_append hS rfl rfl ty_sl112 ty_sz148 ty_by148 ty_z148 rfl rfl rfl (by repeat constructor) (flat_len encL 4 (fun _ => rfl) l) (row_flat (show RowAt br off 4 (l.map encL) w from hS.get (X := rowP (some (br, off)) 4 (l.map encL)) (by repeat constructor))) (linesOne l) (by omega) (fun _ => (by repeat constructor)) ?_); clear hS a; (try clear w); intro v51 a w hv51 hS
      rw [Nat.zero_add, List.nil_append] at hS
      obtain ⟨g51, c51, rfl⟩ := own_some (hS.get (X := ownA 148 4 v51 l.length (l.flatMap encL)) (by repeat constructor)) (fun e => by cases (hv51.1 e).1)
      refine Z_and hS (sub_cons (by repeat constructor) sub_nil) ?_
      refine Z_take0 (i := 19) hS rfl want_none (e_build ty_z119 ty_pl119 (.one rfl rfl rfl (by repeat constructor) (.one rfl rfl rfl (by repeat constructor) (.one rfl rfl rfl (by repeat constructor) (.one rfl rfl rfl (by repeat constructor) (.one rfl rfl rfl (by repeat constructor) (.one rfl rfl rfl (by repeat constructor) (.one rfl rfl rfl (by repeat constructor) (.one rfl rfl rfl (by repeat constructor) (.one rfl rfl rfl (by repeat constructor) (.one rfl rfl rfl (by repeat constructor) (.one rfl rfl rfl (by repeat constructor) .nil)))))))))))) (listed' := [true, true, true, true, true, true, true, true, true, true, true, true, true, true, true, true, true, true, true, true, false, false]) rfl (by kernel_rfl) (by kernel_rfl) (by kernel_rfl) (fun _ _ _ h => h) rfl ?_; clear hS a; intro a hS
      refine Z_one (i := 20) rfl (want_none a hS.sl) (listed' := [true, true, true, true, true, true, true, true, true, true, true, true, true, true, true, true, true, true, true, true, true, false]) rfl (by kernel_rfl) (s_alloc hS ty_z119 rfl ?_); clear hS a; (try clear w); intro a w b20 hS
      refine Z_and hS (sub_cons (by repeat constructor) sub_nil) ?_
      refine Z_one (i := 21) rfl (want_none a hS.sl) (listed' := [true, true, true, true, true, true, true, true, true, true, true, true, true, true, true, true, true, true, true, true, true, true]) rfl (by kernel_rfl) (s_storeA hS rfl rfl ty_sz119 (by repeat constructor) (by rfl) (by rfl) (by rfl) ?_); clear hS; (try clear w); intro w hS
      refine Z_last (by simp) ?_
      refine Z_done (by kernel_rfl) ?_
      refine n_then ?_
      refine c_seq ?_
      refine c_seq ?_
      refine c_region ?_
      first | (refine L_op (s_e hS (e_fa0 rfl ty_fo119_9) rfl ?_); clear hS a; intro a hS) | (refine L_op (s_e hS (e_faK rfl ty_fo119_9) rfl ?_); clear hS a; intro a hS)
      refine L_op (s_e hS (e_load rfl (by repeat constructor) ty_sc3 (by rfl)) rfl ?_); clear hS a; intro a hS
      refine L_op (s_e hS (e_bin rfl rfl rfl) rfl ?_); clear hS a; intro a hS
      refine L_nil ?_
      refine n_then ?_
      first | refine c_ifD hS rfl (fun hc60 => ?_) (fun hc60 => ?_) | refine c_if hS rfl (fun hc60 => ?_) (fun hc60 => ?_)
      ·
        refine c_region ?_
        first | (refine L_op (s_e hS (e_fa0 rfl ty_fo119_12) rfl ?_); clear hS a; intro a hS) | (refine L_op (s_e hS (e_faK rfl ty_fo119_12) rfl ?_); clear hS a; intro a hS)
        refine L_op (s_store hS rfl rfl rfl ty_sz3 (by repeat constructor) (by repeat constructor) ?_); clear hS; (try clear w); intro w hS
        refine L_nil ?_
        refine n_then ?_
        refine c_seq ?_
        refine c_drawS [12] (by kernel_rfl) hS (sub_cons (X := .blk bw _ _) (by repeat constructor) (sub_cons (X := .blk b20 _ _) (by repeat constructor) sub_nil)) ?_; clear hS; (try clear w); intro w hS
        simp only [List.length_cons, List.length_nil, Nat.zero_add, Nat.reduceAdd, List.replicate]
        refine Z_take0 (i := 0) hS rfl want_none (e_move rfl) (listed' := [true, false, false, false, false, false, false, false, false, false, false, false, false]) rfl (by kernel_rfl) (by kernel_rfl) (by kernel_rfl) (fun _ _ _ h => h) rfl ?_; clear hS a; intro a hS
        refine Z_take0 (i := 2) hS rfl want_none (e_move rfl) (listed' := [true, false, true, false, false, false, false, false, false, false, false, false, false]) rfl (by kernel_rfl) (by kernel_rfl) (by kernel_rfl) (fun _ _ _ h => h) rfl ?_; clear hS a; intro a hS
        refine Z_take0 (i := 3) hS rfl want_none (e_nilCheck rfl) (listed' := [true, false, true, true, false, false, false, false, false, false, false, false, false]) rfl (by kernel_rfl) (by kernel_rfl) (by kernel_rfl) (fun _ _ _ h => h) rfl ?_; clear hS a; intro a hS
        first | (refine Z_take0 (i := 4) hS rfl want_none (e_fa0 rfl ty_fo56_0) (listed' := [true, false, true, true, true, false, false, false, false, false, false, false, false]) rfl (by kernel_rfl) (by kernel_rfl) (by kernel_rfl) (fun _ _ _ h => h) rfl ?_; clear hS a; intro a hS) | (refine Z_take0 (i := 4) hS rfl want_none (e_faK rfl ty_fo56_0) (listed' := [true, false, true, true, true, false, false, false, false, false, false, false, false]) rfl (by kernel_rfl) (by kernel_rfl) (by kernel_rfl) (fun _ _ _ h => h) rfl ?_; clear hS a; intro a hS)
        refine Z_take (i := 5) hS rfl want_none (e_load rfl (by repeat constructor) ty_sc54 (by rfl)) (listed' := [true, false, true, true, true, true, false, false, false, false, false, false, false]) rfl (by kernel_rfl) (by kernel_rfl) (by kernel_rfl) (by kernel_rfl) (by kernel_rfl) (sub_cons (by repeat constructor) (sub_cons (by repeat constructor) sub_nil)) (fun _ _ _ h => h) rfl ?_; clear hS a; intro a hS
        refine Z_take (i := 7) hS rfl want_none (e_loadA rfl (by repeat constructor) ty_st119 ty_sz119 (by rfl)) (listed' := [true, false, true, true, true, true, false, true, false, false, false, false, false]) rfl (by kernel_rfl) (by kernel_rfl) (by kernel_rfl) (by kernel_rfl) (by kernel_rfl) (sub_cons (by repeat constructor) (sub_cons (by repeat constructor) sub_nil)) (fun _ _ _ h => h) rfl ?_; clear hS a; intro a hS
        refine Z_many (j := 1) (js := [8]) (by kernel_rfl) ⟨?_, ?_, trivial⟩
        ·
          refine Z_op (i := 1) rfl (want_none a hS.sl) (listed' := [true, true, true, true, true, true, false, true, false, false, false, false, false]) rfl (s_bslice hS ty_sl54 ty_sz119 ty_z119 rfl rfl rfl rfl .nil rfl ?_); clear hS a; (try clear w); intro a w b63 hS
          refine Z_and hS (sub_cons (by repeat constructor) (sub_cons (by repeat constructor) sub_nil)) ?_
          refine Z_many (j := 6) (js := [8]) (by kernel_rfl) ⟨?_, ?_, trivial⟩
          ·
            replace hS := hS.swap (X := .blk b63 [] 119) (Y := ownA 119 13 (.slice (some ⟨b63, 0, none⟩) 0 0) 0 []) (by repeat constructor) (own_empty (hS.get (X := .blk b63 [] 119) (by repeat constructor))) (fun b hb => by simpa [ownA, Asn.F, Value.ownBlock, eq_comm] using hb) rfl
            refine Z_op (i := 6) rfl (want_none a hS.sl) (listed' := [true, true, true, true, true, true, true, true, false, false, false, false, false]) rfl (s_appendQ hS rfl rfl ty_sl54 ty_sz119 ty_by119 ty_z119 rfl rfl rfl (by repeat constructor) (flat_len encA 13 (fun _ => rfl) its) (hhd (hS.get (X := ownA 119 13 (.slice p its.length cs) its.length (its.flatMap encA)) (by repeat constructor))) (encA_one its) (by omega) (fun _ => (by repeat constructor)) ?_); clear hS a; (try clear w); intro v68 a w hv68 hS
            refine Z_and hS (sub_cons (by repeat constructor) (sub_cons (by repeat constructor) sub_nil)) ?_
            refine Z_one (i := 8) rfl (want_none a hS.sl) (listed' := [true, true, true, true, true, true, true, true, true, false, false, false, false]) rfl (by kernel_rfl) (s_bslice hS ty_sl54 ty_sz119 ty_z119 rfl rfl rfl rfl (.agg rfl rfl .nil) rfl ?_); clear hS a; (try clear w); intro a w b70 hS
            refine Z_and hS (sub_cons (by repeat constructor) (sub_cons (by repeat constructor) sub_nil)) ?_
            refine Z_one (i := 9) rfl (want_none a hS.sl) (listed' := [true, true, true, true, true, true, true, true, true, true, false, false, false]) rfl (by kernel_rfl) (s_append1 hS rfl rfl ty_sl54 ty_sz119 ty_by119 ty_z119 rfl rfl rfl (by repeat constructor) (by repeat constructor) (by rfl) (by rfl) (fun _ => (by repeat constructor)) (by omega) ?_); clear hS a; (try clear w); intro v71 a w hv71 hS
            have h71 : isOne v71 = true := by
              obtain ⟨q71, c71, e71⟩ := own_slice (hS.get (X := ownA 119 13 v71 (0 + its.length + 1) _) (by repeat constructor))
              rw [e71]; rfl
            refine Z_and hS (sub_cons (by repeat constructor) (sub_cons (by repeat constructor) sub_nil)) ?_
            refine Z_take0 (i := 10) hS rfl want_none (e_nilCheck rfl) (listed' := [true, true, true, true, true, true, true, true, true, true, true, false, false]) rfl (by kernel_rfl) (by kernel_rfl) (by kernel_rfl) (fun _ _ _ h => h) rfl ?_; clear hS a; intro a hS
            first | (refine Z_take0 (i := 11) hS rfl want_none (e_fa0 rfl ty_fo56_0) (listed' := [true, true, true, true, true, true, true, true, true, true, true, true, false]) rfl (by kernel_rfl) (by kernel_rfl) (by kernel_rfl) (fun _ _ _ h => h) rfl ?_; clear hS a; intro a hS) | (refine Z_take0 (i := 11) hS rfl want_none (e_faK rfl ty_fo56_0) (listed' := [true, true, true, true, true, true, true, true, true, true, true, true, false]) rfl (by kernel_rfl) (by kernel_rfl) (by kernel_rfl) (fun _ _ _ h => h) rfl ?_; clear hS a; intro a hS)
            refine Z_one (i := 12) rfl (want_none a hS.sl) (listed' := [true, true, true, true, true, true, true, true, true, true, true, true, true]) rfl (by kernel_rfl) (s_store hS rfl rfl h71 ty_sz54 (by repeat constructor) (by repeat constructor) ?_); clear hS; (try clear w); intro w hS
            refine Z_last (by simp) ?_
            refine Z_done (by kernel_rfl) ?_
            refine n_then ?_
            refine c_seq ?_
            refine c_region ?_
            first | (refine L_op (s_e hS (e_fa0 rfl ty_fo119_0) rfl ?_); clear hS a; intro a hS) | (refine L_op (s_e hS (e_faK rfl ty_fo119_0) rfl ?_); clear hS a; intro a hS)
            refine L_op (s_e hS (e_load rfl (by repeat constructor) ty_sc3 (by rfl)) rfl ?_); clear hS a; intro a hS
            refine L_op (s_e hS (e_assign rfl) rfl ?_); clear hS a; intro a hS
            refine L_op (s_e hS (e_assign rfl) rfl ?_); clear hS a; intro a hS
            refine L_nil ?_
            refine n_then ?_
            refine wp_ret ?_
            refine c_retN hS Try.results72 (.cons (.tmp rfl) (.cons (.tmp rfl) .nil)) rfl ?_
            exact issue_fin (sv := .slice p its.length cs) (hS.get (X := .blk bw [v71] 56) (by repeat constructor)) (hS.get (X := ownA 119 13 v71 (0 + its.length + 1) _) (by repeat constructor)) (by first | rw [if_pos hc60] | rw [if_neg hc60]) (hS.get (X := ownA 148 4 (.slice (some ⟨g51, 0, none⟩) l.length c51) l.length (l.flatMap encL)) (by repeat constructor)) (hS.get (X := rlnA its) (by repeat constructor)) hS.chg (hS.mine (ownA 119 13 v71 (0 + its.length + 1) _) (by repeat constructor) rfl) (hS.mine (ownA 148 4 (.slice (some ⟨g51, 0, none⟩) l.length c51) l.length (l.flatMap encL)) (by repeat constructor) rfl g51 rfl)
          ·
            refine Z_op (i := 8) rfl (want_none a hS.sl) (listed' := [true, true, true, true, true, true, false, true, true, false, false, false, false]) rfl (s_bslice hS ty_sl54 ty_sz119 ty_z119 rfl rfl rfl rfl (.agg rfl rfl .nil) rfl ?_); clear hS a; (try clear w); intro a w b70 hS
            refine Z_and hS (sub_cons (by repeat constructor) (sub_cons (by repeat constructor) sub_nil)) ?_
            replace hS := hS.swap (X := .blk b63 [] 119) (Y := ownA 119 13 (.slice (some ⟨b63, 0, none⟩) 0 0) 0 []) (by repeat constructor) (own_empty (hS.get (X := .blk b63 [] 119) (by repeat constructor))) (fun b hb => by simpa [ownA, Asn.F, Value.ownBlock, eq_comm] using hb) rfl
            refine Z_one (i := 6) rfl (want_none a hS.sl) (listed' := [true, true, true, true, true, true, true, true, true, false, false, false, false]) rfl (by kernel_rfl) (s_appendQ hS rfl rfl ty_sl54 ty_sz119 ty_by119 ty_z119 rfl rfl rfl (by repeat constructor) (flat_len encA 13 (fun _ => rfl) its) (hhd (hS.get (X := ownA 119 13 (.slice p its.length cs) its.length (its.flatMap encA)) (by repeat constructor))) (encA_one its) (by omega) (fun _ => (by repeat constructor)) ?_); clear hS a; (try clear w); intro v68 a w hv68 hS
            refine Z_and hS (sub_cons (by repeat constructor) (sub_cons (by repeat constructor) sub_nil)) ?_
            refine Z_one (i := 9) rfl (want_none a hS.sl) (listed' := [true, true, true, true, true, true, true, true, true, true, false, false, false]) rfl (by kernel_rfl) (s_append1 hS rfl rfl ty_sl54 ty_sz119 ty_by119 ty_z119 rfl rfl rfl (by repeat constructor) (by repeat constructor) (by rfl) (by rfl) (fun _ => (by repeat constructor)) (by omega) ?_); clear hS a; (try clear w); intro v71 a w hv71 hS
            have h71 : isOne v71 = true := by
              obtain ⟨q71, c71, e71⟩ := own_slice (hS.get (X := ownA 119 13 v71 (0 + its.length + 1) _) (by repeat constructor))
              rw [e71]; rfl
            refine Z_and hS (sub_cons (by repeat constructor) (sub_cons (by repeat constructor) sub_nil)) ?_
            refine Z_take0 (i := 10) hS rfl want_none (e_nilCheck rfl) (listed' := [true, true, true, true, true, true, true, true, true, true, true, false, false]) rfl (by kernel_rfl) (by kernel_rfl) (by kernel_rfl) (fun _ _ _ h => h) rfl ?_; clear hS a; intro a hS
            first | (refine Z_take0 (i := 11) hS rfl want_none (e_fa0 rfl ty_fo56_0) (listed' := [true, true, true, true, true, true, true, true, true, true, true, true, false]) rfl (by kernel_rfl) (by kernel_rfl) (by kernel_rfl) (fun _ _ _ h => h) rfl ?_; clear hS a; intro a hS) | (refine Z_take0 (i := 11) hS rfl want_none (e_faK rfl ty_fo56_0) (listed' := [true, true, true, true, true, true, true, true, true, true, true, true, false]) rfl (by kernel_rfl) (by kernel_rfl) (by kernel_rfl) (fun _ _ _ h => h) rfl ?_; clear hS a; intro a hS)
            refine Z_one (i := 12) rfl (want_none a hS.sl) (listed' := [true, true, true, true, true, true, true, true, true, true, true, true, true]) rfl (by kernel_rfl) (s_store hS rfl rfl h71 ty_sz54 (by repeat constructor) (by repeat constructor) ?_); clear hS; (try clear w); intro w hS
            refine Z_last (by simp) ?_
            refine Z_done (by kernel_rfl) ?_
            refine n_then ?_
            refine c_seq ?_
            refine c_region ?_
            first | (refine L_op (s_e hS (e_fa0 rfl ty_fo119_0) rfl ?_); clear hS a; intro a hS) | (refine L_op (s_e hS (e_faK rfl ty_fo119_0) rfl ?_); clear hS a; intro a hS)
            refine L_op (s_e hS (e_load rfl (by repeat constructor) ty_sc3 (by rfl)) rfl ?_); clear hS a; intro a hS
            refine L_op (s_e hS (e_assign rfl) rfl ?_); clear hS a; intro a hS
            refine L_op (s_e hS (e_assign rfl) rfl ?_); clear hS a; intro a hS
            refine L_nil ?_
            refine n_then ?_
            refine wp_ret ?_
            refine c_retN hS Try.results72 (.cons (.tmp rfl) (.cons (.tmp rfl) .nil)) rfl ?_
            exact issue_fin (sv := .slice p its.length cs) (hS.get (X := .blk bw [v71] 56) (by repeat constructor)) (hS.get (X := ownA 119 13 v71 (0 + its.length + 1) _) (by repeat constructor)) (by first | rw [if_pos hc60] | rw [if_neg hc60]) (hS.get (X := ownA 148 4 (.slice (some ⟨g51, 0, none⟩) l.length c51) l.length (l.flatMap encL)) (by repeat constructor)) (hS.get (X := rlnA its) (by repeat constructor)) hS.chg (hS.mine (ownA 119 13 v71 (0 + its.length + 1) _) (by repeat constructor) rfl) (hS.mine (ownA 148 4 (.slice (some ⟨g51, 0, none⟩) l.length c51) l.length (l.flatMap encL)) (by repeat constructor) rfl g51 rfl)
        ·
          refine Z_op (i := 8) rfl (want_none a hS.sl) (listed' := [true, false, true, true, true, true, false, true, true, false, false, false, false]) rfl (s_bslice hS ty_sl54 ty_sz119 ty_z119 rfl rfl rfl rfl (.agg rfl rfl .nil) rfl ?_); clear hS a; (try clear w); intro a w b70 hS
          refine Z_and hS (sub_cons (by repeat constructor) (sub_cons (by repeat constructor) sub_nil)) ?_
          refine Z_one (i := 1) rfl (want_none a hS.sl) (listed' := [true, true, true, true, true, true, false, true, true, false, false, false, false]) rfl (by kernel_rfl) (s_bslice hS ty_sl54 ty_sz119 ty_z119 rfl rfl rfl rfl .nil rfl ?_); clear hS a; (try clear w); intro a w b63 hS
          refine Z_and hS (sub_cons (by repeat constructor) (sub_cons (by repeat constructor) sub_nil)) ?_
          replace hS := hS.swap (X := .blk b63 [] 119) (Y := ownA 119 13 (.slice (some ⟨b63, 0, none⟩) 0 0) 0 []) (by repeat constructor) (own_empty (hS.get (X := .blk b63 [] 119) (by repeat constructor))) (fun b hb => by simpa [ownA, Asn.F, Value.ownBlock, eq_comm] using hb) rfl
          refine Z_one (i := 6) rfl (want_none a hS.sl) (listed' := [true, true, true, true, true, true, true, true, true, false, false, false, false]) rfl (by kernel_rfl) (s_appendQ hS rfl rfl ty_sl54 ty_sz119 ty_by119 ty_z119 rfl rfl rfl (by repeat constructor) (flat_len encA 13 (fun _ => rfl) its) (hhd (hS.get (X := ownA 119 13 (.slice p its.length cs) its.length (its.flatMap encA)) (by repeat constructor))) (encA_one its) (by omega) (fun _ => (by repeat constructor)) ?_); clear hS a; (try clear w); intro v68 a w hv68 hS
          refine Z_and hS (sub_cons (by repeat constructor) (sub_cons (by repeat constructor) sub_nil)) ?_
          refine Z_one (i := 9) rfl (want_none a hS.sl) (listed' := [true, true, true, true, true, true, true, true, true, true, false, false, false]) rfl (by kernel_rfl) (s_append1 hS rfl rfl ty_sl54 ty_sz119 ty_by119 ty_z119 rfl rfl rfl (by repeat constructor) (by repeat constructor) (by rfl) (by rfl) (fun _ => (by repeat constructor)) (by omega) ?_); clear hS a; (try clear w); intro v71 a w hv71 hS
          have h71 : isOne v71 = true := by
            obtain ⟨q71, c71, e71⟩ := own_slice (hS.get (X := ownA 119 13 v71 (0 + its.length + 1) _) (by repeat constructor))
            rw [e71]; rfl
          refine Z_and hS (sub_cons (by repeat constructor) (sub_cons (by repeat constructor) sub_nil)) ?_
          refine Z_take0 (i := 10) hS rfl want_none (e_nilCheck rfl) (listed' := [true, true, true, true, true, true, true, true, true, true, true, false, false]) rfl (by kernel_rfl) (by kernel_rfl) (by kernel_rfl) (fun _ _ _ h => h) rfl ?_; clear hS a; intro a hS
          first | (refine Z_take0 (i := 11) hS rfl want_none (e_fa0 rfl ty_fo56_0) (listed' := [true, true, true, true, true, true, true, true, true, true, true, true, false]) rfl (by kernel_rfl) (by kernel_rfl) (by kernel_rfl) (fun _ _ _ h => h) rfl ?_; clear hS a; intro a hS) | (refine Z_take0 (i := 11) hS rfl want_none (e_faK rfl ty_fo56_0) (listed' := [true, true, true, true, true, true, true, true, true, true, true, true, false]) rfl (by kernel_rfl) (by kernel_rfl) (by kernel_rfl) (fun _ _ _ h => h) rfl ?_; clear hS a; intro a hS)
          refine Z_one (i := 12) rfl (want_none a hS.sl) (listed' := [true, true, true, true, true, true, true, true, true, true, true, true, true]) rfl (by kernel_rfl) (s_store hS rfl rfl h71 ty_sz54 (by repeat constructor) (by repeat constructor) ?_); clear hS; (try clear w); intro w hS
          refine Z_last (by simp) ?_
          refine Z_done (by kernel_rfl) ?_
          refine n_then ?_
          refine c_seq ?_
          refine c_region ?_
          first | (refine L_op (s_e hS (e_fa0 rfl ty_fo119_0) rfl ?_); clear hS a; intro a hS) | (refine L_op (s_e hS (e_faK rfl ty_fo119_0) rfl ?_); clear hS a; intro a hS)
          refine L_op (s_e hS (e_load rfl (by repeat constructor) ty_sc3 (by rfl)) rfl ?_); clear hS a; intro a hS
          refine L_op (s_e hS (e_assign rfl) rfl ?_); clear hS a; intro a hS
          refine L_op (s_e hS (e_assign rfl) rfl ?_); clear hS a; intro a hS
          refine L_nil ?_
          refine n_then ?_
          refine wp_ret ?_
          refine c_retN hS Try.results72 (.cons (.tmp rfl) (.cons (.tmp rfl) .nil)) rfl ?_
          exact issue_fin (sv := .slice p its.length cs) (hS.get (X := .blk bw [v71] 56) (by repeat constructor)) (hS.get (X := ownA 119 13 v71 (0 + its.length + 1) _) (by repeat constructor)) (by first | rw [if_pos hc60] | rw [if_neg hc60]) (hS.get (X := ownA 148 4 (.slice (some ⟨g51, 0, none⟩) l.length c51) l.length (l.flatMap encL)) (by repeat constructor)) (hS.get (X := rlnA its) (by repeat constructor)) hS.chg (hS.mine (ownA 119 13 v71 (0 + its.length + 1) _) (by repeat constructor) rfl) (hS.mine (ownA 148 4 (.slice (some ⟨g51, 0, none⟩) l.length c51) l.length (l.flatMap encL)) (by repeat constructor) rfl g51 rfl)
      ·
        refine wp_skip ?_
        refine n_then ?_
        refine c_seq ?_
        refine c_drawS [12] (by kernel_rfl) hS (sub_cons (X := .blk bw _ _) (by repeat constructor) (sub_cons (X := .blk b20 _ _) (by repeat constructor) sub_nil)) ?_; clear hS; (try clear w); intro w hS
        simp only [List.length_cons, List.length_nil, Nat.zero_add, Nat.reduceAdd, List.replicate]
        refine Z_take0 (i := 0) hS rfl want_none (e_move rfl) (listed' := [true, false, false, false, false, false, false, false, false, false, false, false, false]) rfl (by kernel_rfl) (by kernel_rfl) (by kernel_rfl) (fun _ _ _ h => h) rfl ?_; clear hS a; intro a hS
        refine Z_take0 (i := 2) hS rfl want_none (e_move rfl) (listed' := [true, false, true, false, false, false, false, false, false, false, false, false, false]) rfl (by kernel_rfl) (by kernel_rfl) (by kernel_rfl) (fun _ _ _ h => h) rfl ?_; clear hS a; intro a hS
        refine Z_take0 (i := 3) hS rfl want_none (e_nilCheck rfl) (listed' := [true, false, true, true, false, false, false, false, false, false, false, false, false]) rfl (by kernel_rfl) (by kernel_rfl) (by kernel_rfl) (fun _ _ _ h => h) rfl ?_; clear hS a; intro a hS
        first | (refine Z_take0 (i := 4) hS rfl want_none (e_fa0 rfl ty_fo56_0) (listed' := [true, false, true, true, true, false, false, false, false, false, false, false, false]) rfl (by kernel_rfl) (by kernel_rfl) (by kernel_rfl) (fun _ _ _ h => h) rfl ?_; clear hS a; intro a hS) | (refine Z_take0 (i := 4) hS rfl want_none (e_faK rfl ty_fo56_0) (listed' := [true, false, true, true, true, false, false, false, false, false, false, false, false]) rfl (by kernel_rfl) (by kernel_rfl) (by kernel_rfl) (fun _ _ _ h => h) rfl ?_; clear hS a; intro a hS)
        refine Z_take (i := 5) hS rfl want_none (e_load rfl (by repeat constructor) ty_sc54 (by rfl)) (listed' := [true, false, true, true, true, true, false, false, false, false, false, false, false]) rfl (by kernel_rfl) (by kernel_rfl) (by kernel_rfl) (by kernel_rfl) (by kernel_rfl) (sub_cons (by repeat constructor) (sub_cons (by repeat constructor) sub_nil)) (fun _ _ _ h => h) rfl ?_; clear hS a; intro a hS
        refine Z_take (i := 7) hS rfl want_none (e_loadA rfl (by repeat constructor) ty_st119 ty_sz119 (by rfl)) (listed' := [true, false, true, true, true, true, false, true, false, false, false, false, false]) rfl (by kernel_rfl) (by kernel_rfl) (by kernel_rfl) (by kernel_rfl) (by kernel_rfl) (sub_cons (by repeat constructor) (sub_cons (by repeat constructor) sub_nil)) (fun _ _ _ h => h) rfl ?_; clear hS a; intro a hS
        refine Z_many (j := 1) (js := [8]) (by kernel_rfl) ⟨?_, ?_, trivial⟩
        ·
          refine Z_op (i := 1) rfl (want_none a hS.sl) (listed' := [true, true, true, true, true, true, false, true, false, false, false, false, false]) rfl (s_bslice hS ty_sl54 ty_sz119 ty_z119 rfl rfl rfl rfl .nil rfl ?_); clear hS a; (try clear w); intro a w b63 hS
          refine Z_and hS (sub_cons (by repeat constructor) (sub_cons (by repeat constructor) sub_nil)) ?_
          refine Z_many (j := 6) (js := [8]) (by kernel_rfl) ⟨?_, ?_, trivial⟩
          ·
            replace hS := hS.swap (X := .blk b63 [] 119) (Y := ownA 119 13 (.slice (some ⟨b63, 0, none⟩) 0 0) 0 []) (by repeat constructor) (own_empty (hS.get (X := .blk b63 [] 119) (by repeat constructor))) (fun b hb => by simpa [ownA, Asn.F, Value.ownBlock, eq_comm] using hb) rfl
            refine Z_op (i := 6) rfl (want_none a hS.sl) (listed' := [true, true, true, true, true, true, true, true, false, false, false, false, false]) rfl (s_appendQ hS rfl rfl ty_sl54 ty_sz119 ty_by119 ty_z119 rfl rfl rfl (by repeat constructor) (flat_len encA 13 (fun _ => rfl) its) (hhd (hS.get (X := ownA 119 13 (.slice p its.length cs) its.length (its.flatMap encA)) (by repeat constructor))) (encA_one its) (by omega) (fun _ => (by repeat constructor)) ?_); clear hS a; (try clear w); intro v68 a w hv68 hS
            refine Z_and hS (sub_cons (by repeat constructor) (sub_cons (by repeat constructor) sub_nil)) ?_
            refine Z_one (i := 8) rfl (want_none a hS.sl) (listed' := [true, true, true, true, true, true, true, true, true, false, false, false, false]) rfl (by kernel_rfl) (s_bslice hS ty_sl54 ty_sz119 ty_z119 rfl rfl rfl rfl (.agg rfl rfl .nil) rfl ?_); clear hS a; (try clear w); intro a w b70 hS
            refine Z_and hS (sub_cons (by repeat constructor) (sub_cons (by repeat constructor) sub_nil)) ?_
            refine Z_one (i := 9) rfl (want_none a hS.sl) (listed' := [true, true, true, true, true, true, true, true, true, true, false, false, false]) rfl (by kernel_rfl) (s_append1 hS rfl rfl ty_sl54 ty_sz119 ty_by119 ty_z119 rfl rfl rfl (by repeat constructor) (by repeat constructor) (by rfl) (by rfl) (fun _ => (by repeat constructor)) (by omega) ?_); clear hS a; (try clear w); intro v71 a w hv71 hS
            have h71 : isOne v71 = true := by
              obtain ⟨q71, c71, e71⟩ := own_slice (hS.get (X := ownA 119 13 v71 (0 + its.length + 1) _) (by repeat constructor))
              rw [e71]; rfl
            refine Z_and hS (sub_cons (by repeat constructor) (sub_cons (by repeat constructor) sub_nil)) ?_
            refine Z_take0 (i := 10) hS rfl want_none (e_nilCheck rfl) (listed' := [true, true, true, true, true, true, true, true, true, true, true, false, false]) rfl (by kernel_rfl) (by kernel_rfl) (by kernel_rfl) (fun _ _ _ h => h) rfl ?_; clear hS a; intro a hS
            first | (refine Z_take0 (i := 11) hS rfl want_none (e_fa0 rfl ty_fo56_0) (listed' := [true, true, true, true, true, true, true, true, true, true, true, true, false]) rfl (by kernel_rfl) (by kernel_rfl) (by kernel_rfl) (fun _ _ _ h => h) rfl ?_; clear hS a; intro a hS) | (refine Z_take0 (i := 11) hS rfl want_none (e_faK rfl ty_fo56_0) (listed' := [true, true, true, true, true, true, true, true, true, true, true, true, false]) rfl (by kernel_rfl) (by kernel_rfl) (by kernel_rfl) (fun _ _ _ h => h) rfl ?_; clear hS a; intro a hS)
            refine Z_one (i := 12) rfl (want_none a hS.sl) (listed' := [true, true, true, true, true, true, true, true, true, true, true, true, true]) rfl (by kernel_rfl) (s_store hS rfl rfl h71 ty_sz54 (by repeat constructor) (by repeat constructor) ?_); clear hS; (try clear w); intro w hS
            refine Z_last (by simp) ?_
            refine Z_done (by kernel_rfl) ?_
            refine n_then ?_
            refine c_seq ?_
            refine c_region ?_
            first | (refine L_op (s_e hS (e_fa0 rfl ty_fo119_0) rfl ?_); clear hS a; intro a hS) | (refine L_op (s_e hS (e_faK rfl ty_fo119_0) rfl ?_); clear hS a; intro a hS)
            refine L_op (s_e hS (e_load rfl (by repeat constructor) ty_sc3 (by rfl)) rfl ?_); clear hS a; intro a hS
            refine L_op (s_e hS (e_assign rfl) rfl ?_); clear hS a; intro a hS
            refine L_op (s_e hS (e_assign rfl) rfl ?_); clear hS a; intro a hS
            refine L_nil ?_
            refine n_then ?_
            refine wp_ret ?_
            refine c_retN hS Try.results72 (.cons (.tmp rfl) (.cons (.tmp rfl) .nil)) rfl ?_
            exact issue_fin (sv := .slice p its.length cs) (hS.get (X := .blk bw [v71] 56) (by repeat constructor)) (hS.get (X := ownA 119 13 v71 (0 + its.length + 1) _) (by repeat constructor)) (by first | rw [if_pos hc60] | rw [if_neg hc60]) (hS.get (X := ownA 148 4 (.slice (some ⟨g51, 0, none⟩) l.length c51) l.length (l.flatMap encL)) (by repeat constructor)) (hS.get (X := rlnA its) (by repeat constructor)) hS.chg (hS.mine (ownA 119 13 v71 (0 + its.length + 1) _) (by repeat constructor) rfl) (hS.mine (ownA 148 4 (.slice (some ⟨g51, 0, none⟩) l.length c51) l.length (l.flatMap encL)) (by repeat constructor) rfl g51 rfl)
          ·
            refine Z_op (i := 8) rfl (want_none a hS.sl) (listed' := [true, true, true, true, true, true, false, true, true, false, false, false, false]) rfl (s_bslice hS ty_sl54 ty_sz119 ty_z119 rfl rfl rfl rfl (.agg rfl rfl .nil) rfl ?_); clear hS a; (try clear w); intro a w b70 hS
            refine Z_and hS (sub_cons (by repeat constructor) (sub_cons (by repeat constructor) sub_nil)) ?_
            replace hS := hS.swap (X := .blk b63 [] 119) (Y := ownA 119 13 (.slice (some ⟨b63, 0, none⟩) 0 0) 0 []) (by repeat constructor) (own_empty (hS.get (X := .blk b63 [] 119) (by repeat constructor))) (fun b hb => by simpa [ownA, Asn.F, Value.ownBlock, eq_comm] using hb) rfl
            refine Z_one (i := 6) rfl (want_none a hS.sl) (listed' := [true, true, true, true, true, true, true, true, true, false, false, false, false]) rfl (by kernel_rfl) (s_appendQ hS rfl rfl ty_sl54 ty_sz119 ty_by119 ty_z119 rfl rfl rfl (by repeat constructor) (flat_len encA 13 (fun _ => rfl) its) (hhd (hS.get (X := ownA 119 13 (.slice p its.length cs) its.length (its.flatMap encA)) (by repeat constructor))) (encA_one its) (by omega) (fun _ => (by repeat constructor)) ?_); clear hS a; (try clear w); intro v68 a w hv68 hS
            refine Z_and hS (sub_cons (by repeat constructor) (sub_cons (by repeat constructor) sub_nil)) ?_
            refine Z_one (i := 9) rfl (want_none a hS.sl) (listed' := [true, true, true, true, true, true, true, true, true, true, false, false, false]) rfl (by kernel_rfl) (s_append1 hS rfl rfl ty_sl54 ty_sz119 ty_by119 ty_z119 rfl rfl rfl (by repeat constructor) (by repeat constructor) (by rfl) (by rfl) (fun _ => (by repeat constructor)) (by omega) ?_); clear hS a; (try clear w); intro v71 a w hv71 hS
            have h71 : isOne v71 = true := by
              obtain ⟨q71, c71, e71⟩ := own_slice (hS.get (X := ownA 119 13 v71 (0 + its.length + 1) _) (by repeat constructor))
              rw [e71]; rfl
            refine Z_and hS (sub_cons (by repeat constructor) (sub_cons (by repeat constructor) sub_nil)) ?_
            refine Z_take0 (i := 10) hS rfl want_none (e_nilCheck rfl) (listed' := [true, true, true, true, true, true, true, true, true, true, true, false, false]) rfl (by kernel_rfl) (by kernel_rfl) (by kernel_rfl) (fun _ _ _ h => h) rfl ?_; clear hS a; intro a hS
            first | (refine Z_take0 (i := 11) hS rfl want_none (e_fa0 rfl ty_fo56_0) (listed' := [true, true, true, true, true, true, true, true, true, true, true, true, false]) rfl (by kernel_rfl) (by kernel_rfl) (by kernel_rfl) (fun _ _ _ h => h) rfl ?_; clear hS a; intro a hS) | (refine Z_take0 (i := 11) hS rfl want_none (e_faK rfl ty_fo56_0) (listed' := [true, true, true, true, true, true, true, true, true, true, true, true, false]) rfl (by kernel_rfl) (by kernel_rfl) (by kernel_rfl) (fun _ _ _ h => h) rfl ?_; clear hS a; intro a hS)
            refine Z_one (i := 12) rfl (want_none a hS.sl) (listed' := [true, true, true, true, true, true, true, true, true, true, true, true, true]) rfl (by kernel_rfl) (s_store hS rfl rfl h71 ty_sz54 (by repeat constructor) (by repeat constructor) ?_); clear hS; (try clear w); intro w hS
            refine Z_last (by simp) ?_
            refine Z_done (by kernel_rfl) ?_
            refine n_then ?_
            refine c_seq ?_
            refine c_region ?_
            first | (refine L_op (s_e hS (e_fa0 rfl ty_fo119_0) rfl ?_); clear hS a; intro a hS) | (refine L_op (s_e hS (e_faK rfl ty_fo119_0) rfl ?_); clear hS a; intro a hS)
            refine L_op (s_e hS (e_load rfl (by repeat constructor) ty_sc3 (by rfl)) rfl ?_); clear hS a; intro a hS
            refine L_op (s_e hS (e_assign rfl) rfl ?_); clear hS a; intro a hS
            refine L_op (s_e hS (e_assign rfl) rfl ?_); clear hS a; intro a hS
            refine L_nil ?_
            refine n_then ?_
            refine wp_ret ?_
            refine c_retN hS Try.results72 (.cons (.tmp rfl) (.cons (.tmp rfl) .nil)) rfl ?_
            exact issue_fin (sv := .slice p its.length cs) (hS.get (X := .blk bw [v71] 56) (by repeat constructor)) (hS.get (X := ownA 119 13 v71 (0 + its.length + 1) _) (by repeat constructor)) (by first | rw [if_pos hc60] | rw [if_neg hc60]) (hS.get (X := ownA 148 4 (.slice (some ⟨g51, 0, none⟩) l.length c51) l.length (l.flatMap encL)) (by repeat constructor)) (hS.get (X := rlnA its) (by repeat constructor)) hS.chg (hS.mine (ownA 119 13 v71 (0 + its.length + 1) _) (by repeat constructor) rfl) (hS.mine (ownA 148 4 (.slice (some ⟨g51, 0, none⟩) l.length c51) l.length (l.flatMap encL)) (by repeat constructor) rfl g51 rfl)
        ·
          refine Z_op (i := 8) rfl (want_none a hS.sl) (listed' := [true, false, true, true, true, true, false, true, true, false, false, false, false]) rfl (s_bslice hS ty_sl54 ty_sz119 ty_z119 rfl rfl rfl rfl (.agg rfl rfl .nil) rfl ?_); clear hS a; (try clear w); intro a w b70 hS
          refine Z_and hS (sub_cons (by repeat constructor) (sub_cons (by repeat constructor) sub_nil)) ?_
          refine Z_one (i := 1) rfl (want_none a hS.sl) (listed' := [true, true, true, true, true, true, false, true, true, false, false, false, false]) rfl (by kernel_rfl) (s_bslice hS ty_sl54 ty_sz119 ty_z119 rfl rfl rfl rfl .nil rfl ?_); clear hS a; (try clear w); intro a w b63 hS
          refine Z_and hS (sub_cons (by repeat constructor) (sub_cons (by repeat constructor) sub_nil)) ?_
          replace hS := hS.swap (X := .blk b63 [] 119) (Y := ownA 119 13 (.slice (some ⟨b63, 0, none⟩) 0 0) 0 []) (by repeat constructor) (own_empty (hS.get (X := .blk b63 [] 119) (by repeat constructor))) (fun b hb => by simpa [ownA, Asn.F, Value.ownBlock, eq_comm] using hb) rfl
          refine Z_one (i := 6) rfl (want_none a hS.sl) (listed' := [true, true, true, true, true, true, true, true, true, false, false, false, false]) rfl (by kernel_rfl) (s_appendQ hS rfl rfl ty_sl54 ty_sz119 ty_by119 ty_z119 rfl rfl rfl (by repeat constructor) (flat_len encA 13 (fun _ => rfl) its) (hhd (hS.get (X := ownA 119 13 (.slice p its.length cs) its.length (its.flatMap encA)) (by repeat constructor))) (encA_one its) (by omega) (fun _ => (by repeat constructor)) ?_); clear hS a; (try clear w); intro v68 a w hv68 hS
          refine Z_and hS (sub_cons (by repeat constructor) (sub_cons (by repeat constructor) sub_nil)) ?_
          refine Z_one (i := 9) rfl (want_none a hS.sl) (listed' := [true, true, true, true, true, true, true, true, true, true, false, false, false]) rfl (by kernel_rfl) (s_append1 hS rfl rfl ty_sl54 ty_sz119 ty_by119 ty_z119 rfl rfl rfl (by repeat constructor) (by repeat constructor) (by rfl) (by rfl) (fun _ => (by repeat constructor)) (by omega) ?_); clear hS a; (try clear w); intro v71 a w hv71 hS
          have h71 : isOne v71 = true := by
            obtain ⟨q71, c71, e71⟩ := own_slice (hS.get (X := ownA 119 13 v71 (0 + its.length + 1) _) (by repeat constructor))
            rw [e71]; rfl
          refine Z_and hS (sub_cons (by repeat constructor) (sub_cons (by repeat constructor) sub_nil)) ?_
          refine Z_take0 (i := 10) hS rfl want_none (e_nilCheck rfl) (listed' := [true, true, true, true, true, true, true, true, true, true, true, false, false]) rfl (by kernel_rfl) (by kernel_rfl) (by kernel_rfl) (fun _ _ _ h => h) rfl ?_; clear hS a; intro a hS
          first | (refine Z_take0 (i := 11) hS rfl want_none (e_fa0 rfl ty_fo56_0) (listed' := [true, true, true, true, true, true, true, true, true, true, true, true, false]) rfl (by kernel_rfl) (by kernel_rfl) (by kernel_rfl) (fun _ _ _ h => h) rfl ?_; clear hS a; intro a hS) | (refine Z_take0 (i := 11) hS rfl want_none (e_faK rfl ty_fo56_0) (listed' := [true, true, true, true, true, true, true, true, true, true, true, true, false]) rfl (by kernel_rfl) (by kernel_rfl) (by kernel_rfl) (fun _ _ _ h => h) rfl ?_; clear hS a; intro a hS)
          refine Z_one (i := 12) rfl (want_none a hS.sl) (listed' := [true, true, true, true, true, true, true, true, true, true, true, true, true]) rfl (by kernel_rfl) (s_store hS rfl rfl h71 ty_sz54 (by repeat constructor) (by repeat constructor) ?_); clear hS; (try clear w); intro w hS
          refine Z_last (by simp) ?_
          refine Z_done (by kernel_rfl) ?_
          refine n_then ?_
          refine c_seq ?_
          refine c_region ?_
          first | (refine L_op (s_e hS (e_fa0 rfl ty_fo119_0) rfl ?_); clear hS a; intro a hS) | (refine L_op (s_e hS (e_faK rfl ty_fo119_0) rfl ?_); clear hS a; intro a hS)
          refine L_op (s_e hS (e_load rfl (by repeat constructor) ty_sc3 (by rfl)) rfl ?_); clear hS a; intro a hS
          refine L_op (s_e hS (e_assign rfl) rfl ?_); clear hS a; intro a hS
          refine L_op (s_e hS (e_assign rfl) rfl ?_); clear hS a; intro a hS
          refine L_nil ?_
          refine n_then ?_
          refine wp_ret ?_
          refine c_retN hS Try.results72 (.cons (.tmp rfl) (.cons (.tmp rfl) .nil)) rfl ?_
          exact issue_fin (sv := .slice p its.length cs) (hS.get (X := .blk bw [v71] 56) (by repeat constructor)) (hS.get (X := ownA 119 13 v71 (0 + its.length + 1) _) (by repeat constructor)) (by first | rw [if_pos hc60] | rw [if_neg hc60]) (hS.get (X := ownA 148 4 (.slice (some ⟨g51, 0, none⟩) l.length c51) l.length (l.flatMap encL)) (by repeat constructor)) (hS.get (X := rlnA its) (by repeat constructor)) hS.chg (hS.mine (ownA 119 13 v71 (0 + its.length + 1) _) (by repeat constructor) rfl) (hS.mine (ownA 148 4 (.slice (some ⟨g51, 0, none⟩) l.length c51) l.length (l.flatMap encL)) (by repeat constructor) rfl g51 rfl)
    ·
      refine Z_op (i := 20) rfl (want_none a hS.sl) (listed' := [true, true, true, true, true, true, true, true, true, true, true, true, true, false, true, true, true, true, true, false, true, false]) rfl (s_alloc hS ty_z119 rfl ?_); clear hS a; (try clear w); intro a w b20 hS
      refine Z_and hS (sub_cons (by repeat constructor) sub_nil) ?_
      replace hS := hS.swap (X := .blk b49 [] 148) (Y := ownA 148 4 (.slice (some ⟨b49, 0, none⟩) 0 0) 0 []) (by repeat constructor) (own_empty (hS.get (X := .blk b49 [] 148) (by repeat constructor))) (fun b hb => by simpa [ownA, Asn.F, Value.ownBlock, eq_comm] using hb) rfl
      refine Z_one (i := 13) rfl (want_none a hS.sl) (listed' := [true, true, true, true, true, true, true, true, true, true, true, true, true, true, true, true, true, true, true, false, true, false]) rfl (by kernel_rfl) (s_append hS rfl rfl ty_sl112 ty_sz148 ty_by148 ty_z148 rfl rfl rfl (by repeat constructor) (flat_len encL 4 (fun _ => rfl) l) (row_flat (show RowAt br off 4 (l.map encL) w from hS.get (X := rowP (some (br, off)) 4 (l.map encL)) (by repeat constructor))) (linesOne l) (by omega) (fun _ => (by repeat constructor)) ?_); clear hS a; (try clear w); intro v51 a w hv51 hS
      rw [Nat.zero_add, List.nil_append] at hS
      obtain ⟨g51, c51, rfl⟩ := own_some (hS.get (X := ownA 148 4 v51 l.length (l.flatMap encL)) (by repeat constructor)) (fun e => by cases (hv51.1 e).1)
      refine Z_and hS (sub_cons (by repeat constructor) sub_nil) ?_
      refine Z_take0 (i := 19) hS rfl want_none (e_build ty_z119 ty_pl119 (.one rfl rfl rfl (by repeat constructor) (.one rfl rfl rfl (by repeat constructor) (.one rfl rfl rfl (by repeat constructor) (.one rfl rfl rfl (by repeat constructor) (.one rfl rfl rfl (by repeat constructor) (.one rfl rfl rfl (by repeat constructor) (.one rfl rfl rfl (by repeat constructor) (.one rfl rfl rfl (by repeat constructor) (.one rfl rfl rfl (by repeat constructor) (.one rfl rfl rfl (by repeat constructor) (.one rfl rfl rfl (by repeat constructor) .nil)))))))))))) (listed' := [true, true, true, true, true, true, true, true, true, true, true, true, true, true, true, true, true, true, true, true, true, false]) rfl (by kernel_rfl) (by kernel_rfl) (by kernel_rfl) (fun _ _ _ h => h) rfl ?_; clear hS a; intro a hS
      refine Z_one (i := 21) rfl (want_none a hS.sl) (listed' := [true, true, true, true, true, true, true, true, true, true, true, true, true, true, true, true, true, true, true, true, true, true]) rfl (by kernel_rfl) (s_storeA hS rfl rfl ty_sz119 (by repeat constructor) (by rfl) (by rfl) (by rfl) ?_); clear hS; (try clear w); intro w hS
      refine Z_last (by simp) ?_
      refine Z_done (by kernel_rfl) ?_
      refine n_then ?_
      refine c_seq ?_
      refine c_seq ?_
      refine c_region ?_
      first | (refine L_op (s_e hS (e_fa0 rfl ty_fo119_9) rfl ?_); clear hS a; intro a hS) | (refine L_op (s_e hS (e_faK rfl ty_fo119_9) rfl ?_); clear hS a; intro a hS)
      refine L_op (s_e hS (e_load rfl (by repeat constructor) ty_sc3 (by rfl)) rfl ?_); clear hS a; intro a hS
      refine L_op (s_e hS (e_bin rfl rfl rfl) rfl ?_); clear hS a; intro a hS
      refine L_nil ?_
      refine n_then ?_
      first | refine c_ifD hS rfl (fun hc60 => ?_) (fun hc60 => ?_) | refine c_if hS rfl (fun hc60 => ?_) (fun hc60 => ?_)
      ·
        refine c_region ?_
        first | (refine L_op (s_e hS (e_fa0 rfl ty_fo119_12) rfl ?_); clear hS a; intro a hS) | (refine L_op (s_e hS (e_faK rfl ty_fo119_12) rfl ?_); clear hS a; intro a hS)
        refine L_op (s_store hS rfl rfl rfl ty_sz3 (by repeat constructor) (by repeat constructor) ?_); clear hS; (try clear w); intro w hS
        refine L_nil ?_
        refine n_then ?_
        refine c_seq ?_
        refine c_drawS [12] (by kernel_rfl) hS (sub_cons (X := .blk bw _ _) (by repeat constructor) (sub_cons (X := .blk b20 _ _) (by repeat constructor) sub_nil)) ?_; clear hS; (try clear w); intro w hS
        simp only [List.length_cons, List.length_nil, Nat.zero_add, Nat.reduceAdd, List.replicate]
        refine Z_take0 (i := 0) hS rfl want_none (e_move rfl) (listed' := [true, false, false, false, false, false, false, false, false, false, false, false, false]) rfl (by kernel_rfl) (by kernel_rfl) (by kernel_rfl) (fun _ _ _ h => h) rfl ?_; clear hS a; intro a hS
        refine Z_take0 (i := 2) hS rfl want_none (e_move rfl) (listed' := [true, false, true, false, false, false, false, false, false, false, false, false, false]) rfl (by kernel_rfl) (by kernel_rfl) (by kernel_rfl) (fun _ _ _ h => h) rfl ?_; clear hS a; intro a hS
        refine Z_take0 (i := 3) hS rfl want_none (e_nilCheck rfl) (listed' := [true, false, true, true, false, false, false, false, false, false, false, false, false]) rfl (by kernel_rfl) (by kernel_rfl) (by kernel_rfl) (fun _ _ _ h => h) rfl ?_; clear hS a; intro a hS
        first | (refine Z_take0 (i := 4) hS rfl want_none (e_fa0 rfl ty_fo56_0) (listed' := [true, false, true, true, true, false, false, false, false, false, false, false, false]) rfl (by kernel_rfl) (by kernel_rfl) (by kernel_rfl) (fun _ _ _ h => h) rfl ?_; clear hS a; intro a hS) | (refine Z_take0 (i := 4) hS rfl want_none (e_faK rfl ty_fo56_0) (listed' := [true, false, true, true, true, false, false, false, false, false, false, false, false]) rfl (by kernel_rfl) (by kernel_rfl) (by kernel_rfl) (fun _ _ _ h => h) rfl ?_; clear hS a; intro a hS)
        refine Z_take (i := 5) hS rfl want_none (e_load rfl (by repeat constructor) ty_sc54 (by rfl)) (listed' := [true, false, true, true, true, true, false, false, false, false, false, false, false]) rfl (by kernel_rfl) (by kernel_rfl) (by kernel_rfl) (by kernel_rfl) (by kernel_rfl) (sub_cons (by repeat constructor) (sub_cons (by repeat constructor) sub_nil)) (fun _ _ _ h => h) rfl ?_; clear hS a; intro a hS
        refine Z_take (i := 7) hS rfl want_none (e_loadA rfl (by repeat constructor) ty_st119 ty_sz119 (by rfl)) (listed' := [true, false, true, true, true, true, false, true, false, false, false, false, false]) rfl (by kernel_rfl) (by kernel_rfl) (by kernel_rfl) (by kernel_rfl) (by kernel_rfl) (sub_cons (by repeat constructor) (sub_cons (by repeat constructor) sub_nil)) (fun _ _ _ h => h) rfl ?_; clear hS a; intro a hS
        refine Z_many (j := 1) (js := [8]) (by kernel_rfl) ⟨?_, ?_, trivial⟩
        ·
          refine Z_op (i := 1) rfl (want_none a hS.sl) (listed' := [true, true, true, true, true, true, false, true, false, false, false, false, false]) rfl (s_bslice hS ty_sl54 ty_sz119 ty_z119 rfl rfl rfl rfl .nil rfl ?_); clear hS a; (try clear w); intro a w b63 hS
          refine Z_and hS (sub_cons (by repeat constructor) (sub_cons (by repeat constructor) sub_nil)) ?_
          refine Z_many (j := 6) (js := [8]) (by kernel_rfl) ⟨?_, ?_, trivial⟩
          ·
            replace hS := hS.swap (X := .blk b63 [] 119) (Y := ownA 119 13 (.slice (some ⟨b63, 0, none⟩) 0 0) 0 []) (by repeat constructor) (own_empty (hS.get (X := .blk b63 [] 119) (by repeat constructor))) (fun b hb => by simpa [ownA, Asn.F, Value.ownBlock, eq_comm] using hb) rfl
            refine Z_op (i := 6) rfl (want_none a hS.sl) (listed' := [true, true, true, true, true, true, true, true, false, false, false, false, false]) rfl (s_appendQ hS rfl rfl ty_sl54 ty_sz119 ty_by119 ty_z119 rfl rfl rfl (by repeat constructor) (flat_len encA 13 (fun _ => rfl) its) (hhd (hS.get (X := ownA 119 13 (.slice p its.length cs) its.length (its.flatMap encA)) (by repeat constructor))) (encA_one its) (by omega) (fun _ => (by repeat constructor)) ?_); clear hS a; (try clear w); intro v68 a w hv68 hS
            refine Z_and hS (sub_cons (by repeat constructor) (sub_cons (by repeat constructor) sub_nil)) ?_
            refine Z_one (i := 8) rfl (want_none a hS.sl) (listed' := [true, true, true, true, true, true, true, true, true, false, false, false, false]) rfl (by kernel_rfl) (s_bslice hS ty_sl54 ty_sz119 ty_z119 rfl rfl rfl rfl (.agg rfl rfl .nil) rfl ?_); clear hS a; (try clear w); intro a w b70 hS
            refine Z_and hS (sub_cons (by repeat constructor) (sub_cons (by repeat constructor) sub_nil)) ?_
            refine Z_one (i := 9) rfl (want_none a hS.sl) (listed' := [true, true, true, true, true, true, true, true, true, true, false, false, false]) rfl (by kernel_rfl) (s_append1 hS rfl rfl ty_sl54 ty_sz119 ty_by119 ty_z119 rfl rfl rfl (by repeat constructor) (by repeat constructor) (by rfl) (by rfl) (fun _ => (by repeat constructor)) (by omega) ?_); clear hS a; (try clear w); intro v71 a w hv71 hS
            have h71 : isOne v71 = true := by
              obtain ⟨q71, c71, e71⟩ := own_slice (hS.get (X := ownA 119 13 v71 (0 + its.length + 1) _) (by repeat constructor))
              rw [e71]; rfl
            refine Z_and hS (sub_cons (by repeat constructor) (sub_cons (by repeat constructor) sub_nil)) ?_
            refine Z_take0 (i := 10) hS rfl want_none (e_nilCheck rfl) (listed' := [true, true, true, true, true, true, true, true, true, true, true, false, false]) rfl (by kernel_rfl) (by kernel_rfl) (by kernel_rfl) (fun _ _ _ h => h) rfl ?_; clear hS a; intro a hS
            first | (refine Z_take0 (i := 11) hS rfl want_none (e_fa0 rfl ty_fo56_0) (listed' := [true, true, true, true, true, true, true, true, true, true, true, true, false]) rfl (by kernel_rfl) (by kernel_rfl) (by kernel_rfl) (fun _ _ _ h => h) rfl ?_; clear hS a; intro a hS) | (refine Z_take0 (i := 11) hS rfl want_none (e_faK rfl ty_fo56_0) (listed' := [true, true, true, true, true, true, true, true, true, true, true, true, false]) rfl (by kernel_rfl) (by kernel_rfl) (by kernel_rfl) (fun _ _ _ h => h) rfl ?_; clear hS a; intro a hS)
            refine Z_one (i := 12) rfl (want_none a hS.sl) (listed' := [true, true, true, true, true, true, true, true, true, true, true, true, true]) rfl (by kernel_rfl) (s_store hS rfl rfl h71 ty_sz54 (by repeat constructor) (by repeat constructor) ?_); clear hS; (try clear w); intro w hS
            refine Z_last (by simp) ?_
            refine Z_done (by kernel_rfl) ?_
            refine n_then ?_
            refine c_seq ?_
            refine c_region ?_
            first | (refine L_op (s_e hS (e_fa0 rfl ty_fo119_0) rfl ?_); clear hS a; intro a hS) | (refine L_op (s_e hS (e_faK rfl ty_fo119_0) rfl ?_); clear hS a; intro a hS)
            refine L_op (s_e hS (e_load rfl (by repeat constructor) ty_sc3 (by rfl)) rfl ?_); clear hS a; intro a hS
            refine L_op (s_e hS (e_assign rfl) rfl ?_); clear hS a; intro a hS
            refine L_op (s_e hS (e_assign rfl) rfl ?_); clear hS a; intro a hS
            refine L_nil ?_
            refine n_then ?_
            refine wp_ret ?_
            refine c_retN hS Try.results72 (.cons (.tmp rfl) (.cons (.tmp rfl) .nil)) rfl ?_
            exact issue_fin (sv := .slice p its.length cs) (hS.get (X := .blk bw [v71] 56) (by repeat constructor)) (hS.get (X := ownA 119 13 v71 (0 + its.length + 1) _) (by repeat constructor)) (by first | rw [if_pos hc60] | rw [if_neg hc60]) (hS.get (X := ownA 148 4 (.slice (some ⟨g51, 0, none⟩) l.length c51) l.length (l.flatMap encL)) (by repeat constructor)) (hS.get (X := rlnA its) (by repeat constructor)) hS.chg (hS.mine (ownA 119 13 v71 (0 + its.length + 1) _) (by repeat constructor) rfl) (hS.mine (ownA 148 4 (.slice (some ⟨g51, 0, none⟩) l.length c51) l.length (l.flatMap encL)) (by repeat constructor) rfl g51 rfl)
          ·
            refine Z_op (i := 8) rfl (want_none a hS.sl) (listed' := [true, true, true, true, true, true, false, true, true, false, false, false, false]) rfl (s_bslice hS ty_sl54 ty_sz119 ty_z119 rfl rfl rfl rfl (.agg rfl rfl .nil) rfl ?_); clear hS a; (try clear w); intro a w b70 hS
            refine Z_and hS (sub_cons (by repeat constructor) (sub_cons (by repeat constructor) sub_nil)) ?_
            replace hS := hS.swap (X := .blk b63 [] 119) (Y := ownA 119 13 (.slice (some ⟨b63, 0, none⟩) 0 0) 0 []) (by repeat constructor) (own_empty (hS.get (X := .blk b63 [] 119) (by repeat constructor))) (fun b hb => by simpa [ownA, Asn.F, Value.ownBlock, eq_comm] using hb) rfl
            refine Z_one (i := 6) rfl (want_none a hS.sl) (listed' := [true, true, true, true, true, true, true, true, true, false, false, false, false]) rfl (by kernel_rfl) (s_appendQ hS rfl rfl ty_sl54 ty_sz119 ty_by119 ty_z119 rfl rfl rfl (by repeat constructor) (flat_len encA 13 (fun _ => rfl) its) (hhd (hS.get (X := ownA 119 13 (.slice p its.length cs) its.length (its.flatMap encA)) (by repeat constructor))) (encA_one its) (by omega) (fun _ => (by repeat constructor)) ?_); clear hS a; (try clear w); intro v68 a w hv68 hS
            refine Z_and hS (sub_cons (by repeat constructor) (sub_cons (by repeat constructor) sub_nil)) ?_
            refine Z_one (i := 9) rfl (want_none a hS.sl) (listed' := [true, true, true, true, true, true, true, true, true, true, false, false, false]) rfl (by kernel_rfl) (s_append1 hS rfl rfl ty_sl54 ty_sz119 ty_by119 ty_z119 rfl rfl rfl (by repeat constructor) (by repeat constructor) (by rfl) (by rfl) (fun _ => (by repeat constructor)) (by omega) ?_); clear hS a; (try clear w); intro v71 a w hv71 hS
            have h71 : isOne v71 = true := by
              obtain ⟨q71, c71, e71⟩ := own_slice (hS.get (X := ownA 119 13 v71 (0 + its.length + 1) _) (by repeat constructor))
              rw [e71]; rfl
            refine Z_and hS (sub_cons (by repeat constructor) (sub_cons (by repeat constructor) sub_nil)) ?_
            refine Z_take0 (i := 10) hS rfl want_none (e_nilCheck rfl) (listed' := [true, true, true, true, true, true, true, true, true, true, true, false, false]) rfl (by kernel_rfl) (by kernel_rfl) (by kernel_rfl) (fun _ _ _ h => h) rfl ?_; clear hS a; intro a hS
            first | (refine Z_take0 (i := 11) hS rfl want_none (e_fa0 rfl ty_fo56_0) (listed' := [true, true, true, true, true, true, true, true, true, true, true, true, false]) rfl (by kernel_rfl) (by kernel_rfl) (by kernel_rfl) (fun _ _ _ h => h) rfl ?_; clear hS a; intro a hS) | (refine Z_take0 (i := 11) hS rfl want_none (e_faK rfl ty_fo56_0) (listed' := [true, true, true, true, true, true, true, true, true, true, true, true, false]) rfl (by kernel_rfl) (by kernel_rfl) (by kernel_rfl) (fun _ _ _ h => h) rfl ?_; clear hS a; intro a hS)
            refine Z_one (i := 12) rfl (want_none a hS.sl) (listed' := [true, true, true, true, true, true, true, true, true, true, true, true, true]) rfl (by kernel_rfl) (s_store hS rfl rfl h71 ty_sz54 (by repeat constructor) (by repeat constructor) ?_); clear hS; (try clear w); intro w hS
            refine Z_last (by simp) ?_
            refine Z_done (by kernel_rfl) ?_
            refine n_then ?_
            refine c_seq ?_
            refine c_region ?_
            first | (refine L_op (s_e hS (e_fa0 rfl ty_fo119_0) rfl ?_); clear hS a; intro a hS) | (refine L_op (s_e hS (e_faK rfl ty_fo119_0) rfl ?_); clear hS a; intro a hS)
            refine L_op (s_e hS (e_load rfl (by repeat constructor) ty_sc3 (by rfl)) rfl ?_); clear hS a; intro a hS
            refine L_op (s_e hS (e_assign rfl) rfl ?_); clear hS a; intro a hS
            refine L_op (s_e hS (e_assign rfl) rfl ?_); clear hS a; intro a hS
            refine L_nil ?_
            refine n_then ?_
            refine wp_ret ?_
            refine c_retN hS Try.results72 (.cons (.tmp rfl) (.cons (.tmp rfl) .nil)) rfl ?_
            exact issue_fin (sv := .slice p its.length cs) (hS.get (X := .blk bw [v71] 56) (by repeat constructor)) (hS.get (X := ownA 119 13 v71 (0 + its.length + 1) _) (by repeat constructor)) (by first | rw [if_pos hc60] | rw [if_neg hc60]) (hS.get (X := ownA 148 4 (.slice (some ⟨g51, 0, none⟩) l.length c51) l.length (l.flatMap encL)) (by repeat constructor)) (hS.get (X := rlnA its) (by repeat constructor)) hS.chg (hS.mine (ownA 119 13 v71 (0 + its.length + 1) _) (by repeat constructor) rfl) (hS.mine (ownA 148 4 (.slice (some ⟨g51, 0, none⟩) l.length c51) l.length (l.flatMap encL)) (by repeat constructor) rfl g51 rfl)
        ·
          refine Z_op (i := 8) rfl (want_none a hS.sl) (listed' := [true, false, true, true, true, true, false, true, true, false, false, false, false]) rfl (s_bslice hS ty_sl54 ty_sz119 ty_z119 rfl rfl rfl rfl (.agg rfl rfl .nil) rfl ?_); clear hS a; (try clear w); intro a w b70 hS
          refine Z_and hS (sub_cons (by repeat constructor) (sub_cons (by repeat constructor) sub_nil)) ?_
          refine Z_one (i := 1) rfl (want_none a hS.sl) (listed' := [true, true, true, true, true, true, false, true, true, false, false, false, false]) rfl (by kernel_rfl) (s_bslice hS ty_sl54 ty_sz119 ty_z119 rfl rfl rfl rfl .nil rfl ?_); clear hS a; (try clear w); intro a w b63 hS
          refine Z_and hS (sub_cons (by repeat constructor) (sub_cons (by repeat constructor) sub_nil)) ?_
          replace hS := hS.swap (X := .blk b63 [] 119) (Y := ownA 119 13 (.slice (some ⟨b63, 0, none⟩) 0 0) 0 []) (by repeat constructor) (own_empty (hS.get (X := .blk b63 [] 119) (by repeat constructor))) (fun b hb => by simpa [ownA, Asn.F, Value.ownBlock, eq_comm] using hb) rfl
          refine Z_one (i := 6) rfl (want_none a hS.sl) (listed' := [true, true, true, true, true, true, true, true, true, false, false, false, false]) rfl (by kernel_rfl) (s_appendQ hS rfl rfl ty_sl54 ty_sz119 ty_by119 ty_z119 rfl rfl rfl (by repeat constructor) (flat_len encA 13 (fun _ => rfl) its) (hhd (hS.get (X := ownA 119 13 (.slice p its.length cs) its.length (its.flatMap encA)) (by repeat constructor))) (encA_one its) (by omega) (fun _ => (by repeat constructor)) ?_); clear hS a; (try clear w); intro v68 a w hv68 hS
          refine Z_and hS (sub_cons (by repeat constructor) (sub_cons (by repeat constructor) sub_nil)) ?_
          refine Z_one (i := 9) rfl (want_none a hS.sl) (listed' := [true, true, true, true, true, true, true, true, true, true, false, false, false]) rfl (by kernel_rfl) (s_append1 hS rfl rfl ty_sl54 ty_sz119 ty_by119 ty_z119 rfl rfl rfl (by repeat constructor) (by repeat constructor) (by rfl) (by rfl) (fun _ => (by repeat constructor)) (by omega) ?_); clear hS a; (try clear w); intro v71 a w hv71 hS
          have h71 : isOne v71 = true := by
            obtain ⟨q71, c71, e71⟩ := own_slice (hS.get (X := ownA 119 13 v71 (0 + its.length + 1) _) (by repeat constructor))
            rw [e71]; rfl
          refine Z_and hS (sub_cons (by repeat constructor) (sub_cons (by repeat constructor) sub_nil)) ?_
          refine Z_take0 (i := 10) hS rfl want_none (e_nilCheck rfl) (listed' := [true, true, true, true, true, true, true, true, true, true, true, false, false]) rfl (by kernel_rfl) (by kernel_rfl) (by kernel_rfl) (fun _ _ _ h => h) rfl ?_; clear hS a; intro a hS
          first | (refine Z_take0 (i := 11) hS rfl want_none (e_fa0 rfl ty_fo56_0) (listed' := [true, true, true, true, true, true, true, true, true, true, true, true, false]) rfl (by kernel_rfl) (by kernel_rfl) (by kernel_rfl) (fun _ _ _ h => h) rfl ?_; clear hS a; intro a hS) | (refine Z_take0 (i := 11) hS rfl want_none (e_faK rfl ty_fo56_0) (listed' := [true, true, true, true, true, true, true, true, true, true, true, true, false]) rfl (by kernel_rfl) (by kernel_rfl) (by kernel_rfl) (fun _ _ _ h => h) rfl ?_; clear hS a; intro a hS)
          refine Z_one (i := 12) rfl (want_none a hS.sl) (listed' := [true, true, true, true, true, true, true, true, true, true, true, true, true]) rfl (by kernel_rfl) (s_store hS rfl rfl h71 ty_sz54 (by repeat constructor) (by repeat constructor) ?_); clear hS; (try clear w); intro w hS
          refine Z_last (by simp) ?_
          refine Z_done (by kernel_rfl) ?_
          refine n_then ?_
          refine c_seq ?_
          refine c_region ?_
          first | (refine L_op (s_e hS (e_fa0 rfl ty_fo119_0) rfl ?_); clear hS a; intro a hS) | (refine L_op (s_e hS (e_faK rfl ty_fo119_0) rfl ?_); clear hS a; intro a hS)
          refine L_op (s_e hS (e_load rfl (by repeat constructor) ty_sc3 (by rfl)) rfl ?_); clear hS a; intro a hS
          refine L_op (s_e hS (e_assign rfl) rfl ?_); clear hS a; intro a hS
          refine L_op (s_e hS (e_assign rfl) rfl ?_); clear hS a; intro a hS
          refine L_nil ?_
          refine n_then ?_
          refine wp_ret ?_
          refine c_retN hS Try.results72 (.cons (.tmp rfl) (.cons (.tmp rfl) .nil)) rfl ?_
          exact issue_fin (sv := .slice p its.length cs) (hS.get (X := .blk bw [v71] 56) (by repeat constructor)) (hS.get (X := ownA 119 13 v71 (0 + its.length + 1) _) (by repeat constructor)) (by first | rw [if_pos hc60] | rw [if_neg hc60]) (hS.get (X := ownA 148 4 (.slice (some ⟨g51, 0, none⟩) l.length c51) l.length (l.flatMap encL)) (by repeat constructor)) (hS.get (X := rlnA its) (by repeat constructor)) hS.chg (hS.mine (ownA 119 13 v71 (0 + its.length + 1) _) (by repeat constructor) rfl) (hS.mine (ownA 148 4 (.slice (some ⟨g51, 0, none⟩) l.length c51) l.length (l.flatMap encL)) (by repeat constructor) rfl g51 rfl)
      ·
        refine wp_skip ?_
        refine n_then ?_
        refine c_seq ?_
        refine c_drawS [12] (by kernel_rfl) hS (sub_cons (X := .blk bw _ _) (by repeat constructor) (sub_cons (X := .blk b20 _ _) (by repeat constructor) sub_nil)) ?_; clear hS; (try clear w); intro w hS
        simp only [List.length_cons, List.length_nil, Nat.zero_add, Nat.reduceAdd, List.replicate]
        refine Z_take0 (i := 0) hS rfl want_none (e_move rfl) (listed' := [true, false, false, false, false, false, false, false, false, false, false, false, false]) rfl (by kernel_rfl) (by kernel_rfl) (by kernel_rfl) (fun _ _ _ h => h) rfl ?_; clear hS a; intro a hS
        refine Z_take0 (i := 2) hS rfl want_none (e_move rfl) (listed' := [true, false, true, false, false, false, false, false, false, false, false, false, false]) rfl (by kernel_rfl) (by kernel_rfl) (by kernel_rfl) (fun _ _ _ h => h) rfl ?_; clear hS a; intro a hS
        refine Z_take0 (i := 3) hS rfl want_none (e_nilCheck rfl) (listed' := [true, false, true, true, false, false, false, false, false, false, false, false, false]) rfl (by kernel_rfl) (by kernel_rfl) (by kernel_rfl) (fun _ _ _ h => h) rfl ?_; clear hS a; intro a hS
        first | (refine Z_take0 (i := 4) hS rfl want_none (e_fa0 rfl ty_fo56_0) (listed' := [true, false, true, true, true, false, false, false, false, false, false, false, false]) rfl (by kernel_rfl) (by kernel_rfl) (by kernel_rfl) (fun _ _ _ h => h) rfl ?_; clear hS a; intro a hS) | (refine Z_take0 (i := 4) hS rfl want_none (e_faK rfl ty_fo56_0) (listed' := [true, false, true, true, true, false, false, false, false, false, false, false, false]) rfl (by kernel_rfl) (by kernel_rfl) (by kernel_rfl) (fun _ _ _ h => h) rfl ?_; clear hS a; intro a hS)
        refine Z_take (i := 5) hS rfl want_none (e_load rfl (by repeat constructor) ty_sc54 (by rfl)) (listed' := [true, false, true, true, true, true, false, false, false, false, false, false, false]) rfl (by kernel_rfl) (by kernel_rfl) (by kernel_rfl) (by kernel_rfl) (by kernel_rfl) (sub_cons (by repeat constructor) (sub_cons (by repeat constructor) sub_nil)) (fun _ _ _ h => h) rfl ?_; clear hS a; intro a hS
        refine Z_take (i := 7) hS rfl want_none (e_loadA rfl (by repeat constructor) ty_st119 ty_sz119 (by rfl)) (listed' := [true, false, true, true, true, true, false, true, false, false, false, false, false]) rfl (by kernel_rfl) (by kernel_rfl) (by kernel_rfl) (by kernel_rfl) (by kernel_rfl) (sub_cons (by repeat constructor) (sub_cons (by repeat constructor) sub_nil)) (fun _ _ _ h => h) rfl ?_; clear hS a; intro a hS
        refine Z_many (j := 1) (js := [8]) (by kernel_rfl) ⟨?_, ?_, trivial⟩
        ·
          refine Z_op (i := 1) rfl (want_none a hS.sl) (listed' := [true, true, true, true, true, true, false, true, false, false, false, false, false]) rfl (s_bslice hS ty_sl54 ty_sz119 ty_z119 rfl rfl rfl rfl .nil rfl ?_); clear hS a; (try clear w); intro a w b63 hS
          refine Z_and hS (sub_cons (by repeat constructor) (sub_cons (by repeat constructor) sub_nil)) ?_
          refine Z_many (j := 6) (js := [8]) (by kernel_rfl) ⟨?_, ?_, trivial⟩
          ·
            replace hS := hS.swap (X := .blk b63 [] 119) (Y := ownA 119 13 (.slice (some ⟨b63, 0, none⟩) 0 0) 0 []) (by repeat constructor) (own_empty (hS.get (X := .blk b63 [] 119) (by repeat constructor))) (fun b hb => by simpa [ownA, Asn.F, Value.ownBlock, eq_comm] using hb) rfl
            refine Z_op (i := 6) rfl (want_none a hS.sl) (listed' := [true, true, true, true, true, true, true, true, false, false, false, false, false]) rfl (s_appendQ hS rfl rfl ty_sl54 ty_sz119 ty_by119 ty_z119 rfl rfl rfl (by repeat constructor) (flat_len encA 13 (fun _ => rfl) its) (hhd (hS.get (X := ownA 119 13 (.slice p its.length cs) its.length (its.flatMap encA)) (by repeat constructor))) (encA_one its) (by omega) (fun _ => (by repeat constructor)) ?_); clear hS a; (try clear w); intro v68 a w hv68 hS
            refine Z_and hS (sub_cons (by repeat constructor) (sub_cons (by repeat constructor) sub_nil)) ?_
            refine Z_one (i := 8) rfl (want_none a hS.sl) (listed' := [true, true, true, true, true, true, true, true, true, false, false, false, false]) rfl (by kernel_rfl) (s_bslice hS ty_sl54 ty_sz119 ty_z119 rfl rfl rfl rfl (.agg rfl rfl .nil) rfl ?_); clear hS a; (try clear w); intro a w b70 hS
            refine Z_and hS (sub_cons (by repeat constructor) (sub_cons (by repeat constructor) sub_nil)) ?_
            refine Z_one (i := 9) rfl (want_none a hS.sl) (listed' := [true, true, true, true, true, true, true, true, true, true, false, false, false]) rfl (by kernel_rfl) (s_append1 hS rfl rfl ty_sl54 ty_sz119 ty_by119 ty_z119 rfl rfl rfl (by repeat constructor) (by repeat constructor) (by rfl) (by rfl) (fun _ => (by repeat constructor)) (by omega) ?_); clear hS a; (try clear w); intro v71 a w hv71 hS
            have h71 : isOne v71 = true := by
              obtain ⟨q71, c71, e71⟩ := own_slice (hS.get (X := ownA 119 13 v71 (0 + its.length + 1) _) (by repeat constructor))
              rw [e71]; rfl
            refine Z_and hS (sub_cons (by repeat constructor) (sub_cons (by repeat constructor) sub_nil)) ?_
            refine Z_take0 (i := 10) hS rfl want_none (e_nilCheck rfl) (listed' := [true, true, true, true, true, true, true, true, true, true, true, false, false]) rfl (by kernel_rfl) (by kernel_rfl) (by kernel_rfl) (fun _ _ _ h => h) rfl ?_; clear hS a; intro a hS
            first | (refine Z_take0 (i := 11) hS rfl want_none (e_fa0 rfl ty_fo56_0) (listed' := [true, true, true, true, true, true, true, true, true, true, true, true, false]) rfl (by kernel_rfl) (by kernel_rfl) (by kernel_rfl) (fun _ _ _ h => h) rfl ?_; clear hS a; intro a hS) | (refine Z_take0 (i := 11) hS rfl want_none (e_faK rfl ty_fo56_0) (listed' := [true, true, true, true, true, true, true, true, true, true, true, true, false]) rfl (by kernel_rfl) (by kernel_rfl) (by kernel_rfl) (fun _ _ _ h => h) rfl ?_; clear hS a; intro a hS)
            refine Z_one (i := 12) rfl (want_none a hS.sl) (listed' := [true, true, true, true, true, true, true, true, true, true, true, true, true]) rfl (by kernel_rfl) (s_store hS rfl rfl h71 ty_sz54 (by repeat constructor) (by repeat constructor) ?_); clear hS; (try clear w); intro w hS
            refine Z_last (by simp) ?_
            refine Z_done (by kernel_rfl) ?_
            refine n_then ?_
            refine c_seq ?_
            refine c_region ?_
            first | (refine L_op (s_e hS (e_fa0 rfl ty_fo119_0) rfl ?_); clear hS a; intro a hS) | (refine L_op (s_e hS (e_faK rfl ty_fo119_0) rfl ?_); clear hS a; intro a hS)
            refine L_op (s_e hS (e_load rfl (by repeat constructor) ty_sc3 (by rfl)) rfl ?_); clear hS a; intro a hS
            refine L_op (s_e hS (e_assign rfl) rfl ?_); clear hS a; intro a hS
            refine L_op (s_e hS (e_assign rfl) rfl ?_); clear hS a; intro a hS
            refine L_nil ?_
            refine n_then ?_
            refine wp_ret ?_
            refine c_retN hS Try.results72 (.cons (.tmp rfl) (.cons (.tmp rfl) .nil)) rfl ?_
            exact issue_fin (sv := .slice p its.length cs) (hS.get (X := .blk bw [v71] 56) (by repeat constructor)) (hS.get (X := ownA 119 13 v71 (0 + its.length + 1) _) (by repeat constructor)) (by first | rw [if_pos hc60] | rw [if_neg hc60]) (hS.get (X := ownA 148 4 (.slice (some ⟨g51, 0, none⟩) l.length c51) l.length (l.flatMap encL)) (by repeat constructor)) (hS.get (X := rlnA its) (by repeat constructor)) hS.chg (hS.mine (ownA 119 13 v71 (0 + its.length + 1) _) (by repeat constructor) rfl) (hS.mine (ownA 148 4 (.slice (some ⟨g51, 0, none⟩) l.length c51) l.length (l.flatMap encL)) (by repeat constructor) rfl g51 rfl)
          ·
            refine Z_op (i := 8) rfl (want_none a hS.sl) (listed' := [true, true, true, true, true, true, false, true, true, false, false, false, false]) rfl (s_bslice hS ty_sl54 ty_sz119 ty_z119 rfl rfl rfl rfl (.agg rfl rfl .nil) rfl ?_); clear hS a; (try clear w); intro a w b70 hS
            refine Z_and hS (sub_cons (by repeat constructor) (sub_cons (by repeat constructor) sub_nil)) ?_
            replace hS := hS.swap (X := .blk b63 [] 119) (Y := ownA 119 13 (.slice (some ⟨b63, 0, none⟩) 0 0) 0 []) (by repeat constructor) (own_empty (hS.get (X := .blk b63 [] 119) (by repeat constructor))) (fun b hb => by simpa [ownA, Asn.F, Value.ownBlock, eq_comm] using hb) rfl
            refine Z_one (i := 6) rfl (want_none a hS.sl) (listed' := [true, true, true, true, true, true, true, true, true, false, false, false, false]) rfl (by kernel_rfl) (s_appendQ hS rfl rfl ty_sl54 ty_sz119 ty_by119 ty_z119 rfl rfl rfl (by repeat constructor) (flat_len encA 13 (fun _ => rfl) its) (hhd (hS.get (X := ownA 119 13 (.slice p its.length cs) its.length (its.flatMap encA)) (by repeat constructor))) (encA_one its) (by omega) (fun _ => (by repeat constructor)) ?_); clear hS a; (try clear w); intro v68 a w hv68 hS
            refine Z_and hS (sub_cons (by repeat constructor) (sub_cons (by repeat constructor) sub_nil)) ?_
            refine Z_one (i := 9) rfl (want_none a hS.sl) (listed' := [true, true, true, true, true, true, true, true, true, true, false, false, false]) rfl (by kernel_rfl) (s_append1 hS rfl rfl ty_sl54 ty_sz119 ty_by119 ty_z119 rfl rfl rfl (by repeat constructor) (by repeat constructor) (by rfl) (by rfl) (fun _ => (by repeat constructor)) (by omega) ?_); clear hS a; (try clear w); intro v71 a w hv71 hS
            have h71 : isOne v71 = true := by
              obtain ⟨q71, c71, e71⟩ := own_slice (hS.get (X := ownA 119 13 v71 (0 + its.length + 1) _) (by repeat constructor))
              rw [e71]; rfl
            refine Z_and hS (sub_cons (by repeat constructor) (sub_cons (by repeat constructor) sub_nil)) ?_
            refine Z_take0 (i := 10) hS rfl want_none (e_nilCheck rfl) (listed' := [true, true, true, true, true, true, true, true, true, true, true, false, false]) rfl (by kernel_rfl) (by kernel_rfl) (by kernel_rfl) (fun _ _ _ h => h) rfl ?_; clear hS a; intro a hS
            first | (refine Z_take0 (i := 11) hS rfl want_none (e_fa0 rfl ty_fo56_0) (listed' := [true, true, true, true, true, true, true, true, true, true, true, true, false]) rfl (by kernel_rfl) (by kernel_rfl) (by kernel_rfl) (fun _ _ _ h => h) rfl ?_; clear hS a; intro a hS) | (refine Z_take0 (i := 11) hS rfl want_none (e_faK rfl ty_fo56_0) (listed' := [true, true, true, true, true, true, true, true, true, true, true, true, false]) rfl (by kernel_rfl) (by kernel_rfl) (by kernel_rfl) (fun _ _ _ h => h) rfl ?_; clear hS a; intro a hS)
            refine Z_one (i := 12) rfl (want_none a hS.sl) (listed' := [true, true, true, true, true, true, true, true, true, true, true, true, true]) rfl (by kernel_rfl) (s_store hS rfl rfl h71 ty_sz54 (by repeat constructor) (by repeat constructor) ?_); clear hS; (try clear w); intro w hS
            refine Z_last (by simp) ?_
            refine Z_done (by kernel_rfl) ?_
            refine n_then ?_
            refine c_seq ?_
            refine c_region ?_
            first | (refine L_op (s_e hS (e_fa0 rfl ty_fo119_0) rfl ?_); clear hS a; intro a hS) | (refine L_op (s_e hS (e_faK rfl ty_fo119_0) rfl ?_); clear hS a; intro a hS)
            refine L_op (s_e hS (e_load rfl (by repeat constructor) ty_sc3 (by rfl)) rfl ?_); clear hS a; intro a hS
            refine L_op (s_e hS (e_assign rfl) rfl ?_); clear hS a; intro a hS
            refine L_op (s_e hS (e_assign rfl) rfl ?_); clear hS a; intro a hS
            refine L_nil ?_
            refine n_then ?_
            refine wp_ret ?_
            refine c_retN hS Try.results72 (.cons (.tmp rfl) (.cons (.tmp rfl) .nil)) rfl ?_
            exact issue_fin (sv := .slice p its.length cs) (hS.get (X := .blk bw [v71] 56) (by repeat constructor)) (hS.get (X := ownA 119 13 v71 (0 + its.length + 1) _) (by repeat constructor)) (by first | rw [if_pos hc60] | rw [if_neg hc60]) (hS.get (X := ownA 148 4 (.slice (some ⟨g51, 0, none⟩) l.length c51) l.length (l.flatMap encL)) (by repeat constructor)) (hS.get (X := rlnA its) (by repeat constructor)) hS.chg (hS.mine (ownA 119 13 v71 (0 + its.length + 1) _) (by repeat constructor) rfl) (hS.mine (ownA 148 4 (.slice (some ⟨g51, 0, none⟩) l.length c51) l.length (l.flatMap encL)) (by repeat constructor) rfl g51 rfl)
        ·
          refine Z_op (i := 8) rfl (want_none a hS.sl) (listed' := [true, false, true, true, true, true, false, true, true, false, false, false, false]) rfl (s_bslice hS ty_sl54 ty_sz119 ty_z119 rfl rfl rfl rfl (.agg rfl rfl .nil) rfl ?_); clear hS a; (try clear w); intro a w b70 hS
          refine Z_and hS (sub_cons (by repeat constructor) (sub_cons (by repeat constructor) sub_nil)) ?_
          refine Z_one (i := 1) rfl (want_none a hS.sl) (listed' := [true, true, true, true, true, true, false, true, true, false, false, false, false]) rfl (by kernel_rfl) (s_bslice hS ty_sl54 ty_sz119 ty_z119 rfl rfl rfl rfl .nil rfl ?_); clear hS a; (try clear w); intro a w b63 hS
          refine Z_and hS (sub_cons (by repeat constructor) (sub_cons (by repeat constructor) sub_nil)) ?_
          replace hS := hS.swap (X := .blk b63 [] 119) (Y := ownA 119 13 (.slice (some ⟨b63, 0, none⟩) 0 0) 0 []) (by repeat constructor) (own_empty (hS.get (X := .blk b63 [] 119) (by repeat constructor))) (fun b hb => by simpa [ownA, Asn.F, Value.ownBlock, eq_comm] using hb) rfl
          refine Z_one (i := 6) rfl (want_none a hS.sl) (listed' := [true, true, true, true, true, true, true, true, true, false, false, false, false]) rfl (by kernel_rfl) (s_appendQ hS rfl rfl ty_sl54 ty_sz119 ty_by119 ty_z119 rfl rfl rfl (by repeat constructor) (flat_len encA 13 (fun _ => rfl) its) (hhd (hS.get (X := ownA 119 13 (.slice p its.length cs) its.length (its.flatMap encA)) (by repeat constructor))) (encA_one its) (by omega) (fun _ => (by repeat constructor)) ?_); clear hS a; (try clear w); intro v68 a w hv68 hS
          refine Z_and hS (sub_cons (by repeat constructor) (sub_cons (by repeat constructor) sub_nil)) ?_
          refine Z_one (i := 9) rfl (want_none a hS.sl) (listed' := [true, true, true, true, true, true, true, true, true, true, false, false, false]) rfl (by kernel_rfl) (s_append1 hS rfl rfl ty_sl54 ty_sz119 ty_by119 ty_z119 rfl rfl rfl (by repeat constructor) (by repeat constructor) (by rfl) (by rfl) (fun _ => (by repeat constructor)) (by omega) ?_); clear hS a; (try clear w); intro v71 a w hv71 hS
          have h71 : isOne v71 = true := by
            obtain ⟨q71, c71, e71⟩ := own_slice (hS.get (X := ownA 119 13 v71 (0 + its.length + 1) _) (by repeat constructor))
            rw [e71]; rfl
          refine Z_and hS (sub_cons (by repeat constructor) (sub_cons (by repeat constructor) sub_nil)) ?_
          refine Z_take0 (i := 10) hS rfl want_none (e_nilCheck rfl) (listed' := [true, true, true, true, true, true, true, true, true, true, true, false, false]) rfl (by kernel_rfl) (by kernel_rfl) (by kernel_rfl) (fun _ _ _ h => h) rfl ?_; clear hS a; intro a hS
          first | (refine Z_take0 (i := 11) hS rfl want_none (e_fa0 rfl ty_fo56_0) (listed' := [true, true, true, true, true, true, true, true, true, true, true, true, false]) rfl (by kernel_rfl) (by kernel_rfl) (by kernel_rfl) (fun _ _ _ h => h) rfl ?_; clear hS a; intro a hS) | (refine Z_take0 (i := 11) hS rfl want_none (e_faK rfl ty_fo56_0) (listed' := [true, true, true, true, true, true, true, true, true, true, true, true, false]) rfl (by kernel_rfl) (by kernel_rfl) (by kernel_rfl) (fun _ _ _ h => h) rfl ?_; clear hS a; intro a hS)
          refine Z_one (i := 12) rfl (want_none a hS.sl) (listed' := [true, true, true, true, true, true, true, true, true, true, true, true, true]) rfl (by kernel_rfl) (s_store hS rfl rfl h71 ty_sz54 (by repeat constructor) (by repeat constructor) ?_); clear hS; (try clear w); intro w hS
          refine Z_last (by simp) ?_
          refine Z_done (by kernel_rfl) ?_
          refine n_then ?_
          refine c_seq ?_
          refine c_region ?_
          first | (refine L_op (s_e hS (e_fa0 rfl ty_fo119_0) rfl ?_); clear hS a; intro a hS) | (refine L_op (s_e hS (e_faK rfl ty_fo119_0) rfl ?_); clear hS a; intro a hS)
          refine L_op (s_e hS (e_load rfl (by repeat constructor) ty_sc3 (by rfl)) rfl ?_); clear hS a; intro a hS
          refine L_op (s_e hS (e_assign rfl) rfl ?_); clear hS a; intro a hS
          refine L_op (s_e hS (e_assign rfl) rfl ?_); clear hS a; intro a hS
          refine L_nil ?_
          refine n_then ?_
          refine wp_ret ?_
          refine c_retN hS Try.results72 (.cons (.tmp rfl) (.cons (.tmp rfl) .nil)) rfl ?_
          exact issue_fin (sv := .slice p its.length cs) (hS.get (X := .blk bw [v71] 56) (by repeat constructor)) (hS.get (X := ownA 119 13 v71 (0 + its.length + 1) _) (by repeat constructor)) (by first | rw [if_pos hc60] | rw [if_neg hc60]) (hS.get (X := ownA 148 4 (.slice (some ⟨g51, 0, none⟩) l.length c51) l.length (l.flatMap encL)) (by repeat constructor)) (hS.get (X := rlnA its) (by repeat constructor)) hS.chg (hS.mine (ownA 119 13 v71 (0 + its.length + 1) _) (by repeat constructor) rfl) (hS.mine (ownA 148 4 (.slice (some ⟨g51, 0, none⟩) l.length c51) l.length (l.flatMap encL)) (by repeat constructor) rfl g51 rfl)
  ·
    refine Z_op (i := 20) rfl (want_none a hS.sl) (listed' := [true, true, true, true, true, true, true, true, true, true, true, false, true, false, true, true, true, true, true, false, true, false]) rfl (s_alloc hS ty_z119 rfl ?_); clear hS a; (try clear w); intro a w b20 hS
    refine Z_and hS (sub_cons (by repeat constructor) sub_nil) ?_
    refine Z_one (i := 11) rfl (want_none a hS.sl) (listed' := [true, true, true, true, true, true, true, true, true, true, true, true, true, false, true, true, true, true, true, false, true, false]) rfl (by kernel_rfl) (s_bslice hS ty_sl112 ty_sz148 ty_z148 rfl rfl rfl rfl .nil rfl ?_); clear hS a; (try clear w); intro a w b49 hS
    refine Z_and hS (sub_cons (by repeat constructor) sub_nil) ?_
    replace hS := hS.swap (X := .blk b49 [] 148) (Y := ownA 148 4 (.slice (some ⟨b49, 0, none⟩) 0 0) 0 []) (by repeat constructor) (own_empty (hS.get (X := .blk b49 [] 148) (by repeat constructor))) (fun b hb => by simpa [ownA, Asn.F, Value.ownBlock, eq_comm] using hb) rfl
    refine Z_one (i := 13) rfl (want_none a hS.sl) (listed' := [true, true, true, true, true, true, true, true, true, true, true, true, true, true, true, true, true, true, true, false, true, false]) rfl (by kernel_rfl) (s_append hS rfl rfl ty_sl112 ty_sz148 ty_by148 ty_z148 rfl rfl rfl (by repeat constructor) (flat_len encL 4 (fun _ => rfl) l) (row_flat (show RowAt br off 4 (l.map encL) w from hS.get (X := rowP (some (br, off)) 4 (l.map encL)) (by repeat constructor))) (linesOne l) (by omega) (fun _ => (by repeat constructor)) ?_); clear hS a; (try clear w); intro v51 a w hv51 hS
    rw [Nat.zero_add, List.nil_append] at hS
    obtain ⟨g51, c51, rfl⟩ := own_some (hS.get (X := ownA 148 4 v51 l.length (l.flatMap encL)) (by repeat constructor)) (fun e => by cases (hv51.1 e).1)
    refine Z_and hS (sub_cons (by repeat constructor) sub_nil) ?_
    refine Z_take0 (i := 19) hS rfl want_none (e_build ty_z119 ty_pl119 (.one rfl rfl rfl (by repeat constructor) (.one rfl rfl rfl (by repeat constructor) (.one rfl rfl rfl (by repeat constructor) (.one rfl rfl rfl (by repeat constructor) (.one rfl rfl rfl (by repeat constructor) (.one rfl rfl rfl (by repeat constructor) (.one rfl rfl rfl (by repeat constructor) (.one rfl rfl rfl (by repeat constructor) (.one rfl rfl rfl (by repeat constructor) (.one rfl rfl rfl (by repeat constructor) (.one rfl rfl rfl (by repeat constructor) .nil)))))))))))) (listed' := [true, true, true, true, true, true, true, true, true, true, true, true, true, true, true, true, true, true, true, true, true, false]) rfl (by kernel_rfl) (by kernel_rfl) (by kernel_rfl) (fun _ _ _ h => h) rfl ?_; clear hS a; intro a hS
    refine Z_one (i := 21) rfl (want_none a hS.sl) (listed' := [true, true, true, true, true, true, true, true, true, true, true, true, true, true, true, true, true, true, true, true, true, true]) rfl (by kernel_rfl) (s_storeA hS rfl rfl ty_sz119 (by repeat constructor) (by rfl) (by rfl) (by rfl) ?_); clear hS; (try clear w); intro w hS
    refine Z_last (by simp) ?_
    refine Z_done (by kernel_rfl) ?_
    refine n_then ?_
    refine c_seq ?_
    refine c_seq ?_
    refine c_region ?_
    first | (refine L_op (s_e hS (e_fa0 rfl ty_fo119_9) rfl ?_); clear hS a; intro a hS) | (refine L_op (s_e hS (e_faK rfl ty_fo119_9) rfl ?_); clear hS a; intro a hS)
    refine L_op (s_e hS (e_load rfl (by repeat constructor) ty_sc3 (by rfl)) rfl ?_); clear hS a; intro a hS
    refine L_op (s_e hS (e_bin rfl rfl rfl) rfl ?_); clear hS a; intro a hS
    refine L_nil ?_
    refine n_then ?_
    first | refine c_ifD hS rfl (fun hc60 => ?_) (fun hc60 => ?_) | refine c_if hS rfl (fun hc60 => ?_) (fun hc60 => ?_)
    ·
      refine c_region ?_
      first | (refine L_op (s_e hS (e_fa0 rfl ty_fo119_12) rfl ?_); clear hS a; intro a hS) | (refine L_op (s_e hS (e_faK rfl ty_fo119_12) rfl ?_); clear hS a; intro a hS)
      refine L_op (s_store hS rfl rfl rfl ty_sz3 (by repeat constructor) (by repeat constructor) ?_); clear hS; (try clear w); intro w hS
      refine L_nil ?_
      refine n_then ?_
      refine c_seq ?_
      refine c_drawS [12] (by kernel_rfl) hS (sub_cons (X := .blk bw _ _) (by repeat constructor) (sub_cons (X := .blk b20 _ _) (by repeat constructor) sub_nil)) ?_; clear hS; (try clear w); intro w hS
      simp only [List.length_cons, List.length_nil, Nat.zero_add, Nat.reduceAdd, List.replicate]
      refine Z_take0 (i := 0) hS rfl want_none (e_move rfl) (listed' := [true, false, false, false, false, false, false, false, false, false, false, false, false]) rfl (by kernel_rfl) (by kernel_rfl) (by kernel_rfl) (fun _ _ _ h => h) rfl ?_; clear hS a; intro a hS
      refine Z_take0 (i := 2) hS rfl want_none (e_move rfl) (listed' := [true, false, true, false, false, false, false, false, false, false, false, false, false]) rfl (by kernel_rfl) (by kernel_rfl) (by kernel_rfl) (fun _ _ _ h => h) rfl ?_; clear hS a; intro a hS
      refine Z_take0 (i := 3) hS rfl want_none (e_nilCheck rfl) (listed' := [true, false, true, true, false, false, false, false, false, false, false, false, false]) rfl (by kernel_rfl) (by kernel_rfl) (by kernel_rfl) (fun _ _ _ h => h) rfl ?_; clear hS a; intro a hS
      first | (refine Z_take0 (i := 4) hS rfl want_none (e_fa0 rfl ty_fo56_0) (listed' := [true, false, true, true, true, false, false, false, false, false, false, false, false]) rfl (by kernel_rfl) (by kernel_rfl) (by kernel_rfl) (fun _ _ _ h => h) rfl ?_; clear hS a; intro a hS) | (refine Z_take0 (i := 4) hS rfl want_none (e_faK rfl ty_fo56_0) (listed' := [true, false, true, true, true, false, false, false, false, false, false, false, false]) rfl (by kernel_rfl) (by kernel_rfl) (by kernel_rfl) (fun _ _ _ h => h) rfl ?_; clear hS a; intro a hS)
      refine Z_take (i := 5) hS rfl want_none (e_load rfl (by repeat constructor) ty_sc54 (by rfl)) (listed' := [true, false, true, true, true, true, false, false, false, false, false, false, false]) rfl (by kernel_rfl) (by kernel_rfl) (by kernel_rfl) (by kernel_rfl) (by kernel_rfl) (sub_cons (by repeat constructor) (sub_cons (by repeat constructor) sub_nil)) (fun _ _ _ h => h) rfl ?_; clear hS a; intro a hS
      refine Z_take (i := 7) hS rfl want_none (e_loadA rfl (by repeat constructor) ty_st119 ty_sz119 (by rfl)) (listed' := [true, false, true, true, true, true, false, true, false, false, false, false, false]) rfl (by kernel_rfl) (by kernel_rfl) (by kernel_rfl) (by kernel_rfl) (by kernel_rfl) (sub_cons (by repeat constructor) (sub_cons (by repeat constructor) sub_nil)) (fun _ _ _ h => h) rfl ?_; clear hS a; intro a hS
      refine Z_many (j := 1) (js := [8]) (by kernel_rfl) ⟨?_, ?_, trivial⟩
      ·
        refine Z_op (i := 1) rfl (want_none a hS.sl) (listed' := [true, true, true, true, true, true, false, true, false, false, false, false, false]) rfl (s_bslice hS ty_sl54 ty_sz119 ty_z119 rfl rfl rfl rfl .nil rfl ?_); clear hS a; (try clear w); intro a w b63 hS
        refine Z_and hS (sub_cons (by repeat constructor) (sub_cons (by repeat constructor) sub_nil)) ?_
        refine Z_many (j := 6) (js := [8]) (by kernel_rfl) ⟨?_, ?_, trivial⟩
        ·
          replace hS := hS.swap (X := .blk b63 [] 119) (Y := ownA 119 13 (.slice (some ⟨b63, 0, none⟩) 0 0) 0 []) (by repeat constructor) (own_empty (hS.get (X := .blk b63 [] 119) (by repeat constructor))) (fun b hb => by simpa [ownA, Asn.F, Value.ownBlock, eq_comm] using hb) rfl
          refine Z_op (i := 6) rfl (want_none a hS.sl) (listed' := [true, true, true, true, true, true, true, true, false, false, false, false, false]) rfl (s_appendQ hS rfl rfl ty_sl54 ty_sz119 ty_by119 ty_z119 rfl rfl rfl (by repeat constructor) (flat_len encA 13 (fun _ => rfl) its) (hhd (hS.get (X := ownA 119 13 (.slice p its.length cs) its.length (its.flatMap encA)) (by repeat constructor))) (encA_one its) (by omega) (fun _ => (by repeat constructor)) ?_); clear hS a; (try clear w); intro v68 a w hv68 hS
          refine Z_and hS (sub_cons (by repeat constructor) (sub_cons (by repeat constructor) sub_nil)) ?_
          refine Z_one (i := 8) rfl (want_none a hS.sl) (listed' := [true, true, true, true, true, true, true, true, true, false, false, false, false]) rfl (by kernel_rfl) (s_bslice hS ty_sl54 ty_sz119 ty_z119 rfl rfl rfl rfl (.agg rfl rfl .nil) rfl ?_); clear hS a; (try clear w); intro a w b70 hS
          refine Z_and hS (sub_cons (by repeat constructor) (sub_cons (by repeat constructor) sub_nil)) ?_
          refine Z_one (i := 9) rfl (want_none a hS.sl) (listed' := [true, true, true, true, true, true, true, true, true, true, false, false, false]) rfl (by kernel_rfl) (s_append1 hS rfl rfl ty_sl54 ty_sz119 ty_by119 ty_z119 rfl rfl rfl (by repeat constructor) (by repeat constructor) (by rfl) (by rfl) (fun _ => (by repeat constructor)) (by omega) ?_); clear hS a; (try clear w); intro v71 a w hv71 hS
          have h71 : isOne v71 = true := by
            obtain ⟨q71, c71, e71⟩ := own_slice (hS.get (X := ownA 119 13 v71 (0 + its.length + 1) _) (by repeat constructor))
            rw [e71]; rfl
          refine Z_and hS (sub_cons (by repeat constructor) (sub_cons (by repeat constructor) sub_nil)) ?_
          refine Z_take0 (i := 10) hS rfl want_none (e_nilCheck rfl) (listed' := [true, true, true, true, true, true, true, true, true, true, true, false, false]) rfl (by kernel_rfl) (by kernel_rfl) (by kernel_rfl) (fun _ _ _ h => h) rfl ?_; clear hS a; intro a hS
          first | (refine Z_take0 (i := 11) hS rfl want_none (e_fa0 rfl ty_fo56_0) (listed' := [true, true, true, true, true, true, true, true, true, true, true, true, false]) rfl (by kernel_rfl) (by kernel_rfl) (by kernel_rfl) (fun _ _ _ h => h) rfl ?_; clear hS a; intro a hS) | (refine Z_take0 (i := 11) hS rfl want_none (e_faK rfl ty_fo56_0) (listed' := [true, true, true, true, true, true, true, true, true, true, true, true, false]) rfl (by kernel_rfl) (by kernel_rfl) (by kernel_rfl) (fun _ _ _ h => h) rfl ?_; clear hS a; intro a hS)
          refine Z_one (i := 12) rfl (want_none a hS.sl) (listed' := [true, true, true, true, true, true, true, true, true, true, true, true, true]) rfl (by kernel_rfl) (s_store hS rfl rfl h71 ty_sz54 (by repeat constructor) (by repeat constructor) ?_); clear hS; (try clear w); intro w hS
          refine Z_last (by simp) ?_
          refine Z_done (by kernel_rfl) ?_
          refine n_then ?_
          refine c_seq ?_
          refine c_region ?_
          first | (refine L_op (s_e hS (e_fa0 rfl ty_fo119_0) rfl ?_); clear hS a; intro a hS) | (refine L_op (s_e hS (e_faK rfl ty_fo119_0) rfl ?_); clear hS a; intro a hS)
          refine L_op (s_e hS (e_load rfl (by repeat constructor) ty_sc3 (by rfl)) rfl ?_); clear hS a; intro a hS
          refine L_op (s_e hS (e_assign rfl) rfl ?_); clear hS a; intro a hS
          refine L_op (s_e hS (e_assign rfl) rfl ?_); clear hS a; intro a hS
          refine L_nil ?_
          refine n_then ?_
          refine wp_ret ?_
          refine c_retN hS Try.results72 (.cons (.tmp rfl) (.cons (.tmp rfl) .nil)) rfl ?_
          exact issue_fin (sv := .slice p its.length cs) (hS.get (X := .blk bw [v71] 56) (by repeat constructor)) (hS.get (X := ownA 119 13 v71 (0 + its.length + 1) _) (by repeat constructor)) (by first | rw [if_pos hc60] | rw [if_neg hc60]) (hS.get (X := ownA 148 4 (.slice (some ⟨g51, 0, none⟩) l.length c51) l.length (l.flatMap encL)) (by repeat constructor)) (hS.get (X := rlnA its) (by repeat constructor)) hS.chg (hS.mine (ownA 119 13 v71 (0 + its.length + 1) _) (by repeat constructor) rfl) (hS.mine (ownA 148 4 (.slice (some ⟨g51, 0, none⟩) l.length c51) l.length (l.flatMap encL)) (by repeat constructor) rfl g51 rfl)
        ·
          refine Z_op (i := 8) rfl (want_none a hS.sl) (listed' := [true, true, true, true, true, true, false, true, true, false, false, false, false]) rfl (s_bslice hS ty_sl54 ty_sz119 ty_z119 rfl rfl rfl rfl (.agg rfl rfl .nil) rfl ?_); clear hS a; (try clear w); intro a w b70 hS
          refine Z_and hS (sub_cons (by repeat constructor) (sub_cons (by repeat constructor) sub_nil)) ?_
          replace hS := hS.swap (X := .blk b63 [] 119) (Y := ownA 119 13 (.slice (some ⟨b63, 0, none⟩) 0 0) 0 []) (by repeat constructor) (own_empty (hS.get (X := .blk b63 [] 119) (by repeat constructor))) (fun b hb => by simpa [ownA, Asn.F, Value.ownBlock, eq_comm] using hb) rfl
          refine Z_one (i := 6) rfl (want_none a hS.sl) (listed' := [true, true, true, true, true, true, true, true, true, false, false, false, false]) rfl (by kernel_rfl) (s_appendQ hS rfl rfl ty_sl54 ty_sz119 ty_by119 ty_z119 rfl rfl rfl (by repeat constructor) (flat_len encA 13 (fun _ => rfl) its) (hhd (hS.get (X := ownA 119 13 (.slice p its.length cs) its.length (its.flatMap encA)) (by repeat constructor))) (encA_one its) (by omega) (fun _ => (by repeat constructor)) ?_); clear hS a; (try clear w); intro v68 a w hv68 hS
          refine Z_and hS (sub_cons (by repeat constructor) (sub_cons (by repeat constructor) sub_nil)) ?_
          refine Z_one (i := 9) rfl (want_none a hS.sl) (listed' := [true, true, true, true, true, true, true, true, true, true, false, false, false]) rfl (by kernel_rfl) (s_append1 hS rfl rfl ty_sl54 ty_sz119 ty_by119 ty_z119 rfl rfl rfl (by repeat constructor) (by repeat constructor) (by rfl) (by rfl) (fun _ => (by repeat constructor)) (by omega) ?_); clear hS a; (try clear w); intro v71 a w hv71 hS
          have h71 : isOne v71 = true := by
            obtain ⟨q71, c71, e71⟩ := own_slice (hS.get (X := ownA 119 13 v71 (0 + its.length + 1) _) (by repeat constructor))
            rw [e71]; rfl
          refine Z_and hS (sub_cons (by repeat constructor) (sub_cons (by repeat constructor) sub_nil)) ?_
          refine Z_take0 (i := 10) hS rfl want_none (e_nilCheck rfl) (listed' := [true, true, true, true, true, true, true, true, true, true, true, false, false]) rfl (by kernel_rfl) (by kernel_rfl) (by kernel_rfl) (fun _ _ _ h => h) rfl ?_; clear hS a; intro a hS
          first | (refine Z_take0 (i := 11) hS rfl want_none (e_fa0 rfl ty_fo56_0) (listed' := [true, true, true, true, true, true, true, true, true, true, true, true, false]) rfl (by kernel_rfl) (by kernel_rfl) (by kernel_rfl) (fun _ _ _ h => h) rfl ?_; clear hS a; intro a hS) | (refine Z_take0 (i := 11) hS rfl want_none (e_faK rfl ty_fo56_0) (listed' := [true, true, true, true, true, true, true, true, true, true, true, true, false]) rfl (by kernel_rfl) (by kernel_rfl) (by kernel_rfl) (fun _ _ _ h => h) rfl ?_; clear hS a; intro a hS)
          refine Z_one (i := 12) rfl (want_none a hS.sl) (listed' := [true, true, true, true, true, true, true, true, true, true, true, true, true]) rfl (by kernel_rfl) (s_store hS rfl rfl h71 ty_sz54 (by repeat constructor) (by repeat constructor) ?_); clear hS; (try clear w); intro w hS
          refine Z_last (by simp) ?_
          refine Z_done (by kernel_rfl) ?_
          refine n_then ?_
          refine c_seq ?_
          refine c_region ?_
          first | (refine L_op (s_e hS (e_fa0 rfl ty_fo119_0) rfl ?_); clear hS a; intro a hS) | (refine L_op (s_e hS (e_faK rfl ty_fo119_0) rfl ?_); clear hS a; intro a hS)
          refine L_op (s_e hS (e_load rfl (by repeat constructor) ty_sc3 (by rfl)) rfl ?_); clear hS a; intro a hS
          refine L_op (s_e hS (e_assign rfl) rfl ?_); clear hS a; intro a hS
          refine L_op (s_e hS (e_assign rfl) rfl ?_); clear hS a; intro a hS
          refine L_nil ?_
          refine n_then ?_
          refine wp_ret ?_
          refine c_retN hS Try.results72 (.cons (.tmp rfl) (.cons (.tmp rfl) .nil)) rfl ?_
          exact issue_fin (sv := .slice p its.length cs) (hS.get (X := .blk bw [v71] 56) (by repeat constructor)) (hS.get (X := ownA 119 13 v71 (0 + its.length + 1) _) (by repeat constructor)) (by first | rw [if_pos hc60] | rw [if_neg hc60]) (hS.get (X := ownA 148 4 (.slice (some ⟨g51, 0, none⟩) l.length c51) l.length (l.flatMap encL)) (by repeat constructor)) (hS.get (X := rlnA its) (by repeat constructor)) hS.chg (hS.mine (ownA 119 13 v71 (0 + its.length + 1) _) (by repeat constructor) rfl) (hS.mine (ownA 148 4 (.slice (some ⟨g51, 0, none⟩) l.length c51) l.length (l.flatMap encL)) (by repeat constructor) rfl g51 rfl)
      ·
        refine Z_op (i := 8) rfl (want_none a hS.sl) (listed' := [true, false, true, true, true, true, false, true, true, false, false, false, false]) rfl (s_bslice hS ty_sl54 ty_sz119 ty_z119 rfl rfl rfl rfl (.agg rfl rfl .nil) rfl ?_); clear hS a; (try clear w); intro a w b70 hS
        refine Z_and hS (sub_cons (by repeat constructor) (sub_cons (by repeat constructor) sub_nil)) ?_
        refine Z_one (i := 1) rfl (want_none a hS.sl) (listed' := [true, true, true, true, true, true, false, true, true, false, false, false, false]) rfl (by kernel_rfl) (s_bslice hS ty_sl54 ty_sz119 ty_z119 rfl rfl rfl rfl .nil rfl ?_); clear hS a; (try clear w); intro a w b63 hS
        refine Z_and hS (sub_cons (by repeat constructor) (sub_cons (by repeat constructor) sub_nil)) ?_
        replace hS := hS.swap (X := .blk b63 [] 119) (Y := ownA 119 13 (.slice (some ⟨b63, 0, none⟩) 0 0) 0 []) (by repeat constructor) (own_empty (hS.get (X := .blk b63 [] 119) (by repeat constructor))) (fun b hb => by simpa [ownA, Asn.F, Value.ownBlock, eq_comm] using hb) rfl
        refine Z_one (i := 6) rfl (want_none a hS.sl) (listed' := [true, true, true, true, true, true, true, true, true, false, false, false, false]) rfl (by kernel_rfl) (s_appendQ hS rfl rfl ty_sl54 ty_sz119 ty_by119 ty_z119 rfl rfl rfl (by repeat constructor) (flat_len encA 13 (fun _ => rfl) its) (hhd (hS.get (X := ownA 119 13 (.slice p its.length cs) its.length (its.flatMap encA)) (by repeat constructor))) (encA_one its) (by omega) (fun _ => (by repeat constructor)) ?_); clear hS a; (try clear w); intro v68 a w hv68 hS
        refine Z_and hS (sub_cons (by repeat constructor) (sub_cons (by repeat constructor) sub_nil)) ?_
        refine Z_one (i := 9) rfl (want_none a hS.sl) (listed' := [true, true, true, true, true, true, true, true, true, true, false, false, false]) rfl (by kernel_rfl) (s_append1 hS rfl rfl ty_sl54 ty_sz119 ty_by119 ty_z119 rfl rfl rfl (by repeat constructor) (by repeat constructor) (by rfl) (by rfl) (fun _ => (by repeat constructor)) (by omega) ?_); clear hS a; (try clear w); intro v71 a w hv71 hS
        have h71 : isOne v71 = true := by
          obtain ⟨q71, c71, e71⟩ := own_slice (hS.get (X := ownA 119 13 v71 (0 + its.length + 1) _) (by repeat constructor))
          rw [e71]; rfl
        refine Z_and hS (sub_cons (by repeat constructor) (sub_cons (by repeat constructor) sub_nil)) ?_
        refine Z_take0 (i := 10) hS rfl want_none (e_nilCheck rfl) (listed' := [true, true, true, true, true, true, true, true, true, true, true, false, false]) rfl (by kernel_rfl) (by kernel_rfl) (by kernel_rfl) (fun _ _ _ h => h) rfl ?_; clear hS a; intro a hS
        first | (refine Z_take0 (i := 11) hS rfl want_none (e_fa0 rfl ty_fo56_0) (listed' := [true, true, true, true, true, true, true, true, true, true, true, true, false]) rfl (by kernel_rfl) (by kernel_rfl) (by kernel_rfl) (fun _ _ _ h => h) rfl ?_; clear hS a; intro a hS) | (refine Z_take0 (i := 11) hS rfl want_none (e_faK rfl ty_fo56_0) (listed' := [true, true, true, true, true, true, true, true, true, true, true, true, false]) rfl (by kernel_rfl) (by kernel_rfl) (by kernel_rfl) (fun _ _ _ h => h) rfl ?_; clear hS a; intro a hS)
        refine Z_one (i := 12) rfl (want_none a hS.sl) (listed' := [true, true, true, true, true, true, true, true, true, true, true, true, true]) rfl (by kernel_rfl) (s_store hS rfl rfl h71 ty_sz54 (by repeat constructor) (by repeat constructor) ?_); clear hS; (try clear w); intro w hS
        refine Z_last (by simp) ?_
        refine Z_done (by kernel_rfl) ?_
        refine n_then ?_
        refine c_seq ?_
        refine c_region ?_
        first | (refine L_op (s_e hS (e_fa0 rfl ty_fo119_0) rfl ?_); clear hS a; intro a hS) | (refine L_op (s_e hS (e_faK rfl ty_fo119_0) rfl ?_); clear hS a; intro a hS)
        refine L_op (s_e hS (e_load rfl (by repeat constructor) ty_sc3 (by rfl)) rfl ?_); clear hS a; intro a hS
        refine L_op (s_e hS (e_assign rfl) rfl ?_); clear hS a; intro a hS
        refine L_op (s_e hS (e_assign rfl) rfl ?_); clear hS a; intro a hS
        refine L_nil ?_
        refine n_then ?_
        refine wp_ret ?_
        refine c_retN hS Try.results72 (.cons (.tmp rfl) (.cons (.tmp rfl) .nil)) rfl ?_
        exact issue_fin (sv := .slice p its.length cs) (hS.get (X := .blk bw [v71] 56) (by repeat constructor)) (hS.get (X := ownA 119 13 v71 (0 + its.length + 1) _) (by repeat constructor)) (by first | rw [if_pos hc60] | rw [if_neg hc60]) (hS.get (X := ownA 148 4 (.slice (some ⟨g51, 0, none⟩) l.length c51) l.length (l.flatMap encL)) (by repeat constructor)) (hS.get (X := rlnA its) (by repeat constructor)) hS.chg (hS.mine (ownA 119 13 v71 (0 + its.length + 1) _) (by repeat constructor) rfl) (hS.mine (ownA 148 4 (.slice (some ⟨g51, 0, none⟩) l.length c51) l.length (l.flatMap encL)) (by repeat constructor) rfl g51 rfl)
    ·
      refine wp_skip ?_
      refine n_then ?_
      refine c_seq ?_
      refine c_drawS [12] (by kernel_rfl) hS (sub_cons (X := .blk bw _ _) (by repeat constructor) (sub_cons (X := .blk b20 _ _) (by repeat constructor) sub_nil)) ?_; clear hS; (try clear w); intro w hS
      simp only [List.length_cons, List.length_nil, Nat.zero_add, Nat.reduceAdd, List.replicate]
      refine Z_take0 (i := 0) hS rfl want_none (e_move rfl) (listed' := [true, false, false, false, false, false, false, false, false, false, false, false, false]) rfl (by kernel_rfl) (by kernel_rfl) (by kernel_rfl) (fun _ _ _ h => h) rfl ?_; clear hS a; intro a hS
      refine Z_take0 (i := 2) hS rfl want_none (e_move rfl) (listed' := [true, false, true, false, false, false, false, false, false, false, false, false, false]) rfl (by kernel_rfl) (by kernel_rfl) (by kernel_rfl) (fun _ _ _ h => h) rfl ?_; clear hS a; intro a hS
      refine Z_take0 (i := 3) hS rfl want_none (e_nilCheck rfl) (listed' := [true, false, true, true, false, false, false, false, false, false, false, false, false]) rfl (by kernel_rfl) (by kernel_rfl) (by kernel_rfl) (fun _ _ _ h => h) rfl ?_; clear hS a; intro a hS
      first | (refine Z_take0 (i := 4) hS rfl want_none (e_fa0 rfl ty_fo56_0) (listed' := [true, false, true, true, true, false, false, false, false, false, false, false, false]) rfl (by kernel_rfl) (by kernel_rfl) (by kernel_rfl) (fun _ _ _ h => h) rfl ?_; clear hS a; intro a hS) | (refine Z_take0 (i := 4) hS rfl want_none (e_faK rfl ty_fo56_0) (listed' := [true, false, true, true, true, false, false, false, false, false, false, false, false]) rfl (by kernel_rfl) (by kernel_rfl) (by kernel_rfl) (fun _ _ _ h => h) rfl ?_; clear hS a; intro a hS)
      refine Z_take (i := 5) hS rfl want_none (e_load rfl (by repeat constructor) ty_sc54 (by rfl)) (listed' := [true, false, true, true, true, true, false, false, false, false, false, false, false]) rfl (by kernel_rfl) (by kernel_rfl) (by kernel_rfl) (by kernel_rfl) (by kernel_rfl) (sub_cons (by repeat constructor) (sub_cons (by repeat constructor) sub_nil)) (fun _ _ _ h => h) rfl ?_; clear hS a; intro a hS
      refine Z_take (i := 7) hS rfl want_none (e_loadA rfl (by repeat constructor) ty_st119 ty_sz119 (by rfl)) (listed' := [true, false, true, true, true, true, false, true, false, false, false, false, false]) rfl (by kernel_rfl) (by kernel_rfl) (by kernel_rfl) (by kernel_rfl) (by kernel_rfl) (sub_cons (by repeat constructor) (sub_cons (by repeat constructor) sub_nil)) (fun _ _ _ h => h) rfl ?_; clear hS a; intro a hS
      refine Z_many (j := 1) (js := [8]) (by kernel_rfl) ⟨?_, ?_, trivial⟩
      ·
        refine Z_op (i := 1) rfl (want_none a hS.sl) (listed' := [true, true, true, true, true, true, false, true, false, false, false, false, false]) rfl (s_bslice hS ty_sl54 ty_sz119 ty_z119 rfl rfl rfl rfl .nil rfl ?_); clear hS a; (try clear w); intro a w b63 hS
        refine Z_and hS (sub_cons (by repeat constructor) (sub_cons (by repeat constructor) sub_nil)) ?_
        refine Z_many (j := 6) (js := [8]) (by kernel_rfl) ⟨?_, ?_, trivial⟩
        ·
          replace hS := hS.swap (X := .blk b63 [] 119) (Y := ownA 119 13 (.slice (some ⟨b63, 0, none⟩) 0 0) 0 []) (by repeat constructor) (own_empty (hS.get (X := .blk b63 [] 119) (by repeat constructor))) (fun b hb => by simpa [ownA, Asn.F, Value.ownBlock, eq_comm] using hb) rfl
          refine Z_op (i := 6) rfl (want_none a hS.sl) (listed' := [true, true, true, true, true, true, true, true, false, false, false, false, false]) rfl (s_appendQ hS rfl rfl ty_sl54 ty_sz119 ty_by119 ty_z119 rfl rfl rfl (by repeat constructor) (flat_len encA 13 (fun _ => rfl) its) (hhd (hS.get (X := ownA 119 13 (.slice p its.length cs) its.length (its.flatMap encA)) (by repeat constructor))) (encA_one its) (by omega) (fun _ => (by repeat constructor)) ?_); clear hS a; (try clear w); intro v68 a w hv68 hS
          refine Z_and hS (sub_cons (by repeat constructor) (sub_cons (by repeat constructor) sub_nil)) ?_
          refine Z_one (i := 8) rfl (want_none a hS.sl) (listed' := [true, true, true, true, true, true, true, true, true, false, false, false, false]) rfl (by kernel_rfl) (s_bslice hS ty_sl54 ty_sz119 ty_z119 rfl rfl rfl rfl (.agg rfl rfl .nil) rfl ?_); clear hS a; (try clear w); intro a w b70 hS
          refine Z_and hS (sub_cons (by repeat constructor) (sub_cons (by repeat constructor) sub_nil)) ?_
          refine Z_one (i := 9) rfl (want_none a hS.sl) (listed' := [true, true, true, true, true, true, true, true, true, true, false, false, false]) rfl (by kernel_rfl) (s_append1 hS rfl rfl ty_sl54 ty_sz119 ty_by119 ty_z119 rfl rfl rfl (by repeat constructor) (by repeat constructor) (by rfl) (by rfl) (fun _ => (by repeat constructor)) (by omega) ?_); clear hS a; (try clear w); intro v71 a w hv71 hS
          have h71 : isOne v71 = true := by
            obtain ⟨q71, c71, e71⟩ := own_slice (hS.get (X := ownA 119 13 v71 (0 + its.length + 1) _) (by repeat constructor))
            rw [e71]; rfl
          refine Z_and hS (sub_cons (by repeat constructor) (sub_cons (by repeat constructor) sub_nil)) ?_
          refine Z_take0 (i := 10) hS rfl want_none (e_nilCheck rfl) (listed' := [true, true, true, true, true, true, true, true, true, true, true, false, false]) rfl (by kernel_rfl) (by kernel_rfl) (by kernel_rfl) (fun _ _ _ h => h) rfl ?_; clear hS a; intro a hS
          first | (refine Z_take0 (i := 11) hS rfl want_none (e_fa0 rfl ty_fo56_0) (listed' := [true, true, true, true, true, true, true, true, true, true, true, true, false]) rfl (by kernel_rfl) (by kernel_rfl) (by kernel_rfl) (fun _ _ _ h => h) rfl ?_; clear hS a; intro a hS) | (refine Z_take0 (i := 11) hS rfl want_none (e_faK rfl ty_fo56_0) (listed' := [true, true, true, true, true, true, true, true, true, true, true, true, false]) rfl (by kernel_rfl) (by kernel_rfl) (by kernel_rfl) (fun _ _ _ h => h) rfl ?_; clear hS a; intro a hS)
          refine Z_one (i := 12) rfl (want_none a hS.sl) (listed' := [true, true, true, true, true, true, true, true, true, true, true, true, true]) rfl (by kernel_rfl) (s_store hS rfl rfl h71 ty_sz54 (by repeat constructor) (by repeat constructor) ?_); clear hS; (try clear w); intro w hS
          refine Z_last (by simp) ?_
          refine Z_done (by kernel_rfl) ?_
          refine n_then ?_
          refine c_seq ?_
          refine c_region ?_
          first | (refine L_op (s_e hS (e_fa0 rfl ty_fo119_0) rfl ?_); clear hS a; intro a hS) | (refine L_op (s_e hS (e_faK rfl ty_fo119_0) rfl ?_); clear hS a; intro a hS)
          refine L_op (s_e hS (e_load rfl (by repeat constructor) ty_sc3 (by rfl)) rfl ?_); clear hS a; intro a hS
          refine L_op (s_e hS (e_assign rfl) rfl ?_); clear hS a; intro a hS
          refine L_op (s_e hS (e_assign rfl) rfl ?_); clear hS a; intro a hS
          refine L_nil ?_
          refine n_then ?_
          refine wp_ret ?_
          refine c_retN hS Try.results72 (.cons (.tmp rfl) (.cons (.tmp rfl) .nil)) rfl ?_
          exact issue_fin (sv := .slice p its.length cs) (hS.get (X := .blk bw [v71] 56) (by repeat constructor)) (hS.get (X := ownA 119 13 v71 (0 + its.length + 1) _) (by repeat constructor)) (by first | rw [if_pos hc60] | rw [if_neg hc60]) (hS.get (X := ownA 148 4 (.slice (some ⟨g51, 0, none⟩) l.length c51) l.length (l.flatMap encL)) (by repeat constructor)) (hS.get (X := rlnA its) (by repeat constructor)) hS.chg (hS.mine (ownA 119 13 v71 (0 + its.length + 1) _) (by repeat constructor) rfl) (hS.mine (ownA 148 4 (.slice (some ⟨g51, 0, none⟩) l.length c51) l.length (l.flatMap encL)) (by repeat constructor) rfl g51 rfl)
        ·
          refine Z_op (i := 8) rfl (want_none a hS.sl) (listed' := [true, true, true, true, true, true, false, true, true, false, false, false, false]) rfl (s_bslice hS ty_sl54 ty_sz119 ty_z119 rfl rfl rfl rfl (.agg rfl rfl .nil) rfl ?_); clear hS a; (try clear w); intro a w b70 hS
          refine Z_and hS (sub_cons (by repeat constructor) (sub_cons (by repeat constructor) sub_nil)) ?_
          replace hS := hS.swap (X := .blk b63 [] 119) (Y := ownA 119 13 (.slice (some ⟨b63, 0, none⟩) 0 0) 0 []) (by repeat constructor) (own_empty (hS.get (X := .blk b63 [] 119) (by repeat constructor))) (fun b hb => by simpa [ownA, Asn.F, Value.ownBlock, eq_comm] using hb) rfl
          refine Z_one (i := 6) rfl (want_none a hS.sl) (listed' := [true, true, true, true, true, true, true, true, true, false, false, false, false]) rfl (by kernel_rfl) (s_appendQ hS rfl rfl ty_sl54 ty_sz119 ty_by119 ty_z119 rfl rfl rfl (by repeat constructor) (flat_len encA 13 (fun _ => rfl) its) (hhd (hS.get (X := ownA 119 13 (.slice p its.length cs) its.length (its.flatMap encA)) (by repeat constructor))) (encA_one its) (by omega) (fun _ => (by repeat constructor)) ?_); clear hS a; (try clear w); intro v68 a w hv68 hS
          refine Z_and hS (sub_cons (by repeat constructor) (sub_cons (by repeat constructor) sub_nil)) ?_
          refine Z_one (i := 9) rfl (want_none a hS.sl) (listed' := [true, true, true, true, true, true, true, true, true, true, false, false, false]) rfl (by kernel_rfl) (s_append1 hS rfl rfl ty_sl54 ty_sz119 ty_by119 ty_z119 rfl rfl rfl (by repeat constructor) (by repeat constructor) (by rfl) (by rfl) (fun _ => (by repeat constructor)) (by omega) ?_); clear hS a; (try clear w); intro v71 a w hv71 hS
          have h71 : isOne v71 = true := by
            obtain ⟨q71, c71, e71⟩ := own_slice (hS.get (X := ownA 119 13 v71 (0 + its.length + 1) _) (by repeat constructor))
            rw [e71]; rfl
          refine Z_and hS (sub_cons (by repeat constructor) (sub_cons (by repeat constructor) sub_nil)) ?_
          refine Z_take0 (i := 10) hS rfl want_none (e_nilCheck rfl) (listed' := [true, true, true, true, true, true, true, true, true, true, true, false, false]) rfl (by kernel_rfl) (by kernel_rfl) (by kernel_rfl) (fun _ _ _ h => h) rfl ?_; clear hS a; intro a hS
          first | (refine Z_take0 (i := 11) hS rfl want_none (e_fa0 rfl ty_fo56_0) (listed' := [true, true, true, true, true, true, true, true, true, true, true, true, false]) rfl (by kernel_rfl) (by kernel_rfl) (by kernel_rfl) (fun _ _ _ h => h) rfl ?_; clear hS a; intro a hS) | (refine Z_take0 (i := 11) hS rfl want_none (e_faK rfl ty_fo56_0) (listed' := [true, true, true, true, true, true, true, true, true, true, true, true, false]) rfl (by kernel_rfl) (by kernel_rfl) (by kernel_rfl) (fun _ _ _ h => h) rfl ?_; clear hS a; intro a hS)
          refine Z_one (i := 12) rfl (want_none a hS.sl) (listed' := [true, true, true, true, true, true, true, true, true, true, true, true, true]) rfl (by kernel_rfl) (s_store hS rfl rfl h71 ty_sz54 (by repeat constructor) (by repeat constructor) ?_); clear hS; (try clear w); intro w hS
          refine Z_last (by simp) ?_
          refine Z_done (by kernel_rfl) ?_
          refine n_then ?_
          refine c_seq ?_
          refine c_region ?_
          first | (refine L_op (s_e hS (e_fa0 rfl ty_fo119_0) rfl ?_); clear hS a; intro a hS) | (refine L_op (s_e hS (e_faK rfl ty_fo119_0) rfl ?_); clear hS a; intro a hS)
          refine L_op (s_e hS (e_load rfl (by repeat constructor) ty_sc3 (by rfl)) rfl ?_); clear hS a; intro a hS
          refine L_op (s_e hS (e_assign rfl) rfl ?_); clear hS a; intro a hS
          refine L_op (s_e hS (e_assign rfl) rfl ?_); clear hS a; intro a hS
          refine L_nil ?_
          refine n_then ?_
          refine wp_ret ?_
          refine c_retN hS Try.results72 (.cons (.tmp rfl) (.cons (.tmp rfl) .nil)) rfl ?_
          exact issue_fin (sv := .slice p its.length cs) (hS.get (X := .blk bw [v71] 56) (by repeat constructor)) (hS.get (X := ownA 119 13 v71 (0 + its.length + 1) _) (by repeat constructor)) (by first | rw [if_pos hc60] | rw [if_neg hc60]) (hS.get (X := ownA 148 4 (.slice (some ⟨g51, 0, none⟩) l.length c51) l.length (l.flatMap encL)) (by repeat constructor)) (hS.get (X := rlnA its) (by repeat constructor)) hS.chg (hS.mine (ownA 119 13 v71 (0 + its.length + 1) _) (by repeat constructor) rfl) (hS.mine (ownA 148 4 (.slice (some ⟨g51, 0, none⟩) l.length c51) l.length (l.flatMap encL)) (by repeat constructor) rfl g51 rfl)
      ·
        refine Z_op (i := 8) rfl (want_none a hS.sl) (listed' := [true, false, true, true, true, true, false, true, true, false, false, false, false]) rfl (s_bslice hS ty_sl54 ty_sz119 ty_z119 rfl rfl rfl rfl (.agg rfl rfl .nil) rfl ?_); clear hS a; (try clear w); intro a w b70 hS
        refine Z_and hS (sub_cons (by repeat constructor) (sub_cons (by repeat constructor) sub_nil)) ?_
        refine Z_one (i := 1) rfl (want_none a hS.sl) (listed' := [true, true, true, true, true, true, false, true, true, false, false, false, false]) rfl (by kernel_rfl) (s_bslice hS ty_sl54 ty_sz119 ty_z119 rfl rfl rfl rfl .nil rfl ?_); clear hS a; (try clear w); intro a w b63 hS
        refine Z_and hS (sub_cons (by repeat constructor) (sub_cons (by repeat constructor) sub_nil)) ?_
        replace hS := hS.swap (X := .blk b63 [] 119) (Y := ownA 119 13 (.slice (some ⟨b63, 0, none⟩) 0 0) 0 []) (by repeat constructor) (own_empty (hS.get (X := .blk b63 [] 119) (by repeat constructor))) (fun b hb => by simpa [ownA, Asn.F, Value.ownBlock, eq_comm] using hb) rfl
        refine Z_one (i := 6) rfl (want_none a hS.sl) (listed' := [true, true, true, true, true, true, true, true, true, false, false, false, false]) rfl (by kernel_rfl) (s_appendQ hS rfl rfl ty_sl54 ty_sz119 ty_by119 ty_z119 rfl rfl rfl (by repeat constructor) (flat_len encA 13 (fun _ => rfl) its) (hhd (hS.get (X := ownA 119 13 (.slice p its.length cs) its.length (its.flatMap encA)) (by repeat constructor))) (encA_one its) (by omega) (fun _ => (by repeat constructor)) ?_); clear hS a; (try clear w); intro v68 a w hv68 hS
        refine Z_and hS (sub_cons (by repeat constructor) (sub_cons (by repeat constructor) sub_nil)) ?_
        refine Z_one (i := 9) rfl (want_none a hS.sl) (listed' := [true, true, true, true, true, true, true, true, true, true, false, false, false]) rfl (by kernel_rfl) (s_append1 hS rfl rfl ty_sl54 ty_sz119 ty_by119 ty_z119 rfl rfl rfl (by repeat constructor) (by repeat constructor) (by rfl) (by rfl) (fun _ => (by repeat constructor)) (by omega) ?_); clear hS a; (try clear w); intro v71 a w hv71 hS
        have h71 : isOne v71 = true := by
          obtain ⟨q71, c71, e71⟩ := own_slice (hS.get (X := ownA 119 13 v71 (0 + its.length + 1) _) (by repeat constructor))
          rw [e71]; rfl
        refine Z_and hS (sub_cons (by repeat constructor) (sub_cons (by repeat constructor) sub_nil)) ?_
        refine Z_take0 (i := 10) hS rfl want_none (e_nilCheck rfl) (listed' := [true, true, true, true, true, true, true, true, true, true, true, false, false]) rfl (by kernel_rfl) (by kernel_rfl) (by kernel_rfl) (fun _ _ _ h => h) rfl ?_; clear hS a; intro a hS
        first | (refine Z_take0 (i := 11) hS rfl want_none (e_fa0 rfl ty_fo56_0) (listed' := [true, true, true, true, true, true, true, true, true, true, true, true, false]) rfl (by kernel_rfl) (by kernel_rfl) (by kernel_rfl) (fun _ _ _ h => h) rfl ?_; clear hS a; intro a hS) | (refine Z_take0 (i := 11) hS rfl want_none (e_faK rfl ty_fo56_0) (listed' := [true, true, true, true, true, true, true, true, true, true, true, true, false]) rfl (by kernel_rfl) (by kernel_rfl) (by kernel_rfl) (fun _ _ _ h => h) rfl ?_; clear hS a; intro a hS)
        refine Z_one (i := 12) rfl (want_none a hS.sl) (listed' := [true, true, true, true, true, true, true, true, true, true, true, true, true]) rfl (by kernel_rfl) (s_store hS rfl rfl h71 ty_sz54 (by repeat constructor) (by repeat constructor) ?_); clear hS; (try clear w); intro w hS
        refine Z_last (by simp) ?_
        refine Z_done (by kernel_rfl) ?_
        refine n_then ?_
        refine c_seq ?_
        refine c_region ?_
        first | (refine L_op (s_e hS (e_fa0 rfl ty_fo119_0) rfl ?_); clear hS a; intro a hS) | (refine L_op (s_e hS (e_faK rfl ty_fo119_0) rfl ?_); clear hS a; intro a hS)
        refine L_op (s_e hS (e_load rfl (by repeat constructor) ty_sc3 (by rfl)) rfl ?_); clear hS a; intro a hS
        refine L_op (s_e hS (e_assign rfl) rfl ?_); clear hS a; intro a hS
        refine L_op (s_e hS (e_assign rfl) rfl ?_); clear hS a; intro a hS
        refine L_nil ?_
        refine n_then ?_
        refine wp_ret ?_
        refine c_retN hS Try.results72 (.cons (.tmp rfl) (.cons (.tmp rfl) .nil)) rfl ?_
        exact issue_fin (sv := .slice p its.length cs) (hS.get (X := .blk bw [v71] 56) (by repeat constructor)) (hS.get (X := ownA 119 13 v71 (0 + its.length + 1) _) (by repeat constructor)) (by first | rw [if_pos hc60] | rw [if_neg hc60]) (hS.get (X := ownA 148 4 (.slice (some ⟨g51, 0, none⟩) l.length c51) l.length (l.flatMap encL)) (by repeat constructor)) (hS.get (X := rlnA its) (by repeat constructor)) hS.chg (hS.mine (ownA 119 13 v71 (0 + its.length + 1) _) (by repeat constructor) rfl) (hS.mine (ownA 148 4 (.slice (some ⟨g51, 0, none⟩) l.length c51) l.length (l.flatMap encL)) (by repeat constructor) rfl g51 rfl)
end Go.Proofs.Ytfiaobhkhedpiaa
