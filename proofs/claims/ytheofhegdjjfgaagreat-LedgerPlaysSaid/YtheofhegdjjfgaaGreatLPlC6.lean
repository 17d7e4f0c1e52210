/- LedgerPlays: for every argument the law returns true, and each argument reads afterwards as it read before. No conditions. (text 6 of 6) -/
import Derived.Test.YtheofhegdjjfgaaGreatLPlC5
import Derived.Deep.Slices
import Derived.Deep.Fields
import Derived.ChangeSame
import Derived.SizedLaws
import Derived.OpenShut
import Derived.Lib.SmallJoins
import Derived.Laws.LoneSync
import Derived.ProofKit
import Derived.ShutString
import Derived.ChangeOld
import Derived.Below
namespace Go.Proofs.YtheofhegdjjfgaaGreat
open Go.RowKit
theorem bal_rel {r : RS} {P : PL} (h : relR r P) (hn : (codesA P.acs).Nodup) (c : ByteArray) (t : Int) : balF (plR r) c t = balF P c t := by
  have e1 : findA (plR r).acs c = findA P.acs c := by
    have e : (plR r).acs = accsL P.acs := h.acs
    rw [e]; exact findA_accs hn c
  have e2 : sumAt (plR r) c t = sumAt P c t := by
    have e : (plR r).es = P.es := h.es
    unfold sumAt; rw [e]
  unfold balF
  rw [e1, e2]
theorem bal_val {P : PL} {t : Int} {a : Acc} (ha : a ∈ accsL P.acs) : (balF P a.code t).1.2 = valT P t a := by
  have hf : (findA P.acs a.code).isSome = true := by
    unfold findA
    rw [List.find?_isSome]
    exact ⟨a, (accs_mem ha).1, by simp⟩
  unfold balF valT
  rw [if_neg (by rw [hf]; decide), triT_of]
  by_cases hi : inst t
  · rw [if_neg (fun e => e hi), if_pos hi, show balD a.code (postsAt P.es t) = sumAt P a.code t from rfl]
    by_cases hk : okS (sumAt P a.code t)
    · have hk2 : inU (sumAt P a.code t).1 ∧ inU (sumAt P a.code t).2 := hk
      rw [if_pos hk]; unfold balV; rw [if_pos hk2]
    · have hk2 : ¬ (inU (sumAt P a.code t).1 ∧ inU (sumAt P a.code t).2) := hk
      rw [if_neg hk]; unfold balV; rw [if_neg hk2]; rfl
  · rw [if_pos hi, if_neg hi]; rfl
theorem trial_rel {r : RS} {P : PL} (h : relR r P) (hn : (codesA P.acs).Nodup) (t : Int) : trialR r t = trialF P t := by
  unfold trialR trialF
  rw [h.acs]
  refine List.map_congr_left fun a ha => ?_
  rw [bal_rel h hn, bal_val ha]; rfl
theorem duo_cell {Γ : List Asn} {B : LB} {b : Nat} {s : LS} {r : RS} {m : Bool} (hm : duoA B b s r m ∈ Γ) {k : Nat} {v : Value} (hv : (rlC r)[k]? = some v) : ∀ w, Hd Γ w → w.cell? ⟨b, k, none⟩ = some v := fun _ hh => cell_of_blk (rlφ.bk (duoφ.f (hh _ hm))) hv
theorem duo_rowA {Γ : List Asn} {B : LB} {b : Nat} {s : LS} {r : RS} {m : Bool} {g c : Nat} (hsv : r.av = .slice (some ⟨g, 0, none⟩) r.acs.length c) (hm : duoA B b s r m ∈ Γ) {i : Nat} {x : Acc} (hx : r.acs[i]? = some x) : ∀ w, Hd Γ w → ∀ j v, (encAc x)[j]? = some v → w.cell? ⟨g, 0 + i * 4 + j, none⟩ = some v := by
  intro w hh j v hj
  have h := rlφ.ra (duoφ.f (hh _ hm))
  rw [hsv] at h
  have h1 := flat_get encAc 4 (fun _ => rfl) r.acs i x hx j v hj
  have h2 := World.ownsRow.cells h (g := g) rfl _ _ h1
  rw [addr_add] at h2
  rw [← h2]; congr 2; omega
theorem duo_rowE {Γ : List Asn} {B : LB} {b : Nat} {s : LS} {r : RS} {m : Bool} {g c : Nat} (hsv : r.ev = .slice (some ⟨g, 0, none⟩) r.es.length c) (hm : duoA B b s r m ∈ Γ) {i : Nat} {x : EA} (hx : r.es[i]? = some x) : ∀ w, Hd Γ w → ∀ j v, (encE x)[j]? = some v → w.cell? ⟨g, 0 + i * 4 + j, none⟩ = some v := by
  intro w hh j v hj
  have h := rlφ.re (duoφ.f (hh _ hm))
  rw [hsv] at h
  have h1 := flat_get encE 4 (fun _ => rfl) r.es i x hx j v hj
  have h2 := World.ownsRow.cells h (g := g) rfl _ _ h1
  rw [addr_add] at h2
  rw [← h2]; congr 2; omega
set_option maxHeartbeats 4000000 in
set_option maxRecDepth 100000 in
theorem lSameAll_P (B : LB) (b : Nat) (s : LS) (r : RS) (n : Nat) (hn : n ≤ 800) (hb : both s r n) (code : ByteArray) (at_ to_ : Int) (w0 : World) (h : duoφ B b s r w0) :
    PureC Tryz.prog 12 [.pointer (some ⟨B.lb, 0, none⟩), .pointer (some ⟨b, 0, none⟩), .string code, .int .i64 at_, .int .i64 to_] w0 (.bool true) := by
  obtain ⟨hrel, hwf, hcur, hid⟩ := hb
  have hR := okR_of hwf (by omega) hrel
  have hes : s.es.length ≤ 900 := by have h1 := hwf.le; simp [pl] at h1; omega
  have hal : s.acs.length ≤ 1000 := by have h1 := hwf.la; simp [pl] at h1; omega
  have hps : ∀ x ∈ s.es, x.v.ps.length ≤ 50 := fun x hx => hwf.ps x.v (List.mem_map.2 ⟨x, hx, rfl⟩)
  have hre : r.es.map (·.v) = s.es.map (·.v) := hrel.es
  have hrel2 : r.es.length = s.es.length := by have h1 := congrArg List.length hre; simpa using h1
  have hra : r.acs = accsL s.acs := hrel.acs
  have hral : r.acs.length = s.acs.length := by rw [hra, accs_len]
  have hrc : r.closed = s.closed := hrel.closed
  have hrcu : r.cur = s.cur := hrel.cur
  have haL := accs_len s.acs
  have hbs := bal_rel hrel hwf.nod code at_
  have htr := trial_rel hrel hwf.nod at_
  have htl : (trialF (pl s) at_).length = s.acs.length := by unfold trialF; rw [List.length_map, accs_len]; rfl
  obtain ⟨pA, cA, hav, hshA⟩ := rl_shA h.f
  obtain ⟨qE, cE, hev, hshE⟩ := rl_shE h.f
  have hfa : findA r.acs code = findA s.acs code := by rw [hra]; exact findA_accs hwf.nod code
  have hac : accOf r.acs code = accOf s.acs code := by rw [hra]; exact curOf_accs hwf.nod code
  refine c_enter [(0, .pointer (some ⟨B.lb, 0, none⟩)), (1, .pointer (some ⟨b, 0, none⟩)), (2, .string code), (3, .int .i64 at_), (4, .int .i64 to_)] [duoA B b s r false] noB Tryz.func12 rfl Tryz.ntmps12 ⟨rfl, rfl, rfl, rfl, rfl, trivial⟩ rfl (okC (duo_ok false h) okN) dis1 (mineC (by rfl) mineN) ?_
  intro a hS
  refine c_seq (c_region ?_)
  refine L_e hS (e_assign rfl) rfl ?_; clear hS a; intro a hS
  refine L_nil (n_then (c_seq (c_region ?_)))
  refine L_e hS (e_move rfl) rfl ?_; clear hS a; intro a hS
  refine L_e hS (e_move rfl) rfl ?_; clear hS a; intro a hS
  refine L_e hS (e_move rfl) rfl ?_; clear hS a; intro a hS
  refine L_op (s_callP hS (.cons rfl (.cons rfl (.cons rfl .nil))) cf28 rfl (lBal_P B s code at_ (hwf.fitL (by omega)) _ (hS.get (X := duoA B b s r false) (by repeat constructor)).l) ?_); clear hS a; (try clear w); intro a w hS
  refine L_e hS (e_move rfl) rfl ?_; clear hS a; intro a hS
  refine L_e hS (e_extract rfl rfl) rfl ?_; clear hS a; intro a hS
  refine L_e hS (e_extract rfl rfl) rfl ?_; clear hS a; intro a hS
  refine L_op (s_alloc hS ty_z71 rfl ?_); clear hS a; (try clear w); intro a w b11 hS
  refine L_op (s_storeA hS rfl rfl ty_sz71 (by repeat constructor) (by rfl) (by rfl) (by rfl) ?_); clear hS; (try clear w); intro w hS
  refine L_e hS (e_assign rfl) rfl ?_; clear hS a; intro a hS
  refine L_nil (n_then (c_seq (c_region ?_)))
  refine L_e hS (e_move rfl) rfl ?_; clear hS a; intro a hS
  refine L_e hS (e_move rfl) rfl ?_; clear hS a; intro a hS
  refine L_e hS (e_move rfl) rfl ?_; clear hS a; intro a hS
  refine L_op (s_callP hS (.cons rfl (.cons rfl (.cons rfl .nil))) cf38 rfl (rlBal_P b r code at_ hR _ (hS.get (X := duoA B b s r false) (by repeat constructor)).f) ?_); clear hS a; (try clear w); intro a w hS
  rw [hbs] at hS
  generalize hX : balF (pl s) code at_ = X at hS
  obtain ⟨⟨x1, x2, x3⟩, xe⟩ := X
  dsimp only at hS
  refine L_e hS (e_move rfl) rfl ?_; clear hS a; intro a hS
  refine L_e hS (e_extract rfl rfl) rfl ?_; clear hS a; intro a hS
  refine L_e hS (e_extract rfl rfl) rfl ?_; clear hS a; intro a hS
  refine L_op (s_alloc hS ty_z92 rfl ?_); clear hS a; (try clear w); intro a w b13 hS
  refine L_op (s_storeA hS rfl rfl ty_sz92 (by repeat constructor) (by rfl) (by rfl) (by rfl) ?_); clear hS; (try clear w); intro w hS
  refine L_e hS (e_assign rfl) rfl ?_; clear hS a; intro a hS
  refine L_nil (n_then (c_seq (c_seq ?_)))
  refine c_drawS [] (by kernel_rfl) hS (sub_cons (X := .blk b11 _ _) (by repeat constructor) (sub_cons (X := .blk b13 _ _) (by repeat constructor) (sub_cons (X := duoA B b s r false) (by repeat constructor) sub_nil))) ?_; clear hS; (try clear w); intro w hS
  simp only [List.length_cons, List.length_nil, Nat.zero_add, Nat.reduceAdd, List.replicate]
  (first | refine Zt0 0 (tf 1 52) hS rfl want_none (e_fa0 rfl ty_fo71_0) rfl (by kernel_rfl) rfl ?_ | refine Zt0 0 (tf 1 52) hS rfl want_none (e_faK rfl ty_fo71_0) rfl (by kernel_rfl) rfl ?_); clear hS a; intro a hS
  refine Zt 1 (tf 2 51) hS rfl want_none (e_load rfl (by repeat constructor) ty_sc9 (by rfl)) rfl (by kernel_rfl) (sub_cons (by repeat constructor) (sub_cons (by repeat constructor) (sub_cons (by repeat constructor) sub_nil))) rfl ?_; clear hS a; intro a hS
  (first | refine Zt0 2 (tf 3 50) hS rfl want_none (e_fa0 rfl ty_fo92_0) rfl (by kernel_rfl) rfl ?_ | refine Zt0 2 (tf 3 50) hS rfl want_none (e_faK rfl ty_fo92_0) rfl (by kernel_rfl) rfl ?_); clear hS a; intro a hS
  refine Zt 3 (tf 4 49) hS rfl want_none (e_load rfl (by repeat constructor) ty_sc9 (by rfl)) rfl (by kernel_rfl) (sub_cons (by repeat constructor) (sub_cons (by repeat constructor) (sub_cons (by repeat constructor) sub_nil))) rfl ?_; clear hS a; intro a hS
  refine Zt0 4 (tf 5 48) hS rfl want_none (e_binS rfl rfl rfl) rfl (by kernel_rfl) rfl ?_; clear hS a; intro a hS
  refine Zt0 5 (tf 6 47) hS rfl want_none (e_move rfl) rfl (by kernel_rfl) rfl ?_; clear hS a; intro a hS
  replace hS := hS.is (t := 51) (c := false) rfl ((by simp))
  (first | refine Zt0 6 (tf 7 46) hS rfl (want_go rfl rfl) (e_fa0 rfl ty_fo71_1) rfl (by kernel_rfl) rfl ?_ | refine Zt0 6 (tf 7 46) hS rfl (want_go rfl rfl) (e_faK rfl ty_fo71_1) rfl (by kernel_rfl) rfl ?_); clear hS a; intro a hS
  refine Zt 7 (tf 8 45) hS rfl (want_go rfl rfl) (e_load rfl (by repeat constructor) ty_sc3 (by rfl)) rfl (by kernel_rfl) (sub_cons (by repeat constructor) (sub_cons (by repeat constructor) (sub_cons (by repeat constructor) sub_nil))) rfl ?_; clear hS a; intro a hS
  (first | refine Zt0 8 (tf 9 44) hS rfl (want_go rfl rfl) (e_fa0 rfl ty_fo92_1) rfl (by kernel_rfl) rfl ?_ | refine Zt0 8 (tf 9 44) hS rfl (want_go rfl rfl) (e_faK rfl ty_fo92_1) rfl (by kernel_rfl) rfl ?_); clear hS a; intro a hS
  refine Zt 9 (tf 10 43) hS rfl (want_go rfl rfl) (e_load rfl (by repeat constructor) ty_sc3 (by rfl)) rfl (by kernel_rfl) (sub_cons (by repeat constructor) (sub_cons (by repeat constructor) (sub_cons (by repeat constructor) sub_nil))) rfl ?_; clear hS a; intro a hS
  refine Zt0 10 (tf 11 42) hS rfl (want_go rfl rfl) (e_bin rfl rfl rfl) rfl (by kernel_rfl) rfl ?_; clear hS a; intro a hS
  refine Zt0 11 (tf 12 41) hS rfl want_none (e_pk rfl rfl) rfl (by kernel_rfl) rfl ?_; clear hS a; intro a hS
  refine Zt0 12 (tf 13 40) hS rfl want_none (e_move rfl) rfl (by kernel_rfl) rfl ?_; clear hS a; intro a hS
  replace hS := hS.is (t := 58) (c := false) rfl ((by simp))
  (first | refine Zt0 13 (tf 14 39) hS rfl (want_go rfl rfl) (e_fa0 rfl ty_fo71_2) rfl (by kernel_rfl) rfl ?_ | refine Zt0 13 (tf 14 39) hS rfl (want_go rfl rfl) (e_faK rfl ty_fo71_2) rfl (by kernel_rfl) rfl ?_); clear hS a; intro a hS
  refine Zt 14 (tf 15 38) hS rfl (want_go rfl rfl) (e_load rfl (by repeat constructor) ty_sc3 (by rfl)) rfl (by kernel_rfl) (sub_cons (by repeat constructor) (sub_cons (by repeat constructor) (sub_cons (by repeat constructor) sub_nil))) rfl ?_; clear hS a; intro a hS
  (first | refine Zt0 15 (tf 16 37) hS rfl (want_go rfl rfl) (e_fa0 rfl ty_fo92_2) rfl (by kernel_rfl) rfl ?_ | refine Zt0 15 (tf 16 37) hS rfl (want_go rfl rfl) (e_faK rfl ty_fo92_2) rfl (by kernel_rfl) rfl ?_); clear hS a; intro a hS
  refine Zt 16 (tf 17 36) hS rfl (want_go rfl rfl) (e_load rfl (by repeat constructor) ty_sc3 (by rfl)) rfl (by kernel_rfl) (sub_cons (by repeat constructor) (sub_cons (by repeat constructor) (sub_cons (by repeat constructor) sub_nil))) rfl ?_; clear hS a; intro a hS
  refine Zt0 17 (tf 18 35) hS rfl (want_go rfl rfl) (e_bin rfl rfl rfl) rfl (by kernel_rfl) rfl ?_; clear hS a; intro a hS
  refine Zt0 18 (tf 19 34) hS rfl want_none (e_pk rfl rfl) rfl (by kernel_rfl) rfl ?_; clear hS a; intro a hS
  refine Zt0 19 (tf 20 33) hS rfl want_none (e_move rfl) rfl (by kernel_rfl) rfl ?_; clear hS a; intro a hS
  replace hS := hS.is (t := 65) (c := false) rfl ((by simp))
  refine Zt0 20 (tf 21 32) hS rfl (want_go rfl rfl) (e_move rfl) rfl (by kernel_rfl) rfl ?_; clear hS a; intro a hS
  refine Zt0 22 [true, true, true, true, true, true, true, true, true, true, true, true, true, true, true, true, true, true, true, true, true, false, true, false, false, false, false, false, false, false, false, false, false, false, false, false, false, false, false, false, false, false, false, false, false, false, false, false, false, false, false, false, false] hS rfl (want_go rfl rfl) (e_move rfl) rfl (by kernel_rfl) rfl ?_; clear hS a; intro a hS
  refine Z_one (i := 21) rfl (want_go rfl rfl a hS.sl) (listed' := (tf 23 30)) rfl (by kernel_rfl) (s_callP hS (.cons rfl .nil) cf10 rfl (Num_w _ _) ?_); clear hS a; (try clear w); intro a w hS
  refine Z_and hS (sub_cons (by repeat constructor) (sub_cons (by repeat constructor) (sub_cons (by repeat constructor) sub_nil))) ?_
  refine Zt0 23 (tf 24 29) hS rfl (want_go rfl rfl) (e_bin rfl rfl rfl) rfl (by kernel_rfl) rfl ?_; clear hS a; intro a hS
  refine Zt0 24 (tf 25 28) hS rfl want_none (e_pk rfl rfl) rfl (by kernel_rfl) rfl ?_; clear hS a; intro a hS
  refine Zt0 25 (tf 26 27) hS rfl want_none (e_move rfl) rfl (by kernel_rfl) rfl ?_; clear hS a; intro a hS
  replace hS := hS.is (t := 71) (c := false) rfl ((by simp))
  refine Zt0 26 (tf 27 26) hS rfl (want_go rfl rfl) (e_move rfl) rfl (by kernel_rfl) rfl ?_; clear hS a; intro a hS
  refine Zt0 28 [true, true, true, true, true, true, true, true, true, true, true, true, true, true, true, true, true, true, true, true, true, true, true, true, true, true, true, false, true, false, false, false, false, false, false, false, false, false, false, false, false, false, false, false, false, false, false, false, false, false, false, false, false] hS rfl (want_go rfl rfl) (e_move rfl) rfl (by kernel_rfl) rfl ?_; clear hS a; intro a hS
  refine Zt0 29 [true, true, true, true, true, true, true, true, true, true, true, true, true, true, true, true, true, true, true, true, true, true, true, true, true, true, true, false, true, true, false, false, false, false, false, false, false, false, false, false, false, false, false, false, false, false, false, false, false, false, false, false, false] hS rfl (want_go rfl rfl) (e_nilCheck rfl) rfl (by kernel_rfl) rfl ?_; clear hS a; intro a hS
  (first | refine Zt0 30 [true, true, true, true, true, true, true, true, true, true, true, true, true, true, true, true, true, true, true, true, true, true, true, true, true, true, true, false, true, true, true, false, false, false, false, false, false, false, false, false, false, false, false, false, false, false, false, false, false, false, false, false, false] hS rfl (want_go rfl rfl) (e_fa0 rfl ty_fo66_3) rfl (by kernel_rfl) rfl ?_ | refine Zt0 30 [true, true, true, true, true, true, true, true, true, true, true, true, true, true, true, true, true, true, true, true, true, true, true, true, true, true, true, false, true, true, true, false, false, false, false, false, false, false, false, false, false, false, false, false, false, false, false, false, false, false, false, false, false] hS rfl (want_go rfl rfl) (e_faK rfl ty_fo66_3) rfl (by kernel_rfl) rfl ?_); clear hS a; intro a hS
  refine Zt 31 [true, true, true, true, true, true, true, true, true, true, true, true, true, true, true, true, true, true, true, true, true, true, true, true, true, true, true, false, true, true, true, true, false, false, false, false, false, false, false, false, false, false, false, false, false, false, false, false, false, false, false, false, false] hS rfl (want_go rfl rfl) (e_loadC rfl ty_sc3 (duo_cell (k := 3) (v := .int .i64 r.closed) (by repeat constructor) rfl)) rfl (by kernel_rfl) (sub_cons (by repeat constructor) (sub_cons (by repeat constructor) (sub_cons (by repeat constructor) sub_nil))) rfl ?_; clear hS a; intro a hS
  rw [hrc] at hS
  refine Z_one (i := 27) rfl (want_go rfl rfl a hS.sl) (listed' := (tf 32 21)) rfl (by kernel_rfl) (s_callP hS (.cons rfl .nil) cf33 rfl (lClosed_P B s _ (hS.get (X := duoA B b s r false) (by repeat constructor)).l) ?_); clear hS a; (try clear w); intro a w hS
  refine Z_and hS (sub_cons (by repeat constructor) (sub_cons (by repeat constructor) (sub_cons (by repeat constructor) sub_nil))) ?_
  refine Zt0 32 (tf 33 20) hS rfl (want_go rfl rfl) (e_bin rfl rfl rfl) rfl (by kernel_rfl) rfl ?_; clear hS a; intro a hS
  refine Zt0 33 (tf 34 19) hS rfl want_none (e_pk rfl rfl) rfl (by kernel_rfl) rfl ?_; clear hS a; intro a hS
  refine Zt0 34 (tf 35 18) hS rfl want_none (e_move rfl) rfl (by kernel_rfl) rfl ?_; clear hS a; intro a hS
  replace hS := hS.is (t := 80) (c := false) rfl ((by simp))
  refine Zt0 35 (tf 36 17) hS rfl (want_go rfl rfl) (e_move rfl) rfl (by kernel_rfl) rfl ?_; clear hS a; intro a hS
  refine Zt0 37 [true, true, true, true, true, true, true, true, true, true, true, true, true, true, true, true, true, true, true, true, true, true, true, true, true, true, true, true, true, true, true, true, true, true, true, true, false, true, false, false, false, false, false, false, false, false, false, false, false, false, false, false, false] hS rfl (want_go rfl rfl) (e_move rfl) rfl (by kernel_rfl) rfl ?_; clear hS a; intro a hS
  refine Zt0 38 [true, true, true, true, true, true, true, true, true, true, true, true, true, true, true, true, true, true, true, true, true, true, true, true, true, true, true, true, true, true, true, true, true, true, true, true, false, true, true, false, false, false, false, false, false, false, false, false, false, false, false, false, false] hS rfl (want_go rfl rfl) (e_nilCheck rfl) rfl (by kernel_rfl) rfl ?_; clear hS a; intro a hS
  (first | refine Zt0 39 [true, true, true, true, true, true, true, true, true, true, true, true, true, true, true, true, true, true, true, true, true, true, true, true, true, true, true, true, true, true, true, true, true, true, true, true, false, true, true, true, false, false, false, false, false, false, false, false, false, false, false, false, false] hS rfl (want_go rfl rfl) (e_fa0 rfl ty_fo66_2) rfl (by kernel_rfl) rfl ?_ | refine Zt0 39 [true, true, true, true, true, true, true, true, true, true, true, true, true, true, true, true, true, true, true, true, true, true, true, true, true, true, true, true, true, true, true, true, true, true, true, true, false, true, true, true, false, false, false, false, false, false, false, false, false, false, false, false, false] hS rfl (want_go rfl rfl) (e_faK rfl ty_fo66_2) rfl (by kernel_rfl) rfl ?_); clear hS a; intro a hS
  refine Zt 40 [true, true, true, true, true, true, true, true, true, true, true, true, true, true, true, true, true, true, true, true, true, true, true, true, true, true, true, true, true, true, true, true, true, true, true, true, false, true, true, true, true, false, false, false, false, false, false, false, false, false, false, false, false] hS rfl (want_go rfl rfl) (e_loadC rfl ty_sc64 (duo_cell (k := 2) (by repeat constructor) rfl)) rfl (by kernel_rfl) (sub_cons (by repeat constructor) (sub_cons (by repeat constructor) (sub_cons (by repeat constructor) sub_nil))) rfl ?_; clear hS a; intro a hS
  rw [hev, hrel2] at hS
  refine Zt0 41 [true, true, true, true, true, true, true, true, true, true, true, true, true, true, true, true, true, true, true, true, true, true, true, true, true, true, true, true, true, true, true, true, true, true, true, true, false, true, true, true, true, true, false, false, false, false, false, false, false, false, false, false, false] hS rfl (want_go rfl rfl) (e_len rfl rfl ty_sl64) rfl (by kernel_rfl) rfl ?_; clear hS a; intro a hS
  refine Z_one (i := 36) rfl (want_go rfl rfl a hS.sl) (listed' := (tf 42 11)) rfl (by kernel_rfl) (s_callP hS (.cons rfl .nil) cf24 rfl (lLen_P B s _ (hS.get (X := duoA B b s r false) (by repeat constructor)).l) ?_); clear hS a; (try clear w); intro a w hS
  refine Z_and hS (sub_cons (by repeat constructor) (sub_cons (by repeat constructor) (sub_cons (by repeat constructor) sub_nil))) ?_
  refine Zt0 42 (tf 43 10) hS rfl (want_go rfl rfl) (e_bin rfl rfl rfl) rfl (by kernel_rfl) rfl ?_; clear hS a; intro a hS
  refine Zt0 43 (tf 44 9) hS rfl want_none (e_pk rfl rfl) rfl (by kernel_rfl) rfl ?_; clear hS a; intro a hS
  refine Zt0 44 (tf 45 8) hS rfl want_none (e_move rfl) rfl (by kernel_rfl) rfl ?_; clear hS a; intro a hS
  replace hS := hS.is (t := 90) (c := false) rfl ((by simp))
  refine Zt0 45 (tf 46 7) hS rfl (want_go rfl rfl) (e_move rfl) rfl (by kernel_rfl) rfl ?_; clear hS a; intro a hS
  refine Zt0 47 [true, true, true, true, true, true, true, true, true, true, true, true, true, true, true, true, true, true, true, true, true, true, true, true, true, true, true, true, true, true, true, true, true, true, true, true, true, true, true, true, true, true, true, true, true, true, false, true, false, false, false, false, false] hS rfl (want_go rfl rfl) (e_move rfl) rfl (by kernel_rfl) rfl ?_; clear hS a; intro a hS
  refine Zt0 48 [true, true, true, true, true, true, true, true, true, true, true, true, true, true, true, true, true, true, true, true, true, true, true, true, true, true, true, true, true, true, true, true, true, true, true, true, true, true, true, true, true, true, true, true, true, true, false, true, true, false, false, false, false] hS rfl (want_go rfl rfl) (e_nilCheck rfl) rfl (by kernel_rfl) rfl ?_; clear hS a; intro a hS
  (first | refine Zt0 49 [true, true, true, true, true, true, true, true, true, true, true, true, true, true, true, true, true, true, true, true, true, true, true, true, true, true, true, true, true, true, true, true, true, true, true, true, true, true, true, true, true, true, true, true, true, true, false, true, true, true, false, false, false] hS rfl (want_go rfl rfl) (e_fa0 rfl ty_fo66_0) rfl (by kernel_rfl) rfl ?_ | refine Zt0 49 [true, true, true, true, true, true, true, true, true, true, true, true, true, true, true, true, true, true, true, true, true, true, true, true, true, true, true, true, true, true, true, true, true, true, true, true, true, true, true, true, true, true, true, true, true, true, false, true, true, true, false, false, false] hS rfl (want_go rfl rfl) (e_faK rfl ty_fo66_0) rfl (by kernel_rfl) rfl ?_); clear hS a; intro a hS
  refine Zt 50 [true, true, true, true, true, true, true, true, true, true, true, true, true, true, true, true, true, true, true, true, true, true, true, true, true, true, true, true, true, true, true, true, true, true, true, true, true, true, true, true, true, true, true, true, true, true, false, true, true, true, true, false, false] hS rfl (want_go rfl rfl) (e_loadC rfl ty_sc9 (duo_cell (k := 0) (v := .string r.cur) (by repeat constructor) rfl)) rfl (by kernel_rfl) (sub_cons (by repeat constructor) (sub_cons (by repeat constructor) (sub_cons (by repeat constructor) sub_nil))) rfl ?_; clear hS a; intro a hS
  rw [hrcu] at hS
  refine Z_one (i := 46) rfl (want_go rfl rfl a hS.sl) (listed' := (tf 51 2)) rfl (by kernel_rfl) (s_callP hS (.cons rfl .nil) cf39 rfl (lCurrency_P B s _ (hS.get (X := duoA B b s r false) (by repeat constructor)).l) ?_); clear hS a; (try clear w); intro a w hS
  refine Z_and hS (sub_cons (by repeat constructor) (sub_cons (by repeat constructor) (sub_cons (by repeat constructor) sub_nil))) ?_
  refine Zt0 51 (tf 52 1) hS rfl (want_go rfl rfl) (e_binS rfl rfl rfl) rfl (by kernel_rfl) rfl ?_; clear hS a; intro a hS
  refine Zt0 52 (tf 53 0) hS rfl want_none (e_pk rfl rfl) rfl (by kernel_rfl) rfl ?_; clear hS a; intro a hS
  refine Z_done (by kernel_rfl) ?_
  refine n_then ?_
  replace hS := hS.is (t := 98) (c := false) rfl ((by simp))
  refine c_if_f hS rfl ?_
  refine wp_skip (n_then (c_seq (c_region ?_)))
  refine L_e hS (e_move rfl) rfl ?_; clear hS a; intro a hS
  refine L_e hS (e_move rfl) rfl ?_; clear hS a; intro a hS
  refine L_op (s_callN hS (.cons rfl (.cons rfl .nil)) cf26 rfl (lTrial_P B s at_ (by omega) (hwf.fitL (by omega)) _ (hS.get (X := duoA B b s r false) (by repeat constructor)).l) ?_); clear hS a; (try clear w); intro x101 a w hS
  refine L_e hS (e_assign rfl) rfl ?_; clear hS a; intro a hS
  refine L_nil (n_then (c_seq (c_region ?_)))
  refine L_e hS (e_move rfl) rfl ?_; clear hS a; intro a hS
  refine L_e hS (e_move rfl) rfl ?_; clear hS a; intro a hS
  refine L_op (s_callN hS (.cons rfl (.cons rfl .nil)) cf40 rfl (rlTrial_P b r at_ hR _ (hS.get (X := duoA B b s r false) (by repeat constructor)).f) ?_); clear hS a; (try clear w); intro x104 a w hS
  rw [htr, htl] at hS
  obtain ⟨q15, c15, rfl⟩ := own_slice (hS.get (X := ownA 71 3 x101 s.acs.length ((trialF (pl s) at_).flatMap encBl)) (by repeat constructor))
  obtain ⟨q16, c16, rfl⟩ := own_slice (hS.get (X := ownA 92 3 x104 s.acs.length ((trialF (pl s) at_).flatMap encBl)) (by repeat constructor))
  refine L_e hS (e_assign rfl) rfl ?_; clear hS a; intro a hS
  refine L_nil (n_then (c_seq (c_seq (c_region ?_))))
  refine L_e hS (e_move rfl) rfl ?_; clear hS a; intro a hS
  refine L_e hS (e_len rfl rfl ty_sl68) rfl ?_; clear hS a; intro a hS
  refine L_e hS (e_move rfl) rfl ?_; clear hS a; intro a hS
  refine L_e hS (e_len rfl rfl ty_sl96) rfl ?_; clear hS a; intro a hS
  refine L_e hS (e_bin rfl rfl rfl) rfl ?_; clear hS a; intro a hS
  refine L_nil (n_then ?_)
  replace hS := hS.is (t := 109) (c := false) rfl ((by simp))
  refine c_if_f hS rfl ?_
  refine wp_skip (n_then (c_seq (c_seq (c_region ?_))))
  refine L_e hS (e_assign rfl) rfl ?_; clear hS a; intro a hS
  refine L_nil (n_then (wp_block ?_))
  skip
  refine c_loop (γ := Nat) (fun i a w => St 375 noB w0 a w [(17, .int .i64 (i : Int)), (16, .slice q16 s.acs.length c16), (15, .slice q15 s.acs.length c15), (0, .pointer (some ⟨B.lb, 0, none⟩)), (1, .pointer (some ⟨b, 0, none⟩)), (2, .string code), (3, .int .i64 at_), (4, .int .i64 to_)] [ownA 71 3 (.slice q15 s.acs.length c15) s.acs.length ((trialF (pl s) at_).flatMap encBl), ownA 92 3 (.slice q16 s.acs.length c16) s.acs.length ((trialF (pl s) at_).flatMap encBl), duoA B b s r false] ∧ i ≤ s.acs.length) (fun i => s.acs.length - i) 0 ⟨(hS.slots (by repeat (first | exact trivial | refine ⟨rfl, ?_⟩))).pick (by repeat (first | exact Pick.nil | (refine Pick.cons (by repeat (first | exact Rem.head | apply Rem.tail)) ?_))), Nat.zero_le _⟩ ?_
  clear hS a; (try clear w); intro i a w hI
  obtain ⟨hS, hi⟩ := hI
  refine c_seq (c_seq (c_region ?_))
  refine L_e hS (e_move rfl) rfl ?_; clear hS a; intro a hS
  refine L_e hS (e_move rfl) rfl ?_; clear hS a; intro a hS
  refine L_e hS (e_len rfl rfl ty_sl68) rfl ?_; clear hS a; intro a hS
  refine L_e hS (e_bin rfl rfl rfl) rfl ?_; clear hS a; intro a hS
  refine L_nil (n_then ?_)
  first | refine c_ifD hS rfl (fun hc113 => ?_) (fun hc113 => ?_) | refine c_if hS rfl (fun hc113 => ?_) (fun hc113 => ?_)
  ·
    have hil : i < s.acs.length := by omega
    obtain ⟨x, hx⟩ : ∃ x, (trialF (pl s) at_)[i]? = some x := ⟨(trialF (pl s) at_)[i]'(by omega), List.getElem?_eq_getElem (by omega)⟩
    obtain ⟨g15, rfl⟩ : ∃ g, q15 = some ⟨g, 0, none⟩ := own_at (hS.get (X := ownA 71 3 (.slice q15 s.acs.length c15) s.acs.length ((trialF (pl s) at_).flatMap encBl)) (by repeat constructor)) (by omega)
    obtain ⟨g16, rfl⟩ : ∃ g, q16 = some ⟨g, 0, none⟩ := own_at (hS.get (X := ownA 92 3 (.slice q16 s.acs.length c16) s.acs.length ((trialF (pl s) at_).flatMap encBl)) (by repeat constructor)) (by omega)
    refine wp_skip (n_then (c_seq (wp_block (c_seq ?_))))
    refine c_drawS [] (by kernel_rfl) hS (sub_cons (X := ownA 71 3 (.slice (some ⟨g15, 0, none⟩) s.acs.length c15) s.acs.length ((trialF (pl s) at_).flatMap encBl)) (by repeat constructor) (sub_cons (X := ownA 92 3 (.slice (some ⟨g16, 0, none⟩) s.acs.length c16) s.acs.length ((trialF (pl s) at_).flatMap encBl)) (by repeat constructor) sub_nil)) ?_; clear hS; (try clear w); intro w hS
    simp only [List.length_cons, List.length_nil, Nat.zero_add, Nat.reduceAdd, List.replicate]
    refine Zt0 0 (tf 1 36) hS rfl want_none (e_move rfl) rfl (by kernel_rfl) rfl ?_; clear hS a; intro a hS
    refine Zt0 1 (tf 2 35) hS rfl want_none (e_move rfl) rfl (by kernel_rfl) rfl ?_; clear hS a; intro a hS
    refine Zt0 2 (tf 3 34) hS rfl want_none (e_ixN rfl rfl ty_sl68 ty_sz71 (by omega)) rfl (by kernel_rfl) rfl ?_; clear hS a; intro a hS
    (first | refine Zt0 3 (tf 4 33) hS rfl want_none (e_fa0 rfl ty_fo71_0) rfl (by kernel_rfl) rfl ?_ | refine Zt0 3 (tf 4 33) hS rfl want_none (e_faK rfl ty_fo71_0) rfl (by kernel_rfl) rfl ?_); clear hS a; intro a hS
    refine Zt 4 (tf 5 32) hS rfl want_none (e_loadC rfl ty_sc9 (fun w hh => own_getL (enc := encBl) (s := 3) (fun _ => rfl) (E := 71) (by repeat constructor) hx w hh 0 (.string x.1) rfl)) rfl (by kernel_rfl) (sub_cons (by repeat constructor) (sub_cons (by repeat constructor) sub_nil)) rfl ?_; clear hS a; intro a hS
    refine Zt0 5 (tf 6 31) hS rfl want_none (e_move rfl) rfl (by kernel_rfl) rfl ?_; clear hS a; intro a hS
    refine Zt0 6 (tf 7 30) hS rfl want_none (e_move rfl) rfl (by kernel_rfl) rfl ?_; clear hS a; intro a hS
    refine Zt0 7 (tf 8 29) hS rfl want_none (e_ixN rfl rfl ty_sl96 ty_sz92 (by omega)) rfl (by kernel_rfl) rfl ?_; clear hS a; intro a hS
    (first | refine Zt0 8 (tf 9 28) hS rfl want_none (e_fa0 rfl ty_fo92_0) rfl (by kernel_rfl) rfl ?_ | refine Zt0 8 (tf 9 28) hS rfl want_none (e_faK rfl ty_fo92_0) rfl (by kernel_rfl) rfl ?_); clear hS a; intro a hS
    refine Zt 9 (tf 10 27) hS rfl want_none (e_loadC rfl ty_sc9 (fun w hh => own_getL (enc := encBl) (s := 3) (fun _ => rfl) (E := 92) (by repeat constructor) hx w hh 0 (.string x.1) rfl)) rfl (by kernel_rfl) (sub_cons (by repeat constructor) (sub_cons (by repeat constructor) sub_nil)) rfl ?_; clear hS a; intro a hS
    refine Zt0 10 (tf 11 26) hS rfl want_none (e_binS rfl rfl rfl) rfl (by kernel_rfl) rfl ?_; clear hS a; intro a hS
    refine Zt0 11 (tf 12 25) hS rfl want_none (e_move rfl) rfl (by kernel_rfl) rfl ?_; clear hS a; intro a hS
    replace hS := hS.is (t := 127) (c := false) rfl ((by simp))
    refine Zt0 12 (tf 13 24) hS rfl (want_go rfl rfl) (e_move rfl) rfl (by kernel_rfl) rfl ?_; clear hS a; intro a hS
    refine Zt0 13 (tf 14 23) hS rfl (want_go rfl rfl) (e_move rfl) rfl (by kernel_rfl) rfl ?_; clear hS a; intro a hS
    refine Zt0 14 (tf 15 22) hS rfl (want_go rfl rfl) (e_ixN rfl rfl ty_sl68 ty_sz71 (by omega)) rfl (by kernel_rfl) rfl ?_; clear hS a; intro a hS
    (first | refine Zt0 15 (tf 16 21) hS rfl (want_go rfl rfl) (e_fa0 rfl ty_fo71_1) rfl (by kernel_rfl) rfl ?_ | refine Zt0 15 (tf 16 21) hS rfl (want_go rfl rfl) (e_faK rfl ty_fo71_1) rfl (by kernel_rfl) rfl ?_); clear hS a; intro a hS
    refine Zt 16 (tf 17 20) hS rfl (want_go rfl rfl) (e_loadC rfl ty_sc3 (fun w hh => own_getL (enc := encBl) (s := 3) (fun _ => rfl) (E := 71) (by repeat constructor) hx w hh 1 (.int .i64 x.2.1) rfl)) rfl (by kernel_rfl) (sub_cons (by repeat constructor) (sub_cons (by repeat constructor) sub_nil)) rfl ?_; clear hS a; intro a hS
    refine Zt0 17 (tf 18 19) hS rfl (want_go rfl rfl) (e_move rfl) rfl (by kernel_rfl) rfl ?_; clear hS a; intro a hS
    refine Zt0 18 (tf 19 18) hS rfl (want_go rfl rfl) (e_move rfl) rfl (by kernel_rfl) rfl ?_; clear hS a; intro a hS
    refine Zt0 19 (tf 20 17) hS rfl (want_go rfl rfl) (e_ixN rfl rfl ty_sl96 ty_sz92 (by omega)) rfl (by kernel_rfl) rfl ?_; clear hS a; intro a hS
    (first | refine Zt0 20 (tf 21 16) hS rfl (want_go rfl rfl) (e_fa0 rfl ty_fo92_1) rfl (by kernel_rfl) rfl ?_ | refine Zt0 20 (tf 21 16) hS rfl (want_go rfl rfl) (e_faK rfl ty_fo92_1) rfl (by kernel_rfl) rfl ?_); clear hS a; intro a hS
    refine Zt 21 (tf 22 15) hS rfl (want_go rfl rfl) (e_loadC rfl ty_sc3 (fun w hh => own_getL (enc := encBl) (s := 3) (fun _ => rfl) (E := 92) (by repeat constructor) hx w hh 1 (.int .i64 x.2.1) rfl)) rfl (by kernel_rfl) (sub_cons (by repeat constructor) (sub_cons (by repeat constructor) sub_nil)) rfl ?_; clear hS a; intro a hS
    refine Zt0 22 (tf 23 14) hS rfl (want_go rfl rfl) (e_bin rfl rfl rfl) rfl (by kernel_rfl) rfl ?_; clear hS a; intro a hS
    refine Zt0 23 (tf 24 13) hS rfl want_none (e_pk rfl rfl) rfl (by kernel_rfl) rfl ?_; clear hS a; intro a hS
    refine Zt0 24 (tf 25 12) hS rfl want_none (e_move rfl) rfl (by kernel_rfl) rfl ?_; clear hS a; intro a hS
    replace hS := hS.is (t := 140) (c := false) rfl ((by simp))
    refine Zt0 25 (tf 26 11) hS rfl (want_go rfl rfl) (e_move rfl) rfl (by kernel_rfl) rfl ?_; clear hS a; intro a hS
    refine Zt0 26 (tf 27 10) hS rfl (want_go rfl rfl) (e_move rfl) rfl (by kernel_rfl) rfl ?_; clear hS a; intro a hS
    refine Zt0 27 (tf 28 9) hS rfl (want_go rfl rfl) (e_ixN rfl rfl ty_sl68 ty_sz71 (by omega)) rfl (by kernel_rfl) rfl ?_; clear hS a; intro a hS
    (first | refine Zt0 28 (tf 29 8) hS rfl (want_go rfl rfl) (e_fa0 rfl ty_fo71_2) rfl (by kernel_rfl) rfl ?_ | refine Zt0 28 (tf 29 8) hS rfl (want_go rfl rfl) (e_faK rfl ty_fo71_2) rfl (by kernel_rfl) rfl ?_); clear hS a; intro a hS
    refine Zt 29 (tf 30 7) hS rfl (want_go rfl rfl) (e_loadC rfl ty_sc3 (fun w hh => own_getL (enc := encBl) (s := 3) (fun _ => rfl) (E := 71) (by repeat constructor) hx w hh 2 (.int .i64 x.2.2) rfl)) rfl (by kernel_rfl) (sub_cons (by repeat constructor) (sub_cons (by repeat constructor) sub_nil)) rfl ?_; clear hS a; intro a hS
    refine Zt0 30 (tf 31 6) hS rfl (want_go rfl rfl) (e_move rfl) rfl (by kernel_rfl) rfl ?_; clear hS a; intro a hS
    refine Zt0 31 (tf 32 5) hS rfl (want_go rfl rfl) (e_move rfl) rfl (by kernel_rfl) rfl ?_; clear hS a; intro a hS
    refine Zt0 32 (tf 33 4) hS rfl (want_go rfl rfl) (e_ixN rfl rfl ty_sl96 ty_sz92 (by omega)) rfl (by kernel_rfl) rfl ?_; clear hS a; intro a hS
    (first | refine Zt0 33 (tf 34 3) hS rfl (want_go rfl rfl) (e_fa0 rfl ty_fo92_2) rfl (by kernel_rfl) rfl ?_ | refine Zt0 33 (tf 34 3) hS rfl (want_go rfl rfl) (e_faK rfl ty_fo92_2) rfl (by kernel_rfl) rfl ?_); clear hS a; intro a hS
    refine Zt 34 (tf 35 2) hS rfl (want_go rfl rfl) (e_loadC rfl ty_sc3 (fun w hh => own_getL (enc := encBl) (s := 3) (fun _ => rfl) (E := 92) (by repeat constructor) hx w hh 2 (.int .i64 x.2.2) rfl)) rfl (by kernel_rfl) (sub_cons (by repeat constructor) (sub_cons (by repeat constructor) sub_nil)) rfl ?_; clear hS a; intro a hS
    refine Zt0 35 (tf 36 1) hS rfl (want_go rfl rfl) (e_bin rfl rfl rfl) rfl (by kernel_rfl) rfl ?_; clear hS a; intro a hS
    refine Zt0 36 (tf 37 0) hS rfl want_none (e_pk rfl rfl) rfl (by kernel_rfl) rfl ?_; clear hS a; intro a hS
    refine Z_done (by kernel_rfl) ?_
    refine n_then ?_
    replace hS := hS.is (t := 152) (c := false) rfl ((by simp))
    refine c_if_f hS rfl ?_
    refine wp_skip (n_block (n_then (c_region ?_)))
    refine L_e hS (e_move rfl) rfl ?_; clear hS a; intro a hS
    (first | refine L_e hS (e_binN rfl rfl rfl (by omega)) rfl ?_ | refine L_e hS (e_bin rfl rfl rfl) rfl ?_); clear hS a; intro a hS
    refine L_e hS (e_assign rfl) rfl ?_; clear hS a; intro a hS
    refine L_nil ?_
    exact ⟨i + 1, by omega, hS.slots (by repeat (first | exact trivial | refine ⟨rfl, ?_⟩)), by omega⟩
  refine wp_exit ?_
  refine x_then (x_then (x_hit ?_))
  refine n_then (c_seq (c_region ?_))
  refine L_e hS (e_move rfl) rfl ?_; clear hS a; intro a hS
  refine L_e hS (e_move rfl) rfl ?_; clear hS a; intro a hS
  refine L_e hS (e_move rfl) rfl ?_; clear hS a; intro a hS
  refine L_op (s_callN hS (.cons rfl (.cons rfl (.cons rfl .nil))) cf41 rfl (lEntries_P B s at_ to_ hid.ids (by omega) hps _ (hS.get (X := duoA B b s r false) (by repeat constructor)).l) ?_); clear hS a; (try clear w); intro x156 a w hS
  obtain ⟨⟨v18, L⟩, hE⟩ := x156
  simp only at hS hE
  obtain ⟨q18, c18, rfl⟩ := own_slice (hS.get (X := entsA v18 L) (by repeat constructor)).row
  have hap := (hS.get (X := entsA (.slice q18 L.length c18) L) (by repeat constructor)).apart
  have hLl : L.length ≤ 900 := by have h1 := hE.len; rw [List.length_map] at h1; simp [pl] at h1; omega
  refine L_e hS (e_assign rfl) rfl ?_; clear hS a; intro a hS
  refine L_nil (n_then (c_seq (c_region ?_)))
  refine L_e hS (e_move rfl) rfl ?_; clear hS a; intro a hS
  refine L_e hS (e_move rfl) rfl ?_; clear hS a; intro a hS
  refine L_e hS (e_move rfl) rfl ?_; clear hS a; intro a hS
  refine L_op (s_callN hS (.cons rfl (.cons rfl (.cons rfl .nil))) cf42 rfl (rlEnts_P b r at_ to_ (by rw [hre]; exact hid.ids) (by omega) _ (hS.get (X := duoA B b s r false) (by repeat constructor)).f) ?_); clear hS a; (try clear w); intro x160 a w hS
  obtain ⟨⟨v19, M⟩, hE2, hMm⟩ := x160
  simp only at hS hE2 hMm
  rw [hre] at hE2
  have hLM : M.map (·.v) = L.map (·.v) := hE2.uniq hE
  have hMl : M.length = L.length := by have h1 := congrArg List.length hLM; simpa using h1
  rw [hMl] at hS
  obtain ⟨q19, c19, rfl⟩ := own_slice (hS.get (X := ownA 104 4 v19 L.length (M.flatMap encE)) (by repeat constructor))
  refine L_e hS (e_assign rfl) rfl ?_; clear hS a; intro a hS
  refine L_nil (n_then (c_seq (c_seq (c_region ?_))))
  refine L_e hS (e_move rfl) rfl ?_; clear hS a; intro a hS
  refine L_e hS (e_len rfl rfl ty_sl86) rfl ?_; clear hS a; intro a hS
  refine L_e hS (e_move rfl) rfl ?_; clear hS a; intro a hS
  refine L_e hS (e_len rfl rfl ty_sl64) rfl ?_; clear hS a; intro a hS
  refine L_e hS (e_bin rfl rfl rfl) rfl ?_; clear hS a; intro a hS
  refine L_nil (n_then ?_)
  replace hS := hS.is (t := 165) (c := false) rfl ((by simp))
  refine c_if_f hS rfl ?_
  refine wp_skip (n_then (c_seq (c_seq (c_region ?_))))
  refine L_e hS (e_assign rfl) rfl ?_; clear hS a; intro a hS
  refine L_nil (n_then (wp_block ?_))
  have hent : entsφ (.slice q18 L.length c18) L w := hS.get (X := entsA (.slice q18 L.length c18) L) (by repeat constructor)
  replace hS := hS.split (Z := entsA (.slice q18 L.length c18) L) (X := ownA 102 4 (.slice q18 L.length c18) L.length (L.flatMap encE)) (Y := psAll L) (by repeat constructor) (ok_own hent.row) (ps_ok hent.ps) (fun b hb => .inl hb) (fun b hb => .inr hb) (fun b hb hb2 => by
    obtain ⟨y, hy, e⟩ := hb2
    exact hent.out y hy (by rw [← e]; exact hb)) rfl
  refine c_loop (γ := Nat) (fun i a w => St 375 noB w0 a w [(20, .int .i64 (i : Int)), (19, .slice q19 L.length c19), (18, .slice q18 L.length c18), (0, .pointer (some ⟨B.lb, 0, none⟩)), (1, .pointer (some ⟨b, 0, none⟩)), (2, .string code)] [psAll (L.drop i), ownA 102 4 (.slice q18 L.length c18) L.length (L.flatMap encE), ownA 104 4 (.slice q19 L.length c19) L.length (M.flatMap encE), duoA B b s r false] ∧ i ≤ L.length) (fun i => L.length - i) 0 ⟨(hS.slots (by repeat (first | exact trivial | refine ⟨rfl, ?_⟩))).pick (by repeat (first | exact Pick.nil | (refine Pick.cons (by repeat (first | exact Rem.head | apply Rem.tail)) ?_))), Nat.zero_le _⟩ ?_
  clear hS a; (try clear w); intro i a w hI
  obtain ⟨hS, hi⟩ := hI
  refine c_seq (c_seq (c_region ?_))
  refine L_e hS (e_move rfl) rfl ?_; clear hS a; intro a hS
  refine L_e hS (e_move rfl) rfl ?_; clear hS a; intro a hS
  refine L_e hS (e_len rfl rfl ty_sl86) rfl ?_; clear hS a; intro a hS
  refine L_e hS (e_bin rfl rfl rfl) rfl ?_; clear hS a; intro a hS
  refine L_nil (n_then ?_)
  first | refine c_ifD hS rfl (fun hc169 => ?_) (fun hc169 => ?_) | refine c_if hS rfl (fun hc169 => ?_) (fun hc169 => ?_)
  ·
    have hil : i < L.length := by omega
    obtain ⟨⟨xv, xb, xc⟩, hx⟩ : ∃ x, L[i]? = some x := ⟨L[i], List.getElem?_eq_getElem hil⟩
    obtain ⟨⟨yv, yb, yc⟩, hy⟩ : ∃ y, M[i]? = some y := ⟨M[i]'(by omega), List.getElem?_eq_getElem (by omega)⟩
    have hxy : yv = xv := by
      have h1 := congrArg (fun l : List Ent => l[i]?) hLM
      simp only [List.getElem?_map, hx, hy, Option.map_some] at h1
      injection h1
    subst hxy
    have hym := hMm _ (List.mem_of_getElem? hy)
    have hyl : yv.ps.length ≤ 50 := hR.ps _ hym
    obtain ⟨g18, rfl⟩ : ∃ g, q18 = some ⟨g, 0, none⟩ := own_at (hS.get (X := ownA 102 4 (.slice q18 L.length c18) L.length (L.flatMap encE)) (by repeat constructor)) (by omega)
    obtain ⟨g19, rfl⟩ : ∃ g, q19 = some ⟨g, 0, none⟩ := own_at (hS.get (X := ownA 104 4 (.slice q19 L.length c19) L.length (M.flatMap encE)) (by repeat constructor)) (by omega)
    have hdr : L.drop i = ⟨yv, xb, xc⟩ :: L.drop (i + 1) := by
      obtain ⟨h1, h2⟩ := List.getElem?_eq_some_iff.1 hx
      rw [List.drop_eq_getElem_cons h1, h2]
    have hpw := List.pairwise_cons.1 (hdr ▸ List.Pairwise.sublist (List.drop_sublist i L) hap)
    rw [hdr] at hS
    have hall : ∀ y ∈ (⟨yv, xb, xc⟩ : EA) :: L.drop (i + 1), psOk y w := hS.get (X := psAll (⟨yv, xb, xc⟩ :: L.drop (i + 1))) (by repeat constructor)
    replace hS := hS.split (Z := psAll (⟨yv, xb, xc⟩ :: L.drop (i + 1))) (X := ownA 82 3 (psV ⟨yv, xb, xc⟩) yv.ps.length (yv.ps.flatMap encP)) (Y := psAll (L.drop (i + 1))) (by repeat constructor) (ok_own (hall _ (.head _))) (ps_ok (fun y hy => hall y (.tail _ hy))) (fun b hb => ⟨⟨yv, xb, xc⟩, .head _, by cases hb; rfl⟩) (fun b hb => by obtain ⟨y, hy, e⟩ := hb; exact ⟨y, .tail _ hy, e⟩) (fun b hb hb2 => by
      obtain ⟨y, hy, e⟩ := hb2
      cases hb
      exact hpw.1 y hy e) rfl
    refine wp_skip (n_then (c_seq (wp_block (c_seq (c_seq ?_)))))
    refine c_drawS [] (by kernel_rfl) hS (sub_cons (X := ownA 102 4 (.slice (some ⟨g18, 0, none⟩) L.length c18) L.length (L.flatMap encE)) (by repeat constructor) (sub_cons (X := ownA 104 4 (.slice (some ⟨g19, 0, none⟩) L.length c19) L.length (M.flatMap encE)) (by repeat constructor) sub_nil)) ?_; clear hS; (try clear w); intro w hS
    simp only [List.length_cons, List.length_nil, Nat.zero_add, Nat.reduceAdd, List.replicate]
    refine Zt0 0 (tf 1 9) hS rfl want_none (e_move rfl) rfl (by kernel_rfl) rfl ?_; clear hS a; intro a hS
    refine Zt0 1 (tf 2 8) hS rfl want_none (e_move rfl) rfl (by kernel_rfl) rfl ?_; clear hS a; intro a hS
    refine Zt0 2 (tf 3 7) hS rfl want_none (e_ixN rfl rfl ty_sl86 ty_sz102 (by omega)) rfl (by kernel_rfl) rfl ?_; clear hS a; intro a hS
    refine Zt 3 (tf 4 6) hS rfl want_none (e_loadAC (l := encE ⟨yv, xb, xc⟩) rfl ty_st102 ty_sz102 (own_getL (enc := encE) (s := 4) (fun _ => rfl) (E := 102) (by repeat constructor) hx)) rfl (by kernel_rfl) (sub_cons (by repeat constructor) (sub_cons (by repeat constructor) sub_nil)) rfl ?_; clear hS a; intro a hS
    refine Zt0 4 (tf 5 5) hS rfl want_none (e_move rfl) rfl (by kernel_rfl) rfl ?_; clear hS a; intro a hS
    refine Zt0 5 (tf 6 4) hS rfl want_none (e_move rfl) rfl (by kernel_rfl) rfl ?_; clear hS a; intro a hS
    refine Zt0 6 (tf 7 3) hS rfl want_none (e_ixN rfl rfl ty_sl64 ty_sz104 (by omega)) rfl (by kernel_rfl) rfl ?_; clear hS a; intro a hS
    refine Zt 7 (tf 8 2) hS rfl want_none (e_loadAC (l := encE ⟨yv, yb, yc⟩) rfl ty_st104 ty_sz104 (own_getL (enc := encE) (s := 4) (fun _ => rfl) (E := 104) (by repeat constructor) hy)) rfl (by kernel_rfl) (sub_cons (by repeat constructor) (sub_cons (by repeat constructor) sub_nil)) rfl ?_; clear hS a; intro a hS
    refine Z_one (i := 8) rfl (want_none a hS.sl) (listed' := (tf 9 1)) rfl (by kernel_rfl) (s_callP hS (.cons rfl (.cons rfl .nil)) cf43 rfl (lSameE_P yv xb xc yb yc (by omega) _ (hS.get (X := ownA 82 3 (psV ⟨yv, xb, xc⟩) yv.ps.length (yv.ps.flatMap encP)) (by repeat constructor)) ((hS.get (X := duoA B b s r false) (by repeat constructor)).f.ps _ hym)) ?_); clear hS a; (try clear w); intro a w hS
    refine Z_and hS (sub_cons (by repeat constructor) (sub_cons (by repeat constructor) sub_nil)) ?_
    refine Zt0 9 (tf 10 0) hS rfl want_none (e_not rfl) rfl (by kernel_rfl) rfl ?_; clear hS a; intro a hS
    refine Z_done (by kernel_rfl) ?_
    refine n_then ?_
    replace hS := hS.is (t := 181) (c := false) rfl (rfl)
    refine c_if_f hS rfl ?_
    refine wp_skip (n_then (c_seq (c_region ?_)))
    refine L_e hS (e_assign rfl) rfl ?_; clear hS a; intro a hS
    refine L_nil (n_then (wp_block ?_))
    skip
    refine c_loop (γ := Nat × List Value) (fun G a w => St 375 noB w0 a w [(21, .int .i64 (G.1 : Int)), (20, .int .i64 (i : Int)), (19, .slice (some ⟨g19, 0, none⟩) L.length c19), (18, .slice (some ⟨g18, 0, none⟩) L.length c18), (0, .pointer (some ⟨B.lb, 0, none⟩)), (1, .pointer (some ⟨b, 0, none⟩)), (2, .string code)] [ownA 82 3 (.slice (some ⟨xb, 0, none⟩) yv.ps.length xc) yv.ps.length G.2, psAll (L.drop (i + 1)), ownA 102 4 (.slice (some ⟨g18, 0, none⟩) L.length c18) L.length (L.flatMap encE), ownA 104 4 (.slice (some ⟨g19, 0, none⟩) L.length c19) L.length (M.flatMap encE), duoA B b s r false] ∧ G.1 ≤ yv.ps.length) (fun G => yv.ps.length - G.1) (0, yv.ps.flatMap encP) ⟨(hS.slots (by repeat (first | exact trivial | refine ⟨rfl, ?_⟩))).pick (by repeat (first | exact Pick.nil | (refine Pick.cons (by repeat (first | exact Rem.head | apply Rem.tail)) ?_))), Nat.zero_le _⟩ ?_
    clear hS a; (try clear w); intro G a w hI
    obtain ⟨k, csx⟩ := G
    obtain ⟨hS, hk⟩ := hI
    simp only at hS hk
    refine c_seq (c_seq (c_region ?_))
    refine L_e hS (e_move rfl) rfl ?_; clear hS a; intro a hS
    refine L_e hS (e_move rfl) rfl ?_; clear hS a; intro a hS
    refine L_e hS (e_move rfl) rfl ?_; clear hS a; intro a hS
    refine L_e hS (e_ixN rfl rfl ty_sl86 ty_sz102 (by omega)) rfl ?_; clear hS a; intro a hS
    (first | refine L_e hS (e_fa0 rfl ty_fo102_3) rfl ?_ | refine L_e hS (e_faK rfl ty_fo102_3) rfl ?_); clear hS a; intro a hS
    refine L_e hS (e_loadC rfl ty_sc36 (fun w hh => own_getL (enc := encE) (s := 4) (fun _ => rfl) (E := 102) (by repeat constructor) hx w hh 3 (.slice (some ⟨xb, 0, none⟩) yv.ps.length xc) rfl)) rfl ?_; clear hS a; intro a hS
    refine L_e hS (e_len rfl rfl ty_sl36) rfl ?_; clear hS a; intro a hS
    refine L_e hS (e_bin rfl rfl rfl) rfl ?_; clear hS a; intro a hS
    refine L_nil (n_then ?_)
    first | refine c_ifD hS rfl (fun hc189 => ?_) (fun hc189 => ?_) | refine c_if hS rfl (fun hc189 => ?_) (fun hc189 => ?_)
    ·
      refine wp_skip (n_then (c_seq (wp_block (c_region ?_))))
      refine L_e hS (e_move rfl) rfl ?_; clear hS a; intro a hS
      refine L_e hS (e_move rfl) rfl ?_; clear hS a; intro a hS
      refine L_e hS (e_ixN rfl rfl ty_sl86 ty_sz102 (by omega)) rfl ?_; clear hS a; intro a hS
      (first | refine L_e hS (e_fa0 rfl ty_fo102_3) rfl ?_ | refine L_e hS (e_faK rfl ty_fo102_3) rfl ?_); clear hS a; intro a hS
      refine L_e hS (e_loadC rfl ty_sc36 (fun w hh => own_getL (enc := encE) (s := 4) (fun _ => rfl) (E := 102) (by repeat constructor) hx w hh 3 (.slice (some ⟨xb, 0, none⟩) yv.ps.length xc) rfl)) rfl ?_; clear hS a; intro a hS
      refine L_e hS (e_move rfl) rfl ?_; clear hS a; intro a hS
      refine L_e hS (e_ixN rfl rfl ty_sl36 ty_sz82 (by omega)) rfl ?_; clear hS a; intro a hS
      (first | refine L_e hS (e_fa0 rfl ty_fo82_1) rfl ?_ | refine L_e hS (e_faK rfl ty_fo82_1) rfl ?_); clear hS a; intro a hS
      refine L_op (s_storeO (gb := xb) (cs := csx) hS rfl rfl rfl ty_sz3 (by repeat constructor) (by omega) ?_); clear hS; (try clear w); intro w hS
      refine L_nil (n_block (n_then (c_region ?_)))
      refine L_e hS (e_move rfl) rfl ?_; clear hS a; intro a hS
      (first | refine L_e hS (e_binN rfl rfl rfl (by omega)) rfl ?_ | refine L_e hS (e_bin rfl rfl rfl) rfl ?_); clear hS a; intro a hS
      refine L_e hS (e_assign rfl) rfl ?_; clear hS a; intro a hS
      refine L_nil ?_
      exact ⟨(k + 1, csx.set (0 + k * 3 + 1) (.int .i64 99)), by simp only; omega, (hS.slots (by repeat (first | exact trivial | refine ⟨rfl, ?_⟩))).pick (by repeat (first | exact Pick.nil | (refine Pick.cons (by repeat (first | exact Rem.head | apply Rem.tail)) ?_))), by simp only; omega⟩
    refine wp_exit ?_
    refine x_then (x_then (x_hit ?_))
    refine n_block (n_then (c_region ?_))
    refine L_e hS (e_move rfl) rfl ?_; clear hS a; intro a hS
    (first | refine L_e hS (e_binN rfl rfl rfl (by omega)) rfl ?_ | refine L_e hS (e_bin rfl rfl rfl) rfl ?_); clear hS a; intro a hS
    refine L_e hS (e_assign rfl) rfl ?_; clear hS a; intro a hS
    refine L_nil ?_
    exact ⟨i + 1, by omega, (hS.slots (by repeat (first | exact trivial | refine ⟨rfl, ?_⟩))).pick (by repeat (first | exact Pick.nil | (refine Pick.cons (by repeat (first | exact Rem.head | apply Rem.tail)) ?_))), by omega⟩
  refine wp_exit ?_
  refine x_then (x_then (x_hit ?_))
  refine n_then (c_seq (c_region ?_))
  refine L_e hS (e_move rfl) rfl ?_; clear hS a; intro a hS
  refine L_e hS (e_move rfl) rfl ?_; clear hS a; intro a hS
  refine L_e hS (e_nilCheck rfl) rfl ?_; clear hS a; intro a hS
  (first | refine L_e hS (e_fa0 rfl ty_fo66_2) rfl ?_ | refine L_e hS (e_faK rfl ty_fo66_2) rfl ?_); clear hS a; intro a hS
  refine L_e hS (e_loadC rfl ty_sc64 (duo_cell (k := 2) (by repeat constructor) rfl)) rfl ?_; clear hS a; intro a hS
  rw [hev, hrel2] at hS
  refine L_e hS (e_len rfl rfl ty_sl64) rfl ?_; clear hS a; intro a hS
  refine L_op (s_callN hS (.cons rfl (.cons rfl .nil)) cf44 rfl (lEntryN_P B s (by omega) (fun x hx => by have := hps x hx; omega) _ (hS.get (X := duoA B b s r false) (by repeat constructor)).l) ?_); clear hS a; (try clear w); intro x207 a w hS
  refine L_e hS (e_move rfl) rfl ?_; clear hS a; intro a hS
  refine L_e hS (e_extract rfl rfl) rfl ?_; clear hS a; intro a hS
  refine L_e hS (e_extract rfl rfl) rfl ?_; clear hS a; intro a hS
  refine L_op (s_alloc hS ty_z102 rfl ?_); clear hS a; (try clear w); intro a w b22 hS
  refine L_op (s_storeA hS rfl rfl ty_sz102 (by repeat constructor) (by rfl) (by rfl) (by rfl) ?_); clear hS; (try clear w); intro w hS
  refine L_e hS (e_assign rfl) rfl ?_; clear hS a; intro a hS
  refine L_nil (n_then (c_seq (c_region ?_)))
  refine L_e hS (e_move rfl) rfl ?_; clear hS a; intro a hS
  refine L_e hS (e_move rfl) rfl ?_; clear hS a; intro a hS
  refine L_e hS (e_nilCheck rfl) rfl ?_; clear hS a; intro a hS
  (first | refine L_e hS (e_fa0 rfl ty_fo66_2) rfl ?_ | refine L_e hS (e_faK rfl ty_fo66_2) rfl ?_); clear hS a; intro a hS
  refine L_e hS (e_loadC rfl ty_sc64 (duo_cell (k := 2) (by repeat constructor) rfl)) rfl ?_; clear hS a; intro a hS
  rw [hev, hrel2] at hS
  refine L_e hS (e_len rfl rfl ty_sl64) rfl ?_; clear hS a; intro a hS
  (first | refine L_e hS (e_binN rfl rfl rfl (by omega)) rfl ?_ | refine L_e hS (e_bin rfl rfl rfl) rfl ?_); clear hS a; intro a hS
  refine L_op (s_callP hS (.cons rfl (.cons rfl .nil)) cf44 rfl (lEntry_no B s ((s.es.length : Int) + 1) (by omega) _ (hS.get (X := duoA B b s r false) (by repeat constructor)).l) ?_); clear hS a; (try clear w); intro a w hS
  refine L_e hS (e_move rfl) rfl ?_; clear hS a; intro a hS
  refine L_e hS (e_extract rfl rfl) rfl ?_; clear hS a; intro a hS
  refine L_e hS (e_extract rfl rfl) rfl ?_; clear hS a; intro a hS
  refine L_op (s_alloc hS ty_z102 rfl ?_); clear hS a; (try clear w); intro a w b24 hS
  refine L_op (s_storeA hS rfl rfl ty_sz102 (by repeat constructor) (by rfl) (by rfl) (by rfl) ?_); clear hS; (try clear w); intro w hS
  refine L_e hS (e_assign rfl) rfl ?_; clear hS a; intro a hS
  refine L_nil (n_then (c_seq (c_seq ?_)))
  refine c_drawS [] (by kernel_rfl) hS (sub_cons (X := .blk b24 zE 102) (by repeat constructor) (sub_cons (X := .blk b22 (encE4 x207) 102) (by repeat constructor) (sub_cons (X := duoA B b s r false) (by repeat constructor) sub_nil))) ?_; clear hS; (try clear w); intro w hS
  simp only [List.length_cons, List.length_nil, Nat.zero_add, Nat.reduceAdd, List.replicate]
  refine Zt0 0 (tf 1 35) hS rfl want_none (e_move rfl) rfl (by kernel_rfl) rfl ?_; clear hS a; intro a hS
  refine Zt0 1 (tf 2 34) hS rfl want_none (e_move rfl) rfl (by kernel_rfl) rfl ?_; clear hS a; intro a hS
  refine Zt0 2 (tf 3 33) hS rfl want_none (e_nilCheck rfl) rfl (by kernel_rfl) rfl ?_; clear hS a; intro a hS
  (first | refine Zt0 3 (tf 4 32) hS rfl want_none (e_fa0 rfl ty_fo66_2) rfl (by kernel_rfl) rfl ?_ | refine Zt0 3 (tf 4 32) hS rfl want_none (e_faK rfl ty_fo66_2) rfl (by kernel_rfl) rfl ?_); clear hS a; intro a hS
  refine Zt 4 (tf 5 31) hS rfl want_none (e_loadC rfl ty_sc64 (duo_cell (k := 2) (by repeat constructor) rfl)) rfl (by kernel_rfl) (sub_cons (by repeat constructor) (sub_cons (by repeat constructor) (sub_cons (by repeat constructor) sub_nil))) rfl ?_; clear hS a; intro a hS
  rw [hev, hrel2] at hS
  refine Zt0 5 (tf 6 30) hS rfl want_none (e_len rfl rfl ty_sl64) rfl (by kernel_rfl) rfl ?_; clear hS a; intro a hS
  refine Zt0 6 (tf 7 29) hS rfl want_none (e_bin rfl rfl rfl) rfl (by kernel_rfl) rfl ?_; clear hS a; intro a hS
  refine Zt0 7 (tf 8 28) hS rfl want_none (e_binBn rfl rfl ty_u4) rfl (by kernel_rfl) rfl ?_; clear hS a; intro a hS
  refine Zt0 8 (tf 9 27) hS rfl want_none (e_move rfl) rfl (by kernel_rfl) rfl ?_; clear hS a; intro a hS
  replace hS := hS.is (t := 229) (c := false) rfl ((by simp))
  refine Zt0 9 (tf 10 26) hS rfl (want_go rfl rfl) (e_move rfl) rfl (by kernel_rfl) rfl ?_; clear hS a; intro a hS
  refine Zt0 10 (tf 11 25) hS rfl want_none (e_pk rfl rfl) rfl (by kernel_rfl) rfl ?_; clear hS a; intro a hS
  refine Zt0 11 (tf 12 24) hS rfl want_none (e_move rfl) rfl (by kernel_rfl) rfl ?_; clear hS a; intro a hS
  replace hS := hS.is (t := 232) (c := false) rfl (rfl)
  (first | refine Zt0 12 (tf 13 23) hS rfl (want_go rfl rfl) (e_fa0 rfl ty_fo102_0) rfl (by kernel_rfl) rfl ?_ | refine Zt0 12 (tf 13 23) hS rfl (want_go rfl rfl) (e_faK rfl ty_fo102_0) rfl (by kernel_rfl) rfl ?_); clear hS a; intro a hS
  refine Zt 13 (tf 14 22) hS rfl (want_go rfl rfl) (e_load rfl (by repeat constructor) ty_sc3 (by rfl)) rfl (by kernel_rfl) (sub_cons (by repeat constructor) (sub_cons (by repeat constructor) (sub_cons (by repeat constructor) sub_nil))) rfl ?_; clear hS a; intro a hS
  refine Zt0 14 (tf 15 21) hS rfl (want_go rfl rfl) (e_bin rfl rfl rfl) rfl (by kernel_rfl) rfl ?_; clear hS a; intro a hS
  refine Zt0 15 (tf 16 20) hS rfl want_none (e_pk rfl rfl) rfl (by kernel_rfl) rfl ?_; clear hS a; intro a hS
  refine Zt0 16 (tf 17 19) hS rfl want_none (e_move rfl) rfl (by kernel_rfl) rfl ?_; clear hS a; intro a hS
  replace hS := hS.is (t := 237) (c := false) rfl (rfl)
  refine Zt0 17 (tf 18 18) hS rfl (want_go rfl rfl) (e_move rfl) rfl (by kernel_rfl) rfl ?_; clear hS a; intro a hS
  refine Zt0 18 (tf 19 17) hS rfl (want_go rfl rfl) (e_move rfl) rfl (by kernel_rfl) rfl ?_; clear hS a; intro a hS
  refine Z_merge 1 (tf 35 1) 255 (.bool (false)) hS ?_ ?_
  · intro hcM255
    (first | refine g_splitD (t := 239) hS rfl ?_ ?_ | refine g_split (t := 239) hS rfl ?_ ?_) <;> (clear hS; intro hg239 hS)
    ·
      have h0 : 0 < s.es.length := by simpa using hg239
      obtain ⟨x, hx⟩ : ∃ x, s.es[s.es.length - 1]? = some x := ⟨s.es[s.es.length - 1]'(by omega), List.getElem?_eq_getElem (by omega)⟩
      obtain ⟨y, hy⟩ : ∃ y, r.es[s.es.length - 1]? = some y := ⟨r.es[s.es.length - 1]'(by omega), List.getElem?_eq_getElem (by omega)⟩
      obtain ⟨yv, yb, yc⟩ := y
      obtain ⟨xv, xb, xc⟩ := x
      have hxy : yv = xv := by
        have h1 := congrArg (fun l : List Ent => l[s.es.length - 1]?) hre
        simp only [List.getElem?_map, hx, hy, Option.map_some] at h1
        injection h1
      subst hxy
      obtain ⟨gx, cx, hx7, hpx⟩ := hS.get (X := lastA s x207) (by repeat constructor) _ hx
      have hyl : yv.ps.length ≤ 50 := hR.ps _ (List.mem_of_getElem? hy)
      obtain ⟨gE, rfl⟩ : ∃ g, qE = some ⟨g, 0, none⟩ := by rcases hshE with ⟨_, e⟩ | e; exact absurd e (by omega); exact e
      simp only at hx7 hpx
      subst hx7
      refine Zt 19 (tf 20 16) hS rfl (want_go rfl rfl) (e_loadAC (l := encE ⟨yv, gx, cx⟩) rfl ty_st102 ty_sz102 (fun w hh j v hj => by rw [Nat.zero_add]; exact cell_of_blk (cs := encE ⟨yv, gx, cx⟩) (E := 102) (hh (.blk b22 (encE4 (yv.id, yv.at_, yv.memo, some ⟨gx, 0, none⟩, yv.ps.length, cx)) 102) (by repeat constructor)) hj)) rfl (by kernel_rfl) (sub_cons (by repeat constructor) (sub_cons (by repeat constructor) (sub_cons (by repeat constructor) sub_nil))) rfl ?_; clear hS a; intro a hS
      refine Zt0 20 (tf 21 15) hS rfl (want_go rfl rfl) (e_move rfl) rfl (by kernel_rfl) rfl ?_; clear hS a; intro a hS
      refine Zt0 21 (tf 22 14) hS rfl (want_go rfl rfl) (e_nilCheck rfl) rfl (by kernel_rfl) rfl ?_; clear hS a; intro a hS
      (first | refine Zt0 22 (tf 23 13) hS rfl (want_go rfl rfl) (e_fa0 rfl ty_fo66_2) rfl (by kernel_rfl) rfl ?_ | refine Zt0 22 (tf 23 13) hS rfl (want_go rfl rfl) (e_faK rfl ty_fo66_2) rfl (by kernel_rfl) rfl ?_); clear hS a; intro a hS
      refine Zt 23 (tf 24 12) hS rfl (want_go rfl rfl) (e_loadC rfl ty_sc64 (duo_cell (k := 2) (by repeat constructor) rfl)) rfl (by kernel_rfl) (sub_cons (by repeat constructor) (sub_cons (by repeat constructor) (sub_cons (by repeat constructor) sub_nil))) rfl ?_; clear hS a; intro a hS
      rw [hev, hrel2] at hS
      refine Zt0 24 (tf 25 11) hS rfl (want_go rfl rfl) (e_move rfl) rfl (by kernel_rfl) rfl ?_; clear hS a; intro a hS
      refine Zt0 25 (tf 26 10) hS rfl (want_go rfl rfl) (e_nilCheck rfl) rfl (by kernel_rfl) rfl ?_; clear hS a; intro a hS
      (first | refine Zt0 26 (tf 27 9) hS rfl (want_go rfl rfl) (e_fa0 rfl ty_fo66_2) rfl (by kernel_rfl) rfl ?_ | refine Zt0 26 (tf 27 9) hS rfl (want_go rfl rfl) (e_faK rfl ty_fo66_2) rfl (by kernel_rfl) rfl ?_); clear hS a; intro a hS
      refine Zt 27 (tf 28 8) hS rfl (want_go rfl rfl) (e_loadC rfl ty_sc64 (duo_cell (k := 2) (by repeat constructor) rfl)) rfl (by kernel_rfl) (sub_cons (by repeat constructor) (sub_cons (by repeat constructor) (sub_cons (by repeat constructor) sub_nil))) rfl ?_; clear hS a; intro a hS
      rw [hev, hrel2] at hS
      refine Zt0 28 (tf 29 7) hS rfl (want_go rfl rfl) (e_len rfl rfl ty_sl64) rfl (by kernel_rfl) rfl ?_; clear hS a; intro a hS
      (first | refine Zt0 29 (tf 30 6) hS rfl (want_go rfl rfl) (e_binN rfl rfl rfl (by omega)) rfl (by kernel_rfl) rfl ?_ | refine Zt0 29 (tf 30 6) hS rfl (want_go rfl rfl) (e_bin rfl rfl rfl) rfl (by kernel_rfl) rfl ?_); clear hS a; intro a hS
      rw [show (s.es.length : Int) - 1 = ((s.es.length - 1 : Nat) : Int) from by omega] at hS
      refine Zt0 30 (tf 31 5) hS rfl (want_go rfl rfl) (e_ixN rfl rfl ty_sl64 ty_sz104 (by omega)) rfl (by kernel_rfl) rfl ?_; clear hS a; intro a hS
      refine Zt 31 (tf 32 4) hS rfl (want_go rfl rfl) (e_loadAC (l := encE ⟨yv, yb, yc⟩) rfl ty_st104 ty_sz104 (duo_rowE (by rw [hev]) (by repeat constructor) hy)) rfl (by kernel_rfl) (sub_cons (by repeat constructor) (sub_cons (by repeat constructor) (sub_cons (by repeat constructor) sub_nil))) rfl ?_; clear hS a; intro a hS
      refine Z_one (i := 32) rfl (want_go rfl rfl a hS.sl) (listed' := (tf 33 3)) rfl (by kernel_rfl) (s_callP hS (.cons rfl (.cons rfl .nil)) cf43 rfl (lSameE_P yv gx cx yb yc (by omega) _ hpx ((hS.get (X := duoA B b s r false) (by repeat constructor)).f.ps _ (List.mem_of_getElem? hy))) ?_); clear hS a; (try clear w); intro a w hS
      refine Z_and hS (sub_cons (by repeat constructor) (sub_cons (by repeat constructor) (sub_cons (by repeat constructor) sub_nil))) ?_
      refine Zt0 33 (tf 34 2) hS rfl (want_go rfl rfl) (e_not rfl) rfl (by kernel_rfl) rfl ?_; clear hS a; intro a hS
      refine Zt0 34 (tf 35 1) hS rfl (want_go rfl rfl) (e_pk rfl rfl) rfl (by kernel_rfl) rfl ?_; clear hS a; intro a hS
      exact hcM255 _ _ (hS.ends 17 255 239 rfl (congrArg Value.bool (by rfl)) rfl rfl (by first | exact congrArg Value.bool (decide_eq_true hg239).symm | exact congrArg Value.bool hg239.symm | simp [hg239]) rfl)
    refine Zn_t 19 (tf 20 16) hS rfl rfl rfl rfl (by kernel_rfl) rfl ?_; clear hS a; intro a hS
    refine Zn_t 20 (tf 21 15) hS rfl rfl rfl rfl (by kernel_rfl) rfl ?_; clear hS a; intro a hS
    refine Zn_t 21 (tf 22 14) hS rfl rfl rfl rfl (by kernel_rfl) rfl ?_; clear hS a; intro a hS
    refine Zn_t 22 (tf 23 13) hS rfl rfl rfl rfl (by kernel_rfl) rfl ?_; clear hS a; intro a hS
    refine Zn_t 23 (tf 24 12) hS rfl rfl rfl rfl (by kernel_rfl) rfl ?_; clear hS a; intro a hS
    refine Zn_t 24 (tf 25 11) hS rfl rfl rfl rfl (by kernel_rfl) rfl ?_; clear hS a; intro a hS
    refine Zn_t 25 (tf 26 10) hS rfl rfl rfl rfl (by kernel_rfl) rfl ?_; clear hS a; intro a hS
    refine Zn_t 26 (tf 27 9) hS rfl rfl rfl rfl (by kernel_rfl) rfl ?_; clear hS a; intro a hS
    refine Zn_t 27 (tf 28 8) hS rfl rfl rfl rfl (by kernel_rfl) rfl ?_; clear hS a; intro a hS
    refine Zn_t 28 (tf 29 7) hS rfl rfl rfl rfl (by kernel_rfl) rfl ?_; clear hS a; intro a hS
    refine Zn_t 29 (tf 30 6) hS rfl rfl rfl rfl (by kernel_rfl) rfl ?_; clear hS a; intro a hS
    refine Zn_t 30 (tf 31 5) hS rfl rfl rfl rfl (by kernel_rfl) rfl ?_; clear hS a; intro a hS
    refine Zn_t 31 (tf 32 4) hS rfl rfl rfl rfl (by kernel_rfl) rfl ?_; clear hS a; intro a hS
    refine Zn_t 32 (tf 33 3) hS rfl rfl rfl rfl (by kernel_rfl) rfl ?_; clear hS a; intro a hS
    refine Zn_t 33 (tf 34 2) hS rfl rfl rfl rfl (by kernel_rfl) rfl ?_; clear hS a; intro a hS
    refine Zt0 34 (tf 35 1) hS rfl (want_go rfl rfl) (e_pk rfl rfl) rfl (by kernel_rfl) rfl ?_; clear hS a; intro a hS
    exact hcM255 _ _ (hS.ends 17 255 239 rfl (congrArg Value.bool (by rfl)) rfl rfl (by first | exact congrArg Value.bool (decide_eq_false hg239).symm | exact congrArg Value.bool hg239.symm | simp [hg239]) rfl)
  · clear hS a; (try clear w); intro a w hS
    refine Zt0 35 (tf 36 0) hS rfl want_none (e_pk rfl rfl) rfl (by kernel_rfl) rfl ?_; clear hS a; intro a hS
    refine Z_done (by kernel_rfl) ?_
    refine n_then ?_
    replace hS := hS.is (t := 256) (c := false) rfl (rfl)
    refine c_if_f hS rfl ?_
    refine wp_skip (n_then (c_seq (c_region ?_)))
    refine L_e hS (e_move rfl) rfl ?_; clear hS a; intro a hS
    refine L_e hS (e_move rfl) rfl ?_; clear hS a; intro a hS
    refine L_op (s_callP hS (.cons rfl (.cons rfl .nil)) cf45 rfl (lAccount_P B s code _ (hS.get (X := duoA B b s r false) (by repeat constructor)).l) ?_); clear hS a; (try clear w); intro a w hS
    refine L_e hS (e_move rfl) rfl ?_; clear hS a; intro a hS
    refine L_e hS (e_extract rfl rfl) rfl ?_; clear hS a; intro a hS
    refine L_e hS (e_extract rfl rfl) rfl ?_; clear hS a; intro a hS
    refine L_op (s_alloc hS ty_z35 rfl ?_); clear hS a; (try clear w); intro a w b26 hS
    refine L_op (s_storeA hS rfl rfl ty_sz35 (by repeat constructor) (by rfl) (by rfl) (by rfl) ?_); clear hS; (try clear w); intro w hS
    refine L_e hS (e_assign rfl) rfl ?_; clear hS a; intro a hS
    refine L_nil (n_then (c_seq (c_region ?_)))
    refine L_e hS (e_move rfl) rfl ?_; clear hS a; intro a hS
    refine L_e hS (e_move rfl) rfl ?_; clear hS a; intro a hS
    refine L_op (s_callP hS (.cons rfl (.cons rfl .nil)) cf46 rfl (rlFind_P b r code (by omega) _ (hS.get (X := duoA B b s r false) (by repeat constructor)).f) ?_); clear hS a; (try clear w); intro a w hS
    rw [hac, hfa] at hS
    refine L_e hS (e_move rfl) rfl ?_; clear hS a; intro a hS
    refine L_e hS (e_extract rfl rfl) rfl ?_; clear hS a; intro a hS
    refine L_e hS (e_extract rfl rfl) rfl ?_; clear hS a; intro a hS
    refine L_op (s_alloc hS ty_z51 rfl ?_); clear hS a; (try clear w); intro a w b28 hS
    refine L_op (s_storeA hS rfl rfl ty_sz51 (by repeat constructor) (by rfl) (by rfl) (by rfl) ?_); clear hS; (try clear w); intro w hS
    refine L_e hS (e_assign rfl) rfl ?_; clear hS a; intro a hS
    refine L_nil (n_then (c_seq (c_region ?_)))
    refine L_e hS (e_move rfl) rfl ?_; clear hS a; intro a hS
    refine L_op (s_callN hS (.cons rfl .nil) cf27 rfl (lAccs_P B s (by omega) _ (hS.get (X := duoA B b s r false) (by repeat constructor)).l) ?_); clear hS a; (try clear w); intro x270 a w hS
    rw [haL] at hS
    obtain ⟨q30, c30, rfl⟩ := own_slice (hS.get (X := ownA 35 4 x270 s.acs.length ((accsL s.acs).flatMap encAc)) (by repeat constructor))
    refine L_e hS (e_assign rfl) rfl ?_; clear hS a; intro a hS
    refine L_nil (n_then (c_seq (c_seq (c_region ?_))))
    refine L_e hS (e_assign rfl) rfl ?_; clear hS a; intro a hS
    refine L_nil (n_then (wp_block ?_))
    skip
    refine c_loop (γ := Nat) (fun i a w => St 375 noB w0 a w [(31, .int .i64 (i : Int)), (30, .slice q30 s.acs.length c30), (29, .bool (findA s.acs code).isSome), (28, .pointer (some ⟨b28, 0, none⟩)), (27, .bool (findA s.acs code).isSome), (26, .pointer (some ⟨b26, 0, none⟩)), (1, .pointer (some ⟨b, 0, none⟩))] [ownA 35 4 (.slice q30 s.acs.length c30) s.acs.length ((accsL s.acs).flatMap encAc), .blk b28 (encAc (accOf s.acs code)) 51, .blk b26 (encAc (accOf s.acs code)) 35, duoA B b s r false] ∧ i ≤ s.acs.length) (fun i => s.acs.length - i) 0 ⟨(hS.slots (by repeat (first | exact trivial | refine ⟨rfl, ?_⟩))).pick (by repeat (first | exact Pick.nil | (refine Pick.cons (by repeat (first | exact Rem.head | apply Rem.tail)) ?_))), Nat.zero_le _⟩ ?_
    clear hS a; (try clear w); intro i a w hI
    obtain ⟨hS, hi⟩ := hI
    refine c_seq (c_seq (c_region ?_))
    refine L_e hS (e_move rfl) rfl ?_; clear hS a; intro a hS
    refine L_e hS (e_move rfl) rfl ?_; clear hS a; intro a hS
    refine L_e hS (e_len rfl rfl ty_sl48) rfl ?_; clear hS a; intro a hS
    refine L_e hS (e_bin rfl rfl rfl) rfl ?_; clear hS a; intro a hS
    refine L_nil (n_then ?_)
    first | refine c_ifD hS rfl (fun hc274 => ?_) (fun hc274 => ?_) | refine c_if hS rfl (fun hc274 => ?_) (fun hc274 => ?_)
    ·
      have hil : i < s.acs.length := by omega
      obtain ⟨x, hx⟩ : ∃ x, (accsL s.acs)[i]? = some x := ⟨(accsL s.acs)[i]'(by omega), List.getElem?_eq_getElem (by omega)⟩
      have hxr : r.acs[i]? = some x := by rw [hra]; exact hx
      obtain ⟨g30, rfl⟩ : ∃ g, q30 = some ⟨g, 0, none⟩ := own_at (hS.get (X := ownA 35 4 (.slice q30 s.acs.length c30) s.acs.length ((accsL s.acs).flatMap encAc)) (by repeat constructor)) (by omega)
      obtain ⟨gA, rfl⟩ : ∃ g, pA = some ⟨g, 0, none⟩ := by rcases hshA with ⟨_, e⟩ | e; exact absurd e (by omega); exact e
      refine wp_skip (n_then (c_seq (wp_block (c_seq ?_))))
      refine c_drawSN [] (by kernel_rfl) hS (sub_cons (X := duoA B b s r false) (by repeat constructor) (sub_cons (X := ownA 35 4 (.slice (some ⟨g30, 0, none⟩) s.acs.length c30) s.acs.length ((accsL s.acs).flatMap encAc)) (by repeat constructor) sub_nil)) (k := 71) (bs := (tf 0 71)) rfl rfl ?_; clear hS; (try clear w); intro w hS
      refine Zt0 0 (tf 1 70) hS rfl want_none (e_move rfl) rfl (by kernel_rfl) rfl ?_; clear hS a; intro a hS
      refine Zt0 1 (tf 2 69) hS rfl want_none (e_move rfl) rfl (by kernel_rfl) rfl ?_; clear hS a; intro a hS
      refine Zt0 2 (tf 3 68) hS rfl want_none (e_nilCheck rfl) rfl (by kernel_rfl) rfl ?_; clear hS a; intro a hS
      (first | refine Zt0 3 (tf 4 67) hS rfl want_none (e_fa0 rfl ty_fo66_1) rfl (by kernel_rfl) rfl ?_ | refine Zt0 3 (tf 4 67) hS rfl want_none (e_faK rfl ty_fo66_1) rfl (by kernel_rfl) rfl ?_); clear hS a; intro a hS
      refine Zt 4 (tf 5 66) hS rfl want_none (e_loadC rfl ty_sc63 (duo_cell (k := 1) (by repeat constructor) rfl)) rfl (by kernel_rfl) (sub_cons (by repeat constructor) (sub_cons (by repeat constructor) sub_nil)) rfl ?_; clear hS a; intro a hS
      rw [hav, hral] at hS
      refine Zt0 5 (tf 6 65) hS rfl want_none (e_len rfl rfl ty_sl63) rfl (by kernel_rfl) rfl ?_; clear hS a; intro a hS
      refine Zt0 6 (tf 7 64) hS rfl want_none (e_bin rfl rfl rfl) rfl (by kernel_rfl) rfl ?_; clear hS a; intro a hS
      refine Zt0 7 (tf 8 63) hS rfl want_none (e_move rfl) rfl (by kernel_rfl) rfl ?_; clear hS a; intro a hS
      replace hS := hS.is (t := 284) (c := false) rfl ((decide_eq_false (by omega)))
      refine Zt0 8 (tf 9 62) hS rfl (want_go rfl rfl) (e_move rfl) rfl (by kernel_rfl) rfl ?_; clear hS a; intro a hS
      refine Zt0 9 (tf 10 61) hS rfl (want_go rfl rfl) (e_move rfl) rfl (by kernel_rfl) rfl ?_; clear hS a; intro a hS
      refine Zt0 10 (tf 11 60) hS rfl (want_go rfl rfl) (e_ixN rfl rfl ty_sl48 ty_sz35 (by omega)) rfl (by kernel_rfl) rfl ?_; clear hS a; intro a hS
      (first | refine Zt0 11 (tf 12 59) hS rfl (want_go rfl rfl) (e_fa0 rfl ty_fo35_0) rfl (by kernel_rfl) rfl ?_ | refine Zt0 11 (tf 12 59) hS rfl (want_go rfl rfl) (e_faK rfl ty_fo35_0) rfl (by kernel_rfl) rfl ?_); clear hS a; intro a hS
      refine Zt 12 (tf 13 58) hS rfl (want_go rfl rfl) (e_loadC rfl ty_sc9 (fun w hh => own_getL (enc := encAc) (s := 4) (fun _ => rfl) (E := 35) (by repeat constructor) hx w hh 0 (.string x.code) rfl)) rfl (by kernel_rfl) (sub_cons (by repeat constructor) (sub_cons (by repeat constructor) sub_nil)) rfl ?_; clear hS a; intro a hS
      refine Zt0 13 (tf 14 57) hS rfl (want_go rfl rfl) (e_move rfl) rfl (by kernel_rfl) rfl ?_; clear hS a; intro a hS
      refine Zt0 14 (tf 15 56) hS rfl (want_go rfl rfl) (e_nilCheck rfl) rfl (by kernel_rfl) rfl ?_; clear hS a; intro a hS
      (first | refine Zt0 15 (tf 16 55) hS rfl (want_go rfl rfl) (e_fa0 rfl ty_fo66_1) rfl (by kernel_rfl) rfl ?_ | refine Zt0 15 (tf 16 55) hS rfl (want_go rfl rfl) (e_faK rfl ty_fo66_1) rfl (by kernel_rfl) rfl ?_); clear hS a; intro a hS
      refine Zt 16 (tf 17 54) hS rfl (want_go rfl rfl) (e_loadC rfl ty_sc63 (duo_cell (k := 1) (by repeat constructor) rfl)) rfl (by kernel_rfl) (sub_cons (by repeat constructor) (sub_cons (by repeat constructor) sub_nil)) rfl ?_; clear hS a; intro a hS
      rw [hav, hral] at hS
      refine Zt0 17 (tf 18 53) hS rfl (want_go rfl rfl) (e_move rfl) rfl (by kernel_rfl) rfl ?_; clear hS a; intro a hS
      refine Zt0 18 (tf 19 52) hS rfl (want_go rfl rfl) (e_ixN rfl rfl ty_sl63 ty_sz51 (by omega)) rfl (by kernel_rfl) rfl ?_; clear hS a; intro a hS
      (first | refine Zt0 19 (tf 20 51) hS rfl (want_go rfl rfl) (e_fa0 rfl ty_fo51_0) rfl (by kernel_rfl) rfl ?_ | refine Zt0 19 (tf 20 51) hS rfl (want_go rfl rfl) (e_faK rfl ty_fo51_0) rfl (by kernel_rfl) rfl ?_); clear hS a; intro a hS
      refine Zt 20 (tf 21 50) hS rfl (want_go rfl rfl) (e_loadC rfl ty_sc9 (fun w hh => duo_rowA (by rw [hav]) (by repeat constructor) hxr w hh 0 (.string x.code) rfl)) rfl (by kernel_rfl) (sub_cons (by repeat constructor) (sub_cons (by repeat constructor) sub_nil)) rfl ?_; clear hS a; intro a hS
      refine Zt0 21 (tf 22 49) hS rfl (want_go rfl rfl) (e_binS rfl rfl rfl) rfl (by kernel_rfl) rfl ?_; clear hS a; intro a hS
      refine Zt0 22 (tf 23 48) hS rfl want_none (e_pk rfl rfl) rfl (by kernel_rfl) rfl ?_; clear hS a; intro a hS
      refine Zt0 23 (tf 24 47) hS rfl want_none (e_move rfl) rfl (by kernel_rfl) rfl ?_; clear hS a; intro a hS
      replace hS := hS.is (t := 300) (c := false) rfl ((by simp))
      refine Zt0 24 (tf 25 46) hS rfl (want_go rfl rfl) (e_move rfl) rfl (by kernel_rfl) rfl ?_; clear hS a; intro a hS
      refine Zt0 25 (tf 26 45) hS rfl (want_go rfl rfl) (e_move rfl) rfl (by kernel_rfl) rfl ?_; clear hS a; intro a hS
      refine Zt0 26 (tf 27 44) hS rfl (want_go rfl rfl) (e_ixN rfl rfl ty_sl48 ty_sz35 (by omega)) rfl (by kernel_rfl) rfl ?_; clear hS a; intro a hS
      (first | refine Zt0 27 (tf 28 43) hS rfl (want_go rfl rfl) (e_fa0 rfl ty_fo35_1) rfl (by kernel_rfl) rfl ?_ | refine Zt0 27 (tf 28 43) hS rfl (want_go rfl rfl) (e_faK rfl ty_fo35_1) rfl (by kernel_rfl) rfl ?_); clear hS a; intro a hS
      refine Zt 28 (tf 29 42) hS rfl (want_go rfl rfl) (e_loadC rfl ty_sc9 (fun w hh => own_getL (enc := encAc) (s := 4) (fun _ => rfl) (E := 35) (by repeat constructor) hx w hh 1 (.string x.cur) rfl)) rfl (by kernel_rfl) (sub_cons (by repeat constructor) (sub_cons (by repeat constructor) sub_nil)) rfl ?_; clear hS a; intro a hS
      refine Zt0 29 (tf 30 41) hS rfl (want_go rfl rfl) (e_move rfl) rfl (by kernel_rfl) rfl ?_; clear hS a; intro a hS
      refine Zt0 30 (tf 31 40) hS rfl (want_go rfl rfl) (e_nilCheck rfl) rfl (by kernel_rfl) rfl ?_; clear hS a; intro a hS
      (first | refine Zt0 31 (tf 32 39) hS rfl (want_go rfl rfl) (e_fa0 rfl ty_fo66_1) rfl (by kernel_rfl) rfl ?_ | refine Zt0 31 (tf 32 39) hS rfl (want_go rfl rfl) (e_faK rfl ty_fo66_1) rfl (by kernel_rfl) rfl ?_); clear hS a; intro a hS
      refine Zt 32 (tf 33 38) hS rfl (want_go rfl rfl) (e_loadC rfl ty_sc63 (duo_cell (k := 1) (by repeat constructor) rfl)) rfl (by kernel_rfl) (sub_cons (by repeat constructor) (sub_cons (by repeat constructor) sub_nil)) rfl ?_; clear hS a; intro a hS
      rw [hav, hral] at hS
      refine Zt0 33 (tf 34 37) hS rfl (want_go rfl rfl) (e_move rfl) rfl (by kernel_rfl) rfl ?_; clear hS a; intro a hS
      refine Zt0 34 (tf 35 36) hS rfl (want_go rfl rfl) (e_ixN rfl rfl ty_sl63 ty_sz51 (by omega)) rfl (by kernel_rfl) rfl ?_; clear hS a; intro a hS
      (first | refine Zt0 35 (tf 36 35) hS rfl (want_go rfl rfl) (e_fa0 rfl ty_fo51_1) rfl (by kernel_rfl) rfl ?_ | refine Zt0 35 (tf 36 35) hS rfl (want_go rfl rfl) (e_faK rfl ty_fo51_1) rfl (by kernel_rfl) rfl ?_); clear hS a; intro a hS
      refine Zt 36 (tf 37 34) hS rfl (want_go rfl rfl) (e_loadC rfl ty_sc9 (fun w hh => duo_rowA (by rw [hav]) (by repeat constructor) hxr w hh 1 (.string x.cur) rfl)) rfl (by kernel_rfl) (sub_cons (by repeat constructor) (sub_cons (by repeat constructor) sub_nil)) rfl ?_; clear hS a; intro a hS
      refine Zt0 37 (tf 38 33) hS rfl (want_go rfl rfl) (e_binS rfl rfl rfl) rfl (by kernel_rfl) rfl ?_; clear hS a; intro a hS
      refine Zt0 38 (tf 39 32) hS rfl want_none (e_pk rfl rfl) rfl (by kernel_rfl) rfl ?_; clear hS a; intro a hS
      refine Zt0 39 (tf 40 31) hS rfl want_none (e_move rfl) rfl (by kernel_rfl) rfl ?_; clear hS a; intro a hS
      replace hS := hS.is (t := 316) (c := false) rfl ((by simp))
      refine Zt0 40 (tf 41 30) hS rfl (want_go rfl rfl) (e_move rfl) rfl (by kernel_rfl) rfl ?_; clear hS a; intro a hS
      refine Zt0 41 (tf 42 29) hS rfl (want_go rfl rfl) (e_move rfl) rfl (by kernel_rfl) rfl ?_; clear hS a; intro a hS
      refine Zt0 42 (tf 43 28) hS rfl (want_go rfl rfl) (e_ixN rfl rfl ty_sl48 ty_sz35 (by omega)) rfl (by kernel_rfl) rfl ?_; clear hS a; intro a hS
      (first | refine Zt0 43 (tf 44 27) hS rfl (want_go rfl rfl) (e_fa0 rfl ty_fo35_2) rfl (by kernel_rfl) rfl ?_ | refine Zt0 43 (tf 44 27) hS rfl (want_go rfl rfl) (e_faK rfl ty_fo35_2) rfl (by kernel_rfl) rfl ?_); clear hS a; intro a hS
      refine Zt 44 (tf 45 26) hS rfl (want_go rfl rfl) (e_loadC rfl ty_sc3 (fun w hh => own_getL (enc := encAc) (s := 4) (fun _ => rfl) (E := 35) (by repeat constructor) hx w hh 2 (.int .i64 x.kind) rfl)) rfl (by kernel_rfl) (sub_cons (by repeat constructor) (sub_cons (by repeat constructor) sub_nil)) rfl ?_; clear hS a; intro a hS
      refine Zt0 45 (tf 46 25) hS rfl (want_go rfl rfl) (e_move rfl) rfl (by kernel_rfl) rfl ?_; clear hS a; intro a hS
      refine Zt0 46 (tf 47 24) hS rfl (want_go rfl rfl) (e_nilCheck rfl) rfl (by kernel_rfl) rfl ?_; clear hS a; intro a hS
      (first | refine Zt0 47 (tf 48 23) hS rfl (want_go rfl rfl) (e_fa0 rfl ty_fo66_1) rfl (by kernel_rfl) rfl ?_ | refine Zt0 47 (tf 48 23) hS rfl (want_go rfl rfl) (e_faK rfl ty_fo66_1) rfl (by kernel_rfl) rfl ?_); clear hS a; intro a hS
      refine Zt 48 (tf 49 22) hS rfl (want_go rfl rfl) (e_loadC rfl ty_sc63 (duo_cell (k := 1) (by repeat constructor) rfl)) rfl (by kernel_rfl) (sub_cons (by repeat constructor) (sub_cons (by repeat constructor) sub_nil)) rfl ?_; clear hS a; intro a hS
      rw [hav, hral] at hS
      refine Zt0 49 (tf 50 21) hS rfl (want_go rfl rfl) (e_move rfl) rfl (by kernel_rfl) rfl ?_; clear hS a; intro a hS
      refine Zt0 50 (tf 51 20) hS rfl (want_go rfl rfl) (e_ixN rfl rfl ty_sl63 ty_sz51 (by omega)) rfl (by kernel_rfl) rfl ?_; clear hS a; intro a hS
      (first | refine Zt0 51 (tf 52 19) hS rfl (want_go rfl rfl) (e_fa0 rfl ty_fo51_2) rfl (by kernel_rfl) rfl ?_ | refine Zt0 51 (tf 52 19) hS rfl (want_go rfl rfl) (e_faK rfl ty_fo51_2) rfl (by kernel_rfl) rfl ?_); clear hS a; intro a hS
      refine Zt 52 (tf 53 18) hS rfl (want_go rfl rfl) (e_loadC rfl ty_sc3 (fun w hh => duo_rowA (by rw [hav]) (by repeat constructor) hxr w hh 2 (.int .i64 x.kind) rfl)) rfl (by kernel_rfl) (sub_cons (by repeat constructor) (sub_cons (by repeat constructor) sub_nil)) rfl ?_; clear hS a; intro a hS
      refine Zt0 53 (tf 54 17) hS rfl (want_go rfl rfl) (e_bin rfl rfl rfl) rfl (by kernel_rfl) rfl ?_; clear hS a; intro a hS
      refine Zt0 54 (tf 55 16) hS rfl want_none (e_pk rfl rfl) rfl (by kernel_rfl) rfl ?_; clear hS a; intro a hS
      refine Zt0 55 (tf 56 15) hS rfl want_none (e_move rfl) rfl (by kernel_rfl) rfl ?_; clear hS a; intro a hS
      replace hS := hS.is (t := 332) (c := false) rfl ((by simp))
      refine Zt0 56 (tf 57 14) hS rfl (want_go rfl rfl) (e_move rfl) rfl (by kernel_rfl) rfl ?_; clear hS a; intro a hS
      refine Zt0 57 (tf 58 13) hS rfl (want_go rfl rfl) (e_move rfl) rfl (by kernel_rfl) rfl ?_; clear hS a; intro a hS
      refine Zt0 58 (tf 59 12) hS rfl (want_go rfl rfl) (e_ixN rfl rfl ty_sl48 ty_sz35 (by omega)) rfl (by kernel_rfl) rfl ?_; clear hS a; intro a hS
      (first | refine Zt0 59 (tf 60 11) hS rfl (want_go rfl rfl) (e_fa0 rfl ty_fo35_3) rfl (by kernel_rfl) rfl ?_ | refine Zt0 59 (tf 60 11) hS rfl (want_go rfl rfl) (e_faK rfl ty_fo35_3) rfl (by kernel_rfl) rfl ?_); clear hS a; intro a hS
      refine Zt 60 (tf 61 10) hS rfl (want_go rfl rfl) (e_loadC rfl ty_sc4 (fun w hh => own_getL (enc := encAc) (s := 4) (fun _ => rfl) (E := 35) (by repeat constructor) hx w hh 3 (.bool x.mon) rfl)) rfl (by kernel_rfl) (sub_cons (by repeat constructor) (sub_cons (by repeat constructor) sub_nil)) rfl ?_; clear hS a; intro a hS
      refine Zt0 61 (tf 62 9) hS rfl (want_go rfl rfl) (e_move rfl) rfl (by kernel_rfl) rfl ?_; clear hS a; intro a hS
      refine Zt0 62 (tf 63 8) hS rfl (want_go rfl rfl) (e_nilCheck rfl) rfl (by kernel_rfl) rfl ?_; clear hS a; intro a hS
      (first | refine Zt0 63 (tf 64 7) hS rfl (want_go rfl rfl) (e_fa0 rfl ty_fo66_1) rfl (by kernel_rfl) rfl ?_ | refine Zt0 63 (tf 64 7) hS rfl (want_go rfl rfl) (e_faK rfl ty_fo66_1) rfl (by kernel_rfl) rfl ?_); clear hS a; intro a hS
      refine Zt 64 (tf 65 6) hS rfl (want_go rfl rfl) (e_loadC rfl ty_sc63 (duo_cell (k := 1) (by repeat constructor) rfl)) rfl (by kernel_rfl) (sub_cons (by repeat constructor) (sub_cons (by repeat constructor) sub_nil)) rfl ?_; clear hS a; intro a hS
      rw [hav, hral] at hS
      refine Zt0 65 (tf 66 5) hS rfl (want_go rfl rfl) (e_move rfl) rfl (by kernel_rfl) rfl ?_; clear hS a; intro a hS
      refine Zt0 66 (tf 67 4) hS rfl (want_go rfl rfl) (e_ixN rfl rfl ty_sl63 ty_sz51 (by omega)) rfl (by kernel_rfl) rfl ?_; clear hS a; intro a hS
      (first | refine Zt0 67 (tf 68 3) hS rfl (want_go rfl rfl) (e_fa0 rfl ty_fo51_3) rfl (by kernel_rfl) rfl ?_ | refine Zt0 67 (tf 68 3) hS rfl (want_go rfl rfl) (e_faK rfl ty_fo51_3) rfl (by kernel_rfl) rfl ?_); clear hS a; intro a hS
      refine Zt 68 (tf 69 2) hS rfl (want_go rfl rfl) (e_loadC rfl ty_sc4 (fun w hh => duo_rowA (by rw [hav]) (by repeat constructor) hxr w hh 3 (.bool x.mon) rfl)) rfl (by kernel_rfl) (sub_cons (by repeat constructor) (sub_cons (by repeat constructor) sub_nil)) rfl ?_; clear hS a; intro a hS
      refine Zt0 69 (tf 70 1) hS rfl (want_go rfl rfl) (e_binBn rfl rfl ty_u4) rfl (by kernel_rfl) rfl ?_; clear hS a; intro a hS
      refine Zt0 70 (tf 71 0) hS rfl want_none (e_pk rfl rfl) rfl (by kernel_rfl) rfl ?_; clear hS a; intro a hS
      refine Z_done (by kernel_rfl) ?_
      refine n_then ?_
      replace hS := hS.is (t := 347) (c := false) rfl ((by simp))
      refine c_if_f hS rfl ?_
      refine wp_skip (n_block (n_then (c_region ?_)))
      refine L_e hS (e_move rfl) rfl ?_; clear hS a; intro a hS
      (first | refine L_e hS (e_binN rfl rfl rfl (by omega)) rfl ?_ | refine L_e hS (e_bin rfl rfl rfl) rfl ?_); clear hS a; intro a hS
      refine L_e hS (e_assign rfl) rfl ?_; clear hS a; intro a hS
      refine L_nil ?_
      exact ⟨i + 1, by omega, (hS.slots (by repeat (first | exact trivial | refine ⟨rfl, ?_⟩))).pick (by repeat (first | exact Pick.nil | (refine Pick.cons (by repeat (first | exact Rem.head | apply Rem.tail)) ?_))), by omega⟩
    refine wp_exit ?_
    refine x_then (x_then (x_hit ?_))
    refine n_then (c_seq (c_region ?_))
    refine L_e hS (e_move rfl) rfl ?_; clear hS a; intro a hS
    refine L_e hS (e_move rfl) rfl ?_; clear hS a; intro a hS
    refine L_e hS (e_binB rfl rfl ty_u4 rfl) rfl ?_; clear hS a; intro a hS
    refine L_e hS (e_move rfl) rfl ?_; clear hS a; intro a hS
    replace hS := hS.is (t := 351) (c := true) rfl ((by simp))
    (first | refine L_ge hS rfl rfl (e_fa0 rfl ty_fo35_0) rfl ?_ | refine L_ge hS rfl rfl (e_faK rfl ty_fo35_0) rfl ?_); clear hS a; intro a hS
    refine L_ge hS rfl rfl (e_load rfl (by repeat constructor) ty_sc9 (by rfl)) rfl ?_; clear hS a; intro a hS
    (first | refine L_ge hS rfl rfl (e_fa0 rfl ty_fo51_0) rfl ?_ | refine L_ge hS rfl rfl (e_faK rfl ty_fo51_0) rfl ?_); clear hS a; intro a hS
    refine L_ge hS rfl rfl (e_load rfl (by repeat constructor) ty_sc9 (by rfl)) rfl ?_; clear hS a; intro a hS
    refine L_ge hS rfl rfl (e_binS rfl rfl rfl) rfl ?_; clear hS a; intro a hS
    refine L_e hS (e_pk rfl rfl) rfl ?_; clear hS a; intro a hS
    refine L_e hS (e_move rfl) rfl ?_; clear hS a; intro a hS
    replace hS := hS.is (t := 358) (c := true) rfl ((by simp))
    (first | refine L_ge hS rfl rfl (e_fa0 rfl ty_fo35_1) rfl ?_ | refine L_ge hS rfl rfl (e_faK rfl ty_fo35_1) rfl ?_); clear hS a; intro a hS
    refine L_ge hS rfl rfl (e_load rfl (by repeat constructor) ty_sc9 (by rfl)) rfl ?_; clear hS a; intro a hS
    (first | refine L_ge hS rfl rfl (e_fa0 rfl ty_fo51_1) rfl ?_ | refine L_ge hS rfl rfl (e_faK rfl ty_fo51_1) rfl ?_); clear hS a; intro a hS
    refine L_ge hS rfl rfl (e_load rfl (by repeat constructor) ty_sc9 (by rfl)) rfl ?_; clear hS a; intro a hS
    refine L_ge hS rfl rfl (e_binS rfl rfl rfl) rfl ?_; clear hS a; intro a hS
    refine L_e hS (e_pk rfl rfl) rfl ?_; clear hS a; intro a hS
    refine L_e hS (e_move rfl) rfl ?_; clear hS a; intro a hS
    replace hS := hS.is (t := 365) (c := true) rfl ((by simp))
    refine L_ge hS rfl rfl (e_move rfl) rfl ?_; clear hS a; intro a hS
    refine L_ge hS rfl rfl (e_len rfl rfl ty_sl48) rfl ?_; clear hS a; intro a hS
    refine L_ge hS rfl rfl (e_move rfl) rfl ?_; clear hS a; intro a hS
    refine L_ge hS rfl rfl (e_nilCheck rfl) rfl ?_; clear hS a; intro a hS
    (first | refine L_ge hS rfl rfl (e_fa0 rfl ty_fo66_1) rfl ?_ | refine L_ge hS rfl rfl (e_faK rfl ty_fo66_1) rfl ?_); clear hS a; intro a hS
    refine L_ge hS rfl rfl (e_loadC rfl ty_sc63 (duo_cell (k := 1) (by repeat constructor) rfl)) rfl ?_; clear hS a; intro a hS
    rw [hav, hral] at hS
    refine L_ge hS rfl rfl (e_len rfl rfl ty_sl63) rfl ?_; clear hS a; intro a hS
    refine L_ge hS rfl rfl (e_bin rfl rfl rfl) rfl ?_; clear hS a; intro a hS
    refine L_e hS (e_pk rfl rfl) rfl ?_; clear hS a; intro a hS
    refine L_e hS (e_assign rfl) rfl ?_; clear hS a; intro a hS
    refine L_nil (n_then (wp_ret ?_))
    refine c_ret1 hS Tryz.results12 (.tmp rfl) ?_
    exact ⟨by first | rfl | simp, hS.chg⟩
end Go.Proofs.YtheofhegdjjfgaaGreat

namespace Go.Proofs.YtheofhegdjjfgaaGreat
open Go.RowKit
theorem both_new (c : ByteArray) : both (newL c) (newR c) 0 :=
  ⟨⟨rfl, (List.eq_nil_of_length_eq_zero (accs_len [])).symm, rfl, rfl⟩, ⟨fun x hx => (by cases hx), Nat.le_refl _, fun x hx => (by cases hx), fun e he => (by cases he), Nat.zero_le _, fun x hx => (by cases hx), List.nodup_nil, fun c => rfl, fun x hx => (by cases hx)⟩, fun a ha => (by cases ha), fun i x hx => (by cases hx)⟩
set_option maxHeartbeats 1000000 in
set_option maxRecDepth 100000 in
theorem LedgerPlays_no (cur : ByteArray) (hcs : cur.size ≤ 4611686018427387904) (hc : (scaleR cur).2 ≠ 0) (p : Option (Nat × Nat)) (c : Nat) (l : List LO) (hlen : l.length ≤ 4611686018427387904) (hfit : ∀ x ∈ l, x.fits) (to_ : Int)
    (w0 : World) (h : losφ p l w0) (hb : ∀ r, p = some r → r.1 < w0.heap.size) :
    PureC Tryz.prog 3 [.string cur, sliceV p l.length c, .int .i64 to_] w0 (.bool true) := by
  refine c_enter [(0, .string cur), (1, sliceV p l.length c), (2, .int .i64 to_)] [losA p l] noB Tryz.func3 rfl Tryz.ntmps3 ⟨rfl, rfl, rfl, trivial⟩ rfl (okC (los_ok h hb) okN) dis1 (mineC (by rfl) mineN) ?_
  intro a hS
  refine c_seq (c_region ?_)
  refine L_e hS (e_assign rfl) rfl ?_; clear hS a; intro a hS
  refine L_nil (n_then (c_seq (c_region ?_)))
  refine L_op (s_callP hS .nil cf6 rfl (lfirst_P _) ?_); clear hS a; (try clear w); intro a w hS
  refine L_e hS (e_assign rfl) rfl ?_; clear hS a; intro a hS
  refine L_nil (n_then (c_seq (c_region ?_)))
  refine L_e hS (e_move rfl) rfl ?_; clear hS a; intro a hS
  refine L_op (s_callP hS (.cons rfl .nil) cf7 rfl (lFew_P p c l hlen hfit _ (hS.get (X := losA p l) (by repeat constructor)) (fun r hr => (hS.ok (losA p l) (by repeat constructor)).lt r.1 (.inl ⟨r.2, hr⟩))) ?_); clear hS a; (try clear w); intro a w hS
  refine L_e hS (e_assign rfl) rfl ?_; clear hS a; intro a hS
  refine L_nil (n_then (c_seq (c_seq (c_region ?_))))
  refine L_e hS (e_move rfl) rfl ?_; clear hS a; intro a hS
  refine L_e hS (e_not rfl) rfl ?_; clear hS a; intro a hS
  refine L_e hS (e_move rfl) rfl ?_; clear hS a; intro a hS
  replace hS := hS.is (t := 20) (c := false) rfl (rfl)
  refine L_ge hS rfl rfl (e_move rfl) rfl ?_; clear hS a; intro a hS
  refine L_ge hS rfl rfl (e_not rfl) rfl ?_; clear hS a; intro a hS
  refine L_e hS (e_pk rfl rfl) rfl ?_; clear hS a; intro a hS
  refine L_e hS (e_move rfl) rfl ?_; clear hS a; intro a hS
  refine L_merge 4 28 (.bool (decide (¬ fewLs l ∨ 300 < cur.size))) hS ?_ ?_
  · intro hcM28
    (first | refine g_splitD (t := 24) hS rfl ?_ ?_ | refine g_split (t := 24) hS rfl ?_ ?_) <;> (clear hS; intro hg24 hS)
    ·
      refine L_skip_f hS rfl rfl rfl ?_; clear hS a; intro a hS
      refine L_skip_f hS rfl rfl rfl ?_; clear hS a; intro a hS
      refine L_skip_f hS rfl rfl rfl ?_; clear hS a; intro a hS
      refine L_e hS (e_pk rfl rfl) rfl ?_; clear hS a; intro a hS
      exact hcM28 _ _ (hS.ends 5 28 24 rfl (congrArg Value.bool (by exact (decide_eq_true (.inl (by simpa using hg24))).symm)) rfl rfl (by first | exact congrArg Value.bool (decide_eq_true hg24).symm | exact congrArg Value.bool hg24.symm | simp [hg24]) rfl)
    refine L_ge hS rfl rfl (e_move rfl) rfl ?_; clear hS a; intro a hS
    refine L_ge hS rfl rfl (e_lenS rfl rfl ty_u9) rfl ?_; clear hS a; intro a hS
    refine L_ge hS rfl rfl (e_bin rfl rfl rfl) rfl ?_; clear hS a; intro a hS
    refine L_e hS (e_pk rfl rfl) rfl ?_; clear hS a; intro a hS
    exact hcM28 _ _ (hS.ends 5 28 24 rfl (congrArg Value.bool (by rw [decide_eq_decide]; exact ⟨fun e => .inr (by omega), fun e => by have e2 := e.resolve_left (by simpa using hg24); omega⟩)) rfl rfl (by first | exact congrArg Value.bool (decide_eq_false hg24).symm | exact congrArg Value.bool hg24.symm | simp [hg24]) rfl)
  · clear hS a; (try clear w); intro a w hS
    simp only [List.drop_succ_cons, List.drop_zero]
    refine L_nil (n_then ?_)
    first | refine c_ifD hS rfl (fun hc28 => ?_) (fun hc28 => ?_) | refine c_if hS rfl (fun hc28 => ?_) (fun hc28 => ?_)
    ·
      refine c_seq (c_region ?_)
      refine L_e hS (e_move rfl) rfl ?_; clear hS a; intro a hS
      refine L_e hS (e_assign rfl) rfl ?_; clear hS a; intro a hS
      refine L_nil (n_then (wp_ret (r_then ?_)))
      refine c_ret1 hS Tryz.results3 (.tmp rfl) ?_
      exact ⟨rfl, hS.chg⟩
    refine wp_skip (n_then (c_seq (c_region ?_)))
    refine L_e hS (e_move rfl) rfl ?_; clear hS a; intro a hS
    refine L_op (s_callP hS (.cons rfl .nil) cf8 rfl (lNew_no cur _ hc) ?_); clear hS a; (try clear w); intro a w hS
    refine L_e hS (e_move rfl) rfl ?_; clear hS a; intro a hS
    refine L_e hS (e_extract rfl rfl) rfl ?_; clear hS a; intro a hS
    refine L_e hS (e_extract rfl rfl) rfl ?_; clear hS a; intro a hS
    refine L_e hS (e_assign rfl) rfl ?_; clear hS a; intro a hS
    refine L_e hS (e_assign rfl) rfl ?_; clear hS a; intro a hS
    refine L_nil (n_then (c_seq (c_region ?_)))
    refine L_e hS (e_move rfl) rfl ?_; clear hS a; intro a hS
    refine L_op (s_callP hS (.cons rfl .nil) cf9 rfl (rlNew_no cur _ hc) ?_); clear hS a; (try clear w); intro a w hS
    refine L_e hS (e_move rfl) rfl ?_; clear hS a; intro a hS
    refine L_e hS (e_extract rfl rfl) rfl ?_; clear hS a; intro a hS
    refine L_e hS (e_extract rfl rfl) rfl ?_; clear hS a; intro a hS
    refine L_e hS (e_assign rfl) rfl ?_; clear hS a; intro a hS
    refine L_e hS (e_assign rfl) rfl ?_; clear hS a; intro a hS
    refine L_nil (n_then (c_seq (c_seq (c_region ?_))))
    refine L_e hS (e_move rfl) rfl ?_; clear hS a; intro a hS
    refine L_op (s_callP hS (.cons rfl .nil) cf10 rfl (Num_w _ _) ?_); clear hS a; (try clear w); intro a w hS
    refine L_e hS (e_move rfl) rfl ?_; clear hS a; intro a hS
    refine L_e hS (e_bin rfl rfl rfl) rfl ?_; clear hS a; intro a hS
    refine L_e hS (e_move rfl) rfl ?_; clear hS a; intro a hS
    replace hS := hS.is (t := 44) (c := false) rfl ((by simp))
    refine L_ge hS rfl rfl (e_move rfl) rfl ?_; clear hS a; intro a hS
    refine L_ge hS rfl rfl (e_nil rfl ty_u25) rfl ?_; clear hS a; intro a hS
    refine L_ge hS rfl rfl (e_move rfl) rfl ?_; clear hS a; intro a hS
    refine L_ge hS rfl rfl (e_nil rfl ty_u29) rfl ?_; clear hS a; intro a hS
    refine L_ge hS rfl rfl (e_binBn rfl rfl ty_u4) rfl ?_; clear hS a; intro a hS
    refine L_e hS (e_pk rfl rfl) rfl ?_; clear hS a; intro a hS
    refine L_nil (n_then ?_)
    replace hS := hS.is (t := 50) (c := false) rfl (rfl)
    refine c_if_f hS rfl ?_
    refine wp_skip (n_then (c_seq (c_seq (c_region ?_))))
    refine L_e hS (e_assign rfl) rfl ?_; clear hS a; intro a hS
    refine L_nil (n_then (wp_block ?_))
    skip
    refine c_loop (γ := Nat) (fun i a w => St 88 noB w0 a w [(13, .int .i64 (i : Int)), (11, .pointer none), (1, sliceV p l.length c)] [losA p l] ∧ i ≤ 0) (fun i => i) 0 ⟨hS.slots (by repeat (first | exact trivial | refine ⟨rfl, ?_⟩)), Nat.le_refl _⟩ ?_
    clear hS a; (try clear w); intro i a w hI
    obtain ⟨hS, _⟩ := hI
    refine c_seq (c_seq (c_region ?_))
    refine L_e hS (e_move rfl) rfl ?_; clear hS a; intro a hS
    refine L_e hS (e_move rfl) rfl ?_; clear hS a; intro a hS
    refine L_e hS (e_len rfl rfl ty_sl22) rfl ?_; clear hS a; intro a hS
    refine L_e hS (e_bin rfl rfl rfl) rfl ?_; clear hS a; intro a hS
    refine L_e hS (e_move rfl) rfl ?_; clear hS a; intro a hS
    refine L_merge 3 58 (.bool (false)) hS ?_ ?_
    · intro hcM58
      (first | refine g_splitD (t := 55) hS rfl ?_ ?_ | refine g_split (t := 55) hS rfl ?_ ?_) <;> (clear hS; intro hg55 hS)
      ·
        refine L_ge hS rfl rfl (e_move rfl) rfl ?_; clear hS a; intro a hS
        refine L_ge hS rfl rfl (e_nnil rfl ty_u29) rfl ?_; clear hS a; intro a hS
        refine L_e hS (e_pk rfl rfl) rfl ?_; clear hS a; intro a hS
        exact hcM58 _ _ (hS.ends 4 58 55 rfl (congrArg Value.bool (by rfl)) rfl rfl (by first | exact congrArg Value.bool (decide_eq_true hg55).symm | exact congrArg Value.bool hg55.symm | simp [hg55]) rfl)
      refine L_skip_t hS rfl rfl rfl ?_; clear hS a; intro a hS
      refine L_skip_t hS rfl rfl rfl ?_; clear hS a; intro a hS
      refine L_e hS (e_pk rfl rfl) rfl ?_; clear hS a; intro a hS
      exact hcM58 _ _ (hS.ends 4 58 55 rfl (congrArg Value.bool (by rfl)) rfl rfl (by first | exact congrArg Value.bool (decide_eq_false hg55).symm | exact congrArg Value.bool hg55.symm | simp [hg55]) rfl)
    · clear hS a; (try clear w); intro a w hS
      simp only [List.drop_succ_cons, List.drop_zero]
      refine L_nil (n_then ?_)
      replace hS := hS.is (t := 58) (c := false) rfl (rfl)
      refine c_if_f hS rfl ?_
      refine wp_exit ?_
      refine x_then (x_then (x_hit ?_))
      refine n_then (c_seq (c_region ?_))
      refine L_e hS (e_assign rfl) rfl ?_; clear hS a; intro a hS
      refine L_nil (n_then (wp_ret ?_))
      refine c_ret1 hS Tryz.results3 (.tmp rfl) ?_
      exact ⟨rfl, hS.chg⟩
set_option maxHeartbeats 1000000 in
set_option maxRecDepth 100000 in
theorem LedgerPlays_ok (cur : ByteArray) (hcs : cur.size ≤ 4611686018427387904) (hc : (scaleR cur).2 = 0) (p : Option (Nat × Nat)) (c : Nat) (l : List LO) (hlen : l.length ≤ 4611686018427387904) (hfit : ∀ x ∈ l, x.fits) (to_ : Int)
    (w0 : World) (h : losφ p l w0) (hb : ∀ r, p = some r → r.1 < w0.heap.size) :
    PureC Tryz.prog 3 [.string cur, sliceV p l.length c, .int .i64 to_] w0 (.bool true) := by
  refine c_enter [(0, .string cur), (1, sliceV p l.length c), (2, .int .i64 to_)] [losA p l] noB Tryz.func3 rfl Tryz.ntmps3 ⟨rfl, rfl, rfl, trivial⟩ rfl (okC (los_ok h hb) okN) dis1 (mineC (by rfl) mineN) ?_
  intro a hS
  refine c_seq (c_region ?_)
  refine L_e hS (e_assign rfl) rfl ?_; clear hS a; intro a hS
  refine L_nil (n_then (c_seq (c_region ?_)))
  refine L_op (s_callP hS .nil cf6 rfl (lfirst_P _) ?_); clear hS a; (try clear w); intro a w hS
  refine L_e hS (e_assign rfl) rfl ?_; clear hS a; intro a hS
  refine L_nil (n_then (c_seq (c_region ?_)))
  refine L_e hS (e_move rfl) rfl ?_; clear hS a; intro a hS
  refine L_op (s_callP hS (.cons rfl .nil) cf7 rfl (lFew_P p c l hlen hfit _ (hS.get (X := losA p l) (by repeat constructor)) (fun r hr => (hS.ok (losA p l) (by repeat constructor)).lt r.1 (.inl ⟨r.2, hr⟩))) ?_); clear hS a; (try clear w); intro a w hS
  refine L_e hS (e_assign rfl) rfl ?_; clear hS a; intro a hS
  refine L_nil (n_then (c_seq (c_seq (c_region ?_))))
  refine L_e hS (e_move rfl) rfl ?_; clear hS a; intro a hS
  refine L_e hS (e_not rfl) rfl ?_; clear hS a; intro a hS
  refine L_e hS (e_move rfl) rfl ?_; clear hS a; intro a hS
  replace hS := hS.is (t := 20) (c := false) rfl (rfl)
  refine L_ge hS rfl rfl (e_move rfl) rfl ?_; clear hS a; intro a hS
  refine L_ge hS rfl rfl (e_not rfl) rfl ?_; clear hS a; intro a hS
  refine L_e hS (e_pk rfl rfl) rfl ?_; clear hS a; intro a hS
  refine L_e hS (e_move rfl) rfl ?_; clear hS a; intro a hS
  refine L_merge 4 28 (.bool (decide (¬ fewLs l ∨ 300 < cur.size))) hS ?_ ?_
  · intro hcM28
    (first | refine g_splitD (t := 24) hS rfl ?_ ?_ | refine g_split (t := 24) hS rfl ?_ ?_) <;> (clear hS; intro hg24 hS)
    ·
      refine L_skip_f hS rfl rfl rfl ?_; clear hS a; intro a hS
      refine L_skip_f hS rfl rfl rfl ?_; clear hS a; intro a hS
      refine L_skip_f hS rfl rfl rfl ?_; clear hS a; intro a hS
      refine L_e hS (e_pk rfl rfl) rfl ?_; clear hS a; intro a hS
      exact hcM28 _ _ (hS.ends 5 28 24 rfl (congrArg Value.bool (by exact (decide_eq_true (.inl (by simpa using hg24))).symm)) rfl rfl (by first | exact congrArg Value.bool (decide_eq_true hg24).symm | exact congrArg Value.bool hg24.symm | simp [hg24]) rfl)
    refine L_ge hS rfl rfl (e_move rfl) rfl ?_; clear hS a; intro a hS
    refine L_ge hS rfl rfl (e_lenS rfl rfl ty_u9) rfl ?_; clear hS a; intro a hS
    refine L_ge hS rfl rfl (e_bin rfl rfl rfl) rfl ?_; clear hS a; intro a hS
    refine L_e hS (e_pk rfl rfl) rfl ?_; clear hS a; intro a hS
    exact hcM28 _ _ (hS.ends 5 28 24 rfl (congrArg Value.bool (by rw [decide_eq_decide]; exact ⟨fun e => .inr (by omega), fun e => by have e2 := e.resolve_left (by simpa using hg24); omega⟩)) rfl rfl (by first | exact congrArg Value.bool (decide_eq_false hg24).symm | exact congrArg Value.bool hg24.symm | simp [hg24]) rfl)
  · clear hS a; (try clear w); intro a w hS
    simp only [List.drop_succ_cons, List.drop_zero]
    refine L_nil (n_then ?_)
    first | refine c_ifD hS rfl (fun hc28 => ?_) (fun hc28 => ?_) | refine c_if hS rfl (fun hc28 => ?_) (fun hc28 => ?_)
    ·
      refine c_seq (c_region ?_)
      refine L_e hS (e_move rfl) rfl ?_; clear hS a; intro a hS
      refine L_e hS (e_assign rfl) rfl ?_; clear hS a; intro a hS
      refine L_nil (n_then (wp_ret (r_then ?_)))
      refine c_ret1 hS Tryz.results3 (.tmp rfl) ?_
      exact ⟨rfl, hS.chg⟩
    have hsm : fewLs l := Classical.byContradiction fun e => hc28 (.inl e)
    have hll := hsm.1
    refine wp_skip (n_then (c_seq (c_region ?_)))
    refine L_e hS (e_move rfl) rfl ?_; clear hS a; intro a hS
    refine L_op (s_callN hS (.cons rfl .nil) cf8 rfl (lNew_P cur _ hc) ?_); clear hS a; (try clear w); intro x32 a w hS
    refine L_e hS (e_move rfl) rfl ?_; clear hS a; intro a hS
    refine L_e hS (e_extract rfl rfl) rfl ?_; clear hS a; intro a hS
    refine L_e hS (e_extract rfl rfl) rfl ?_; clear hS a; intro a hS
    refine L_e hS (e_assign rfl) rfl ?_; clear hS a; intro a hS
    refine L_e hS (e_assign rfl) rfl ?_; clear hS a; intro a hS
    refine L_nil (n_then (c_seq (c_region ?_)))
    refine L_e hS (e_move rfl) rfl ?_; clear hS a; intro a hS
    refine L_op (s_callN hS (.cons rfl .nil) cf9 rfl (rlNew_P cur _ hc) ?_); clear hS a; (try clear w); intro x37 a w hS
    replace hS := hS.join (X := rlA x37 (newR cur) true) (Y := ledA x32 (newL cur) true) (Z := duoA x32 x37 (newL cur) (newR cur) true) (by repeat constructor) (duo_ok true ⟨hS.get (X := ledA x32 (newL cur) true) (by repeat constructor), hS.get (X := rlA x37 (newR cur) true) (by repeat constructor), hS.sep (X := ledA x32 (newL cur) true) (Y := rlA x37 (newR cur) true) (by repeat (first | exact Rem.head | apply Rem.tail)) (by repeat constructor)⟩) (fun b hb => hb.elim .inr .inl) (fun _ => ⟨rfl, rfl⟩)
    refine L_e hS (e_move rfl) rfl ?_; clear hS a; intro a hS
    refine L_e hS (e_extract rfl rfl) rfl ?_; clear hS a; intro a hS
    refine L_e hS (e_extract rfl rfl) rfl ?_; clear hS a; intro a hS
    refine L_e hS (e_assign rfl) rfl ?_; clear hS a; intro a hS
    refine L_e hS (e_assign rfl) rfl ?_; clear hS a; intro a hS
    refine L_nil (n_then (c_seq (c_seq (c_region ?_))))
    refine L_e hS (e_move rfl) rfl ?_; clear hS a; intro a hS
    refine L_op (s_callP hS (.cons rfl .nil) cf10 rfl (Num_w _ _) ?_); clear hS a; (try clear w); intro a w hS
    refine L_e hS (e_move rfl) rfl ?_; clear hS a; intro a hS
    refine L_e hS (e_bin rfl rfl rfl) rfl ?_; clear hS a; intro a hS
    refine L_e hS (e_move rfl) rfl ?_; clear hS a; intro a hS
    replace hS := hS.is (t := 44) (c := false) rfl ((by simp))
    refine L_ge hS rfl rfl (e_move rfl) rfl ?_; clear hS a; intro a hS
    refine L_ge hS rfl rfl (e_nil rfl ty_u25) rfl ?_; clear hS a; intro a hS
    refine L_ge hS rfl rfl (e_move rfl) rfl ?_; clear hS a; intro a hS
    refine L_ge hS rfl rfl (e_nil rfl ty_u29) rfl ?_; clear hS a; intro a hS
    refine L_ge hS rfl rfl (e_binBn rfl rfl ty_u4) rfl ?_; clear hS a; intro a hS
    refine L_e hS (e_pk rfl rfl) rfl ?_; clear hS a; intro a hS
    refine L_nil (n_then ?_)
    replace hS := hS.is (t := 50) (c := false) rfl (rfl)
    refine c_if_f hS rfl ?_
    refine wp_skip (n_then (c_seq (c_seq (c_region ?_))))
    refine L_e hS (e_assign rfl) rfl ?_; clear hS a; intro a hS
    refine L_nil (n_then (wp_block ?_))
    skip
    refine c_loop (γ := Nat × LS × RS) (fun G a w => St 88 noB w0 a w [(13, .int .i64 (G.1 : Int)), (11, .pointer (some ⟨x37, 0, none⟩)), (9, .pointer (some ⟨x32.lb, 0, none⟩)), (1, sliceV p l.length c), (2, .int .i64 to_)] [duoA x32 x37 G.2.1 G.2.2 true, losA p l] ∧ G.1 ≤ l.length ∧ both G.2.1 G.2.2 G.1) (fun G => l.length - G.1) (0, newL cur, newR cur) ⟨(hS.slots (by repeat (first | exact trivial | refine ⟨rfl, ?_⟩))).pick (by repeat (first | exact Pick.nil | (refine Pick.cons (by repeat (first | exact Rem.head | apply Rem.tail)) ?_))), Nat.zero_le _, both_new cur⟩ ?_
    clear hS a; (try clear w); intro G a w hI
    obtain ⟨i, s, r⟩ := G
    obtain ⟨hS, hi, hbo⟩ := hI
    simp only at hS hi hbo
    refine c_seq (c_seq (c_region ?_))
    refine L_e hS (e_move rfl) rfl ?_; clear hS a; intro a hS
    refine L_e hS (e_move rfl) rfl ?_; clear hS a; intro a hS
    refine L_e hS (e_len rfl rfl ty_sl22) rfl ?_; clear hS a; intro a hS
    refine L_e hS (e_bin rfl rfl rfl) rfl ?_; clear hS a; intro a hS
    refine L_e hS (e_move rfl) rfl ?_; clear hS a; intro a hS
    refine L_merge 3 58 (.bool (decide (i < l.length))) hS ?_ ?_
    · intro hcM58
      (first | refine g_splitD (t := 55) hS rfl ?_ ?_ | refine g_split (t := 55) hS rfl ?_ ?_) <;> (clear hS; intro hg55 hS)
      ·
        refine L_ge hS rfl rfl (e_move rfl) rfl ?_; clear hS a; intro a hS
        refine L_ge hS rfl rfl (e_nnil rfl ty_u29) rfl ?_; clear hS a; intro a hS
        refine L_e hS (e_pk rfl rfl) rfl ?_; clear hS a; intro a hS
        exact hcM58 _ _ (hS.ends 4 58 55 rfl (congrArg Value.bool (by rw [decide_eq_true (by omega)]; rfl)) rfl rfl (by first | exact congrArg Value.bool (decide_eq_true hg55).symm | exact congrArg Value.bool hg55.symm | simp [hg55]) rfl)
      refine L_skip_t hS rfl rfl rfl ?_; clear hS a; intro a hS
      refine L_skip_t hS rfl rfl rfl ?_; clear hS a; intro a hS
      refine L_e hS (e_pk rfl rfl) rfl ?_; clear hS a; intro a hS
      exact hcM58 _ _ (hS.ends 4 58 55 rfl (congrArg Value.bool (by exact (decide_eq_false (by omega)).symm)) rfl rfl (by first | exact congrArg Value.bool (decide_eq_false hg55).symm | exact congrArg Value.bool hg55.symm | simp [hg55]) rfl)
    · clear hS a; (try clear w); intro a w hS
      simp only [List.drop_succ_cons, List.drop_zero]
      refine L_nil (n_then ?_)
      first | refine c_ifD hS rfl (fun hc58 => ?_) (fun hc58 => ?_) | refine c_if hS rfl (fun hc58 => ?_) (fun hc58 => ?_)
      ·
        obtain ⟨o, ho⟩ : ∃ o, l[i]? = some o := ⟨l[i]'(by omega), List.getElem?_eq_getElem (by omega)⟩
        have hom := List.mem_of_getElem? ho
        have hof := hfit o hom
        have hop := (hsm.2 o hom).2.2.2.1
        obtain ⟨b, off, rfl⟩ := los_pos (hS.get (X := losA p l) (by repeat constructor)) ho
        refine wp_skip (n_then (c_seq (wp_block (c_seq (c_region ?_)))))
        refine L_e hS (e_move rfl) rfl ?_; clear hS a; intro a hS
        refine L_e hS (e_move rfl) rfl ?_; clear hS a; intro a hS
        refine L_e hS (e_move rfl) rfl ?_; clear hS a; intro a hS
        refine L_e hS (e_move rfl) rfl ?_; clear hS a; intro a hS
        refine L_e hS (e_ixN rfl rfl ty_sl22 ty_sz38 (by omega)) rfl ?_; clear hS a; intro a hS
        refine L_e hS (e_loadAC (l := encLO o) rfl ty_st38 ty_sz38 (los_get (by repeat constructor) ho)) rfl ?_; clear hS a; intro a hS
        refine L_op (s_callM hS (.cons rfl (.cons rfl (.cons rfl .nil))) cf11 rfl (lDoes_P x32 x37 s r i (by omega) hbo o hof (by omega) _ (hS.get (X := duoA x32 x37 s r true) (by repeat constructor)) ((hS.get (X := losA (some (b, off)) l) (by repeat constructor)).2 o hom) (fun k hne hk hd => hS.sep (X := duoA x32 x37 s r true) (Y := losA (some (b, off)) l) (by repeat (first | exact Rem.head | apply Rem.tail)) (by repeat constructor) k hd (.inr ⟨o, hom, hne, hk⟩))) (fun x => (by repeat constructor)) rfl ?_); clear hS a; (try clear w); intro x67 a w hS
        obtain ⟨⟨s2, r2⟩, hp2, hr2⟩ := x67
        simp only at hS hp2 hr2
        have hb2 := both_step hbo hof hp2 hr2
        refine L_e hS (e_assign rfl) rfl ?_; clear hS a; intro a hS
        refine L_nil (n_then (c_seq ?_))
        refine c_drawS [] (by kernel_rfl) hS (sub_cons (X := losA (some (b, off)) l) (by repeat constructor) sub_nil) ?_; clear hS; (try clear w); intro w hS
        simp only [List.length_cons, List.length_nil, Nat.zero_add, Nat.reduceAdd, List.replicate]
        refine Zt0 0 (tf 1 19) hS rfl want_none (e_move rfl) rfl (by kernel_rfl) rfl ?_; clear hS a; intro a hS
        refine Zt0 1 (tf 2 18) hS rfl want_none (e_not rfl) rfl (by kernel_rfl) rfl ?_; clear hS a; intro a hS
        refine Zt0 2 (tf 3 17) hS rfl want_none (e_move rfl) rfl (by kernel_rfl) rfl ?_; clear hS a; intro a hS
        replace hS := hS.is (t := 70) (c := false) rfl (rfl)
        refine Zt0 3 (tf 4 16) hS rfl (want_go rfl rfl) (e_move rfl) rfl (by kernel_rfl) rfl ?_; clear hS a; intro a hS
        refine Zt0 4 (tf 5 15) hS rfl (want_go rfl rfl) (e_move rfl) rfl (by kernel_rfl) rfl ?_; clear hS a; intro a hS
        refine Zt0 5 (tf 6 14) hS rfl (want_go rfl rfl) (e_move rfl) rfl (by kernel_rfl) rfl ?_; clear hS a; intro a hS
        refine Zt0 6 (tf 7 13) hS rfl (want_go rfl rfl) (e_move rfl) rfl (by kernel_rfl) rfl ?_; clear hS a; intro a hS
        refine Zt0 7 (tf 8 12) hS rfl (want_go rfl rfl) (e_ixN rfl rfl ty_sl22 ty_sz38 (by omega)) rfl (by kernel_rfl) rfl ?_; clear hS a; intro a hS
        (first | refine Zt0 8 (tf 9 11) hS rfl (want_go rfl rfl) (e_fa0 rfl ty_fo38_2) rfl (by kernel_rfl) rfl ?_ | refine Zt0 8 (tf 9 11) hS rfl (want_go rfl rfl) (e_faK rfl ty_fo38_2) rfl (by kernel_rfl) rfl ?_); clear hS a; intro a hS
        (first | refine Zt0 9 (tf 10 10) hS rfl (want_go rfl rfl) (e_fa0 rfl ty_fo35_0) rfl (by kernel_rfl) rfl ?_ | refine Zt0 9 (tf 10 10) hS rfl (want_go rfl rfl) (e_faK rfl ty_fo35_0) rfl (by kernel_rfl) rfl ?_); clear hS a; intro a hS
        refine Zt 10 (tf 11 9) hS rfl (want_go rfl rfl) (e_loadC rfl ty_sc9 (fun w hh => los_get (by repeat constructor) ho w hh 2 (.string o.a.code) rfl)) rfl (by kernel_rfl) (sub_cons (by repeat constructor) sub_nil) rfl ?_; clear hS a; intro a hS
        refine Zt0 11 (tf 12 8) hS rfl (want_go rfl rfl) (e_move rfl) rfl (by kernel_rfl) rfl ?_; clear hS a; intro a hS
        refine Zt0 12 (tf 13 7) hS rfl (want_go rfl rfl) (e_move rfl) rfl (by kernel_rfl) rfl ?_; clear hS a; intro a hS
        refine Zt0 13 (tf 14 6) hS rfl (want_go rfl rfl) (e_ixN rfl rfl ty_sl22 ty_sz38 (by omega)) rfl (by kernel_rfl) rfl ?_; clear hS a; intro a hS
        (first | refine Zt0 14 (tf 15 5) hS rfl (want_go rfl rfl) (e_fa0 rfl ty_fo38_1) rfl (by kernel_rfl) rfl ?_ | refine Zt0 14 (tf 15 5) hS rfl (want_go rfl rfl) (e_faK rfl ty_fo38_1) rfl (by kernel_rfl) rfl ?_); clear hS a; intro a hS
        refine Zt 15 (tf 16 4) hS rfl (want_go rfl rfl) (e_loadC rfl ty_sc3 (fun w hh => los_get (by repeat constructor) ho w hh 1 (.int .i64 o.at_) rfl)) rfl (by kernel_rfl) (sub_cons (by repeat constructor) sub_nil) rfl ?_; clear hS a; intro a hS
        refine Zt0 16 (tf 17 3) hS rfl (want_go rfl rfl) (e_move rfl) rfl (by kernel_rfl) rfl ?_; clear hS a; intro a hS
        refine Z_one (i := 17) rfl (want_go rfl rfl a hS.sl) (listed' := (tf 18 2)) rfl (by kernel_rfl) (s_callP hS (.cons rfl (.cons rfl (.cons rfl (.cons rfl (.cons rfl .nil))))) cf12 rfl (lSameAll_P x32 x37 s2 r2 (i + 1) (by omega) hb2 o.a.code o.at_ to_ _ (hS.get (X := duoA x32 x37 s2 r2 true) (by repeat constructor))) ?_); clear hS a; (try clear w); intro a w hS
        refine Z_and hS (sub_cons (by repeat constructor) sub_nil) ?_
        refine Zt0 18 (tf 19 1) hS rfl (want_go rfl rfl) (e_not rfl) rfl (by kernel_rfl) rfl ?_; clear hS a; intro a hS
        refine Zt0 19 (tf 20 0) hS rfl want_none (e_pk rfl rfl) rfl (by kernel_rfl) rfl ?_; clear hS a; intro a hS
        refine Z_done (by kernel_rfl) ?_
        refine n_then ?_
        replace hS := hS.is (t := 87) (c := false) rfl (rfl)
        refine c_if_f hS rfl ?_
        refine wp_skip (n_block (n_then (c_region ?_)))
        refine L_e hS (e_move rfl) rfl ?_; clear hS a; intro a hS
        (first | refine L_e hS (e_binN rfl rfl rfl (by omega)) rfl ?_ | refine L_e hS (e_bin rfl rfl rfl) rfl ?_); clear hS a; intro a hS
        refine L_e hS (e_assign rfl) rfl ?_; clear hS a; intro a hS
        refine L_nil ?_
        exact ⟨(i + 1, s2, r2), by simp only; omega, (hS.slots (by repeat (first | exact trivial | refine ⟨rfl, ?_⟩))).pick (by repeat (first | exact Pick.nil | (refine Pick.cons (by repeat (first | exact Rem.head | apply Rem.tail)) ?_))), by simp only; omega, hb2⟩
      refine wp_exit ?_
      refine x_then (x_then (x_hit ?_))
      refine n_then (c_seq (c_region ?_))
      refine L_e hS (e_assign rfl) rfl ?_; clear hS a; intro a hS
      refine L_nil (n_then (wp_ret ?_))
      refine c_ret1 hS Tryz.results3 (.tmp rfl) ?_
      exact ⟨rfl, hS.chg⟩
theorem LedgerPlays_P (cur : ByteArray) (hcs : cur.size ≤ 4611686018427387904) (p : Option (Nat × Nat)) (c : Nat) (l : List LO) (hlen : l.length ≤ 4611686018427387904) (hfit : ∀ x ∈ l, x.fits) (to_ : Int)
    (w0 : World) (h : losφ p l w0) (hb : ∀ r, p = some r → r.1 < w0.heap.size) :
    PureC Tryz.prog 3 [.string cur, sliceV p l.length c, .int .i64 to_] w0 (.bool true) := by
  by_cases hc : (scaleR cur).2 = 0
  · exact LedgerPlays_ok cur hcs hc p c l hlen hfit to_ w0 h hb
  · exact LedgerPlays_no cur hcs hc p c l hlen hfit to_ w0 h hb
end Go.Proofs.YtheofhegdjjfgaaGreat

namespace Go.Proofs.YtheofhegdjjfgaaGreat.Open
set_option maxRecDepth 100000
open Go.ChangeShapes Go.WideShapes Go.Deep
section
variable {H : Type} {enc : TypeId × Value → H} {P : Program} {w : World} {base : Nat} {spare : Nat → Bool} {held : Bool}
theorem open_slice_fields {t e : TypeId} {fs : Array Field} {fuel : Nat} {cs : List Value} {x : DataW H × List MemPlace} (ht : P.underlying t = some (.slice e)) (he : P.underlying e = some (.struct fs))
    (hone : oneCellFields P fs = true) (hC : P.cellsOf e = fs.size) (h : DataW.trod enc P w base spare held fuel t cs = some x) :
    (cs = [.slice none 0 0] ∧ x = (.nil, [])) ∨
    ∃ (a : Addr) (len cap m : Nat) (D : Nat → DataW H) (Pl : Nat → List MemPlace), cs = [.slice (some a) len cap] ∧ base ≤ a.block ∧ len ≤ cap ∧ cap ≤ maxLen ∧ m = (if spare a.block then cap else len) ∧
      x = (.slice ((List.range len).map D) ((List.range (m - len)).map fun j => D (len + j)), MemPlace.row a (m * fs.size) ++ (List.range m).flatMap Pl) ∧
      ∀ i, i < m → ∃ (ys : List (DataW H × List MemPlace)) (n : Nat), D i = .agg (ys.map (·.1)) ∧ Pl i = ys.flatMap (·.2) ∧ ys.length = fs.size ∧
        ∀ (j : Nat) (f : Field), fs[j]? = some f → ∃ (v : Value) (y : DataW H × List MemPlace), w.cell? (a.add (i * fs.size + j)) = some v ∧ ys[j]? = some y ∧ DataW.trod enc P w base spare held n f.type [v] = some y := by
  rcases open_slice ht h with h0 | ⟨a, len, cap, m, n, D, Pl, hcs, hb, hl, hm, hmm, hx, hi⟩
  · exact .inl h0
  · refine .inr ⟨a, len, cap, m, D, Pl, hcs, hb, hl, hm, hmm, by rw [hC] at hx; exact hx, fun i him => ?_⟩
    obtain ⟨cs', hc, ht'⟩ := hi i him
    rw [hC] at hc
    obtain ⟨ys, n', hn', hy, hlen, hyl, hf⟩ := DataW.trod_struct he ht'
    obtain ⟨_, hcl, hat⟩ := World.cells?_some hc
    simp only [Prod.mk.injEq] at hy
    refine ⟨ys, n', hy.1, hy.2, hyl, fun j f hj => ?_⟩
    obtain ⟨ho, hk⟩ := hone_of hone j f hj
    have hjl : j < fs.size := (Array.getElem?_eq_some_iff.1 hj).1
    have hcell := hat j hjl
    have hv : cs'[j]? = some (cs'[j]'(by omega)) := List.getElem?_eq_getElem (by omega)
    have h1 := hf j f hj
    rw [ho, hk] at h1
    have hone' : (cs'.drop j).take 1 = [cs'[j]'(by omega)] := by
      rw [List.drop_eq_getElem_cons (by omega)]
      rfl
    rw [hone'] at h1
    have hys : ys[j]? = some (ys[j]'(by omega)) := List.getElem?_eq_getElem (by omega)
    refine ⟨_, _, ?_, hys, h1.trans hys⟩
    rw [← Go.Deep.add_add, hcell, hv]
end
section
variable {H : Type} {enc : TypeId × Value → H}
theorem weights_all {P : Program} {e : TypeId} {d : DataW H} {n : Nat} (hn : n ∈ d.weights P e) : ∀ {l : List (DataW H)}, d ∈ l → n ∈ DataW.weightsAll P e l
  | x :: r, h => by
    simp only [DataW.weightsAll, List.mem_append]
    rcases List.mem_cons.1 h with rfl | h
    · exact .inl hn
    · exact .inr (weights_all hn h)
theorem shape_lt {w : World} {b : Nat} {x : TypeId × Nat} (h : w.shape? b = some x) : b < w.heap.size := by
  unfold World.shape? at h
  by_cases hb : b < w.heap.size
  · exact hb
  · rw [Array.getElem?_eq_none (by omega)] at h; cases h
theorem add_spot {a : Addr} (h : a.spot = none) (n : Nat) : a.add n = ⟨a.block, a.off + n, none⟩ := by
  unfold Addr.add
  split
  · next h0 => subst h0; cases a; simp_all
  · rfl
theorem slice_has {W : World} {base : Nat} {t e : TypeId} {a : Addr} {len cap : Nat} (hu : Tryz.prog.underlying t = some (.slice e)) (h : Value.okWide Tryz.prog W .any base t (.slice (some a) len cap)) : a.spot = none ∧ a.block < W.heap.size := by
  unfold Value.okWide at h
  rw [hu] at h
  simp only at h
  unfold Cell.okWide at h
  rw [hu] at h
  simp only at h
  unfold Cell.ok at h
  rw [hu] at h
  simp only at h
  obtain ⟨_, _, _, hs, row, cells, hsh, _⟩ := h
  exact ⟨hs, shape_lt hsh⟩
end
end Go.Proofs.YtheofhegdjjfgaaGreat.Open

namespace Go.Proofs.YtheofhegdjjfgaaGreat.Open
set_option maxRecDepth 100000
open Go.ChangeShapes Go.WideShapes Go.Deep
section
variable {H : Type} {enc : TypeId × Value → H}
theorem bytesPst : Tryz.prog.bytesOf 82 = 32 := by kernel_rfl
theorem bytesLO : Tryz.prog.bytesOf 38 = 104 := by kernel_rfl
theorem one3 : Tryz.prog.cellsOf 3 = 1 := by kernel_rfl
theorem one9 : Tryz.prog.cellsOf 9 = 1 := by kernel_rfl
theorem one4 : Tryz.prog.cellsOf 4 = 1 := by kernel_rfl
theorem one56 : Tryz.prog.cellsOf 36 = 1 := by kernel_rfl
theorem four68 : Tryz.prog.cellsOf 35 = 4 := by kernel_rfl
theorem eight72 : Tryz.prog.cellsOf 38 = 8 := by kernel_rfl
theorem list8 {α : Type} {l : List α} (h : l.length = 8) : ∃ a b c d e f g i, l = [a, b, c, d, e, f, g, i] := by
  match l, h with
  | [a, b, c, d, e, f, g, i], _ => exact ⟨a, b, c, d, e, f, g, i, rfl⟩
theorem open_psts_raw {W : World} {n0 : Nat} {v : Value} {y : DataW H × List MemPlace} (h : DataW.trod enc Tryz.prog W 0 (fun _ => true) true n0 36 [v] = some y) (hw : ∀ n ∈ y.1.weights Tryz.prog 36, n ≤ reachBytes) :
    ∃ l : List Pst, PsAt v l W ∧ (∀ x ∈ l, x.fits) ∧ l.length ≤ 4611686018427387904 := by
  have hu := Tryz.underlying36
  rcases open_slice_fields hu Tryz.underlying82 (by kernel_rfl) (by kernel_rfl) h with ⟨hc, _⟩ | ⟨a, len, cap, m, D, Pl, hc, _, hl, hm, hmm, hx, hi⟩
  · simp only [List.cons.injEq, and_true] at hc
    subst hc
    exact ⟨[], .inl ⟨rfl, _, _, rfl⟩, by simp, by simp⟩
  · simp only [List.cons.injEq, and_true] at hc
    subst hc
    have hx : y.1 = _ := congrArg (·.1) hx
    simp only at hx
    simp only [if_true] at hmm
    rw [hmm] at hx hi
    have each : ∀ i, i < len → ∃ x : Pst, x.fits ∧ ∀ j u, (encP x)[j]? = some u → W.cell? (a.add (i * 3 + j)) = some u := by
      intro i hil
      obtain ⟨ys, n, hD, _, hys, hfl⟩ := hi i (by omega)
      obtain ⟨v0, y0, c0, g0, t0⟩ := hfl 0 _ rfl
      obtain ⟨v1, y1, c1, g1, t1⟩ := hfl 1 _ rfl
      obtain ⟨v2, y2, c2, g2, t2⟩ := hfl 2 _ rfl
      obtain ⟨s, e0, z0, w0⟩ := DataW.trod_string Tryz.underlying9 t0
      obtain ⟨n1, e1, z1, w1⟩ := DataW.trod_int Tryz.underlying3 t1
      obtain ⟨n2, e2, z2, w2⟩ := DataW.trod_int Tryz.underlying3 t2
      simp only [List.cons.injEq, and_true] at e0 e1 e2
      subst e0 e1 e2
      have hs : s.size ≤ reachBytes := by
        refine hw _ ?_
        rw [hx]
        have h1 : s.size ∈ (D i).weights Tryz.prog 82 := by
          rw [hD]
          simp only [DataW.weights, Tryz.underlying82]
          refine DataW.weights_mem_each (j := 0) rfl (d := .lit (.string s.data.toList)) (by rw [List.getElem?_map, g0, z0]; rfl) _ ?_
          simp only [DataW.weights, List.mem_singleton]
          rfl
        have h2 := weights_all h1 (l := (List.range len).map D) (List.mem_map.2 ⟨i, List.mem_range.2 hil, rfl⟩)
        simp only [DataW.weights, hu, List.mem_cons, List.mem_append]
        exact .inr (.inl h2)
      have b1 := bounds_i64 w1
      have b2 := bounds_i64 w2
      refine ⟨⟨s, n1, n2⟩, ⟨Nat.le_trans hs (by decide), b1, b2⟩, fun j u hj => ?_⟩
      match j, hj with
      | 0, hj => cases hj; exact c0
      | 1, hj => cases hj; exact c1
      | 2, hj => cases hj; exact c2
      | (k + 3), hj => simp [encP] at hj
    have hlen : (len + (cap - len)) * 32 ≤ reachBytes := by
      have := hw ((len + (cap - len)) * Tryz.prog.bytesOf 82) (by rw [hx]; simp [DataW.weights, hu])
      rwa [bytesPst] at this
    simp only [reachBytes] at hlen
    haveI : Inhabited Pst := ⟨⟨ByteArray.empty, 0, 0⟩⟩
    obtain ⟨f, hfn⟩ := choose_lt each
    refine ⟨(List.range len).map f, ?_, ?_, by simp only [List.length_map, List.length_range]; omega⟩
    · by_cases h0 : len = 0
      · subst h0; exact .inl ⟨rfl, _, _, rfl⟩
      · have hc0 := (hfn 0 (by omega)).2 0 _ rfl
        obtain ⟨_, _, hsh, _, hsp⟩ := World.shape?_of_cell? hc0
        have hsp : a.spot = none := by
          have e : a.add (0 * 3 + 0) = a := by unfold Addr.add; rw [if_pos (by omega)]
          rw [e] at hsp; exact hsp
        have hlt : a.block < W.heap.size := by
          have e : a.add (0 * 3 + 0) = a := by unfold Addr.add; rw [if_pos (by omega)]
          rw [e] at hsh; exact shape_lt hsh
        refine .inr ⟨a.block, a.off, cap, ?_, ?_, ?_, hlt⟩
        · intro e
          have := congrArg List.length e
          simp at this; omega
        · unfold sliceV
          cases a
          simp only at hsp
          subst hsp
          simp
        · intro i x hx j u hj
          simp only [List.getElem?_map, Option.map_eq_some_iff] at hx
          obtain ⟨y, ⟨k, hk, rfl⟩, rfl⟩ := hx
          obtain ⟨hk1, hk2⟩ := List.getElem?_eq_some_iff.1 hk
          simp only [List.length_range] at hk1
          simp only [List.getElem_range] at hk2
          subst hk2
          have := (hfn i hk1).2 j u hj
          rw [add_spot hsp] at this
          rw [← this]
          simp only [Nat.add_assoc]
    · intro x hx
      obtain ⟨i, hi', rfl⟩ := List.mem_map.1 hx
      exact (hfn i (List.mem_range.1 hi')).1
theorem open_los {W : World} {base : Nat} {v : Value} {d : DataW H} {pl : List MemPlace} (hval : Value.okWide Tryz.prog W .any base 22 v) (h : DataW.Trod enc Tryz.prog W 0 (fun _ => true) true 22 v d pl) (hw : ∀ n ∈ d.weights Tryz.prog 22, n ≤ reachBytes) :
    ∃ (p : Option (Nat × Nat)) (l : List LO) (c : Nat), v = sliceV p l.length c ∧ (∀ x ∈ l, x.fits) ∧ l.length ≤ 4611686018427387904 ∧ losφ p l W ∧ ∀ r, p = some r → r.1 < W.heap.size := by
  obtain ⟨fuel, hf⟩ := h
  have hu := Tryz.underlying22
  have hsl : ∃ a len cap, v = .slice a len cap := okWide_slice hu hval
  obtain ⟨a0, len0, cap0, rfl⟩ := hsl
  rcases open_slice hu hf with ⟨hc, _⟩ | ⟨a, len, cap, m, n, D, Pl, hc, _, hl, hm, hmm, hx, hi⟩
  · simp only [Value.cells, List.cons.injEq, and_true] at hc
    rw [hc]
    exact ⟨none, [], 0, rfl, by simp, by simp, ⟨rfl, by simp⟩, by simp⟩
  · simp only [Value.cells, List.cons.injEq, and_true] at hc
    rw [hc] at hval ⊢
    obtain ⟨hsp, hlt⟩ := slice_has hu hval
    have hx : d = _ := congrArg (·.1) hx
    simp only at hx
    simp only [if_true] at hmm
    rw [hmm] at hx hi
    have each : ∀ i, i < len → ∃ x : LO, x.fits ∧ PsAt x.pv x.ps W ∧ ∀ j u, (encLO x)[j]? = some u → W.cell? (a.add (i * 8 + j)) = some u := by
      intro i hil
      obtain ⟨cs', hcs, htr⟩ := hi i (by omega)
      rw [eight72] at hcs
      obtain ⟨_, hcl, hat⟩ := World.cells?_some hcs
      obtain ⟨v0, v1, v2, v3, v4, v5, v6, v7, rfl⟩ := list8 hcl
      obtain ⟨ys, n', hn', hD, _, hys, hfl⟩ := DataW.trod_struct Tryz.underlying38 htr
      have hD : D i = .agg (ys.map (·.1)) := congrArg (·.1) hD
      have hys : ys.length = 5 := hys
      have t0 := hfl 0 ⟨ "Kind", 3, 0, false, "", "", 0⟩ rfl
      simp only at t0
      have t1 := hfl 1 ⟨ "At", 3, 1, false, "", "", 8⟩ rfl
      simp only at t1
      have t2 := hfl 2 ⟨ "A", 35, 2, false, "", "", 16⟩ rfl
      simp only at t2
      have t3 := hfl 3 ⟨ "Memo", 9, 6, false, "", "", 64⟩ rfl
      simp only at t3
      have t4 := hfl 4 ⟨ "P", 36, 7, false, "", "", 80⟩ rfl
      simp only at t4
      rw [show Tryz.prog.cellsOf 3 = 1 from one3] at t0
      rw [show Tryz.prog.cellsOf 3 = 1 from one3] at t1
      rw [show Tryz.prog.cellsOf 35 = 4 from four68] at t2
      rw [show Tryz.prog.cellsOf 9 = 1 from one9] at t3
      rw [show Tryz.prog.cellsOf 36 = 1 from one56] at t4
      have g0 : ys[0]? = some ys[0] := List.getElem?_eq_getElem (by omega)
      have g1 : ys[1]? = some ys[1] := List.getElem?_eq_getElem (by omega)
      have g2 : ys[2]? = some ys[2] := List.getElem?_eq_getElem (by omega)
      have g3 : ys[3]? = some ys[3] := List.getElem?_eq_getElem (by omega)
      have g4 : ys[4]? = some ys[4] := List.getElem?_eq_getElem (by omega)
      rw [g0] at t0
      rw [g1] at t1
      rw [g2] at t2
      rw [g3] at t3
      rw [g4] at t4
      change DataW.trod enc Tryz.prog W 0 (fun _ => true) true n' 3 [v0] = _ at t0
      change DataW.trod enc Tryz.prog W 0 (fun _ => true) true n' 3 [v1] = _ at t1
      change DataW.trod enc Tryz.prog W 0 (fun _ => true) true n' 35 [v2, v3, v4, v5] = _ at t2
      change DataW.trod enc Tryz.prog W 0 (fun _ => true) true n' 9 [v6] = _ at t3
      change DataW.trod enc Tryz.prog W 0 (fun _ => true) true n' 36 [v7] = _ at t4
      obtain ⟨zs, n2, hn2, hA, _, hzs, hfa⟩ := DataW.trod_struct Tryz.underlying35 t2
      have hA : ys[2].1 = .agg (zs.map (·.1)) := congrArg (·.1) hA
      have hzs : zs.length = 4 := hzs
      have u0 := hfa 0 ⟨ "Code", 9, 0, false, "", "", 0⟩ rfl
      simp only at u0
      have u1 := hfa 1 ⟨ "Cur", 9, 1, false, "", "", 16⟩ rfl
      simp only at u1
      have u2 := hfa 2 ⟨ "Kind", 3, 2, false, "", "", 32⟩ rfl
      simp only at u2
      have u3 := hfa 3 ⟨ "Monetary", 4, 3, false, "", "", 40⟩ rfl
      simp only at u3
      rw [show Tryz.prog.cellsOf 9 = 1 from one9] at u0
      rw [show Tryz.prog.cellsOf 9 = 1 from one9] at u1
      rw [show Tryz.prog.cellsOf 3 = 1 from one3] at u2
      rw [show Tryz.prog.cellsOf 4 = 1 from one4] at u3
      have k0 : zs[0]? = some zs[0] := List.getElem?_eq_getElem (by omega)
      have k1 : zs[1]? = some zs[1] := List.getElem?_eq_getElem (by omega)
      have k2 : zs[2]? = some zs[2] := List.getElem?_eq_getElem (by omega)
      have k3 : zs[3]? = some zs[3] := List.getElem?_eq_getElem (by omega)
      rw [k0] at u0
      rw [k1] at u1
      rw [k2] at u2
      rw [k3] at u3
      change DataW.trod enc Tryz.prog W 0 (fun _ => true) true n2 9 [v2] = _ at u0
      change DataW.trod enc Tryz.prog W 0 (fun _ => true) true n2 9 [v3] = _ at u1
      change DataW.trod enc Tryz.prog W 0 (fun _ => true) true n2 3 [v4] = _ at u2
      change DataW.trod enc Tryz.prog W 0 (fun _ => true) true n2 4 [v5] = _ at u3
      obtain ⟨n0, e0, z0, w0⟩ := DataW.trod_int Tryz.underlying3 t0
      obtain ⟨n1, e1, z1, w1⟩ := DataW.trod_int Tryz.underlying3 t1
      obtain ⟨s6, e6, z6, w6⟩ := DataW.trod_string Tryz.underlying9 t3
      obtain ⟨s2, e2, z2, w2⟩ := DataW.trod_string Tryz.underlying9 u0
      obtain ⟨s3, e3, z3, w3⟩ := DataW.trod_string Tryz.underlying9 u1
      obtain ⟨n4, e4, z4, w4⟩ := DataW.trod_int Tryz.underlying3 u2
      obtain ⟨b5, e5, z5⟩ := DataW.trod_bool Tryz.underlying4 u3
      simp only [List.cons.injEq, and_true] at e0 e1 e2 e3 e4 e5 e6
      subst e0 e1 e2 e3 e4 e5 e6
      have lift : ∀ (k : Nat), k ∈ (D i).weights Tryz.prog 38 → k ≤ reachBytes := fun k h1 => by
        refine hw _ ?_
        rw [hx]
        have h2 := weights_all h1 (l := (List.range len).map D) (List.mem_map.2 ⟨i, List.mem_range.2 hil, rfl⟩)
        simp only [DataW.weights, hu, List.mem_cons, List.mem_append]
        exact .inr (.inl h2)
      have liftA : ∀ (k : Nat), k ∈ (ys[2].1).weights Tryz.prog 35 → k ≤ reachBytes := fun k h1 => lift k (by
        rw [hD]
        simp only [DataW.weights, Tryz.underlying38]
        exact DataW.weights_mem_each (j := 2) rfl (d := ys[2].1) (by rw [List.getElem?_map, g2]; rfl) _ h1)
      have hs6 : s6.size ≤ reachBytes := lift _ (by
        rw [hD]
        simp only [DataW.weights, Tryz.underlying38]
        refine DataW.weights_mem_each (j := 3) rfl (d := .lit (.string s6.data.toList)) (by rw [List.getElem?_map, g3, z6]; rfl) _ ?_
        simp only [DataW.weights, List.mem_singleton]
        rfl)
      have hs2 : s2.size ≤ reachBytes := liftA _ (by
        rw [hA]
        simp only [DataW.weights, Tryz.underlying35]
        refine DataW.weights_mem_each (j := 0) rfl (d := .lit (.string s2.data.toList)) (by rw [List.getElem?_map, k0, z2]; rfl) _ ?_
        simp only [DataW.weights, List.mem_singleton]
        rfl)
      have hs3 : s3.size ≤ reachBytes := liftA _ (by
        rw [hA]
        simp only [DataW.weights, Tryz.underlying35]
        refine DataW.weights_mem_each (j := 1) rfl (d := .lit (.string s3.data.toList)) (by rw [List.getElem?_map, k1, z3]; rfl) _ ?_
        simp only [DataW.weights, List.mem_singleton]
        rfl)
      obtain ⟨l7, a7, b7, m7⟩ := open_psts_raw t4 (fun k hk => lift k (by
        rw [hD]
        simp only [DataW.weights, Tryz.underlying38]
        exact DataW.weights_mem_each (j := 4) rfl (d := ys[4].1) (by rw [List.getElem?_map, g4]; rfl) _ hk))
      refine ⟨⟨n0, n1, ⟨s2, s3, n4, b5⟩, s6, l7, v7⟩, ⟨bounds_i64 w1, Nat.le_trans hs2 (by decide), Nat.le_trans hs3 (by decide), Nat.le_trans hs6 (by decide), ⟨b7, m7⟩⟩, a7, fun j u hj => ?_⟩
      have hjl : j < 8 := (List.getElem?_eq_some_iff.1 hj).1
      rw [← add_add, hat j hjl]
      exact hj
    have hlen : (len + (cap - len)) * 104 ≤ reachBytes := by
      have := hw ((len + (cap - len)) * Tryz.prog.bytesOf 38) (by rw [hx]; simp [DataW.weights, hu])
      rwa [bytesLO] at this
    simp only [reachBytes] at hlen
    haveI : Inhabited LO := ⟨⟨0, 0, noAcc, ByteArray.empty, [], .nilFunc⟩⟩
    obtain ⟨f, hfn⟩ := choose_lt each
    refine ⟨some (a.block, a.off), (List.range len).map f, cap, ?_, ?_, by simp only [List.length_map, List.length_range]; omega, ⟨?_, ?_⟩, ?_⟩
    · unfold sliceV
      cases a
      simp only at hsp
      subst hsp
      simp
    · intro x hx
      obtain ⟨i, hi', rfl⟩ := List.mem_map.1 hx
      exact (hfn i (List.mem_range.1 hi')).1
    · intro i x hx j u hj
      simp only [List.getElem?_map, Option.map_eq_some_iff] at hx
      obtain ⟨y, ⟨k, hk, rfl⟩, rfl⟩ := hx
      obtain ⟨hk1, hk2⟩ := List.getElem?_eq_some_iff.1 hk
      simp only [List.length_range] at hk1
      simp only [List.getElem_range] at hk2
      subst hk2
      have := (hfn i hk1).2.2 j u hj
      rw [add_spot hsp] at this
      rw [← this]
      simp only [Nat.add_assoc]
    · intro x hx
      obtain ⟨i, hi', rfl⟩ := List.mem_map.1 hx
      exact (hfn i (List.mem_range.1 hi')).2.1
    · rintro r hr
      cases hr
      exact hlt
end
end Go.Proofs.YtheofhegdjjfgaaGreat.Open
