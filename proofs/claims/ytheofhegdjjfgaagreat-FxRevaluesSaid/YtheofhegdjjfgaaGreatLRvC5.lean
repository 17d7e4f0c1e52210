/- FxRevalues: for every argument the law returns true, and each argument reads afterwards as it read before. No conditions. (text 5 of 6) -/
import Derived.Test.YtheofhegdjjfgaaGreatLRvC4
namespace Go.Proofs.YtheofhegdjjfgaaGreat
open Go.RowKit
def swapP (p : Pst) : Pst := ⟨p.acc, p.f, p.u⟩
theorem curSum_snoc (acs : List Acc) (c : ByteArray) (l : List Pst) (p : Pst) : curSum acs c (l ++ [p]) = curSum acs c l + if curOf acs p.acc = c then p.u else 0 := by
 rw [curSum_append, curSum_cons]; simp [curSum]
theorem curSwap_snoc (acs : List Acc) (c : ByteArray) (l : List Pst) (p : Pst) : curSum acs c ((l ++ [p]).map swapP) = curSum acs c (l.map swapP) + if curOf acs p.acc = c then p.f else 0 := by
 rw [List.map_append, List.map_cons, List.map_nil, curSum_snoc]; rfl
theorem cur_bd (acs : List Acc) (c : ByteArray) : ∀ l : List Pst, (∀ p ∈ l, -9223372036854775808 ≤ p.u ∧ p.u ≤ 9223372036854775807) → -(l.length * 9223372036854775808 : Int) ≤ curSum acs c l ∧ curSum acs c l ≤ l.length * 9223372036854775808
 | [], _ => by simp [curSum]
 | p :: r, h => by
   have h1 := cur_bd acs c r (fun q hq => h q (.tail _ hq))
   have h2 := h p (.head _)
   rw [curSum_cons, List.length_cons]
   split <;> omega
theorem cur_bdS (acs : List Acc) (c : ByteArray) (l : List Pst) (h : ∀ p ∈ l, -9223372036854775808 ≤ p.f ∧ p.f ≤ 9223372036854775807) : -(l.length * 9223372036854775808 : Int) ≤ curSum acs c (l.map swapP) ∧ curSum acs c (l.map swapP) ≤ l.length * 9223372036854775808 := by
 have h1 := cur_bd acs c (l.map swapP) (fun p hp => by obtain ⟨q, hq, rfl⟩ := List.mem_map.1 hp; exact h q hq)
 rw [List.length_map] at h1; exact h1
theorem sumC_bd {f : ByteArray → Int} {M : Int} (h : ∀ c, -M ≤ f c ∧ f c ≤ M) : ∀ cs : List ByteArray, -(cs.length * M) ≤ sumC f cs ∧ sumC f cs ≤ cs.length * M
 | [] => by simp [sumC]
 | c :: r => by
   have h1 := sumC_bd h r
   have h2 := h c
   simp only [sumC, List.length_cons]
   have e : ((r.length + 1 : Nat) : Int) * M = r.length * M + M := by rw [Int.natCast_add, Int.add_mul]; simp
   rw [e]; omega
theorem sumC_add (f g : ByteArray → Int) : ∀ cs : List ByteArray, sumC (fun c => f c + g c) cs = sumC f cs + sumC g cs
 | [] => rfl
 | c :: r => by simp only [sumC]; rw [sumC_add f g r]; omega
theorem sumC_zero : ∀ cs : List ByteArray, sumC (fun _ => 0) cs = 0
 | [] => rfl
 | c :: r => by simp only [sumC]; rw [sumC_zero r]; rfl
theorem sumC_cur (acs : List Acc) : ∀ l : List Pst, (∀ p ∈ l, curOf acs p.acc ∈ cur6) → sumC (fun c => curSum acs c (l.map swapP)) cur6 = sumFn l
 | [], _ => by
   have e : (fun c => curSum acs c (([] : List Pst).map swapP)) = fun _ => 0 := rfl
   rw [e, sumC_zero]; rfl
 | p :: r, h => by
   have e : (fun c => curSum acs c ((p :: r).map swapP)) = fun c => (if curOf acs p.acc = c then p.f else 0) + curSum acs c (r.map swapP) := by
    funext c; rw [List.map_cons, curSum_cons]; rfl
   rw [e, sumC_add, sumC_one p.f (curOf acs p.acc) cur6 cur6_nodup (h p (.head _)), sumC_cur acs r (fun q hq => h q (.tail _ hq)), sumFn_cons]
theorem cur_out (acs : List Acc) (c : ByteArray) : ∀ l : List Pst, (∀ p ∈ l, curOf acs p.acc ≠ c) → curSum acs c l = 0
 | [], _ => rfl
 | p :: r, h => by rw [curSum_cons, if_neg (h p (.head _)), cur_out acs c r (fun q hq => h q (.tail _ hq))]; rfl
theorem dg_pos {z : Int} (h : z ≠ 0) : 0 < (dgs z.natAbs).length := by
 rw [dgs_pos (by omega)]; simp
theorem curs6 : curs.map (·.1) = cur6 := by decide +kernel
theorem cur_in {P : PL} (hc : wfC P) {c : ByteArray} (h : (findA P.acs c).isSome = true) : curOf P.acs c ∈ cur6 := by
 obtain ⟨x, hx⟩ := Option.isSome_iff_exists.1 h
 unfold curOf accOf
 rw [hx]
 exact hc x (List.mem_of_find?_eq_some hx)
theorem curOf_accs {acs : List Acc} (hn : (codesA acs).Nodup) (c : ByteArray) : accOf (accsL acs) c = accOf acs c := by
 unfold accOf; rw [findA_accs hn]
theorem sum_all {P : PL} {n : Nat} (h : wfP P n) {s : RS} (hr : relR s P) (c : ByteArray) : sumAt (plR s) c 1099511627776 = totOf P.tot c := by
 rw [h.sum c]
 have e : postsAt (plR s).es 1099511627776 = P.es.flatMap (·.ps) := by
  have e1 : (plR s).es = P.es := hr.es
  rw [e1]
  unfold postsAt upTo
  rw [List.filter_eq_self.2 fun x hx => by have := (h.at_ x hx).2; simpa using this]
 unfold sumAt
 rw [e]
theorem okR_of {P : PL} {n : Nat} (h : wfP P n) (hn : n ≤ 900) {s : RS} (hr : relR s P) : okR s := by
 have hm : ∀ x ∈ s.es, x.v ∈ P.es := fun x hx => by rw [← hr.es]; exact List.mem_map.2 ⟨x, hx, rfl⟩
 have hl : s.es.length = P.es.length := by rw [← hr.es, List.length_map]
 exact ⟨fun x hx => h.ps _ (hm x hx), fun x hx => h.fit _ (hm x hx), by have := h.le; omega, by rw [hr.acs, accs_len]; have := h.la; omega⟩
def rlPF (b : Nat) (s : RS) (u : Value) (k : Nat) : Prop := rlF b s k ∨ u.ownBlock = some k
structure rlPφ (b : Nat) (s : RS) (u : Value) (ps : List Pst) (w : World) : Prop where
 rl : rlφ b s w
 row : w.ownsRow 0 124 3 u ps.length (ps.flatMap encP)
def rlPA (b : Nat) (s : RS) (u : Value) (ps : List Pst) : Asn := .any (rlPF b s u) (rlPφ b s u ps) false
theorem rlP_ok {b : Nat} {s : RS} {u : Value} {ps : List Pst} {w : World} (h : rlφ b s w) (h2 : w.ownsRow 0 124 3 u ps.length (ps.flatMap encP)) : (rlPA b s u ps).ok w := by
 have a := rl_ok false h
 exact ⟨fun k hk => hk.elim (fun hk => a.lt k hk) (fun hk => (World.ownsRow.lt h2 k hk).2), fun w' hw => ⟨a.hold w' (fun k hk => hw k (.inl hk)), owns_keepL h2 (fun k hk => hw k (.inr hk))⟩⟩
theorem rlP_cell {b : Nat} {s : RS} {u : Value} {ps : List Pst} {Γ : List Asn} (hm : rlPA b s u ps ∈ Γ) {k : Nat} {v : Value} (hv : (rlC s)[k]? = some v) : ∀ w, Hd Γ w → w.cell? ⟨b, k, none⟩ = some v := fun _ hh => cell_of_blk (rlφ.bk (rlPφ.rl (hh _ hm))) hv
theorem rlP_get {Γ : List Asn} {b g c : Nat} {s : RS} {ps : List Pst} (hm : rlPA b s (.slice (some ⟨g, 0, none⟩) ps.length c) ps ∈ Γ) {i : Nat} {x : Pst} (hx : ps[i]? = some x) : ∀ w, Hd Γ w → ∀ j v, (encP x)[j]? = some v → w.cell? ⟨g, 0 + i * 3 + j, none⟩ = some v := by
 intro w hh j v hj
 have h := rlPφ.row (hh _ hm)
 have h1 := flat_get encP 3 (fun _ => rfl) ps i x hx j v hj
 have h2 := World.ownsRow.cells h (g := g) rfl _ _ h1
 rw [addr_add] at h2
 rw [← h2]; congr 2; omega
set_option maxHeartbeats 4000000 in
set_option maxRecDepth 100000 in
theorem rlCheck_P (b : Nat) (s : RS) (P : PL) (m : Nat) (hrel : relR s P) (hwf : wfP P m) (hm : m ≤ 900) (hcur : wfC P) (qu : Option Addr) (cu : Nat) (at_ : Int) (memo : ByteArray) (ps : List Pst) (hpl : ps.length ≤ 100000) (hfit : ∀ x ∈ ps, x.fits) (w0 : World) (h : rlφ b s w0)
 (hrow : w0.ownsRow 0 124 3 (.slice qu ps.length cu) ps.length (ps.flatMap encP)) :
 PureC Tryz.prog 53 [.pointer (some ⟨b, 0, none⟩), .int .i64 at_, .string memo, .slice qu ps.length cu] w0 (.int .i64 (checkE P at_ memo ps)) := by
 obtain ⟨qE, cE, hev, _⟩ := rl_shE h
 have hR := okR_of hwf hm hrel
 have hacs := hR.acs
 have hfew := hR.few
 have hcl : s.closed = P.closed := hrel.closed
 have hel : P.es.length = s.es.length := by rw [← hrel.es, List.length_map]
 have hfi : ∀ c, findA s.acs c = findA P.acs c := fun c => by rw [hrel.acs]; exact findA_accs hwf.nod c
 have hao : ∀ c, accOf s.acs c = accOf P.acs c := fun c => by rw [hrel.acs]; exact curOf_accs hwf.nod c
 have hsu : qu = none ∧ ps.length = 0 ∨ ∃ g, qu = some ⟨g, 0, none⟩ := by
  rcases hrow.2 with ⟨e, e2⟩ | ⟨g, cap, cur, e, _⟩
  · injection e with e1; exact .inl ⟨e1, e2⟩
  · injection e with e1; exact .inr ⟨g, e1⟩
 have hcd : curs.flatMap encS = cur6.flatMap fun x => [.string x] := by rw [← curs6]; rfl
 refine c_enter [(0, .pointer (some ⟨b, 0, none⟩)), (1, .int .i64 at_), (2, .string memo), (3, .slice qu ps.length cu)] [rlPA b s (.slice qu ps.length cu) ps] noB Tryz.func53 rfl Tryz.ntmps53 ⟨rfl, rfl, rfl, rfl, trivial⟩ rfl (okC (rlP_ok h hrow) okN) dis1 (mineC (by rfl) mineN) ?_
 intro a hS
 refine cS (cR ?_)
 refine L_e hS (e_assign rfl) rfl ?_; clear hS a; intro a hS
 refine nL (nT (cS (cS (cR ?_))))
 refine L_e hS (e_move rfl) rfl ?_; clear hS a; intro a hS
 refine L_op (s_callP hS (.cons rfl .nil) cf54 rfl (xInstant_P at_ _) ?_); clear hS a; intro a w hS
 refine L_e hS (e_not rfl) rfl ?_; clear hS a; intro a hS
 refine nL (nT ?_)
 refine c_if hS rfl (fun hc29 => ?_) (fun hc29 => ?_)
 ·
  refine cS (cR ?_)
  refine L_e hS (e_assign rfl) rfl ?_; clear hS a; intro a hS
  refine nL (nT (wp_ret (r_then ?_)))
  refine c_ret1 hS Tryz.results53 (.tmp rfl) ?_
  have hE : checkE P at_ memo ps = 6 := if_pos (by simpa using hc29)
  exact ⟨by rw [hE], hS.chg⟩
 refine wS (nT (cS (cS (cR ?_))))
 refine Rn hS (.m rfl <| .m rfl <| .c (e_nilCheck rfl) <| .c (e_fa0 rfl ty_fo66_3) <| .c (e_loadC rfl ty_sc3 (rlP_cell (k := 3) (v := .int .i64 s.closed) (by repeat constructor) rfl)) .n) ?_; clear hS a; intro a hS
 rw [hcl] at hS
 refine L_e hS (e_bin rfl rfl rfl) rfl ?_; clear hS a; intro a hS
 refine nL (nT ?_)
 refine c_ifD hS rfl (fun hc35 => ?_) (fun hc35 => ?_)
 ·
  refine cS (cR ?_)
  refine L_e hS (e_assign rfl) rfl ?_; clear hS a; intro a hS
  refine nL (nT (wp_ret (r_then ?_)))
  refine c_ret1 hS Tryz.results53 (.tmp rfl) ?_
  have hE : checkE P at_ memo ps = 27 := by unfold checkE; rw [if_neg (by simpa using hc29), if_pos hc35]
  exact ⟨by rw [hE], hS.chg⟩
 refine wS (nT (cS (cS (cR ?_))))
 refine Rn hS (.m rfl <| .c (e_lenS rfl rfl ty_u9) <| .c (e_bin rfl rfl rfl) .n) ?_; clear hS a; intro a hS
 refine nL (nT ?_)
 refine c_ifD hS rfl (fun hc38 => ?_) (fun hc38 => ?_)
 ·
  refine cS (cR ?_)
  refine L_e hS (e_assign rfl) rfl ?_; clear hS a; intro a hS
  refine nL (nT (wp_ret (r_then ?_)))
  refine c_ret1 hS Tryz.results53 (.tmp rfl) ?_
  have hE : checkE P at_ memo ps = 8 := by unfold checkE; rw [if_neg (by simpa using hc29), if_neg hc35, if_pos (by omega)]
  exact ⟨by rw [hE], hS.chg⟩
 refine wS (nT (cS (cS (cR ?_))))
 refine Rn hS (.m rfl <| .c (e_len rfl rfl ty_sl54) <| .c (e_bin rfl rfl rfl) <| .m rfl .n) ?_; clear hS a; intro a hS
 refine L_merge 4 46 (.bool (decide (ps.length < 2 ∨ 50 < ps.length))) hS ?_ ?_
 · intro hcM46
   refine g_splitD (t := 42) hS rfl ?_ ?_ <;> (clear hS; intro hg42 hS)
   ·
    refine Rn hS (.f rfl rfl <| .f rfl rfl <| .f rfl rfl <| .c (e_pick_t rfl rfl) .n) ?_; clear hS a; intro a hS
    exact hcM46 _ _ (hS.ends 5 46 42 rfl (congrArg Value.bool (by exact (decide_eq_true (.inl (by omega))).symm)) rfl rfl (by first | exact congrArg Value.bool (decide_eq_true hg42).symm | exact congrArg Value.bool hg42.symm | simp [hg42]) rfl)
   refine Rn hS (.g rfl rfl (e_move rfl) <| .g rfl rfl (e_len rfl rfl ty_sl54) <| .g rfl rfl (e_bin rfl rfl rfl) <| .c (e_pick_f rfl rfl) .n) ?_; clear hS a; intro a hS
   exact hcM46 _ _ (hS.ends 5 46 42 rfl (congrArg Value.bool (by rw [decide_eq_decide]; omega)) rfl rfl (by first | exact congrArg Value.bool (decide_eq_false hg42).symm | exact congrArg Value.bool hg42.symm | simp [hg42]) rfl)
 · clear hS a; intro a w hS
   simp only [List.drop_succ_cons, List.drop_zero]
   refine L_e hS (e_move rfl) rfl ?_; clear hS a; intro a hS
   refine L_merge 7 54 (.bool (decide ((ps.length < 2 ∨ 50 < ps.length) ∨ 2000 ≤ P.es.length))) hS ?_ ?_
   · intro hcM54
     refine g_splitD (t := 47) hS rfl ?_ ?_ <;> (clear hS; intro hg47 hS)
     ·
      refine Rn hS (.f rfl rfl <| .f rfl rfl <| .f rfl rfl <| .f rfl rfl <| .f rfl rfl <| .f rfl rfl <| .c (e_pick_t rfl rfl) .n) ?_; clear hS a; intro a hS
      exact hcM54 _ _ (hS.ends 8 54 47 rfl (congrArg Value.bool (by exact (decide_eq_true (.inl hg47)).symm)) rfl rfl (by first | exact congrArg Value.bool (decide_eq_true hg47).symm | exact congrArg Value.bool hg47.symm | simp [hg47]) rfl)
     refine Rn hS (.g rfl rfl (e_move rfl) <| .g rfl rfl (e_nilCheck rfl) <| .g rfl rfl (e_fa0 rfl ty_fo66_2) <| .g rfl rfl (e_loadC rfl ty_sc64 (rlP_cell (k := 2) (by repeat constructor) rfl)) .n) ?_; clear hS a; intro a hS
     rw [hev] at hS
     refine Rn hS (.g rfl rfl (e_len rfl rfl ty_sl64) <| .g rfl rfl (e_bin rfl rfl rfl) <| .c (e_pick_f rfl rfl) .n) ?_; clear hS a; intro a hS
     exact hcM54 _ _ (hS.ends 8 54 47 rfl (congrArg Value.bool (by rw [decide_eq_decide]; omega)) rfl rfl (by first | exact congrArg Value.bool (decide_eq_false hg47).symm | exact congrArg Value.bool hg47.symm | simp [hg47]) rfl)
   · clear hS a; intro a w hS
     simp only [List.drop_succ_cons, List.drop_zero]
     refine nL (nT ?_)
     refine c_ifD hS rfl (fun hc54 => ?_) (fun hc54 => ?_)
     ·
      refine cS (cR ?_)
      refine L_e hS (e_assign rfl) rfl ?_; clear hS a; intro a hS
      refine nL (nT (wp_ret (r_then ?_)))
      refine c_ret1 hS Tryz.results53 (.tmp rfl) ?_
      have hE : checkE P at_ memo ps = 9 := by unfold checkE; rw [if_neg (by simpa using hc29), if_neg hc35, if_neg (by omega), if_pos hc54]
      exact ⟨by rw [hE], hS.chg⟩
     have h50 : ps.length ≤ 50 := by omega
     have hpre : checkE P at_ memo ps = if postE P.acs ps [] ≠ 0 then postE P.acs ps [] else if ¬ evenF P.acs ps then 26 else if ∃ x ∈ ps, ¬ okS (addS (totOf P.tot x.acc) x) then 16 else 0 := by
      unfold checkE; rw [if_neg (by simpa using hc29), if_neg hc35, if_neg (by omega), if_neg hc54]
     refine wS (nT (cS (cS (cR ?_))))
     refine L_e hS (e_assign rfl) rfl ?_; clear hS a; intro a hS
     refine nL (nT (wB ?_))
     skip
     refine c_loop (γ := Nat) (fun i a w => St 207 noB w0 a w [(9, .int .i64 (i : Int)), (0, .pointer (some ⟨b, 0, none⟩)), (3, .slice qu ps.length cu)] [rlPA b s (.slice qu ps.length cu) ps] ∧ i ≤ ps.length ∧ postE P.acs ps [] = postE P.acs (ps.drop i) ((ps.take i).map (·.acc))) (fun i => ps.length - i) 0 ⟨(hS.slots (by repeat (first | exact trivial | refine ⟨rfl, ?_⟩))).pick (by repeat (first | exact Pick.nil | (refine Pick.cons (by repeat (first | exact Rem.head | apply Rem.tail)) ?_))), Nat.zero_le _, rfl⟩ ?_
     clear hS a; intro i a w hI
     obtain ⟨hS, hi, hpe⟩ := hI
     refine cS (cS (cR ?_))
     refine Rn hS (.m rfl <| .m rfl <| .c (e_len rfl rfl ty_sl54) <| .c (e_bin rfl rfl rfl) .n) ?_; clear hS a; intro a hS
     refine nL (nT ?_)
     refine c_ifD hS rfl (fun hc58 => ?_) (fun hc58 => ?_)
     ·
      have hil : i < ps.length := by omega
      obtain ⟨x, hx⟩ : ∃ x, ps[i]? = some x := ⟨ps[i], List.getElem?_eq_getElem hil⟩
      obtain ⟨g, rfl⟩ : ∃ g, qu = some ⟨g, 0, none⟩ := by rcases hsu with ⟨_, e⟩ | e; exact absurd e (by omega); exact e
      have hdr : ps.drop i = x :: ps.drop (i + 1) := by
       obtain ⟨h1, h2⟩ := List.getElem?_eq_some_iff.1 hx
       rw [List.drop_eq_getElem_cons h1, h2]
      have htk : (ps.take (i + 1)).map (·.acc) = (ps.take i).map (·.acc) ++ [x.acc] := by rw [List.take_add_one, hx]; simp
      rw [hdr, postE_cons] at hpe
      refine wS (nT (cS (wB (cS (cR ?_)))))
      refine Rn hS (.m rfl <| .m rfl <| .m rfl <| .c (e_ixN rfl rfl ty_sl54 ty_sz124 (by omega)) <| .c (e_faK rfl ty_fo124_0) <| .c (e_loadC rfl ty_sc9 (fun w hh => rlP_get (by repeat constructor) hx w hh 0 (.string x.acc) rfl)) .n) ?_; clear hS a; intro a hS
      refine L_op (s_callP hS (.cons rfl (.cons rfl .nil)) cf46 rfl (rlFind_P b s x.acc (by omega) _ (hS.gg (X := rlPA b s (.slice (some ⟨g, 0, none⟩) ps.length cu) ps)).rl) ?_); clear hS a; intro a w hS
      rw [hfi] at hS
      refine Rn hS (.m rfl <| .c (e_extract rfl rfl) <| .c (e_extract rfl rfl) .n) ?_; clear hS a; intro a hS
      refine L_op (s_alloc hS ty_z51 rfl ?_); clear hS a; intro a w b10 hS
      refine L_op (s_storeA hS rfl rfl ty_sz51 (by repeat constructor) (by rfl) (by rfl) (by rfl) ?_); clear hS; intro w hS
      refine L_e hS (e_assign rfl) rfl ?_; clear hS a; intro a hS
      refine nL (nT (cS (cS (cR ?_))))
      refine Rn hS (.m rfl <| .c (e_not rfl) .n) ?_; clear hS a; intro a hS
      refine nL (nT ?_)
      refine c_if hS rfl (fun hc72 => ?_) (fun hc72 => ?_)
      ·
       refine cS (cR ?_)
       refine L_e hS (e_assign rfl) rfl ?_; clear hS a; intro a hS
       refine nL (nT (wp_ret ?_))
       refine r_then (r_block (r_then (r_then (r_block (r_then ?_)))))
       refine c_ret1 hS Tryz.results53 (.tmp rfl) ?_
       have hne : postE P.acs ps [] = 2 := by rw [hpe, if_pos (by simpa using hc72)]
       exact ⟨by rw [hpre, if_pos (by rw [hne]; decide), hne], hS.chg⟩
      have hfnd : (findA P.acs x.acc).isSome = true := by simpa using hc72
      refine wS (nT (cS (cS (cR ?_))))
      refine L_e hS (e_assign rfl) rfl ?_; clear hS a; intro a hS
      refine nL (nT (wB ?_))
      skip
      refine c_loop (γ := Nat) (fun k a w => St 207 noB w0 a w [(12, .int .i64 (k : Int)), (9, .int .i64 (i : Int)), (0, .pointer (some ⟨b, 0, none⟩)), (3, .slice (some ⟨g, 0, none⟩) ps.length cu)] [rlPA b s (.slice (some ⟨g, 0, none⟩) ps.length cu) ps] ∧ k ≤ i ∧ ∀ j y, j < k → ps[j]? = some y → y.acc ≠ x.acc) (fun k => i - k) 0 ⟨(hS.slots (by repeat (first | exact trivial | refine ⟨rfl, ?_⟩))).pick (by repeat (first | exact Pick.nil | (refine Pick.cons (by repeat (first | exact Rem.head | apply Rem.tail)) ?_))), Nat.zero_le _, fun j y hj => by omega⟩ ?_
      clear hS a; intro k a w hI
      obtain ⟨hS, hk, hno⟩ := hI
      refine cS (cS (cR ?_))
      refine Rn hS (.m rfl <| .m rfl <| .c (e_bin rfl rfl rfl) .n) ?_; clear hS a; intro a hS
      refine nL (nT ?_)
      refine c_ifD hS rfl (fun hc75 => ?_) (fun hc75 => ?_)
      ·
       have hki : k < i := by omega
       obtain ⟨y, hy⟩ : ∃ y, ps[k]? = some y := ⟨ps[k]'(by omega), List.getElem?_eq_getElem (by omega)⟩
       refine wS (nT (cS (wB (cS ?_))))
       refine c_drawS [] (by kernel_rfl) hS (sub_cons (X := rlPA b s (.slice (some ⟨g, 0, none⟩) ps.length cu) ps) (by repeat constructor) sub_nil) ?_; clear hS; intro w hS
       simp only [List.length_cons, List.length_nil, Nat.zero_add, Nat.reduceAdd, List.replicate]
       refine Rz hS (sub_cons (by repeat constructor) sub_nil) (.o 0 (tf 1 10) rfl wN (e_move rfl) rfl <| .o 1 (tf 2 9) rfl wN (e_move rfl) rfl <| .o 2 (tf 3 8) rfl wN (e_ixN rfl rfl ty_sl54 ty_sz124 (by omega)) rfl <| .o 3 (tf 4 7) rfl wN (e_faK rfl ty_fo124_0) rfl <| .y 4 (tf 5 6) rfl wN (e_loadC rfl ty_sc9 (fun w hh => rlP_get (by repeat constructor) hy w hh 0 (.string y.acc) rfl)) rfl <| .o 5 (tf 6 5) rfl wN (e_move rfl) rfl <| .o 6 (tf 7 4) rfl wN (e_move rfl) rfl <| .o 7 (tf 8 3) rfl wN (e_ixN rfl rfl ty_sl54 ty_sz124 (by omega)) rfl <| .o 8 (tf 9 2) rfl wN (e_faK rfl ty_fo124_0) rfl <| .y 9 (tf 10 1) rfl wN (e_loadC rfl ty_sc9 (fun w hh => rlP_get (by repeat constructor) hx w hh 0 (.string x.acc) rfl)) rfl <| .o 10 (tf 11 0) rfl wN (e_binS rfl rfl rfl) rfl .n) ?_; clear hS a; intro a hS
       refine Z_done (by kernel_rfl) ?_
       refine nT ?_
       refine c_ifD hS rfl (fun hc88 => ?_) (fun hc88 => ?_)
       ·
        refine cS (cR ?_)
        refine L_e hS (e_assign rfl) rfl ?_; clear hS a; intro a hS
        refine nL (nT (wp_ret ?_))
        refine r_block (r_then (r_then (r_block (r_then (r_block (r_then (r_then (r_block (r_then ?_)))))))))
        refine c_ret1 hS Tryz.results53 (.tmp rfl) ?_
        have hin : x.acc ∈ (ps.take i).map (·.acc) := List.mem_map.2 ⟨y, List.mem_of_getElem? (i := k) (by rw [List.getElem?_take_of_lt hki]; exact hy), hc88⟩
        have hne : postE P.acs ps [] = 12 := by rw [hpe, if_neg (by rw [hfnd]; decide), if_pos hin]
        exact ⟨by rw [hpre, if_pos (by rw [hne]; decide), hne], hS.chg⟩
       refine wS (n_block (nT (cR ?_)))
       refine Rn hS (.m rfl <| .c (e_binN rfl rfl rfl (by omega)) <| .a rfl .n) ?_; clear hS a; intro a hS
       refine nL ?_
       exact ⟨k + 1, by omega, (hS.slots (by repeat (first | exact trivial | refine ⟨rfl, ?_⟩))).pick (by repeat (first | exact Pick.nil | (refine Pick.cons (by repeat (first | exact Rem.head | apply Rem.tail)) ?_))), by omega, fun j z hj hz => by
          by_cases e : j = k
          · subst e; rw [hy] at hz; cases hz; exact hc88
          · exact hno j z (by omega) hz⟩
      obtain rfl : k = i := by omega
      have hnin : ¬ x.acc ∈ (ps.take k).map (·.acc) := fun hh => by
       obtain ⟨z, hz, he⟩ := List.mem_map.1 hh
       obtain ⟨j, hj, rfl⟩ := List.mem_iff_getElem.1 hz
       rw [List.length_take] at hj
       rw [List.getElem_take] at he
       exact hno j _ (by omega) (List.getElem?_eq_getElem (by omega)) he
      refine wp_exit ?_
      refine x_then (x_then (x_hit ?_))
      refine nT (cS (cR ?_))
      refine Rn hS (.m rfl <| .m rfl <| .c (e_ixN rfl rfl ty_sl54 ty_sz124 (by omega)) <| .c (e_faK rfl ty_fo124_1) <| .c (e_loadC rfl ty_sc3 (fun w hh => rlP_get (by repeat constructor) hx w hh 1 (.int .i64 x.u) rfl)) .n) ?_; clear hS a; intro a hS
      refine L_op (s_callP hS (.cons rfl .nil) cf93 rfl (Within_P x.u _) ?_); clear hS a; intro a w hS
      refine Rn hS (.c (e_not rfl) <| .m rfl .n) ?_; clear hS a; intro a hS
      refine L_merge 8 104 (.bool (decide (¬ inU x.u ∨ ¬ inU x.f))) hS ?_ ?_
      · intro hcM104
        refine g_split (t := 96) hS rfl ?_ ?_ <;> (clear hS; intro hg96 hS)
        ·
         refine Rn hS (.f rfl rfl <| .f rfl rfl <| .f rfl rfl <| .f rfl rfl <| .f rfl rfl <| .f rfl rfl <| .f rfl rfl <| .c (e_pick_t rfl rfl) .n) ?_; clear hS a; intro a hS
         exact hcM104 _ _ (hS.ends 9 104 96 rfl (congrArg Value.bool (by exact (decide_eq_true (.inl (by simpa using hg96))).symm)) rfl rfl (by first | exact congrArg Value.bool (decide_eq_true hg96).symm | exact congrArg Value.bool hg96.symm | simp [hg96]) rfl)
        refine Rn hS (.g rfl rfl (e_move rfl) <| .g rfl rfl (e_move rfl) <| .g rfl rfl (e_ixN rfl rfl ty_sl54 ty_sz124 (by omega)) <| .g rfl rfl (e_faK rfl ty_fo124_2) <| .g rfl rfl (e_loadC rfl ty_sc3 (fun w hh => rlP_get (by repeat constructor) hx w hh 2 (.int .i64 x.f) rfl)) .n) ?_; clear hS a; intro a hS
        refine L_go hS rfl rfl (s_callP hS (.cons rfl .nil) cf93 rfl (Within_P x.f _) ?_); clear hS a; intro a w hS
        refine Rn hS (.g rfl rfl (e_not rfl) <| .c (e_pick_f rfl rfl) .n) ?_; clear hS a; intro a hS
        exact hcM104 _ _ (hS.ends 9 104 96 rfl (congrArg Value.bool (by rw [← decide_not, decide_eq_decide]; exact ⟨.inr, fun h => h.resolve_left (by simpa using hg96)⟩)) rfl rfl (by first | exact congrArg Value.bool (decide_eq_false hg96).symm | exact congrArg Value.bool hg96.symm | simp [hg96]) rfl)
      · clear hS a; intro a w hS
        simp only [List.drop_succ_cons, List.drop_zero]
        refine nL (nT ?_)
        refine c_ifD hS rfl (fun hc104 => ?_) (fun hc104 => ?_)
        ·
         refine cS (cR ?_)
         refine L_e hS (e_assign rfl) rfl ?_; clear hS a; intro a hS
         refine nL (nT (wp_ret ?_))
         refine r_block (r_then (r_then (r_block (r_then ?_))))
         refine c_ret1 hS Tryz.results53 (.tmp rfl) ?_
         have hne : postE P.acs ps [] = 6 := by rw [hpe, if_neg (by rw [hfnd]; decide), if_neg hnin, if_pos hc104]
         exact ⟨by rw [hpre, if_pos (by rw [hne]; decide), hne], hS.chg⟩
        refine wS (n_block (nT (cR ?_)))
        refine Rn hS (.m rfl <| .c (e_binN rfl rfl rfl (by omega)) <| .a rfl .n) ?_; clear hS a; intro a hS
        refine nL ?_
        rw [if_neg (by rw [hfnd]; decide), if_neg hnin, if_neg hc104] at hpe
        exact ⟨k + 1, by omega, (hS.slots (by repeat (first | exact trivial | refine ⟨rfl, ?_⟩))).pick (by repeat (first | exact Pick.nil | (refine Pick.cons (by repeat (first | exact Rem.head | apply Rem.tail)) ?_))), by omega, by rw [htk]; exact hpe⟩
     obtain rfl : i = ps.length := by omega
     rw [List.drop_length] at hpe
     have hz : postE P.acs ps [] = 0 := hpe
     rw [if_neg (fun e => e hz)] at hpre
     have hg := (postE_zero ps [] hz).1
     have hpc : ∀ x ∈ ps, curOf P.acs x.acc ∈ cur6 := fun x hx => cur_in hcur (hg x hx).1
     have bu : ∀ c i, (-9223372036854775808000 ≤ curSum P.acs c (ps.take i) ∧ curSum P.acs c (ps.take i) ≤ 9223372036854775808000) ∧ (-9223372036854775808000 ≤ curSum P.acs c ((ps.take i).map swapP) ∧ curSum P.acs c ((ps.take i).map swapP) ≤ 9223372036854775808000) := fun c i => by
      have h1 := cur_bd P.acs c (ps.take i) (fun p hp => (hfit p (List.mem_of_mem_take hp)).u)
      have h2 := cur_bdS P.acs c (ps.take i) (fun p hp => (hfit p (List.mem_of_mem_take hp)).f)
      have h3 : (ps.take i).length ≤ 50 := by rw [List.length_take]; omega
      omega
     have ba : ∀ k, -92233720368547758080000 ≤ sumC (fun c => curSum P.acs c (ps.map swapP)) (cur6.take k) ∧ sumC (fun c => curSum P.acs c (ps.map swapP)) (cur6.take k) ≤ 92233720368547758080000 := fun k => by
      have h1 := sumC_bd (f := fun c => curSum P.acs c (ps.map swapP)) (M := 9223372036854775808000) (fun c => by have := (bu c ps.length).2; rwa [List.take_length] at this) (cur6.take k)
      have h2 : (cur6.take k).length ≤ 6 := by rw [List.length_take]; exact Nat.min_le_right _ _
      have h3 : ((cur6.take k).length : Int) * 9223372036854775808000 ≤ 6 * 9223372036854775808000 := Int.mul_le_mul_of_nonneg_right (by omega) (by decide)
      omega
     refine wp_exit ?_
     refine x_then (x_then (x_hit ?_))
     refine nT (cS (cR ?_))
     refine L_op (s_callN hS .nil cf79 rfl (xCodes_P _) ?_); clear hS a; intro x105 a w hS
     rw [hcd] at hS
     refine L_e hS (e_assign rfl) rfl ?_; clear hS a; intro a hS
     refine nL (nT (cS (cR ?_)))
     refine L_e hS (e_build ty_z139 ty_pl139 .nil) rfl ?_; clear hS a; intro a hS
     refine L_op (s_alloc hS ty_z139 rfl ?_); clear hS a; intro a w b14 hS
     refine L_op (s_storeA hS rfl rfl ty_sz139 (by repeat constructor) (by rfl) (by rfl) (by rfl) ?_); clear hS; intro w hS
     refine nL (nT (cS (cS (cR ?_))))
     refine L_e hS (e_assign rfl) rfl ?_; clear hS a; intro a hS
     refine nL (nT (wB ?_))
     replace hS := hS.swap (X := .blk b14 [.bool false, .slice none 0 0] 139) (Y := .blk b14 [.bool (decide ((0 : Int) < 0)), sliceV none (dgs (0 : Int).natAbs).length 0] 139) (by repeat constructor) (by rw [dg_len0]; exact hS.ok (.blk b14 [.bool false, .slice none 0 0] 139) (by repeat constructor)) (fun _ hb => hb) rfl
     replace hS := (hS.more (Y := dgP 0 none) dgP0 (fun b hb => by obtain ⟨off, e⟩ := hb; cases e))
     refine c_loop (γ := Nat) (fun k a w => ∃ (p2 : Option (Nat × Nat)) (d2 : Nat), St 207 noB w0 a w [(15, .int .i64 (k : Int)), (14, .pointer (some ⟨b14, 0, none⟩)), (13, .slice (some ⟨x105, 0, none⟩) 6 6), (0, .pointer (some ⟨b, 0, none⟩)), (3, .slice qu ps.length cu)] [.blk b14 [.bool (decide (sumC (fun c => curSum P.acs c (ps.map swapP)) (cur6.take k) < 0)), sliceV p2 (dgs (sumC (fun c => curSum P.acs c (ps.map swapP)) (cur6.take k)).natAbs).length d2] 139, dgP (sumC (fun c => curSum P.acs c (ps.map swapP)) (cur6.take k)) p2, .blk x105 (cur6.flatMap fun x => [.string x]) 9, rlPA b s (.slice qu ps.length cu) ps] ∧ k ≤ 6 ∧ ∀ c, c ∈ cur6.take k → curSum P.acs c ps = 0) (fun k => 6 - k) 0 ⟨none, 0, (hS.slots (by repeat (first | exact trivial | refine ⟨rfl, ?_⟩))).pick (by repeat (first | exact Pick.nil | (refine Pick.cons (by repeat (first | exact Rem.head | apply Rem.tail)) ?_))), Nat.zero_le _, fun c hc => by cases hc⟩ ?_
     clear hS a; intro k a w hI
     obtain ⟨p2, d2, hS, hk, hzs⟩ := hI
     refine cS (cS (cR ?_))
     refine Rn hS (.m rfl <| .m rfl <| .c (e_len rfl rfl ty_sl154) <| .c (e_bin rfl rfl rfl) .n) ?_; clear hS a; intro a hS
     refine nL (nT ?_)
     refine c_ifD hS rfl (fun hc110 => ?_) (fun hc110 => ?_)
     ·
      obtain ⟨c, hc⟩ : ∃ c, cur6[k]? = some c := ⟨cur6[k]'(by show k < 6; omega), List.getElem?_eq_getElem (by show k < 6; omega)⟩
      have hck := sumC_take (fun c => curSum P.acs c (ps.map swapP)) hc
      have htc : cur6.take (k + 1) = cur6.take k ++ [c] := by rw [List.take_add_one, hc]; rfl
      have bA := ba k
      generalize hA : sumC (fun c => curSum P.acs c (ps.map swapP)) (cur6.take k) = A at hS hck bA
      refine wS (nT (cS (wB (cS (cR ?_)))))
      refine L_e hS (e_build ty_z139 ty_pl139 .nil) rfl ?_; clear hS a; intro a hS
      refine L_op (s_alloc hS ty_z139 rfl ?_); clear hS a; intro a w b16 hS
      refine L_op (s_storeA hS rfl rfl ty_sz139 (by repeat constructor) (by rfl) (by rfl) (by rfl) ?_); clear hS; intro w hS
      refine nL (nT (cS (cS (cR ?_))))
      refine L_e hS (e_assign rfl) rfl ?_; clear hS a; intro a hS
      refine nL (nT (wB ?_))
      replace hS := hS.swap (X := .blk b16 [.bool false, .slice none 0 0] 139) (Y := .blk b16 [.bool (decide ((0 : Int) < 0)), sliceV none (dgs (0 : Int).natAbs).length 0] 139) (by repeat constructor) (by rw [dg_len0]; exact hS.ok (.blk b16 [.bool false, .slice none 0 0] 139) (by repeat constructor)) (fun _ hb => hb) rfl
      replace hS := (hS.more (Y := dgP 0 none) dgP0 (fun b hb => by obtain ⟨off, e⟩ := hb; cases e))
      refine c_loop (γ := Nat) (fun i a w => ∃ (p1 p2 : Option (Nat × Nat)) (d1 d2 : Nat), St 207 noB w0 a w [(17, .int .i64 (i : Int)), (16, .pointer (some ⟨b16, 0, none⟩)), (15, .int .i64 (k : Int)), (14, .pointer (some ⟨b14, 0, none⟩)), (13, .slice (some ⟨x105, 0, none⟩) 6 6), (0, .pointer (some ⟨b, 0, none⟩)), (3, .slice qu ps.length cu)] [.blk b16 [.bool (decide (curSum P.acs c (ps.take i) < 0)), sliceV p1 (dgs (curSum P.acs c (ps.take i)).natAbs).length d1] 139, dgP (curSum P.acs c (ps.take i)) p1, .blk b14 [.bool (decide (A + curSum P.acs c ((ps.take i).map swapP) < 0)), sliceV p2 (dgs (A + curSum P.acs c ((ps.take i).map swapP)).natAbs).length d2] 139, dgP (A + curSum P.acs c ((ps.take i).map swapP)) p2, .blk x105 (cur6.flatMap fun x => [.string x]) 9, rlPA b s (.slice qu ps.length cu) ps] ∧ i ≤ ps.length) (fun i => ps.length - i) 0 ⟨none, p2, 0, d2, by rw [show curSum P.acs c (ps.take 0) = 0 from rfl, show curSum P.acs c ((ps.take 0).map swapP) = 0 from rfl, Int.add_zero]; exact (hS.slots (by repeat (first | exact trivial | refine ⟨rfl, ?_⟩))).pick (by repeat (first | exact Pick.nil | (refine Pick.cons (by repeat (first | exact Rem.head | apply Rem.tail)) ?_))), Nat.zero_le _⟩ ?_
      clear hS a; intro i a w hI
      obtain ⟨p1, p2, d1, d2, hS, hi⟩ := hI
      refine cS (cS (cR ?_))
      refine Rn hS (.m rfl <| .m rfl <| .c (e_len rfl rfl ty_sl54) <| .c (e_bin rfl rfl rfl) .n) ?_; clear hS a; intro a hS
      refine nL (nT ?_)
      refine c_ifD hS rfl (fun hc117 => ?_) (fun hc117 => ?_)
      ·
       have hil : i < ps.length := by omega
       obtain ⟨x, hx⟩ : ∃ x, ps[i]? = some x := ⟨ps[i], List.getElem?_eq_getElem hil⟩
       obtain ⟨g, rfl⟩ : ∃ g, qu = some ⟨g, 0, none⟩ := by rcases hsu with ⟨_, e⟩ | e; exact absurd e (by omega); exact e
       have hxf := hfit x (List.mem_of_getElem? hx)
       have hxu := hxf.u
       have hxw := hxf.f
       have htk : ps.take (i + 1) = ps.take i ++ [x] := by rw [List.take_add_one, hx]; rfl
       have e1 := curSum_snoc P.acs c (ps.take i) x
       have e2 := curSwap_snoc P.acs c (ps.take i) x
       rw [← htk] at e1 e2
       have b1' := (bu c i).1
       have b2' := (bu c i).2
       have hcx : (accOf s.acs x.acc).cur = curOf P.acs x.acc := by rw [hao]; rfl
       refine wS (nT (cS (wB (cS (cR ?_)))))
       refine Rn hS (.m rfl <| .m rfl <| .m rfl <| .c (e_ixN rfl rfl ty_sl54 ty_sz124 (by omega)) <| .c (e_faK rfl ty_fo124_0) <| .c (e_loadC rfl ty_sc9 (fun w hh => rlP_get (by repeat constructor) hx w hh 0 (.string x.acc) rfl)) .n) ?_; clear hS a; intro a hS
       refine L_op (s_callP hS (.cons rfl (.cons rfl .nil)) cf46 rfl (rlFind_P b s x.acc (by omega) _ (hS.gg (X := rlPA b s (.slice (some ⟨g, 0, none⟩) ps.length cu) ps)).rl) ?_); clear hS a; intro a w hS
       refine Rn hS (.m rfl <| .c (e_extract rfl rfl) <| .c (e_extract rfl rfl) .n) ?_; clear hS a; intro a hS
       refine L_op (s_alloc hS ty_z51 rfl ?_); clear hS a; intro a w b18 hS
       refine L_op (s_storeA hS rfl rfl ty_sz51 (by repeat constructor) (by rfl) (by rfl) (by rfl) ?_); clear hS; intro w hS
       refine L_e hS (e_assign rfl) rfl ?_; clear hS a; intro a hS
       refine nL (nT (cS ?_))
       refine c_drawS [] (by kernel_rfl) hS (sub_cons (X := .blk b18 (encAc (accOf s.acs x.acc)) 51) (by repeat constructor) (sub_cons (X := .blk x105 (cur6.flatMap fun x => [.string x]) 9) (by repeat constructor) sub_nil)) ?_; clear hS; intro w hS
       simp only [List.length_cons, List.length_nil, Nat.zero_add, Nat.reduceAdd, List.replicate]
       refine Rz hS (sub_cons (by repeat constructor) (sub_cons (by repeat constructor) sub_nil)) (.o 0 (tf 1 6) rfl wN (e_fa0 rfl ty_fo51_1) rfl <| .y 1 (tf 2 5) rfl wN (e_load rfl (by repeat constructor) ty_sc9 (by rfl)) rfl <| .o 2 (tf 3 4) rfl wN (e_move rfl) rfl <| .o 3 (tf 4 3) rfl wN (e_move rfl) rfl <| .o 4 (tf 5 2) rfl wN (e_ixN rfl rfl ty_sl154 ty_sz9 (by omega)) rfl <| .y 5 (tf 6 1) rfl wN (e_loadC rfl ty_sc9 (fun w hh => blkrow_getL (enc := fun x => [Value.string x]) (s := 1) (by repeat constructor) (fun _ => rfl) hc w hh 0 (.string c) rfl)) rfl <| .o 6 (tf 7 0) rfl wN (e_binS rfl rfl rfl) rfl .n) ?_; clear hS a; intro a hS
       refine Z_done (by kernel_rfl) ?_
       refine nT ?_
       refine c_ifD hS rfl (fun hc136 => ?_) (fun hc136 => ?_)
       ·
        have hcc : curOf P.acs x.acc = c := by rw [← hcx]; exact hc136
        rw [if_pos hcc] at e1 e2
        generalize hU : curSum P.acs c (ps.take i) = U at hS e1 b1'
        generalize hW : curSum P.acs c ((ps.take i).map swapP) = W at hS e2 b2'
        refine cS ?_
        refine c_drawS [8] (by kernel_rfl) hS (sub_cons (X := .blk b16 _ _) (by repeat constructor) (sub_cons (X := rlPA b s (.slice (some ⟨g, 0, none⟩) ps.length cu) ps) (by repeat constructor) sub_nil)) ?_; clear hS; intro w hS
        simp only [List.length_cons, List.length_nil, Nat.zero_add, Nat.reduceAdd, List.replicate]
        refine Rz hS (sub_cons (by repeat constructor) (sub_cons (by repeat constructor) sub_nil)) (.y 0 (tf 1 8) rfl wN (e_loadA rfl (by repeat constructor) ty_st139 ty_sz139 (by rfl)) rfl <| .o 1 (tf 2 7) rfl wN (e_move rfl) rfl <| .o 2 (tf 3 6) rfl wN (e_move rfl) rfl <| .o 3 (tf 4 5) rfl wN (e_ixN rfl rfl ty_sl54 ty_sz124 (by omega)) rfl <| .o 4 (tf 5 4) rfl wN (e_faK rfl ty_fo124_1) rfl <| .y 5 (tf 6 3) rfl wN (e_loadC rfl ty_sc3 (fun w hh => rlP_get (by repeat constructor) hx w hh 1 (.int .i64 x.u) rfl)) rfl .n) ?_; clear hS a; intro a hS
        refine Zo 6 (tf 7 2) hS rfl wN rfl (s_callN hS (.cons rfl .nil) cf62 rfl (BigOf_P x.u (by omega) _) ?_); clear hS a; intro x143 a w hS
        refine Z_and hS (sub_cons (by repeat constructor) (sub_cons (by repeat constructor) sub_nil)) ?_
        have hA := BigAdd_P p1 (some (x143.1.1, 0)) d1 x143.1.2 U x.u 20 (by decide) (len20 (by omega)) (len20 (by omega)) _ (two_ok (hS.gg (X := dgP U p1)) (hS.gg (X := bigA x.u x143.1.1)) (fun r e => (hS.ok (dgP U p1) (by repeat constructor)).lt r.1 ⟨r.2, e⟩) (fun r e => by cases e; exact (hS.ok (bigA x.u x143.1.1) (by repeat constructor)).lt _ rfl))
        refine Zo 7 (tf 8 1) hS rfl wN rfl (s_callN hS (.cons rfl (.cons rfl .nil)) cf63 rfl (hA) ?_); clear hS a; intro x144 a w hS
        clear hA
        refine Z_and hS (sub_cons (by repeat constructor) (sub_cons (by repeat constructor) sub_nil)) ?_
        refine Zo 8 (tf 9 0) hS rfl wN rfl (s_storeA hS rfl rfl ty_sz139 (by repeat constructor) (by rfl) (by rfl) (by rfl) ?_); clear hS; intro w hS
        refine Z_last (by simp) ?_
        refine Z_done (by kernel_rfl) ?_
        refine nT ?_
        refine c_drawS [8] (by kernel_rfl) hS (sub_cons (X := .blk b14 _ _) (by repeat constructor) (sub_cons (X := rlPA b s (.slice (some ⟨g, 0, none⟩) ps.length cu) ps) (by repeat constructor) sub_nil)) ?_; clear hS; intro w hS
        simp only [List.length_cons, List.length_nil, Nat.zero_add, Nat.reduceAdd, List.replicate]
        refine Rz hS (sub_cons (by repeat constructor) (sub_cons (by repeat constructor) sub_nil)) (.y 0 (tf 1 8) rfl wN (e_loadA rfl (by repeat constructor) ty_st139 ty_sz139 (by rfl)) rfl <| .o 1 (tf 2 7) rfl wN (e_move rfl) rfl <| .o 2 (tf 3 6) rfl wN (e_move rfl) rfl <| .o 3 (tf 4 5) rfl wN (e_ixN rfl rfl ty_sl54 ty_sz124 (by omega)) rfl <| .o 4 (tf 5 4) rfl wN (e_faK rfl ty_fo124_2) rfl <| .y 5 (tf 6 3) rfl wN (e_loadC rfl ty_sc3 (fun w hh => rlP_get (by repeat constructor) hx w hh 2 (.int .i64 x.f) rfl)) rfl .n) ?_; clear hS a; intro a hS
        refine Zo 6 (tf 7 2) hS rfl wN rfl (s_callN hS (.cons rfl .nil) cf62 rfl (BigOf_P x.f (by omega) _) ?_); clear hS a; intro x151 a w hS
        refine Z_and hS (sub_cons (by repeat constructor) (sub_cons (by repeat constructor) sub_nil)) ?_
        have hA := BigAdd_P p2 (some (x151.1.1, 0)) d2 x151.1.2 (A + W) x.f 20 (by decide) (len20 (by omega)) (len20 (by omega)) _ (two_ok (hS.gg (X := dgP (A + W) p2)) (hS.gg (X := bigA x.f x151.1.1)) (fun r e => (hS.ok (dgP (A + W) p2) (by repeat constructor)).lt r.1 ⟨r.2, e⟩) (fun r e => by cases e; exact (hS.ok (bigA x.f x151.1.1) (by repeat constructor)).lt _ rfl))
        refine Zo 7 (tf 8 1) hS rfl wN rfl (s_callN hS (.cons rfl (.cons rfl .nil)) cf63 rfl (hA) ?_); clear hS a; intro x152 a w hS
        clear hA
        refine Z_and hS (sub_cons (by repeat constructor) (sub_cons (by repeat constructor) sub_nil)) ?_
        refine Zo 8 (tf 9 0) hS rfl wN rfl (s_storeA hS rfl rfl ty_sz139 (by repeat constructor) (by rfl) (by rfl) (by rfl) ?_); clear hS; intro w hS
        refine Z_last (by simp) ?_
        refine Z_done (by kernel_rfl) ?_
        refine n_block (nT (cR ?_))
        refine Rn hS (.m rfl <| .c (e_binN rfl rfl rfl (by omega)) <| .a rfl .n) ?_; clear hS a; intro a hS
        refine nL ?_
        first
        | (have hne : ¬ (accOf s.acs x.acc).cur = c := hc136
           rw [hcx] at hne
           rw [if_neg hne, Int.add_zero] at e1 e2
           refine ⟨i + 1, by omega, p1, p2, d1, d2, ?_, by omega⟩
           rw [e1, e2]
           exact (hS.slots (by repeat (first | exact trivial | refine ⟨rfl, ?_⟩))).pick (by repeat (first | exact Pick.nil | (refine Pick.cons (by repeat (first | exact Rem.head | apply Rem.tail)) ?_))))
        | (replace hS := hS.swap (X := bigA (U + x.u) x144.1.1) (Y := dgP (U + x.u) (some (x144.1.1, 0))) (by repeat constructor) (dgP_of (hS.ok (bigA (U + x.u) x144.1.1) (by repeat constructor))) (fun b hb => by obtain ⟨off, e⟩ := hb; cases e; rfl) rfl
           replace hS := hS.swap (X := bigA (A + W + x.f) x152.1.1) (Y := dgP (A + W + x.f) (some (x152.1.1, 0))) (by repeat constructor) (dgP_of (hS.ok (bigA (A + W + x.f) x152.1.1) (by repeat constructor))) (fun b hb => by obtain ⟨off, e⟩ := hb; cases e; rfl) rfl
           refine ⟨i + 1, by omega, some (x144.1.1, 0), some (x152.1.1, 0), x144.1.2, x152.1.2, ?_, by omega⟩
           rw [e1, e2, ← Int.add_assoc]
           exact (hS.slots (by repeat (first | exact trivial | refine ⟨rfl, ?_⟩))).pick (by repeat (first | exact Pick.nil | (refine Pick.cons (by repeat (first | exact Rem.head | apply Rem.tail)) ?_))))
       refine wS (n_block (nT (cR ?_)))
       refine Rn hS (.m rfl <| .c (e_binN rfl rfl rfl (by omega)) <| .a rfl .n) ?_; clear hS a; intro a hS
       refine nL ?_
       first
       | (have hne : ¬ (accOf s.acs x.acc).cur = c := hc136
          rw [hcx] at hne
          rw [if_neg hne, Int.add_zero] at e1 e2
          refine ⟨i + 1, by omega, p1, p2, d1, d2, ?_, by omega⟩
          rw [e1, e2]
          exact (hS.slots (by repeat (first | exact trivial | refine ⟨rfl, ?_⟩))).pick (by repeat (first | exact Pick.nil | (refine Pick.cons (by repeat (first | exact Rem.head | apply Rem.tail)) ?_))))
       | (replace hS := hS.swap (X := bigA (U + x.u) x144.1.1) (Y := dgP (U + x.u) (some (x144.1.1, 0))) (by repeat constructor) (dgP_of (hS.ok (bigA (U + x.u) x144.1.1) (by repeat constructor))) (fun b hb => by obtain ⟨off, e⟩ := hb; cases e; rfl) rfl
          replace hS := hS.swap (X := bigA (A + W + x.f) x152.1.1) (Y := dgP (A + W + x.f) (some (x152.1.1, 0))) (by repeat constructor) (dgP_of (hS.ok (bigA (A + W + x.f) x152.1.1) (by repeat constructor))) (fun b hb => by obtain ⟨off, e⟩ := hb; cases e; rfl) rfl
          refine ⟨i + 1, by omega, some (x144.1.1, 0), some (x152.1.1, 0), x144.1.2, x152.1.2, ?_, by omega⟩
          rw [e1, e2, ← Int.add_assoc]
          exact (hS.slots (by repeat (first | exact trivial | refine ⟨rfl, ?_⟩))).pick (by repeat (first | exact Pick.nil | (refine Pick.cons (by repeat (first | exact Rem.head | apply Rem.tail)) ?_))))
      obtain rfl : i = ps.length := by omega
      rw [List.take_length] at hS
      refine wp_exit ?_
      refine x_then (x_then (x_hit ?_))
      refine nT (cS (cR ?_))
      refine Rn hS (.c (e_fa0 rfl ty_fo139_1) <| .c (e_load rfl (by repeat constructor) ty_sc137 (by rfl)) <| .c (e_len rfl rfl ty_sl137) <| .c (e_bin rfl rfl rfl) .n) ?_; clear hS a; intro a hS
      refine nL (nT ?_)
      refine c_ifD hS rfl (fun hc156 => ?_) (fun hc156 => ?_)
      ·
       refine cS (cR ?_)
       refine L_e hS (e_assign rfl) rfl ?_; clear hS a; intro a hS
       refine nL (nT (wp_ret ?_))
       refine r_block (r_then (r_then (r_block (r_then ?_))))
       refine c_ret1 hS Tryz.results53 (.tmp rfl) ?_
       have hne : curSum P.acs c ps ≠ 0 := fun e => by rw [e, dg_len0] at hc156; simp at hc156
       have hev2 : ¬ evenF P.acs ps := fun e => hne (((even_iff P.acs ps).1 e).1 c)
       exact ⟨by rw [hpre, if_pos hev2], hS.chg⟩
      refine wS (n_block (nT (cR ?_)))
      refine Rn hS (.m rfl <| .c (e_binN rfl rfl rfl (by omega)) <| .a rfl .n) ?_; clear hS a; intro a hS
      refine nL ?_
      have hcz : curSum P.acs c ps = 0 := Classical.byContradiction fun e => hc156 (by have := dg_pos e; omega)
      refine ⟨k + 1, by omega, p2, d2, by rw [hck]; exact (hS.slots (by repeat (first | exact trivial | refine ⟨rfl, ?_⟩))).pick (by repeat (first | exact Pick.nil | (refine Pick.cons (by repeat (first | exact Rem.head | apply Rem.tail)) ?_))), by omega, fun d hd => ?_⟩
      rw [htc] at hd
      rcases List.mem_append.1 hd with hd | hd
      · exact hzs d hd
      · rw [List.mem_singleton.1 hd]; exact hcz
     obtain rfl : k = 6 := by omega
     rw [show cur6.take 6 = cur6 from rfl] at hS hzs
     have hsf := sumC_cur P.acs ps hpc
     rw [hsf] at hS
     have hcz : ∀ c, curSum P.acs c ps = 0 := fun c => by
      by_cases e : c ∈ cur6
      · exact hzs c e
      · exact cur_out P.acs c ps (fun p hp e2 => e (by rw [← e2]; exact hpc p hp))
     refine wp_exit ?_
     refine x_then (x_then (x_hit ?_))
     refine nT (cS (cS (cR ?_)))
     refine Rn hS (.c (e_fa0 rfl ty_fo139_1) <| .c (e_load rfl (by repeat constructor) ty_sc137 (by rfl)) <| .c (e_len rfl rfl ty_sl137) <| .c (e_bin rfl rfl rfl) .n) ?_; clear hS a; intro a hS
     refine nL (nT ?_)
     refine c_ifD hS rfl (fun hc160 => ?_) (fun hc160 => ?_)
     ·
      refine cS (cR ?_)
      refine L_e hS (e_assign rfl) rfl ?_; clear hS a; intro a hS
      refine nL (nT (wp_ret (r_then ?_)))
      refine c_ret1 hS Tryz.results53 (.tmp rfl) ?_
      have hne : sumFn ps ≠ 0 := fun e => by rw [e, dg_len0] at hc160; simp at hc160
      have hev2 : ¬ evenF P.acs ps := fun e => hne ((even_iff P.acs ps).1 e).2
      exact ⟨by rw [hpre, if_pos hev2], hS.chg⟩
     have hfz : sumFn ps = 0 := Classical.byContradiction fun e => hc160 (by have := dg_pos e; omega)
     have hev2 : evenF P.acs ps := (even_iff P.acs ps).2 ⟨hcz, hfz⟩
     rw [if_neg (fun e => e hev2)] at hpre
     refine wS (nT (cS (cS (cR ?_))))
     refine L_e hS (e_assign rfl) rfl ?_; clear hS a; intro a hS
     refine nL (nT (wB ?_))
     skip
     refine c_loop (γ := Nat) (fun i a w => St 207 noB w0 a w [(20, .int .i64 (i : Int)), (0, .pointer (some ⟨b, 0, none⟩)), (3, .slice qu ps.length cu)] [rlPA b s (.slice qu ps.length cu) ps] ∧ i ≤ ps.length ∧ ∀ j y, j < i → ps[j]? = some y → okS (addS (totOf P.tot y.acc) y)) (fun i => ps.length - i) 0 ⟨(hS.slots (by repeat (first | exact trivial | refine ⟨rfl, ?_⟩))).pick (by repeat (first | exact Pick.nil | (refine Pick.cons (by repeat (first | exact Rem.head | apply Rem.tail)) ?_))), Nat.zero_le _, fun j y hj => by omega⟩ ?_
     clear hS a; intro i a w hI
     obtain ⟨hS, hi, hok⟩ := hI
     refine cS (cS (cR ?_))
     refine Rn hS (.m rfl <| .m rfl <| .c (e_len rfl rfl ty_sl54) <| .c (e_bin rfl rfl rfl) .n) ?_; clear hS a; intro a hS
     refine nL (nT ?_)
     refine c_ifD hS rfl (fun hc164 => ?_) (fun hc164 => ?_)
     ·
      have hil : i < ps.length := by omega
      obtain ⟨x, hx⟩ : ∃ x, ps[i]? = some x := ⟨ps[i], List.getElem?_eq_getElem hil⟩
      obtain ⟨g, rfl⟩ : ∃ g, qu = some ⟨g, 0, none⟩ := by rcases hsu with ⟨_, e⟩ | e; exact absurd e (by omega); exact e
      have hxm := List.mem_of_getElem? hx
      have hxf := hfit x hxm
      have hxu := hxf.u
      have hxw := hxf.f
      have htt := sum_all hwf hrel x.acc
      have hto := balT_of hwf.bal x.acc
      refine wS (nT (cS (wB (cS (cR ?_)))))
      refine Rn hS (.m rfl <| .m rfl <| .m rfl <| .c (e_ixN rfl rfl ty_sl54 ty_sz124 (by omega)) <| .c (e_faK rfl ty_fo124_0) <| .c (e_loadC rfl ty_sc9 (fun w hh => rlP_get (by repeat constructor) hx w hh 0 (.string x.acc) rfl)) .n) ?_; clear hS a; intro a hS
      refine L_op (s_callN hS (.cons rfl (.cons rfl (.cons rfl .nil))) cf82 rfl (rlSums_P b s x.acc 1099511627776 hR _ (hS.gg (X := rlPA b s (.slice (some ⟨g, 0, none⟩) ps.length cu) ps)).rl) ?_); clear hS a; intro x174 a w hS
      obtain ⟨⟨p1, d1⟩, ⟨p2, d2⟩⟩ := x174
      rw [htt] at hS
      simp only at hS
      generalize hZ : totOf P.tot x.acc = Z at hS hto
      obtain ⟨Z1, Z2⟩ := Z
      have hz1 := hto.1
      have hz2 := hto.2
      simp only at hS hz1 hz2
      unfold inU at hz1 hz2
      refine Rn hS (.m rfl <| .c (e_extract rfl rfl) <| .c (e_extract rfl rfl) .n) ?_; clear hS a; intro a hS
      refine L_op (s_alloc hS ty_z139 rfl ?_); clear hS a; intro a w b21 hS
      refine L_op (s_alloc hS ty_z139 rfl ?_); clear hS a; intro a w b22 hS
      refine L_op (s_storeA hS rfl rfl ty_sz139 (by repeat constructor) (by rfl) (by rfl) (by rfl) ?_); clear hS; intro w hS
      refine L_op (s_storeA hS rfl rfl ty_sz139 (by repeat constructor) (by rfl) (by rfl) (by rfl) ?_); clear hS; intro w hS
      refine nL (nT (cS ?_))
      refine c_drawS [] (by kernel_rfl) hS (sub_cons (X := .blk b21 _ _) (by repeat constructor) (sub_cons (X := rlPA b s (.slice (some ⟨g, 0, none⟩) ps.length cu) ps) (by repeat constructor) sub_nil)) ?_; clear hS; intro w hS
      simp only [List.length_cons, List.length_nil, Nat.zero_add, Nat.reduceAdd, List.replicate]
      refine Rz hS (sub_cons (by repeat constructor) (sub_cons (by repeat constructor) sub_nil)) (.y 0 (tf 1 13) rfl wN (e_loadA rfl (by repeat constructor) ty_st139 ty_sz139 (by rfl)) rfl <| .o 1 (tf 2 12) rfl wN (e_move rfl) rfl <| .o 2 (tf 3 11) rfl wN (e_move rfl) rfl <| .o 3 (tf 4 10) rfl wN (e_ixN rfl rfl ty_sl54 ty_sz124 (by omega)) rfl <| .o 4 (tf 5 9) rfl wN (e_faK rfl ty_fo124_1) rfl <| .y 5 (tf 6 8) rfl wN (e_loadC rfl ty_sc3 (fun w hh => rlP_get (by repeat constructor) hx w hh 1 (.int .i64 x.u) rfl)) rfl .n) ?_; clear hS a; intro a hS
      refine Zo 6 (tf 7 7) hS rfl wN rfl (s_callN hS (.cons rfl .nil) cf62 rfl (BigOf_P x.u (by omega) _) ?_); clear hS a; intro x184 a w hS
      refine Z_and hS (sub_cons (by repeat constructor) (sub_cons (by repeat constructor) sub_nil)) ?_
      have hT := hS.ok (twoDg Z1 Z2 p1 p2) (by repeat constructor)
      have hA := BigAdd_P p1 (some (x184.1.1, 0)) d1 x184.1.2 Z1 x.u 20 (by decide) (len20 (by omega)) (len20 (by omega)) _ (two_ok hT.now.1 (hS.gg (X := bigA x.u x184.1.1)) (fun r e => hT.lt r.1 (.inl ⟨r.2, e⟩)) (fun r e => by cases e; exact (hS.ok (bigA x.u x184.1.1) (by repeat constructor)).lt _ rfl))
      refine Zo 7 (tf 8 6) hS rfl wN rfl (s_callN hS (.cons rfl (.cons rfl .nil)) cf63 rfl (hA) ?_); clear hS a; intro x185 a w hS
      clear hA hT
      refine Z_and hS (sub_cons (by repeat constructor) (sub_cons (by repeat constructor) sub_nil)) ?_
      refine Zo 8 (tf 9 5) hS rfl wN rfl (s_callP hS (.cons rfl .nil) cf60 rfl (xUnits_P (some (x185.1.1, 0)) x185.1.2 (Z1 + x.u) (by have := len20 (z := Z1 + x.u) (by omega); omega) _ (one_of hS (z := Z1 + x.u) (b := x185.1.1) (by repeat constructor))) ?_); clear hS a; intro a w hS
      refine Z_and hS (sub_cons (by repeat constructor) (sub_cons (by repeat constructor) sub_nil)) ?_
      refine Ry hS (.o 9 (tf 10 4) rfl wN (e_move rfl) rfl <| .o 10 (tf 11 3) rfl wN (e_extract rfl rfl) rfl <| .o 11 (tf 12 2) rfl wN (e_extract rfl rfl) rfl <| .o 12 (tf 13 1) rfl wN (e_assign rfl) rfl <| .o 13 (tf 14 0) rfl wN (e_assign rfl) rfl .n) ?_; clear hS a; intro a hS
      refine Z_done (by kernel_rfl) ?_
      refine nT (cS ?_)
      refine c_drawS [] (by kernel_rfl) hS (sub_cons (X := .blk b22 _ _) (by repeat constructor) (sub_cons (X := rlPA b s (.slice (some ⟨g, 0, none⟩) ps.length cu) ps) (by repeat constructor) sub_nil)) ?_; clear hS; intro w hS
      simp only [List.length_cons, List.length_nil, Nat.zero_add, Nat.reduceAdd, List.replicate]
      refine Rz hS (sub_cons (by repeat constructor) (sub_cons (by repeat constructor) sub_nil)) (.y 0 (tf 1 13) rfl wN (e_loadA rfl (by repeat constructor) ty_st139 ty_sz139 (by rfl)) rfl <| .o 1 (tf 2 12) rfl wN (e_move rfl) rfl <| .o 2 (tf 3 11) rfl wN (e_move rfl) rfl <| .o 3 (tf 4 10) rfl wN (e_ixN rfl rfl ty_sl54 ty_sz124 (by omega)) rfl <| .o 4 (tf 5 9) rfl wN (e_faK rfl ty_fo124_2) rfl <| .y 5 (tf 6 8) rfl wN (e_loadC rfl ty_sc3 (fun w hh => rlP_get (by repeat constructor) hx w hh 2 (.int .i64 x.f) rfl)) rfl .n) ?_; clear hS a; intro a hS
      refine Zo 6 (tf 7 7) hS rfl wN rfl (s_callN hS (.cons rfl .nil) cf62 rfl (BigOf_P x.f (by omega) _) ?_); clear hS a; intro x196 a w hS
      refine Z_and hS (sub_cons (by repeat constructor) (sub_cons (by repeat constructor) sub_nil)) ?_
      have hT := hS.ok (twoDg Z1 Z2 p1 p2) (by repeat constructor)
      have hA := BigAdd_P p2 (some (x196.1.1, 0)) d2 x196.1.2 Z2 x.f 20 (by decide) (len20 (by omega)) (len20 (by omega)) _ (two_ok hT.now.2 (hS.gg (X := bigA x.f x196.1.1)) (fun r e => hT.lt r.1 (.inr ⟨r.2, e⟩)) (fun r e => by cases e; exact (hS.ok (bigA x.f x196.1.1) (by repeat constructor)).lt _ rfl))
      refine Zo 7 (tf 8 6) hS rfl wN rfl (s_callN hS (.cons rfl (.cons rfl .nil)) cf63 rfl (hA) ?_); clear hS a; intro x197 a w hS
      clear hA hT
      refine Z_and hS (sub_cons (by repeat constructor) (sub_cons (by repeat constructor) sub_nil)) ?_
      refine Zo 8 (tf 9 5) hS rfl wN rfl (s_callP hS (.cons rfl .nil) cf60 rfl (xUnits_P (some (x197.1.1, 0)) x197.1.2 (Z2 + x.f) (by have := len20 (z := Z2 + x.f) (by omega); omega) _ (one_of hS (z := Z2 + x.f) (b := x197.1.1) (by repeat constructor))) ?_); clear hS a; intro a w hS
      refine Z_and hS (sub_cons (by repeat constructor) (sub_cons (by repeat constructor) sub_nil)) ?_
      refine Ry hS (.o 9 (tf 10 4) rfl wN (e_move rfl) rfl <| .o 10 (tf 11 3) rfl wN (e_extract rfl rfl) rfl <| .o 11 (tf 12 2) rfl wN (e_extract rfl rfl) rfl <| .o 12 (tf 13 1) rfl wN (e_assign rfl) rfl <| .o 13 (tf 14 0) rfl wN (e_assign rfl) rfl .n) ?_; clear hS a; intro a hS
      refine Z_done (by kernel_rfl) ?_
      refine nT (cS (cR ?_))
      refine Rn hS (.m rfl <| .c (e_not rfl) <| .m rfl .n) ?_; clear hS a; intro a hS
      refine L_merge 3 206 (.bool (decide (¬ inU (Z1 + x.u) ∨ ¬ inU (Z2 + x.f)))) hS ?_ ?_
      · intro hcM206
        refine g_split (t := 203) hS rfl ?_ ?_ <;> (clear hS; intro hg203 hS)
        ·
         refine Rn hS (.f rfl rfl <| .f rfl rfl <| .c (e_pick_t rfl rfl) .n) ?_; clear hS a; intro a hS
         exact hcM206 _ _ (hS.ends 4 206 203 rfl (congrArg Value.bool (by exact (decide_eq_true (.inl (by simpa using hg203))).symm)) rfl rfl (by first | exact congrArg Value.bool (decide_eq_true hg203).symm | exact congrArg Value.bool hg203.symm | simp [hg203]) rfl)
        refine Rn hS (.g rfl rfl (e_move rfl) <| .g rfl rfl (e_not rfl) <| .c (e_pick_f rfl rfl) .n) ?_; clear hS a; intro a hS
        exact hcM206 _ _ (hS.ends 4 206 203 rfl (congrArg Value.bool (by rw [← decide_not, decide_eq_decide]; exact ⟨.inr, fun h => h.resolve_left (by simpa using hg203)⟩)) rfl rfl (by first | exact congrArg Value.bool (decide_eq_false hg203).symm | exact congrArg Value.bool hg203.symm | simp [hg203]) rfl)
      · clear hS a; intro a w hS
        simp only [List.drop_succ_cons, List.drop_zero]
        refine nL (nT ?_)
        refine c_ifD hS rfl (fun hc206 => ?_) (fun hc206 => ?_)
        ·
         refine cS (cR ?_)
         refine L_e hS (e_assign rfl) rfl ?_; clear hS a; intro a hS
         refine nL (nT (wp_ret ?_))
         refine r_block (r_then (r_then (r_block (r_then ?_))))
         refine c_ret1 hS Tryz.results53 (.tmp rfl) ?_
         have hex : ∃ y ∈ ps, ¬ okS (addS (totOf P.tot y.acc) y) := ⟨x, hxm, fun e => by rw [hZ] at e; exact hc206.elim (fun h => h e.1) (fun h => h e.2)⟩
         exact ⟨by rw [hpre, if_pos hex], hS.chg⟩
        refine wS (n_block (nT (cR ?_)))
        refine Rn hS (.m rfl <| .c (e_binN rfl rfl rfl (by omega)) <| .a rfl .n) ?_; clear hS a; intro a hS
        refine nL ?_
        exact ⟨i + 1, by omega, (hS.slots (by repeat (first | exact trivial | refine ⟨rfl, ?_⟩))).pick (by repeat (first | exact Pick.nil | (refine Pick.cons (by repeat (first | exact Rem.head | apply Rem.tail)) ?_))), by omega, fun j z hj hz => by
          by_cases e : j = i
          · subst e
            rw [hx] at hz; cases hz
            rw [hZ]
            exact ⟨Classical.byContradiction fun e => hc206 (.inl e), Classical.byContradiction fun e => hc206 (.inr e)⟩
          · exact hok j z (by omega) hz⟩
     refine wp_exit ?_
     refine x_then (x_then (x_hit ?_))
     refine nT (cS (cR ?_))
     refine L_e hS (e_assign rfl) rfl ?_; clear hS a; intro a hS
     refine nL (nT (wp_ret ?_))
     refine c_ret1 hS Tryz.results53 (.tmp rfl) ?_
     have hex : ¬ ∃ y ∈ ps, ¬ okS (addS (totOf P.tot y.acc) y) := fun ⟨y, hy, hn⟩ => by
      obtain ⟨j, hj, rfl⟩ := List.mem_iff_getElem.1 hy
      exact hn (hok j _ (by omega) (List.getElem?_eq_getElem hj))
     exact ⟨by rw [hpre, if_neg hex], hS.chg⟩
def rowU (u : Value) (ps : List Pst) : Asn := .any (fun k => u.ownBlock = some k) (fun w => w.ownsRow 0 124 3 u ps.length (ps.flatMap encP)) false
theorem rowU_ok {u : Value} {ps : List Pst} {w : World} (h : w.ownsRow 0 124 3 u ps.length (ps.flatMap encP)) : (rowU u ps).ok w :=
 ⟨fun k hk => (World.ownsRow.lt h k hk).2, fun _ hw => owns_keepL h (fun k hk => hw k hk)⟩
theorem ok_snoc {Γ : List Asn} {Y : Asn} {w : World} (h : ∀ X ∈ Γ, X.ok w) (hY : Y.ok w) : ∀ X ∈ Γ ++ [Y], X.ok w := fun X hX => by
 rcases List.mem_append.1 hX with hX | hX
 · exact h X hX
 · rw [List.mem_singleton.1 hX]; exact hY
theorem dis_snoc {Γ : List Asn} {Y : Asn} {F : Nat → Prop} (h : Γ.Pairwise (fun X Y => ∀ k, X.F k → ¬ Y.F k)) (hF : ∀ X ∈ Γ, ∀ k, X.F k → F k) (hY : ∀ k, Y.F k → ¬ F k) : (Γ ++ [Y]).Pairwise (fun X Y => ∀ k, X.F k → ¬ Y.F k) :=
 List.pairwise_append.2 ⟨h, List.pairwise_singleton _ _, fun X hX Z hZ k h1 h2 => by rw [List.mem_singleton.1 hZ] at h2; exact hY k h2 (hF X hX k h1)⟩
theorem mine_snoc {Γ : List Asn} {Y : Asn} {w : World} {F : Nat → Prop} (h : ∀ X ∈ Γ, X.mine = true → ∀ k, X.F k → w.heap.size ≤ k ∨ F k) (hY : Y.mine = false) : ∀ X ∈ Γ ++ [Y], X.mine = true → ∀ k, X.F k → w.heap.size ≤ k ∨ F k := fun X hX hm => by
 rcases List.mem_append.1 hX with hX | hX
 · exact h X hX hm
 · rw [List.mem_singleton.1 hX, hY] at hm; cases hm
theorem rl_parts {b : Nat} {s : RS} : ∀ X ∈ [.blk b (rlC s) 66, rowRA s, rowRE s, rpAll s.es], ∀ k, X.F k → rlF b s k := fun X hX k hk => by
 simp only [List.mem_cons, List.not_mem_nil, or_false] at hX
 rcases hX with rfl | rfl | rfl | rfl
 · exact .inl hk
 · exact .inr (.inl hk)
 · exact .inr (.inr (.inl hk))
 · exact .inr (.inr (.inr hk))
set_option maxHeartbeats 2000000 in
set_option maxRecDepth 100000 in
theorem rlPost_P (b : Nat) (s : RS) (P : PL) (m : Nat) (hrel : relR s P) (hwf : wfP P m) (hm : m ≤ 900) (hcur : wfC P) (u : Value) (at_ : Int) (memo : ByteArray) (ps : List Pst) (hpl : ps.length ≤ 100000) (hfit : ∀ x ∈ ps, x.fits) (w0 : World) (h : rlφ b s w0)
 (hrow : w0.ownsRow 0 124 3 u ps.length (ps.flatMap encP)) (hd : ∀ k, u.ownBlock = some k → ¬ rlF b s k) :
 MutC Tryz.prog 19 [.pointer (some ⟨b, 0, none⟩), .int .i64 at_, .string memo, u] w0 (rlA b s true) (fun _ : { y : RS // relR y (postP P at_ memo ps) } => .tuple [.int .i64 (postI P at_ memo ps), .int .i64 (checkE P at_ memo ps)].toArray) (fun y => rlA b y.1 true) := by
 obtain ⟨qE, cE, hev, hsh⟩ := rl_shE h
 obtain ⟨qu, cu, rfl⟩ := own_slice hrow
 have hR := okR_of hwf hm hrel
 have hfew := hR.few
 obtain ⟨cur, acs, es, closed, av, ev⟩ := s
 simp only at hev hsh hfew
 subst hev
 have hel : P.es.length = es.length := by rw [← hrel.es, List.length_map]
 refine c_enter [(0, .pointer (some ⟨b, 0, none⟩)), (1, .int .i64 at_), (2, .string memo), (3, .slice qu ps.length cu)] [.blk b [.string cur, av, .slice qE es.length cE, .int .i64 closed] 66, ownA 51 4 av acs.length (acs.flatMap encAc), ownA 104 4 (.slice qE es.length cE) es.length (es.flatMap encE), rpAll es, rowU (.slice qu ps.length cu) ps] (rlF b ⟨cur, acs, es, closed, av, .slice qE es.length cE⟩) Tryz.func19 rfl Tryz.ntmps19 ⟨rfl, rfl, rfl, rfl, trivial⟩ rfl (ok_snoc (rl_okP h) (rowU_ok hrow)) (dis_snoc (rl_dis h) rl_parts hd) (mine_snoc (rl_mine (b := b) (s := ⟨cur, acs, es, closed, av, .slice qE es.length cE⟩)) rfl) ?_
 intro a hS
 refine cS (cR ?_)
 refine Rn hS (.a rfl <| .a rfl .n) ?_; clear hS a; intro a hS
 refine nL (nT (cS (cR ?_)))
 refine Rn hS (.m rfl <| .m rfl <| .m rfl <| .m rfl .n) ?_; clear hS a; intro a hS
 refine L_op (s_callP hS (.cons rfl (.cons rfl (.cons rfl (.cons rfl .nil)))) cf53 rfl (rlCheck_P b ⟨cur, acs, es, closed, av, .slice qE es.length cE⟩ P m hrel hwf hm hcur qu cu at_ memo ps hpl hfit _ ⟨hS.gg (X := .blk b [.string cur, av, .slice qE es.length cE, .int .i64 closed] 66), hS.gg (X := ownA 51 4 av acs.length (acs.flatMap encAc)), hS.gg (X := ownA 104 4 (.slice qE es.length cE) es.length (es.flatMap encE)), hS.gg (X := rpAll es)⟩ (hS.gg (X := rowU (.slice qu ps.length cu) ps))) ?_); clear hS a; intro a w hS
 refine L_e hS (e_assign rfl) rfl ?_; clear hS a; intro a hS
 refine nL (nT (cS (cS (cR ?_))))
 refine Rn hS (.m rfl <| .c (e_bin rfl rfl rfl) .n) ?_; clear hS a; intro a hS
 refine nL (nT ?_)
 refine c_ifD hS rfl (fun hc18 => ?_) (fun hc18 => ?_)
 ·
  refine cS (cR ?_)
  refine Rn hS (.m rfl <| .a rfl <| .a rfl .n) ?_; clear hS a; intro a hS
  refine nL (nT (wp_ret (r_then ?_)))
  refine c_retN hS Tryz.results19 (.cons (.tmp rfl) (.cons (.tmp rfl) .nil)) rfl ?_
  have hne : checkE P at_ memo ps ≠ 0 := hc18
  have hI : postI P at_ memo ps = 0 := if_neg hne
  refine ⟨⟨⟨cur, acs, es, closed, av, .slice qE es.length cE⟩, by rw [show postP P at_ memo ps = P from if_neg hne]; exact hrel⟩, by (try dsimp only); rw [hI], hS.chg, rl_end (s' := ⟨cur, acs, es, closed, av, .slice qE es.length cE⟩) hS (by repeat constructor) (by repeat constructor) (by repeat constructor) (by repeat constructor)⟩
 have hE : checkE P at_ memo ps = 0 := Classical.byContradiction fun e => hc18 e
 have h2 := ((check_iff P at_ memo ps).1 hE).few.1
 rw [hE] at hS
 refine wS (nT (cS (cR ?_)))
 refine Rn hS (.m rfl <| .c (e_nilCheck rfl) <| .c (e_fa0 rfl ty_fo66_2) <| .c (e_load rfl (by repeat constructor) ty_sc64 (by rfl)) <| .c (e_len rfl rfl ty_sl64) <| .c (e_binN rfl rfl rfl (by omega)) <| .a rfl .n) ?_; clear hS a; intro a hS
 refine nL (nT (cS (cR ?_)))
 refine L_e hS (e_move rfl) rfl ?_; clear hS a; intro a hS
 refine L_op (s_bslice hS ty_sl64 ty_sz104 ty_z104 rfl rfl rfl rfl .nil rfl ?_); clear hS a; intro a w b27 hS
 replace hS := hS.swap (X := .blk b27 [] 104) (Y := ownA 104 4 (.slice (some ⟨b27, 0, none⟩) 0 0) 0 []) (by repeat constructor) (own_empty (hS.gg (X := .blk b27 [] 104))) (fun b hb => by simpa [ownA, Asn.F, Value.ownBlock, eq_comm] using hb) rfl
 refine Rn hS (.m rfl <| .c (e_nilCheck rfl) <| .c (e_fa0 rfl ty_fo66_2) <| .c (e_load rfl (by repeat constructor) ty_sc64 (by rfl)) .n) ?_; clear hS a; intro a hS
 refine L_op (s_appendL hS rfl rfl ty_sl64 ty_sz104 ty_by104 ty_z104 rfl rfl rfl (by repeat constructor) (ys := es.flatMap encE) (lenE es) (row_read (hS.gg (X := ownA 104 4 (.slice qE es.length cE) es.length (es.flatMap encE))) (lenE es)) (oneE es) (by omega) (fun _ => (by repeat constructor)) ?_); clear hS a; intro v32 a w hv32 hS
 refine Rn hS (.m rfl <| .m rfl <| .m rfl .n) ?_; clear hS a; intro a hS
 refine L_op (s_bslice hS ty_sl54 ty_sz124 ty_z124 rfl rfl rfl rfl .nil rfl ?_); clear hS a; intro a w b36 hS
 replace hS := hS.swap (X := .blk b36 [] 124) (Y := ownA 124 3 (.slice (some ⟨b36, 0, none⟩) 0 0) 0 []) (by repeat constructor) (own_empty (hS.gg (X := .blk b36 [] 124))) (fun b hb => by simpa [ownA, Asn.F, Value.ownBlock, eq_comm] using hb) rfl
 refine L_e hS (e_move rfl) rfl ?_; clear hS a; intro a hS
 refine L_op (s_appendL hS rfl rfl ty_sl54 ty_sz124 ty_by124 ty_z124 rfl rfl rfl (by repeat constructor) (ys := ps.flatMap encP) (flat_len encP 3 (fun _ => rfl) ps) (row_read (hS.gg (X := rowU (.slice qu ps.length cu) ps)) (flat_len encP 3 (fun _ => rfl) ps)) (oneP ps) (by omega) (fun _ => (by repeat constructor)) ?_); clear hS a; intro v38 a w hv38 hS
 rw [List.nil_append, Nat.zero_add] at hS
 obtain ⟨q38, c38, rfl⟩ := own_slice (hS.gg (X := ownA 124 3 v38 ps.length (ps.flatMap encP)))
 obtain ⟨g38, rfl⟩ : ∃ g, q38 = some ⟨g, 0, none⟩ := own_at (hS.gg (X := ownA 124 3 (.slice q38 ps.length c38) ps.length (ps.flatMap encP))) (by omega)
 refine L_e hS (e_build ty_z104 ty_pl104 (.one rfl rfl rfl (by repeat constructor) (.one rfl rfl rfl (by repeat constructor) (.one rfl rfl rfl (by repeat constructor) (.one rfl rfl rfl (by repeat constructor) .nil))))) rfl ?_; clear hS a; intro a hS
 refine L_op (s_bslice hS ty_sl64 ty_sz104 ty_z104 rfl rfl rfl rfl (.agg rfl rfl .nil) rfl ?_); clear hS a; intro a w b40 hS
 refine L_op (s_append1 hS rfl rfl ty_sl64 ty_sz104 ty_by104 ty_z104 rfl rfl rfl (by repeat constructor) (by repeat constructor) (by rfl) (by rfl) (fun _ => (by repeat constructor)) (by omega) ?_); clear hS a; intro v41 a w hv41 hS
 obtain ⟨q41, c41, rfl⟩ := own_slice (hS.gg (X := ownA 104 4 v41 _ _))
 refine Rn hS (.c (e_nilCheck rfl) <| .c (e_fa0 rfl ty_fo66_2) .n) ?_; clear hS a; intro a hS
 refine L_op (s_store hS rfl rfl rfl ty_sz64 (by repeat constructor) (by repeat constructor) ?_); clear hS; intro w hS
 refine nL (nT (cS (cR ?_)))
 refine Rn hS (.m rfl <| .a rfl <| .a rfl .n) ?_; clear hS a; intro a hS
 refine nL (nT (wp_ret ?_))
 refine c_retN hS Tryz.results19 (.cons (.tmp rfl) (.cons (.tmp rfl) .nil)) rfl ?_
 have hI : postI P at_ memo ps = (es.length : Int) + 1 := by rw [show postI P at_ memo ps = _ from if_pos hE, hel]
 have hP : postP P at_ memo ps = { P with es := P.es ++ [⟨(P.es.length : Int) + 1, at_, memo, ps⟩], tot := totS P.tot ps } := if_pos hE
 replace hS := hS.drop (.cons _ (.refl _))
 have hp1 : rpOk ⟨⟨(es.length : Int) + 1, at_, memo, ps⟩, g38, c38⟩ w := hS.gg (X := ownA 124 3 (.slice (some ⟨g38, 0, none⟩) ps.length c38) ps.length (ps.flatMap encP))
 have hp2 : ∀ y ∈ es, rpOk y w := hS.gg (X := rpAll es)
 replace hS := hS.join (X := ownA 124 3 (.slice (some ⟨g38, 0, none⟩) ps.length c38) ps.length (ps.flatMap encP)) (Y := rpAll es) (Z := rpAll (es ++ [⟨⟨(es.length : Int) + 1, at_, memo, ps⟩, g38, c38⟩])) (by repeat constructor) (rp_ok (fun y hy => by
   rcases List.mem_append.1 hy with hy | hy
   · exact hp2 y hy
   · obtain rfl := List.mem_singleton.1 hy; exact hp1)) (fun b hb => by
   obtain ⟨y, hy, e⟩ := hb
   rcases List.mem_append.1 hy with hy | hy
   · exact .inr ⟨y, hy, e⟩
   · obtain rfl := List.mem_singleton.1 hy; exact .inl (by rw [e]; rfl)) (fun _ => ⟨rfl, rfl⟩)
 refine ⟨⟨⟨cur, acs, es ++ [⟨⟨(es.length : Int) + 1, at_, memo, ps⟩, g38, c38⟩], closed, av, .slice q41 (0 + es.length + 1) c41⟩, by rw [hP]; exact ⟨hrel.cur, hrel.acs, by simp only; rw [List.map_append, hel]; exact congrArg (· ++ _) hrel.es, hrel.closed⟩⟩, by (try dsimp only); rw [hI, hE], hS.chg, rl_end (s' := ⟨cur, acs, es ++ [⟨⟨(es.length : Int) + 1, at_, memo, ps⟩, g38, c38⟩], closed, av, .slice q41 (0 + es.length + 1) c41⟩) hS (by repeat constructor) (by repeat constructor) ?_ (by repeat constructor)⟩
 unfold rowRE
 simp only
 rw [show (es ++ [(⟨⟨(es.length : Int) + 1, at_, memo, ps⟩, g38, c38⟩ : EA)]).length = 0 + es.length + 1 from by simp, show (es ++ [(⟨⟨(es.length : Int) + 1, at_, memo, ps⟩, g38, c38⟩ : EA)]).flatMap encE = [] ++ es.flatMap encE ++ encE ⟨⟨(es.length : Int) + 1, at_, memo, ps⟩, g38, c38⟩ from by simp]
 exact (by repeat constructor)
section
variable {P : Program} {n : Nat} {a : Act} {L : List (Nat × Value)} {Γ : List Asn} {dst : Option Nat} {ty : Nat} {pos : String} {af : Array Edge} {g : Option (Nat × Bool)}
end
def psAtF (v : Value) (l : List Pst) (k : Nat) : Prop := l ≠ [] ∧ v.ownBlock = some k
def psAtA (v : Value) (l : List Pst) : Asn := .any (psAtF v l) (PsAt v l) false
theorem psAt_ok {v : Value} {l : List Pst} {w : World} (h : PsAt v l w) : (psAtA v l).ok w := by
 refine ⟨fun k hk => ?_, fun w' hw => h.keep (fun k hne hk => hw k ⟨hne, hk⟩)⟩
 obtain ⟨hne, hk⟩ := hk
 obtain ⟨b, off, c, rfl, _, hb⟩ := h.some hne
 cases hk; exact hb
theorem psAt_pos {a : Option Addr} {c : Nat} {l : List Pst} {w : World} (h : PsAt (.slice a l.length c) l w) (hne : l ≠ []) : ∃ b off, a = some ⟨b, off, none⟩ := by
 obtain ⟨b, off, c', e, _, _⟩ := h.some hne
 injection e with e1
 exact ⟨b, off, e1⟩
theorem psAt_get {Γ : List Asn} {b off c : Nat} {l : List Pst} (hm : psAtA (.slice (some ⟨b, off, none⟩) l.length c) l ∈ Γ) {i : Nat} {x : Pst} (hx : l[i]? = some x) : ∀ w, Hd Γ w → ∀ j v, (encP x)[j]? = some v → w.cell? ⟨b, off + i * 3 + j, none⟩ = some v := by
 intro w hh j v hj
 have h : PsAt _ l w := hh _ hm
 have hne : l ≠ [] := fun e => by rw [e] at hx; cases hx
 obtain ⟨b', off', c', e, hr, _⟩ := h.some hne
 injection e with e1
 cases e1
 exact hr i (encP x) (by simp [hx]) j v hj
set_option maxHeartbeats 1000000 in
set_option maxRecDepth 100000 in
theorem lPosts_P (v : Value) (ps : List Pst) (hpl : ps.length ≤ 100000) (w0 : World) (h : PsAt v ps w0) :
 NewC Tryz.prog 20 [v] w0 (fun ov : Value => ov) (fun ov => ownA 124 3 ov ps.length (ps.flatMap encP)) := by
 obtain ⟨ad, c, rfl⟩ := h.shape
 refine c_enter [(0, .slice ad ps.length c)] [psAtA (.slice ad ps.length c) ps] noB Tryz.func20 rfl Tryz.ntmps20 ⟨rfl, trivial⟩ rfl (okC (psAt_ok h) okN) dis1 (mineC (by rfl) mineN) ?_
 intro a hS
 refine cS (cR ?_)
 refine L_e hS (e_assign rfl) rfl ?_; clear hS a; intro a hS
 refine nL (nT (cS (cR ?_)))
 refine L_e hS (e_assign rfl) rfl ?_; clear hS a; intro a hS
 refine nL (nT (cS (cS (cR ?_))))
 refine L_e hS (e_assign rfl) rfl ?_; clear hS a; intro a hS
 refine nL (nT (wB ?_))
 replace hS := hS.own_nil 124 3
 refine c_loop (γ := Nat × Value) (fun G a w => St 31 noB w0 a w [(4, .int .i64 (G.1 : Int)), (3, G.2), (0, .slice ad ps.length c)] [ownA 124 3 G.2 (ps.take G.1).length ((ps.take G.1).flatMap encP), psAtA (.slice ad ps.length c) ps] ∧ G.1 ≤ ps.length) (fun G => ps.length - G.1) (0, .slice none 0 0) ⟨(hS.slots (by repeat (first | exact trivial | refine ⟨rfl, ?_⟩))).pick (by repeat (first | exact Pick.nil | (refine Pick.cons (by repeat (first | exact Rem.head | apply Rem.tail)) ?_))), Nat.zero_le _⟩ ?_
 clear hS a; intro G a w hI
 obtain ⟨i, out⟩ := G
 obtain ⟨hS, hi⟩ := hI
 simp only at hS hi
 refine cS (cS (cR ?_))
 refine Rn hS (.m rfl <| .m rfl <| .c (e_len rfl rfl ty_sl36) <| .c (e_bin rfl rfl rfl) .n) ?_; clear hS a; intro a hS
 refine nL (nT ?_)
 refine c_ifD hS rfl (fun hc8 => ?_) (fun hc8 => ?_)
 ·
  have hik : i < ps.length := by omega
  obtain ⟨x, hx⟩ : ∃ x, ps[i]? = some x := ⟨ps[i], List.getElem?_eq_getElem hik⟩
  obtain ⟨b, off, rfl⟩ := psAt_pos (hS.gg (X := psAtA (.slice ad ps.length c) ps)) (fun e => by rw [e] at hik; simp at hik)
  have htk : ps.take (i + 1) = ps.take i ++ [x] := by rw [List.take_add_one, hx]; rfl
  have htl : (ps.take i).length = i := by rw [List.length_take]; omega
  refine wS (nT (cS (wB ?_)))
  refine c_drawS [18] (by kernel_rfl) hS (sub_cons (X := psAtA (.slice (some ⟨b, off, none⟩) ps.length c) ps) (by repeat constructor) sub_nil) ?_; clear hS; intro w hS
  simp only [List.length_cons, List.length_nil, Nat.zero_add, Nat.reduceAdd, List.replicate]
  refine Rz hS (sub_cons (by repeat constructor) sub_nil) (.o 0 (tf 1 19) rfl wN (e_move rfl) rfl <| .o 1 (tf 2 18) rfl wN (e_move rfl) rfl <| .o 2 (tf 3 17) rfl wN (e_move rfl) rfl <| .o 3 (tf 4 16) rfl wN (e_ixN rfl rfl ty_sl36 ty_sz82 (by omega)) rfl <| .o 4 (tf 5 15) rfl wN (e_faK rfl ty_fo82_0) rfl <| .y 5 (tf 6 14) rfl wN (e_loadC rfl ty_sc9 (fun w hh => psAt_get (by repeat constructor) hx w hh 0 (.string x.acc) rfl)) rfl <| .o 6 (tf 7 13) rfl wN (e_move rfl) rfl <| .o 7 (tf 8 12) rfl wN (e_move rfl) rfl <| .o 8 (tf 9 11) rfl wN (e_ixN rfl rfl ty_sl36 ty_sz82 (by omega)) rfl <| .o 9 (tf 10 10) rfl wN (e_faK rfl ty_fo82_1) rfl <| .y 10 (tf 11 9) rfl wN (e_loadC rfl ty_sc3 (fun w hh => psAt_get (by repeat constructor) hx w hh 1 (.int .i64 x.u) rfl)) rfl <| .o 11 (tf 12 8) rfl wN (e_move rfl) rfl <| .o 12 (tf 13 7) rfl wN (e_move rfl) rfl <| .o 13 (tf 14 6) rfl wN (e_ixN rfl rfl ty_sl36 ty_sz82 (by omega)) rfl <| .o 14 (tf 15 5) rfl wN (e_faK rfl ty_fo82_2) rfl <| .y 15 (tf 16 4) rfl wN (e_loadC rfl ty_sc3 (fun w hh => psAt_get (by repeat constructor) hx w hh 2 (.int .i64 x.f) rfl)) rfl <| .o 16 (tf 17 3) rfl wN (e_build ty_z124 ty_pl124 (.one rfl rfl rfl (by repeat constructor) (.one rfl rfl rfl (by repeat constructor) (.one rfl rfl rfl (by repeat constructor) .nil)))) rfl .n) ?_; clear hS a; intro a hS
  refine Zo 17 (tf 18 2) hS rfl wN rfl (s_bslice hS ty_sl54 ty_sz124 ty_z124 rfl rfl rfl rfl (.agg rfl rfl .nil) rfl ?_); clear hS a; intro a w b28 hS
  refine Z_and hS (sub_cons (by repeat constructor) sub_nil) ?_
  refine Zo 18 (tf 19 1) hS rfl wN rfl (s_append1 hS rfl rfl ty_sl54 ty_sz124 ty_by124 ty_z124 rfl rfl rfl (by repeat constructor) (by repeat constructor) (by rfl) (by rfl) (fun _ => (by repeat constructor)) (by omega) ?_); clear hS a; intro v29 a w hv29 hS
  refine Z_last (by simp) ?_
  refine Zt0 19 (tf 20 0) hS rfl want_none (e_assign rfl) rfl (by kernel_rfl) rfl ?_; clear hS a; intro a hS
  refine Z_done (by kernel_rfl) ?_
  refine n_block (nT (cR ?_))
  refine Rn hS (.m rfl <| .c (e_binN rfl rfl rfl (by omega)) <| .a rfl .n) ?_; clear hS a; intro a hS
  refine nL ?_
  have e1 : (ps.take (i + 1)).length = (ps.take i).length + 1 := by rw [htk]; simp
  have e2 : (ps.take (i + 1)).flatMap encP = (ps.take i).flatMap encP ++ encP x := by rw [htk, List.flatMap_append]; simp
  refine ⟨(i + 1, v29), by simp only; omega, ?_, by simp only; omega⟩
  simp only
  rw [e1, e2]
  exact (hS.slots (by repeat (first | exact trivial | refine ⟨rfl, ?_⟩))).pick (by repeat (first | exact Pick.nil | (refine Pick.cons (by repeat (first | exact Rem.head | apply Rem.tail)) ?_)))
 refine wp_exit ?_
 refine x_then (x_then (x_hit ?_))
 refine nT (cS (cR ?_))
 refine Rn hS (.m rfl <| .a rfl .n) ?_; clear hS a; intro a hS
 refine nL (nT (wp_ret ?_))
 refine c_ret1 hS Tryz.results20 (.tmp rfl) ?_
 obtain rfl : i = ps.length := by omega
 rw [List.take_length] at hS
 exact ⟨out, rfl, hS.chg, hS.new (X := ownA 124 3 out ps.length (ps.flatMap encP)) (by repeat constructor) rfl⟩
def twoPA (v u : Value) (l : List Pst) : Asn := .any (fun k => psAtF v l k ∨ u.ownBlock = some k) (fun w => PsAt v l w ∧ w.ownsRow 0 124 3 u l.length (l.flatMap encP)) false
theorem twoP_ok {v u : Value} {l : List Pst} {w : World} (h : PsAt v l w) (h2 : w.ownsRow 0 124 3 u l.length (l.flatMap encP)) : (twoPA v u l).ok w := by
 have a := psAt_ok h
 exact ⟨fun k hk => hk.elim (fun hk => a.lt k hk) (fun hk => (World.ownsRow.lt h2 k hk).2), fun w' hw => ⟨a.hold w' (fun k hk => hw k (.inl hk)), owns_keepL h2 (fun k hk => hw k (.inr hk))⟩⟩
theorem twoP_get {Γ : List Asn} {b off c : Nat} {u : Value} {l : List Pst} (hm : twoPA (.slice (some ⟨b, off, none⟩) l.length c) u l ∈ Γ) {i : Nat} {x : Pst} (hx : l[i]? = some x) : ∀ w, Hd Γ w → ∀ j v, (encP x)[j]? = some v → w.cell? ⟨b, off + i * 3 + j, none⟩ = some v := by
 intro w hh j v hj
 have h : PsAt _ l w := (hh _ hm).1
 have hne : l ≠ [] := fun e => by rw [e] at hx; cases hx
 obtain ⟨b', off', c', e, hr, _⟩ := h.some hne
 injection e with e1
 cases e1
 exact hr i (encP x) (by simp [hx]) j v hj
theorem twoP_getU {Γ : List Asn} {g c : Nat} {v : Value} {l : List Pst} (hm : twoPA v (.slice (some ⟨g, 0, none⟩) l.length c) l ∈ Γ) {i : Nat} {x : Pst} (hx : l[i]? = some x) : ∀ w, Hd Γ w → ∀ j v, (encP x)[j]? = some v → w.cell? ⟨g, 0 + i * 3 + j, none⟩ = some v := by
 intro w hh j v hj
 have h := (hh _ hm).2
 have h1 := flat_get encP 3 (fun _ => rfl) l i x hx j v hj
 have h2 := World.ownsRow.cells h (g := g) rfl _ _ h1
 rw [addr_add] at h2
 rw [← h2]; congr 2; omega
set_option maxHeartbeats 1000000 in
set_option maxRecDepth 100000 in
theorem lSame_P (v u : Value) (ps : List Pst) (hpl : ps.length ≤ 100000) (w0 : World) (h : PsAt v ps w0) (h2 : w0.ownsRow 0 124 3 u ps.length (ps.flatMap encP)) :
 PureC Tryz.prog 25 [v, u] w0 (.bool true) := by
 obtain ⟨ad, c, rfl⟩ := h.shape
 obtain ⟨qu, cu, rfl⟩ := own_slice h2
 refine c_enter [(0, .slice ad ps.length c), (1, .slice qu ps.length cu)] [twoPA (.slice ad ps.length c) (.slice qu ps.length cu) ps] noB Tryz.func25 rfl Tryz.ntmps25 ⟨rfl, rfl, trivial⟩ rfl (okC (twoP_ok h h2) okN) dis1 (mineC (by rfl) mineN) ?_
 intro a hS
 refine cS (cR ?_)
 refine L_e hS (e_assign rfl) rfl ?_; clear hS a; intro a hS
 refine nL (nT (cS (cS (cR ?_))))
 refine Rn hS (.m rfl <| .c (e_len rfl rfl ty_sl36) <| .m rfl <| .c (e_len rfl rfl ty_sl54) <| .c (e_bin rfl rfl rfl) .n) ?_; clear hS a; intro a hS
 refine nL (nT ?_)
 replace hS := hS.is (t := 10) (c := false) rfl ((by simp))
 refine c_if_f hS rfl ?_
 refine wS (nT (cS (cS (cR ?_))))
 refine L_e hS (e_assign rfl) rfl ?_; clear hS a; intro a hS
 refine nL (nT (wB ?_))
 skip
 refine c_loop (γ := Nat) (fun i a w => St 54 noB w0 a w [(5, .int .i64 (i : Int)), (0, .slice ad ps.length c), (1, .slice qu ps.length cu)] [twoPA (.slice ad ps.length c) (.slice qu ps.length cu) ps] ∧ i ≤ ps.length) (fun i => ps.length - i) 0 ⟨hS.slots (by repeat (first | exact trivial | refine ⟨rfl, ?_⟩)), Nat.zero_le _⟩ ?_
 clear hS a; intro i a w hI
 obtain ⟨hS, hi⟩ := hI
 refine cS (cS (cR ?_))
 refine Rn hS (.m rfl <| .m rfl <| .c (e_len rfl rfl ty_sl36) <| .c (e_bin rfl rfl rfl) .n) ?_; clear hS a; intro a hS
 refine nL (nT ?_)
 refine c_ifD hS rfl (fun hc14 => ?_) (fun hc14 => ?_)
 ·
  have hik : i < ps.length := by omega
  obtain ⟨x, hx⟩ : ∃ x, ps[i]? = some x := ⟨ps[i], List.getElem?_eq_getElem hik⟩
  obtain ⟨b, off, rfl⟩ := psAt_pos (hS.gg (X := twoPA (.slice ad ps.length c) (.slice qu ps.length cu) ps)).1 (fun e => by rw [e] at hik; simp at hik)
  obtain ⟨g, rfl⟩ : ∃ g, qu = some ⟨g, 0, none⟩ := own_at (hS.gg (X := twoPA (.slice (some ⟨b, off, none⟩) ps.length c) (.slice qu ps.length cu) ps)).2 (by omega)
  refine wS (nT (cS (wB (cS ?_))))
  refine c_drawS [] (by kernel_rfl) hS (sub_cons (X := twoPA (.slice (some ⟨b, off, none⟩) ps.length c) (.slice (some ⟨g, 0, none⟩) ps.length cu) ps) (by repeat constructor) sub_nil) ?_; clear hS; intro w hS
  simp only [List.length_cons, List.length_nil, Nat.zero_add, Nat.reduceAdd, List.replicate]
  refine Rz hS (sub_cons (by repeat constructor) sub_nil) (.o 0 (tf 1 36) rfl wN (e_move rfl) rfl <| .o 1 (tf 2 35) rfl wN (e_move rfl) rfl <| .o 2 (tf 3 34) rfl wN (e_ixN rfl rfl ty_sl36 ty_sz82 (by omega)) rfl <| .o 3 (tf 4 33) rfl wN (e_faK rfl ty_fo82_0) rfl <| .y 4 (tf 5 32) rfl wN (e_loadC rfl ty_sc9 (fun w hh => twoP_get (by repeat constructor) hx w hh 0 (.string x.acc) rfl)) rfl <| .o 5 (tf 6 31) rfl wN (e_move rfl) rfl <| .o 6 (tf 7 30) rfl wN (e_move rfl) rfl <| .o 7 (tf 8 29) rfl wN (e_ixN rfl rfl ty_sl54 ty_sz124 (by omega)) rfl <| .o 8 (tf 9 28) rfl wN (e_faK rfl ty_fo124_0) rfl <| .y 9 (tf 10 27) rfl wN (e_loadC rfl ty_sc9 (fun w hh => twoP_getU (by repeat constructor) hx w hh 0 (.string x.acc) rfl)) rfl <| .o 10 (tf 11 26) rfl wN (e_binS rfl rfl rfl) rfl <| .o 11 (tf 12 25) rfl wN (e_move rfl) rfl .n) ?_; clear hS a; intro a hS
  replace hS := hS.is (t := 28) (c := false) rfl ((by simp))
  refine Rz hS (sub_cons (by repeat constructor) sub_nil) (.o 12 (tf 13 24) rfl (want_go rfl rfl) (e_move rfl) rfl <| .o 13 (tf 14 23) rfl (want_go rfl rfl) (e_move rfl) rfl <| .o 14 (tf 15 22) rfl (want_go rfl rfl) (e_ixN rfl rfl ty_sl36 ty_sz82 (by omega)) rfl <| .o 15 (tf 16 21) rfl (want_go rfl rfl) (e_faK rfl ty_fo82_1) rfl <| .y 16 (tf 17 20) rfl (want_go rfl rfl) (e_loadC rfl ty_sc3 (fun w hh => twoP_get (by repeat constructor) hx w hh 1 (.int .i64 x.u) rfl)) rfl <| .o 17 (tf 18 19) rfl (want_go rfl rfl) (e_move rfl) rfl <| .o 18 (tf 19 18) rfl (want_go rfl rfl) (e_move rfl) rfl <| .o 19 (tf 20 17) rfl (want_go rfl rfl) (e_ixN rfl rfl ty_sl54 ty_sz124 (by omega)) rfl <| .o 20 (tf 21 16) rfl (want_go rfl rfl) (e_faK rfl ty_fo124_1) rfl <| .y 21 (tf 22 15) rfl (want_go rfl rfl) (e_loadC rfl ty_sc3 (fun w hh => twoP_getU (by repeat constructor) hx w hh 1 (.int .i64 x.u) rfl)) rfl <| .o 22 (tf 23 14) rfl (want_go rfl rfl) (e_bin rfl rfl rfl) rfl <| .o 23 (tf 24 13) rfl wN (e_pick_f rfl rfl) rfl <| .o 24 (tf 25 12) rfl wN (e_move rfl) rfl .n) ?_; clear hS a; intro a hS
  replace hS := hS.is (t := 41) (c := false) rfl ((by simp))
  refine Rz hS (sub_cons (by repeat constructor) sub_nil) (.o 25 (tf 26 11) rfl (want_go rfl rfl) (e_move rfl) rfl <| .o 26 (tf 27 10) rfl (want_go rfl rfl) (e_move rfl) rfl <| .o 27 (tf 28 9) rfl (want_go rfl rfl) (e_ixN rfl rfl ty_sl36 ty_sz82 (by omega)) rfl <| .o 28 (tf 29 8) rfl (want_go rfl rfl) (e_faK rfl ty_fo82_2) rfl <| .y 29 (tf 30 7) rfl (want_go rfl rfl) (e_loadC rfl ty_sc3 (fun w hh => twoP_get (by repeat constructor) hx w hh 2 (.int .i64 x.f) rfl)) rfl <| .o 30 (tf 31 6) rfl (want_go rfl rfl) (e_move rfl) rfl <| .o 31 (tf 32 5) rfl (want_go rfl rfl) (e_move rfl) rfl <| .o 32 (tf 33 4) rfl (want_go rfl rfl) (e_ixN rfl rfl ty_sl54 ty_sz124 (by omega)) rfl <| .o 33 (tf 34 3) rfl (want_go rfl rfl) (e_faK rfl ty_fo124_2) rfl <| .y 34 (tf 35 2) rfl (want_go rfl rfl) (e_loadC rfl ty_sc3 (fun w hh => twoP_getU (by repeat constructor) hx w hh 2 (.int .i64 x.f) rfl)) rfl <| .o 35 (tf 36 1) rfl (want_go rfl rfl) (e_bin rfl rfl rfl) rfl <| .o 36 (tf 37 0) rfl wN (e_pick_f rfl rfl) rfl .n) ?_; clear hS a; intro a hS
  refine Z_done (by kernel_rfl) ?_
  refine nT ?_
  replace hS := hS.is (t := 53) (c := false) rfl ((by simp))
  refine c_if_f hS rfl ?_
  refine wS (n_block (nT (cR ?_)))
  refine Rn hS (.m rfl <| .c (e_binN rfl rfl rfl (by omega)) <| .a rfl .n) ?_; clear hS a; intro a hS
  refine nL ?_
  exact ⟨i + 1, by omega, hS.slots (by repeat (first | exact trivial | refine ⟨rfl, ?_⟩)), by omega⟩
 refine wp_exit ?_
 refine x_then (x_then (x_hit ?_))
 refine nT (cS (cR ?_))
 refine L_e hS (e_assign rfl) rfl ?_; clear hS a; intro a hS
 refine nL (nT (wp_ret ?_))
 refine c_ret1 hS Tryz.results25 (.tmp rfl) ?_
 exact ⟨rfl, hS.chg⟩
end Go.Proofs.YtheofhegdjjfgaaGreat
namespace Go.Proofs.YtheofhegdjjfgaaGreat
open Go.RowKit
set_option maxRecDepth 100000 in
theorem lCurrency_P (B : LB) (s : LS) (w0 : World) (h : ledφ B s w0) : PureC Tryz.prog 39 [.pointer (some ⟨B.lb, 0, none⟩)] w0 (.string s.cur) := by
 refine c_enter [(0, .pointer (some ⟨B.lb, 0, none⟩))] [ledA B s false] noB Tryz.func39 rfl Tryz.ntmps39 ⟨rfl, trivial⟩ rfl (okC (led_ok false h) okN) dis1 (mineC (by rfl) mineN) ?_
 intro a hS
 refine cS (cR ?_)
 refine L_e hS (e_assign rfl) rfl ?_; clear hS a; intro a hS
 refine nL (nT (cS (cR ?_)))
 refine Rn hS (.m rfl <| .c (e_nilCheck rfl) <| .c (e_fa0 rfl ty_fo88_0) <| .c (e_loadC rfl ty_sc9 (led_cell (k := 0) (by repeat constructor) rfl)) <| .a rfl .n) ?_; clear hS a; intro a hS
 refine nL (nT (wp_ret ?_))
 refine c_ret1 hS Tryz.results39 (.tmp rfl) ?_
 exact ⟨rfl, hS.chg⟩
set_option maxRecDepth 100000 in
theorem lAccount_P (B : LB) (s : LS) (c : ByteArray) (w0 : World) (h : ledφ B s w0) : PureC Tryz.prog 45 [.pointer (some ⟨B.lb, 0, none⟩), .string c] w0 (.tuple [.agg (encAc (accOf s.acs c)).toArray, .bool (findA s.acs c).isSome].toArray) := by
 refine c_enter [(0, .pointer (some ⟨B.lb, 0, none⟩)), (1, .string c)] [ledA B s false] noB Tryz.func45 rfl Tryz.ntmps45 ⟨rfl, rfl, trivial⟩ rfl (okC (led_ok false h) okN) dis1 (mineC (by rfl) mineN) ?_
 intro a hS
 refine cS (cR ?_)
 refine L_op (s_alloc hS ty_z35 rfl ?_); clear hS a; intro a w b4 hS
 refine L_e hS (e_assign rfl) rfl ?_; clear hS a; intro a hS
 refine nL (nT (cS (cR ?_)))
 refine Rn hS (.m rfl <| .c (e_nilCheck rfl) <| .c (e_fa0 rfl ty_fo88_1) <| .c (e_loadC rfl ty_sc84 (led_cell (k := 1) (by repeat constructor) rfl)) <| .m rfl <| .c (e_lookupTC rfl rfl ty_mp84 ty_u9 ty_zv35 (fun w hh => (hh (ledA B s false) (by repeat constructor)).am)) .n) ?_; clear hS a; intro a hS
 rw [lk_acc, has_acc] at hS
 refine Rn hS (.m rfl <| .c (e_extract rfl rfl) <| .c (e_extract rfl rfl) .n) ?_; clear hS a; intro a hS
 refine L_op (s_alloc hS ty_z35 rfl ?_); clear hS a; intro a w b6 hS
 refine L_op (s_storeA hS rfl rfl ty_sz35 (by repeat constructor) (by rfl) (by rfl) (by rfl) ?_); clear hS; intro w hS
 refine L_e hS (e_assign rfl) rfl ?_; clear hS a; intro a hS
 refine nL (nT (cS (cR ?_)))
 refine Rn hS (.c (e_loadA rfl (by repeat constructor) ty_st35 ty_sz35 (by rfl)) <| .m rfl .n) ?_; clear hS a; intro a hS
 refine L_op (s_storeA hS rfl rfl ty_sz35 (by repeat constructor) (by rfl) (by rfl) (by rfl) ?_); clear hS; intro w hS
 refine L_e hS (e_assign rfl) rfl ?_; clear hS a; intro a hS
 refine nL (nT (wp_ret ?_))
 refine c_retN hS Tryz.results45 (.cons (.cellA rfl (by repeat constructor) ty_st35 ty_sz35 (by rfl)) (.cons (.tmp rfl) .nil)) rfl ?_
 exact ⟨rfl, hS.chg⟩
theorem wsub_lo (a b : Int) : ExtC Tryz.prog 94 [.int .u64 (Wd.lo a), .int .u64 (Wd.lo b), .int .u64 0] (.tuple [.int .u64 (Wd.lo (a - b)), .int .u64 (Wd.bw a b)].toArray) := fun w => sub64_lo a b w
theorem wsub_hi (a b : Int) : ExtC Tryz.prog 94 [.int .u64 (Wd.hi a), .int .u64 (Wd.hi b), .int .u64 (Wd.bw a b)] (.tuple [.int .u64 (Wd.hi (a - b)), .int .u64 (Wd.bw2 a b)].toArray) := fun w => sub64_hi a b w
set_option maxRecDepth 100000 in
theorem Sub_P (x y : Int) (hx : Wd.fit x) (hy : Wd.fit y) (hs : Wd.fit (x - y)) (w0 : World) : PureC Tryz.prog 56 [.agg (wv x).toArray, .agg (wv y).toArray] w0 (.tuple [.agg (wv (x - y)).toArray, .int .i64 0].toArray) := by
 have i1 := Wd.hi_neg x hx
 have i2 := Wd.hi_neg y hy
 have i3 := Wd.hi_neg (x - y) hs
 refine c_enter [(0, .agg (wv x).toArray), (1, .agg (wv y).toArray)] [] noB Tryz.func56 rfl Tryz.ntmps56 ⟨rfl, rfl, trivial⟩ rfl (by simp) (by simp) (by simp) ?_
 intro a hS
 refine cS (cR ?_)
 refine L_op (s_boxA hS rfl rfl ?_); clear hS a; intro a w b2 hS
 refine L_op (s_boxA hS rfl rfl ?_); clear hS a; intro a w b3 hS
 refine L_op (s_alloc hS ty_z131 rfl ?_); clear hS a; intro a w b4 hS
 refine L_e hS (e_assign rfl) rfl ?_; clear hS a; intro a hS
 refine nL (nT (cS (cR ?_)))
 refine Rn hS (.c (e_fa0 rfl ty_fo131_1) <| .c (e_load rfl (by repeat constructor) ty_sc129 (by rfl)) <| .c (e_fa0 rfl ty_fo131_1) <| .c (e_load rfl (by repeat constructor) ty_sc129 (by rfl)) <| .c (e_extern (.cons rfl (.cons rfl (.cons rfl .nil))) (wsub_lo x y)) <| .m rfl <| .c (e_extract rfl rfl) <| .c (e_extract rfl rfl) <| .a rfl <| .a rfl .n) ?_; clear hS a; intro a hS
 refine nL (nT (cS (cR ?_)))
 refine Rn hS (.c (e_fa0 rfl ty_fo131_0) <| .c (e_load rfl (by repeat constructor) ty_sc129 (by rfl)) <| .c (e_fa0 rfl ty_fo131_0) <| .c (e_load rfl (by repeat constructor) ty_sc129 (by rfl)) <| .m rfl <| .c (e_extern (.cons rfl (.cons rfl (.cons rfl .nil))) (wsub_hi x y)) <| .m rfl <| .c (e_extract rfl rfl) <| .c (e_extract rfl rfl) <| .a rfl <| .a rfl .n) ?_; clear hS a; intro a hS
 refine nL (nT (cS (cR ?_)))
 refine Rn hS (.m rfl <| .m rfl <| .c (e_build ty_z131 ty_pl131 (.one rfl rfl rfl (by repeat constructor) (.one rfl rfl rfl (by repeat constructor) .nil))) .n) ?_; clear hS a; intro a hS
 refine L_op (s_alloc hS ty_z131 rfl ?_); clear hS a; intro a w b10 hS
 refine L_op (s_storeA hS rfl rfl ty_sz131 (by repeat constructor) (by rfl) (by rfl) (by rfl) ?_); clear hS; intro w hS
 refine nL (nT (cS (cS ?_)))
 refine c_draw1 [] (by kernel_rfl) hS ?_; clear hS; intro w hS
 simp only [List.length_cons, List.length_nil, Nat.zero_add, Nat.reduceAdd, List.replicate]
 refine Rz hS (by intro X hX; repeat (first | exact hX | apply List.Mem.tail)) (.y 0 (tf 1 11) rfl wN (e_loadA rfl (by repeat constructor) ty_st131 ty_sz131 (by rfl)) rfl <| .y 2 [true, false, true, false, false, false, false, false, false, false, false, false] rfl wN (e_loadA rfl (by repeat constructor) ty_st131 ty_sz131 (by rfl)) rfl .n) ?_; clear hS a; intro a hS
 refine Zo 1 (tf 3 9) hS rfl wN rfl (s_callP hS (.cons rfl .nil) cf95 rfl (below_P x _) ?_); clear hS a; intro a w hS
 refine Z_and hS (by intro X hX; repeat (first | exact hX | apply List.Mem.tail)) ?_
 refine Zo 3 (tf 4 8) hS rfl wN rfl (s_callP hS (.cons rfl .nil) cf95 rfl (below_P y _) ?_); clear hS a; intro a w hS
 refine Z_and hS (by intro X hX; repeat (first | exact hX | apply List.Mem.tail)) ?_
 refine Ry hS (.o 4 (tf 5 7) rfl wN (e_binBn rfl rfl ty_u4) rfl <| .o 5 (tf 6 6) rfl wN (e_move rfl) rfl .n) ?_; clear hS a; intro a hS
 refine g_splitD (t := 36) hS rfl ?_ ?_ <;> (clear hS; intro hg36 hS)
 ·
  refine Rz hS (by intro X hX; repeat (first | exact hX | apply List.Mem.tail)) (.y 6 (tf 7 5) rfl (want_go rfl rfl) (e_loadA rfl (by repeat constructor) ty_st131 ty_sz131 (by rfl)) rfl <| .y 8 [true, true, true, true, true, true, true, false, true, false, false, false] rfl (want_go rfl rfl) (e_loadA rfl (by repeat constructor) ty_st131 ty_sz131 (by rfl)) rfl .n) ?_; clear hS a; intro a hS
  refine Zo 7 (tf 9 3) hS rfl (want_go rfl rfl) rfl (s_callP hS (.cons rfl .nil) cf95 rfl (below_P (x - y) _) ?_); clear hS a; intro a w hS
  refine Z_and hS (by intro X hX; repeat (first | exact hX | apply List.Mem.tail)) ?_
  refine Zo 9 (tf 10 2) hS rfl (want_go rfl rfl) rfl (s_callP hS (.cons rfl .nil) cf95 rfl (below_P x _) ?_); clear hS a; intro a w hS
  refine Z_and hS (by intro X hX; repeat (first | exact hX | apply List.Mem.tail)) ?_
  refine Ry hS (.o 10 (tf 11 1) rfl (want_go rfl rfl) (e_binBn rfl rfl ty_u4) rfl <| .o 11 (tf 12 0) rfl wN (e_pick_t rfl rfl) rfl .n) ?_; clear hS a; intro a hS
  refine Z_done (by kernel_rfl) ?_
  refine nT ?_
  replace hS := hS.is (t := 42) (c := false) rfl ((by simp; simp at hg36; omega))
  refine c_if_f hS rfl ?_
  refine wS (nT (cS (cR ?_)))
  refine L_e hS (e_loadA rfl (by repeat constructor) ty_st131 ty_sz131 (by rfl)) rfl ?_; clear hS a; intro a hS
  refine L_op (s_storeA hS rfl rfl ty_sz131 (by repeat constructor) (by rfl) (by rfl) (by rfl) ?_); clear hS; intro w hS
  refine L_e hS (e_assign rfl) rfl ?_; clear hS a; intro a hS
  refine nL (nT (wp_ret ?_))
  refine c_retN hS Tryz.results56 (.cons (.cellA rfl (by repeat constructor) ty_st131 ty_sz131 (by rfl)) (.cons (.tmp rfl) .nil)) rfl ?_
  exact ⟨rfl, hS.chg⟩
 refine Ry hS (.t 6 (tf 7 5) rfl rfl rfl rfl <| .t 7 (tf 8 4) rfl rfl rfl rfl <| .t 8 (tf 9 3) rfl rfl rfl rfl <| .t 9 (tf 10 2) rfl rfl rfl rfl <| .t 10 (tf 11 1) rfl rfl rfl rfl <| .o 11 (tf 12 0) rfl wN (e_pick_f rfl rfl) rfl .n) ?_; clear hS a; intro a hS
 refine Z_done (by kernel_rfl) ?_
 refine nT ?_
 refine c_if_f hS rfl ?_
 refine wS (nT (cS (cR ?_)))
 refine L_e hS (e_loadA rfl (by repeat constructor) ty_st131 ty_sz131 (by rfl)) rfl ?_; clear hS a; intro a hS
 refine L_op (s_storeA hS rfl rfl ty_sz131 (by repeat constructor) (by rfl) (by rfl) (by rfl) ?_); clear hS; intro w hS
 refine L_e hS (e_assign rfl) rfl ?_; clear hS a; intro a hS
 refine nL (nT (wp_ret ?_))
 refine c_retN hS Tryz.results56 (.cons (.cellA rfl (by repeat constructor) ty_st131 ty_sz131 (by rfl)) (.cons (.tmp rfl) .nil)) rfl ?_
 exact ⟨rfl, hS.chg⟩
set_option maxRecDepth 100000 in
theorem narrow_P (v : Int) (hv : Wd.fit v) (w0 : World) : PureC Tryz.prog 58 [.agg (wv v).toArray, .int .i64 0] w0 (.tuple [.int .i64 (narrowF v).1, .int .i64 (narrowF v).2].toArray) := by
 have hI : ((intE v).2 ≠ 0 → ¬ inU v) ∧ (¬ (intE v).2 ≠ 0 → (intE v).1 = v) := by
  unfold intE inU
  split
  · simp
  · simp; omega
 refine c_enter [(0, .agg (wv v).toArray), (1, .int .i64 0)] [] noB Tryz.func58 rfl Tryz.ntmps58 ⟨rfl, rfl, trivial⟩ rfl (by simp) (by simp) (by simp) ?_
 intro a hS
 refine cS (cR ?_)
 refine L_op (s_boxA hS rfl rfl ?_); clear hS a; intro a w b2 hS
 refine Rn hS (.a rfl <| .a rfl .n) ?_; clear hS a; intro a hS
 refine nL (nT (cS (cR ?_)))
 refine L_e hS (e_loadA rfl (by repeat constructor) ty_st131 ty_sz131 (by rfl)) rfl ?_; clear hS a; intro a hS
 refine L_op (s_callP hS (.cons rfl .nil) cf92 rfl (IntE_P v hv _) ?_); clear hS a; intro a w hS
 refine Rn hS (.m rfl <| .c (e_extract rfl rfl) <| .c (e_extract rfl rfl) <| .a rfl <| .a rfl .n) ?_; clear hS a; intro a hS
 refine nL (nT (cS (cS (cR ?_))))
 refine Rn hS (.m rfl <| .c (e_bin rfl rfl rfl) <| .m rfl .n) ?_; clear hS a; intro a hS
 replace hS := hS.is (t := 15) (c := false) rfl ((by simp))
 refine Rn hS (.g rfl rfl (e_move rfl) <| .g rfl rfl (e_bin rfl rfl rfl) <| .c (e_pick_f rfl rfl) <| .m rfl .n) ?_; clear hS a; intro a hS
 refine L_merge 4 23 (.bool (decide (¬ inU v))) hS ?_ ?_
 · intro hcM23
   refine g_splitD (t := 19) hS rfl ?_ ?_ <;> (clear hS; intro hg19 hS)
   ·
    refine Rn hS (.f rfl rfl <| .f rfl rfl <| .f rfl rfl <| .c (e_pick_t rfl rfl) .n) ?_; clear hS a; intro a hS
    exact hcM23 _ _ (hS.ends 5 23 19 rfl (congrArg Value.bool (by exact (decide_eq_true (hI.1 hg19)).symm)) rfl rfl (by first | exact congrArg Value.bool (decide_eq_true hg19).symm | exact congrArg Value.bool hg19.symm | simp [hg19]) rfl)
   refine L_ge hS rfl rfl (e_move rfl) rfl ?_; clear hS a; intro a hS
   refine L_go hS rfl rfl (s_callP hS (.cons rfl .nil) cf89 rfl (fxwithin_P (intE v).1 _) ?_); clear hS a; intro a w hS
   refine Rn hS (.g rfl rfl (e_not rfl) <| .c (e_pick_f rfl rfl) .n) ?_; clear hS a; intro a hS
   exact hcM23 _ _ (hS.ends 5 23 19 rfl (congrArg Value.bool (by rw [hI.2 hg19, ← decide_not])) rfl rfl (by first | exact congrArg Value.bool (decide_eq_false hg19).symm | exact congrArg Value.bool hg19.symm | simp [hg19]) rfl)
 · clear hS a; intro a w hS
   simp only [List.drop_succ_cons, List.drop_zero]
   refine nL (nT ?_)
   refine c_ifD hS rfl (fun hc23 => ?_) (fun hc23 => ?_)
   ·
    refine cS (cR ?_)
    refine Rn hS (.a rfl <| .a rfl .n) ?_; clear hS a; intro a hS
    refine nL (nT (wp_ret (r_then ?_)))
    refine c_retN hS Tryz.results58 (.cons (.tmp rfl) (.cons (.tmp rfl) .nil)) rfl ?_
    exact ⟨by rw [show narrowF v = (0, 16) from if_neg hc23], hS.chg⟩
   refine wS (nT (cS (cR ?_)))
   refine Rn hS (.m rfl <| .a rfl <| .a rfl .n) ?_; clear hS a; intro a hS
   refine nL (nT (wp_ret ?_))
   refine c_retN hS Tryz.results58 (.cons (.tmp rfl) (.cons (.tmp rfl) .nil)) rfl ?_
   have hin : inU v := Classical.byContradiction fun e => hc23 e
   have he : ¬ (intE v).2 ≠ 0 := fun e => hI.1 e hin
   exact ⟨by rw [show narrowF v = (v, 0) from if_pos hin, hI.2 he], hS.chg⟩
structure lrφ (B : LB) (s : LS) (bk mb : Nat) (own : ByteArray) (es : List RA) (n : Int) (w : World) : Prop where
 l : ledφ B s w
 t : ratesφ bk mb own es n w
def lrA (B : LB) (s : LS) (bk mb : Nat) (own : ByteArray) (es : List RA) (n : Int) : Asn := .any (fun k => ledF B s k ∨ ratesF bk mb es k) (lrφ B s bk mb own es n) false
theorem lr_ok {B : LB} {s : LS} {bk mb : Nat} {own : ByteArray} {es : List RA} {n : Int} {w : World} (h1 : ledφ B s w) (h2 : ratesφ bk mb own es n w) : (lrA B s bk mb own es n).ok w := by
 have a := led_ok false h1
 have c := rates_ok false h2
 exact ⟨fun k hk => hk.elim (fun hk => a.lt k hk) (fun hk => c.lt k hk), fun w' hw => ⟨a.hold w' (fun k hk => hw k (.inl hk)), c.hold w' (fun k hk => hw k (.inr hk))⟩⟩
theorem lr_bk {Γ : List Asn} {B : LB} {s : LS} {bk mb : Nat} {own : ByteArray} {es : List RA} {n : Int} (hm : lrA B s bk mb own es n ∈ Γ) {k : Nat} {v : Value} (hv : [Value.string own, .map (some mb), .int .i64 n][k]? = some v) : ∀ w, Hd Γ w → w.cell? ⟨bk, k, none⟩ = some v := fun _ hh => cell_of_blk (ratesφ.bk (lrφ.t (hh _ hm))) hv
theorem balF_in (P : PL) (c : ByteArray) (t : Int) : inU (balF P c t).1.2.1 ∧ inU (balF P c t).1.2.2 := by
 unfold balF
 split
 · unfold inU noBl; simp
 · split
   · unfold inU noBl; simp
   · split
     · rename_i h; exact h
     · unfold inU noBl; simp
theorem conv_bd (u n : Int) : inU (convF u n).1 := by
 unfold convF
 split
 · unfold inU; simp
 · split
   · rename_i h; exact h
   · unfold inU; simp
theorem worthF_in (own : ByteArray) (l : List (ByteArray × List (Int × Int))) (u : Int) (c : ByteArray) (t : Int) : inU (worthF own l u c t).1 := by
 unfold worthF
 split
 · unfold inU; simp
 · split
   · unfold inU; simp
   · exact conv_bd _ _
set_option maxHeartbeats 1000000 in
set_option maxRecDepth 100000 in
theorem fxdiffers_P (B : LB) (s : LS) (bk mb : Nat) (own : ByteArray) (es : List RA) (n : Int) (x : Acc) (at_ : Int) (hfl : fitL (pl s)) (hno : nanoOK (vsT es)) (w0 : World) (h1 : ledφ B s w0) (h2 : ratesφ bk mb own es n w0) :
 PureC Tryz.prog 55 [.pointer (some ⟨B.lb, 0, none⟩), .pointer (some ⟨bk, 0, none⟩), .agg (encAc x).toArray, .int .i64 at_] w0 (.tuple [.int .i64 (difF own (vsT es) (pl s) at_ x).1, .int .i64 (difF own (vsT es) (pl s) at_ x).2].toArray) := by
 have hbb := balF_in (pl s) x.code at_
 unfold difF
 refine c_enter [(0, .pointer (some ⟨B.lb, 0, none⟩)), (1, .pointer (some ⟨bk, 0, none⟩)), (2, .agg (encAc x).toArray), (3, .int .i64 at_)] [lrA B s bk mb own es n] noB Tryz.func55 rfl Tryz.ntmps55 ⟨rfl, rfl, rfl, rfl, trivial⟩ rfl (okC (lr_ok h1 h2) okN) dis1 (mineC (by rfl) mineN) ?_
 intro a hS
 refine cS (cR ?_)
 refine L_op (s_boxA hS rfl rfl ?_); clear hS a; intro a w b6 hS
 refine Rn hS (.a rfl <| .a rfl .n) ?_; clear hS a; intro a hS
 refine nL (nT (cS (cR ?_)))
 refine Rn hS (.m rfl <| .c (e_fa0 rfl ty_fo35_0) <| .c (e_load rfl (by repeat constructor) ty_sc9 (by rfl)) <| .m rfl .n) ?_; clear hS a; intro a hS
 refine L_op (s_callP hS (.cons rfl (.cons rfl (.cons rfl .nil))) cf28 rfl (lBal_P B s x.code at_ hfl _ (hS.gg (X := lrA B s bk mb own es n)).l) ?_); clear hS a; intro a w hS
 generalize hX : balF (pl s) x.code at_ = X at hS hbb ⊢
 obtain ⟨⟨x1, x2, x3⟩, xe⟩ := X
 dsimp only at hS hbb ⊢
 obtain ⟨hb2, hb3⟩ := hbb
 have hb2' := hb2
 have hb3' := hb3
 unfold inU at hb2' hb3'
 refine Rn hS (.m rfl <| .c (e_extract rfl rfl) <| .c (e_extract rfl rfl) .n) ?_; clear hS a; intro a hS
 refine L_op (s_alloc hS ty_z71 rfl ?_); clear hS a; intro a w b10 hS
 refine L_op (s_storeA hS rfl rfl ty_sz71 (by repeat constructor) (by rfl) (by rfl) (by rfl) ?_); clear hS; intro w hS
 refine L_e hS (e_assign rfl) rfl ?_; clear hS a; intro a hS
 refine nL (nT (cS (cS (cR ?_))))
 refine Rn hS (.m rfl <| .c (e_bin rfl rfl rfl) <| .m rfl .n) ?_; clear hS a; intro a hS
 refine L_merge 9 32 (.bool (decide (xe ≠ 0 ∨ (x2 = 0 ∧ x3 = 0)))) hS ?_ ?_
 · intro hcM32
   refine g_splitD (t := 23) hS rfl ?_ ?_ <;> (clear hS; intro hg23 hS)
   ·
    refine Rn hS (.f rfl rfl <| .f rfl rfl <| .f rfl rfl <| .f rfl rfl .n) ?_; clear hS a; intro a hS
    refine L_skip_u hS rfl rfl rfl ?_; clear hS a; intro a hS
    refine L_skip_u hS rfl rfl rfl ?_; clear hS a; intro a hS
    refine L_skip_u hS rfl rfl rfl ?_; clear hS a; intro a hS
    refine Rn hS (.f rfl rfl <| .c (e_pick_t rfl rfl) .n) ?_; clear hS a; intro a hS
    exact hcM32 _ _ (hS.ends 10 32 23 rfl (congrArg Value.bool (by exact (decide_eq_true (.inl hg23)).symm)) rfl rfl (by first | exact congrArg Value.bool (decide_eq_true hg23).symm | exact congrArg Value.bool hg23.symm | simp [hg23]) rfl)
   refine Rn hS (.g rfl rfl (e_fa0 rfl ty_fo71_1) <| .g rfl rfl (e_load rfl (by repeat constructor) ty_sc3 (by rfl)) <| .g rfl rfl (e_bin rfl rfl rfl) <| .g rfl rfl (e_move rfl) .n) ?_; clear hS a; intro a hS
   refine L_merge 4 31 (.bool (decide (x2 = 0 ∧ x3 = 0))) hS ?_ ?_
   · intro hcM31
     refine g_splitD (t := 27) hS rfl ?_ ?_ <;> (clear hS; intro hg27 hS)
     ·
      refine Rn hS (.g rfl rfl (e_fa0 rfl ty_fo71_2) <| .g rfl rfl (e_load rfl (by repeat constructor) ty_sc3 (by rfl)) <| .g rfl rfl (e_bin rfl rfl rfl) <| .g rfl rfl (e_pick_t rfl rfl) .n) ?_; clear hS a; intro a hS
      exact hcM31 _ _ (hS.ends 5 31 27 rfl (congrArg Value.bool (by rw [decide_eq_decide]; exact ⟨fun e => ⟨hg27, e⟩, fun e => e.2⟩)) rfl rfl (by first | exact congrArg Value.bool (decide_eq_true hg27).symm | exact congrArg Value.bool hg27.symm | simp [hg27]) rfl)
     refine Rn hS (.t rfl rfl <| .t rfl rfl <| .t rfl rfl <| .g rfl rfl (e_pick_f rfl rfl) .n) ?_; clear hS a; intro a hS
     exact hcM31 _ _ (hS.ends 5 31 27 rfl (congrArg Value.bool (by exact (decide_eq_false (fun e => hg27 e.1)).symm)) rfl rfl (by first | exact congrArg Value.bool (decide_eq_false hg27).symm | exact congrArg Value.bool hg27.symm | simp [hg27]) rfl)
   · clear hS a; intro a w hS
     simp only [List.drop_succ_cons, List.drop_zero]
     refine L_e hS (e_pick_f rfl rfl) rfl ?_; clear hS a; intro a hS
     exact hcM32 _ _ (hS.ends 7 32 23 rfl (congrArg Value.bool (by rw [decide_eq_decide]; exact ⟨.inr, fun e => e.resolve_left hg23⟩)) rfl rfl (by first | exact congrArg Value.bool (decide_eq_false hg23).symm | exact congrArg Value.bool hg23.symm | simp [hg23]) rfl)
 · clear hS a; intro a w hS
   simp only [List.drop_succ_cons, List.drop_zero]
   refine nL (nT ?_)
   refine c_ifD hS rfl (fun hc32 => ?_) (fun hc32 => ?_)
   ·
    refine cS (cR ?_)
    refine Rn hS (.m rfl <| .a rfl <| .a rfl .n) ?_; clear hS a; intro a hS
    refine nL (nT (wp_ret (r_then ?_)))
    refine c_retN hS Tryz.results55 (.cons (.tmp rfl) (.cons (.tmp rfl) .nil)) rfl ?_
    refine ⟨?_, hS.chg⟩
    by_cases he : xe ≠ 0
    · rw [if_pos he]
    · have he0 : xe = 0 := Classical.byContradiction he
      rw [if_neg he, if_pos (hc32.resolve_left he), he0]
   have he : ¬ xe ≠ 0 := fun e => hc32 (.inl e)
   have hz : ¬ (x2 = 0 ∧ x3 = 0) := fun e => hc32 (.inr e)
   rw [if_neg he, if_neg hz]
   refine wS (nT (cS (cR ?_)))
   refine Rn hS (.m rfl <| .c (e_fa0 rfl ty_fo71_1) <| .c (e_load rfl (by repeat constructor) ty_sc3 (by rfl)) <| .c (e_fa0 rfl ty_fo35_1) <| .c (e_load rfl (by repeat constructor) ty_sc9 (by rfl)) <| .c (e_build ty_z78 ty_pl78 (.one rfl rfl rfl (by repeat constructor) (.one rfl rfl rfl (by repeat constructor) .nil))) <| .m rfl .n) ?_; clear hS a; intro a hS
   refine L_op (s_callP hS (.cons rfl (.cons rfl (.cons rfl .nil))) cf30 rfl (fxWorth_P bk mb own x.cur es n x2 at_ (by omega) _ (hS.gg (X := lrA B s bk mb own es n)).t hno) ?_); clear hS a; intro a w hS
   have hwb := worthF_in own (vsT es) x2 x.cur at_
   generalize hW : worthF own (vsT es) x2 x.cur at_ = W at hS hwb ⊢
   unfold inU at hwb
   refine Rn hS (.m rfl <| .c (e_extract rfl rfl) <| .c (e_extract rfl rfl) <| .a rfl <| .a rfl .n) ?_; clear hS a; intro a hS
   refine nL (nT (cS (cS (cR ?_))))
   refine Rn hS (.m rfl <| .c (e_bin rfl rfl rfl) .n) ?_; clear hS a; intro a hS
   refine nL (nT ?_)
   refine c_ifD hS rfl (fun hc46 => ?_) (fun hc46 => ?_)
   ·
    refine cS (cR ?_)
    refine Rn hS (.m rfl <| .a rfl <| .a rfl .n) ?_; clear hS a; intro a hS
    refine nL (nT (wp_ret (r_then ?_)))
    refine c_retN hS Tryz.results55 (.cons (.tmp rfl) (.cons (.tmp rfl) .nil)) rfl ?_
    exact ⟨by rw [if_pos hc46], hS.chg⟩
   rw [if_neg hc46]
   refine wS (nT (cS ?_))
   refine c_drawS [] (by kernel_rfl) hS (sub_cons (X := .blk b10 _ _) (by repeat constructor) sub_nil) ?_; clear hS; intro w hS
   simp only [List.length_cons, List.length_nil, Nat.zero_add, Nat.reduceAdd, List.replicate]
   refine Rz hS (sub_cons (by repeat constructor) sub_nil) (.o 0 (tf 1 12) rfl wN (e_move rfl) rfl <| .o 2 [true, false, true, false, false, false, false, false, false, false, false, false, false] rfl wN (e_fa0 rfl ty_fo71_2) rfl <| .y 3 [true, false, true, true, false, false, false, false, false, false, false, false, false] rfl wN (e_load rfl (by repeat constructor) ty_sc3 (by rfl)) rfl .n) ?_; clear hS a; intro a hS
   refine Zo 1 (tf 4 9) hS rfl wN rfl (s_callP hS (.cons rfl .nil) cf57 rfl (FromInt_P W.1 (by omega) (by omega) _) ?_); clear hS a; intro a w hS
   refine Z_and hS (sub_cons (by repeat constructor) sub_nil) ?_
   refine Zo 4 (tf 5 8) hS rfl wN rfl (s_callP hS (.cons rfl .nil) cf57 rfl (FromInt_P x3 (by omega) (by omega) _) ?_); clear hS a; intro a w hS
   refine Z_and hS (sub_cons (by repeat constructor) sub_nil) ?_
   refine Zo 5 (tf 6 7) hS rfl wN rfl (s_callP hS (.cons rfl (.cons rfl .nil)) cf56 rfl (Sub_P W.1 x3 (by unfold Wd.fit; omega) (by unfold Wd.fit; omega) (by unfold Wd.fit; omega) _) ?_); clear hS a; intro a w hS
   refine Z_and hS (sub_cons (by repeat constructor) sub_nil) ?_
   refine Ry hS (.o 6 (tf 7 6) rfl wN (e_extract rfl rfl) rfl <| .o 7 (tf 8 5) rfl wN (e_extract rfl rfl) rfl .n) ?_; clear hS a; intro a hS
   refine Zo 8 (tf 9 4) hS rfl wN rfl (s_callP hS (.cons rfl (.cons rfl .nil)) cf58 rfl (narrow_P (W.1 - x3) (by unfold Wd.fit; omega) _) ?_); clear hS a; intro a w hS
   refine Z_and hS (sub_cons (by repeat constructor) sub_nil) ?_
   refine Ry hS (.o 9 (tf 10 3) rfl wN (e_extract rfl rfl) rfl <| .o 10 (tf 11 2) rfl wN (e_extract rfl rfl) rfl <| .o 11 (tf 12 1) rfl wN (e_assign rfl) rfl <| .o 12 (tf 13 0) rfl wN (e_assign rfl) rfl .n) ?_; clear hS a; intro a hS
   refine Z_done (by kernel_rfl) ?_
   refine nT (wp_ret ?_)
   refine c_retN hS Tryz.results55 (.cons (.tmp rfl) (.cons (.tmp rfl) .nil)) rfl ?_
   exact ⟨rfl, hS.chg⟩
theorem nil_new {E s : Nat} {w w0 : World} : (ownA E s (.slice none 0 0) 0 []).ok w ∧ ∀ k, (ownA E s (.slice none 0 0) 0 []).F k → w0.heap.size ≤ k :=
 ⟨own_nil w E s, fun k hk => by simp [ownA, Asn.F, Value.ownBlock] at hk⟩
set_option maxHeartbeats 2000000 in
set_option maxRecDepth 100000 in
theorem fxRevalue_P (B : LB) (s : LS) (bk mb : Nat) (own : ByteArray) (es : List RA) (n : Int) (at_ : Int) (gain : ByteArray) (hfl : fitL (pl s)) (hacs : s.acs.length ≤ 1000) (hno : nanoOK (vsT es)) (w0 : World) (h1 : ledφ B s w0) (h2 : ratesφ bk mb own es n w0) :
 NewC Tryz.prog 22 [.pointer (some ⟨B.lb, 0, none⟩), .pointer (some ⟨bk, 0, none⟩), .int .i64 at_, .string gain] w0 (fun v : Value => .tuple [v, .int .i64 (revF own (vsT es) (pl s) at_ gain).2].toArray) (fun v => ownA 82 3 v (revF own (vsT es) (pl s) at_ gain).1.length ((revF own (vsT es) (pl s) at_ gain).1.flatMap encP)) := by
 have haL := accs_len s.acs
 have hpa : (pl s).acs = s.acs := rfl
 have hpc : (pl s).cur = s.cur := rfl
 have hrl := fun i => rv_len own (vsT es) (pl s) at_ ((accsL s.acs).take i)
 have hrs := fun i => rv_sum own (vsT es) (pl s) at_ ((accsL s.acs).take i)
 unfold revF
 rw [hpa, hpc]
 refine c_enter [(0, .pointer (some ⟨B.lb, 0, none⟩)), (1, .pointer (some ⟨bk, 0, none⟩)), (2, .int .i64 at_), (3, .string gain)] [lrA B s bk mb own es n] noB Tryz.func22 rfl Tryz.ntmps22 ⟨rfl, rfl, rfl, rfl, trivial⟩ rfl (okC (lr_ok h1 h2) okN) dis1 (mineC (by rfl) mineN) ?_
 intro a hS
 refine cS (cR ?_)
 refine Rn hS (.a rfl <| .a rfl .n) ?_; clear hS a; intro a hS
 refine nL (nT (cS (cS ?_)))
 refine c_drawS [] (by kernel_rfl) hS (sub_cons (X := lrA B s bk mb own es n) (by repeat constructor) sub_nil) ?_; clear hS; intro w hS
 simp only [List.length_cons, List.length_nil, Nat.zero_add, Nat.reduceAdd, List.replicate]
 refine Rz hS (sub_cons (by repeat constructor) sub_nil) (.o 0 (tf 1 6) rfl wN (e_move rfl) rfl <| .o 2 [true, false, true, false, false, false, false] rfl wN (e_move rfl) rfl <| .o 3 [true, false, true, true, false, false, false] rfl wN (e_nilCheck rfl) rfl <| .o 4 [true, false, true, true, true, false, false] rfl wN (e_fa0 rfl ty_fo128_0) rfl <| .y 5 [true, false, true, true, true, true, false] rfl wN (e_loadC rfl ty_sc9 (lr_bk (k := 0) (v := .string own) (by repeat constructor) rfl)) rfl .n) ?_; clear hS a; intro a hS
 refine Zo 1 (tf 6 1) hS rfl wN rfl (s_callP hS (.cons rfl .nil) cf39 rfl (lCurrency_P B s _ (hS.gg (X := lrA B s bk mb own es n)).l) ?_); clear hS a; intro a w hS
 refine Z_and hS (sub_cons (by repeat constructor) sub_nil) ?_
 refine Zt0 6 (tf 7 0) hS rfl want_none (e_binS rfl rfl rfl) rfl (by kernel_rfl) rfl ?_; clear hS a; intro a hS
 refine Z_done (by kernel_rfl) ?_
 refine nT ?_
 refine c_ifD hS rfl (fun hc26 => ?_) (fun hc26 => ?_)
 ·
  refine cS (cR ?_)
  refine Rn hS (.a rfl <| .a rfl .n) ?_; clear hS a; intro a hS
  refine nL (nT (wp_ret (r_then ?_)))
  refine c_retN hS Tryz.results22 (.cons (.tmp rfl) (.cons (.tmp rfl) .nil)) rfl ?_
  rw [if_pos hc26]
  exact ⟨.slice none 0 0, rfl, hS.chg, nil_new⟩
 rw [if_neg hc26]
 refine wS (nT (cS (cR ?_)))
 refine Rn hS (.m rfl <| .m rfl .n) ?_; clear hS a; intro a hS
 refine L_op (s_callP hS (.cons rfl (.cons rfl .nil)) cf45 rfl (lAccount_P B s gain _ (hS.gg (X := lrA B s bk mb own es n)).l) ?_); clear hS a; intro a w hS
 refine Rn hS (.m rfl <| .c (e_extract rfl rfl) <| .c (e_extract rfl rfl) .n) ?_; clear hS a; intro a hS
 refine L_op (s_alloc hS ty_z35 rfl ?_); clear hS a; intro a w b10 hS
 refine L_op (s_storeA hS rfl rfl ty_sz35 (by repeat constructor) (by rfl) (by rfl) (by rfl) ?_); clear hS; intro w hS
 refine L_e hS (e_assign rfl) rfl ?_; clear hS a; intro a hS
 refine nL (nT (cS (wB (cS (cR ?_)))))
 refine Rn hS (.m rfl <| .c (e_not rfl) <| .a rfl .n) ?_; clear hS a; intro a hS
 refine nL (nT ?_)
 refine c_if hS rfl (fun hc33 => ?_) (fun hc33 => ?_)
 ·
  refine cS (cR ?_)
  refine Rn hS (.a rfl <| .a rfl .n) ?_; clear hS a; intro a hS
  refine nL (nT (wp_ret ?_))
  refine r_block (r_then ?_)
  refine c_retN hS Tryz.results22 (.cons (.tmp rfl) (.cons (.tmp rfl) .nil)) rfl ?_
  rw [if_pos (show (findA s.acs gain).isSome = false from by simpa using hc33)]
  exact ⟨.slice none 0 0, rfl, hS.chg, nil_new⟩
 have hfs : ¬ (findA s.acs gain).isSome = false := by
  have h3 : (findA s.acs gain).isSome = true := by simpa using hc33
  rw [h3]; decide
 rw [if_neg hfs]
 refine cS ?_
 refine c_drawS [] (by kernel_rfl) hS (sub_cons (X := .blk b10 (encAc (accOf s.acs gain)) 35) (by repeat constructor) (sub_cons (X := lrA B s bk mb own es n) (by repeat constructor) sub_nil)) ?_; clear hS; intro w hS
 simp only [List.length_cons, List.length_nil, Nat.zero_add, Nat.reduceAdd, List.replicate]
 refine Rz hS (sub_cons (by repeat constructor) (sub_cons (by repeat constructor) sub_nil)) (.o 0 (tf 1 7) rfl wN (e_fa0 rfl ty_fo35_1) rfl <| .y 1 (tf 2 6) rfl wN (e_load rfl (by repeat constructor) ty_sc9 (by rfl)) rfl <| .o 2 (tf 3 5) rfl wN (e_move rfl) rfl <| .o 3 (tf 4 4) rfl wN (e_nilCheck rfl) rfl <| .o 4 (tf 5 3) rfl wN (e_fa0 rfl ty_fo128_0) rfl <| .y 5 (tf 6 2) rfl wN (e_loadC rfl ty_sc9 (lr_bk (k := 0) (v := .string own) (by repeat constructor) rfl)) rfl <| .o 6 (tf 7 1) rfl wN (e_binS rfl rfl rfl) rfl <| .o 7 (tf 8 0) rfl wN (e_assign rfl) rfl .n) ?_; clear hS a; intro a hS
 refine Z_done (by kernel_rfl) ?_
 refine nT ?_
 refine c_ifD hS rfl (fun hc36 => ?_) (fun hc36 => ?_)
 ·
  refine cS (cR ?_)
  refine Rn hS (.a rfl <| .a rfl .n) ?_; clear hS a; intro a hS
  refine nL (nT (wp_ret ?_))
  refine r_block (r_then ?_)
  refine c_retN hS Tryz.results22 (.cons (.tmp rfl) (.cons (.tmp rfl) .nil)) rfl ?_
  rw [if_pos hc36]
  exact ⟨.slice none 0 0, rfl, hS.chg, nil_new⟩
 rw [if_neg hc36]
 refine wS (n_block (nT (cS (cR ?_))))
 refine L_e hS (e_assign rfl) rfl ?_; clear hS a; intro a hS
 refine nL (nT (cS (cR ?_)))
 refine L_e hS (e_build ty_z131 ty_pl131 .nil) rfl ?_; clear hS a; intro a hS
 refine L_op (s_alloc hS ty_z131 rfl ?_); clear hS a; intro a w b13 hS
 refine L_op (s_storeA hS rfl rfl ty_sz131 (by repeat constructor) (by rfl) (by rfl) (by rfl) ?_); clear hS; intro w hS
 refine nL (nT (cS (cS (cR ?_))))
 refine L_e hS (e_move rfl) rfl ?_; clear hS a; intro a hS
 refine L_op (s_callN hS (.cons rfl .nil) cf27 rfl (lAccs_P B s (by omega) _ (hS.gg (X := lrA B s bk mb own es n)).l) ?_); clear hS a; intro x46 a w hS
 rw [haL] at hS
 obtain ⟨q46, c46, rfl⟩ := own_slice (hS.gg (X := ownA 35 4 x46 s.acs.length ((accsL s.acs).flatMap encAc)))
 refine Rn hS (.c (e_len rfl rfl ty_sl48) <| .m rfl .n) ?_; clear hS a; intro a hS
 refine nL (nT (wB ?_))
 replace hS := hS.own_nil 82 3
 replace hS := hS.swap (X := .blk b13 [.int .u64 0, .int .u64 0] 131) (Y := .blk b13 (wv (-(sumFn (rvOut own (vsT es) (pl s) at_ ((accsL s.acs).take 0))))) 131) (by repeat constructor) (by rw [show -(sumFn (rvOut own (vsT es) (pl s) at_ ((accsL s.acs).take 0))) = 0 from rfl, wv_nil]; exact hS.ok (.blk b13 [.int .u64 0, .int .u64 0] 131) (by repeat constructor)) (fun _ hb => hb) rfl
 refine c_loop (γ := Nat × Value) (fun G a w => St 109 noB w0 a w [(48, .int .i64 (G.1 : Int)), (47, .int .i64 (s.acs.length : Int)), (46, .slice q46 s.acs.length c46), (13, .pointer (some ⟨b13, 0, none⟩)), (12, G.2), (0, .pointer (some ⟨B.lb, 0, none⟩)), (1, .pointer (some ⟨bk, 0, none⟩)), (2, .int .i64 at_), (3, .string gain)] [ownA 82 3 G.2 (rvOut own (vsT es) (pl s) at_ ((accsL s.acs).take G.1)).length ((rvOut own (vsT es) (pl s) at_ ((accsL s.acs).take G.1)).flatMap encP), .blk b13 (wv (-(sumFn (rvOut own (vsT es) (pl s) at_ ((accsL s.acs).take G.1))))) 131, ownA 35 4 (.slice q46 s.acs.length c46) s.acs.length ((accsL s.acs).flatMap encAc), lrA B s bk mb own es n] ∧ G.1 ≤ s.acs.length ∧ ∀ j, j < G.1 → ∀ y, (accsL s.acs)[j]? = some y → ¬ rvBad own (vsT es) (pl s) at_ y) (fun G => s.acs.length - G.1) (0, .slice none 0 0) ⟨(hS.slots (by repeat (first | exact trivial | refine ⟨rfl, ?_⟩))).pick (by repeat (first | exact Pick.nil | (refine Pick.cons (by repeat (first | exact Rem.head | apply Rem.tail)) ?_))), Nat.zero_le _, fun j hj => by simp only at hj; omega⟩ ?_
 clear hS a; intro G a w hI
 obtain ⟨i, out⟩ := G
 obtain ⟨hS, hi, hgd⟩ := hI
 simp only at hS hi hgd
 have hrl' := hrl i
 have hrs' := hrs i
 have htl : ((accsL s.acs).take i).length ≤ 1000 := by rw [List.length_take]; omega
 refine cS (cR ?_)
 refine L_e hS (e_bin rfl rfl rfl) rfl ?_; clear hS a; intro a hS
 refine nL (nT (cS ?_))
 refine c_ifD hS rfl (fun hc49 => ?_) (fun hc49 => ?_)
 ·
  have hil : i < s.acs.length := by omega
  obtain ⟨x, hx⟩ : ∃ x, (accsL s.acs)[i]? = some x := ⟨(accsL s.acs)[i]'(by omega), List.getElem?_eq_getElem (by omega)⟩
  obtain ⟨g46, rfl⟩ : ∃ g, q46 = some ⟨g, 0, none⟩ := own_at (hS.gg (X := ownA 35 4 (.slice q46 s.acs.length c46) s.acs.length ((accsL s.acs).flatMap encAc))) (by omega)
  have htk := rv_take (own := own) (l := vsT es) (P := pl s) (at_ := at_) hx
  have hdb := dif_bd own (vsT es) (pl s) at_ x
  generalize hO : rvOut own (vsT es) (pl s) at_ ((accsL s.acs).take i) = O at hS htk hrl' hrs'
  refine wS (nT (cS (wB (cS (cR ?_)))))
  refine Rn hS (.c (e_ixN rfl rfl ty_sl48 ty_sz35 (by omega)) <| .c (e_loadAC (l := encAc x) rfl ty_st35 ty_sz35 (own_getL (enc := encAc) (s := 4) (fun _ => rfl) (by repeat constructor) hx)) .n) ?_; clear hS a; intro a hS
  refine L_op (s_alloc hS ty_z35 rfl ?_); clear hS a; intro a w b15 hS
  refine L_op (s_storeA hS rfl rfl ty_sz35 (by repeat constructor) (by rfl) (by rfl) (by rfl) ?_); clear hS; intro w hS
  refine nL (nT (cS (cS ?_)))
  refine c_drawS [] (by kernel_rfl) hS (sub_cons (X := .blk b15 (encAc x) 35) (by repeat constructor) (sub_cons (X := lrA B s bk mb own es n) (by repeat constructor) sub_nil)) ?_; clear hS; intro w hS
  simp only [List.length_cons, List.length_nil, Nat.zero_add, Nat.reduceAdd, List.replicate]
  refine Rz hS (sub_cons (by repeat constructor) (sub_cons (by repeat constructor) sub_nil)) (.o 0 (tf 1 11) rfl wN (e_fa0 rfl ty_fo35_3) rfl <| .y 1 (tf 2 10) rfl wN (e_load rfl (by repeat constructor) ty_sc4 (by rfl)) rfl <| .o 2 (tf 3 9) rfl wN (e_not rfl) rfl <| .o 3 (tf 4 8) rfl wN (e_move rfl) rfl .n) ?_; clear hS a; intro a hS
  refine Z_merge 0 (tf 12 0) 63 (.bool (decide (¬ isF own x))) hS ?_ ?_
  · intro hcM63
    refine g_split (t := 55) hS rfl ?_ ?_ <;> (clear hS; intro hg55 hS)
    ·
     refine Ry hS (.f 4 (tf 5 7) rfl rfl rfl rfl <| .f 5 (tf 6 6) rfl rfl rfl rfl <| .f 6 (tf 7 5) rfl rfl rfl rfl <| .f 7 (tf 8 4) rfl rfl rfl rfl <| .f 8 (tf 9 3) rfl rfl rfl rfl <| .f 9 (tf 10 2) rfl rfl rfl rfl <| .f 10 (tf 11 1) rfl rfl rfl rfl <| .o 11 (tf 12 0) rfl wN (e_pick_t rfl rfl) rfl .n) ?_; clear hS a; intro a hS
     exact hcM63 _ _ (hS.ends 9 63 55 rfl (congrArg Value.bool (by exact (decide_eq_true (show ¬ isF own x from fun e => by have h3 := e.1; simp [h3] at hg55)).symm)) rfl rfl (by first | exact congrArg Value.bool (decide_eq_true hg55).symm | exact congrArg Value.bool hg55.symm | simp [hg55]) rfl)
    refine Rz hS (sub_cons (by repeat constructor) (sub_cons (by repeat constructor) sub_nil)) (.o 4 (tf 5 7) rfl (want_go rfl rfl) (e_fa0 rfl ty_fo35_1) rfl <| .y 5 (tf 6 6) rfl (want_go rfl rfl) (e_load rfl (by repeat constructor) ty_sc9 (by rfl)) rfl <| .o 6 (tf 7 5) rfl (want_go rfl rfl) (e_move rfl) rfl <| .o 7 (tf 8 4) rfl (want_go rfl rfl) (e_nilCheck rfl) rfl <| .o 8 (tf 9 3) rfl (want_go rfl rfl) (e_fa0 rfl ty_fo128_0) rfl <| .y 9 (tf 10 2) rfl (want_go rfl rfl) (e_loadC rfl ty_sc9 (lr_bk (k := 0) (v := .string own) (by repeat constructor) rfl)) rfl <| .o 10 (tf 11 1) rfl (want_go rfl rfl) (e_binS rfl rfl rfl) rfl <| .o 11 (tf 12 0) rfl wN (e_pick_f rfl rfl) rfl .n) ?_; clear hS a; intro a hS
    exact hcM63 _ _ (hS.ends 9 63 55 rfl (congrArg Value.bool (by rw [decide_eq_decide]; exact ⟨fun e e2 => e2.2 e, fun e => Classical.byContradiction fun e2 => e ⟨by simpa using hg55, e2⟩⟩)) rfl rfl (by first | exact congrArg Value.bool (decide_eq_false hg55).symm | exact congrArg Value.bool hg55.symm | simp [hg55]) rfl)
  · clear hS a; intro a w hS
    refine Z_done (by kernel_rfl) ?_
    refine nT ?_
    refine c_ifD hS rfl (fun hc63 => ?_) (fun hc63 => ?_)
    ·
     refine wp_exit ?_
     refine x_then (x_hit ?_)
     refine nT (cR ?_)
     refine Rn hS (.c (e_binN rfl rfl rfl (by omega)) <| .m rfl .n) ?_; clear hS a; intro a hS
     refine nL ?_
     first
     | (have hn : ¬ isF own x := hc63
        have hone : rvOne own (vsT es) (pl s) at_ x = [] := if_neg (fun e => hn e.1)
        rw [hone, List.append_nil] at htk
        refine ⟨(i + 1, out), by simp only; omega, ?_, by simp only; omega, fun j hj y hy => ?_⟩
        · simp only
          rw [htk]
          exact (hS.slots (by repeat (first | exact trivial | refine ⟨rfl, ?_⟩))).pick (by repeat (first | exact Pick.nil | (refine Pick.cons (by repeat (first | exact Rem.head | apply Rem.tail)) ?_)))
        · by_cases e : j = i
          · subst e; rw [hx] at hy; cases hy; exact fun e => hn e.1
          · exact hgd j (by simp only at hj; omega) y hy)
     | (have hn : ¬ (difF own (vsT es) (pl s) at_ x).1 ≠ 0 := hc76
        have hone : rvOne own (vsT es) (pl s) at_ x = [] := if_neg (fun e => hn e.2)
        rw [hone, List.append_nil] at htk
        refine ⟨(i + 1, out), by simp only; omega, ?_, by simp only; omega, hg2⟩
        simp only
        rw [htk]
        exact (hS.slots (by repeat (first | exact trivial | refine ⟨rfl, ?_⟩))).pick (by repeat (first | exact Pick.nil | (refine Pick.cons (by repeat (first | exact Rem.head | apply Rem.tail)) ?_))))
     | (rw [hone] at htk
        have e1 : (O ++ [(⟨x.code, 0, D⟩ : Pst)]).length = O.length + 1 := by simp
        have e2 : (O ++ [(⟨x.code, 0, D⟩ : Pst)]).flatMap encP = O.flatMap encP ++ encP ⟨x.code, 0, D⟩ := by simp
        have e3 : -(sumFn (O ++ [(⟨x.code, 0, D⟩ : Pst)])) = -(sumFn O) - D := by
          rw [sumFn_append, sumFn_cons]; simp only [sumFn, List.foldl]; omega
        refine ⟨(i + 1, v83), by simp only; omega, ?_, by simp only; omega, hg2⟩
        simp only
        rw [htk, e1, e2, e3]
        exact (hS.slots (by repeat (first | exact trivial | refine ⟨rfl, ?_⟩))).pick (by repeat (first | exact Pick.nil | (refine Pick.cons (by repeat (first | exact Rem.head | apply Rem.tail)) ?_))))
    have hisF : isF own x := Classical.byContradiction fun e => hc63 e
    refine wS (nT (cS (cR ?_)))
    refine Rn hS (.m rfl <| .m rfl <| .c (e_loadA rfl (by repeat constructor) ty_st35 ty_sz35 (by rfl)) <| .m rfl .n) ?_; clear hS a; intro a hS
    refine L_op (s_callP hS (.cons rfl (.cons rfl (.cons rfl (.cons rfl .nil)))) cf55 rfl (fxdiffers_P B s bk mb own es n x at_ hfl hno _ (hS.gg (X := lrA B s bk mb own es n)).l (hS.gg (X := lrA B s bk mb own es n)).t) ?_); clear hS a; intro a w hS
    refine Rn hS (.m rfl <| .c (e_extract rfl rfl) <| .c (e_extract rfl rfl) <| .a rfl <| .a rfl .n) ?_; clear hS a; intro a hS
    refine nL (nT (cS (cS (cR ?_))))
    refine Rn hS (.m rfl <| .c (e_bin rfl rfl rfl) .n) ?_; clear hS a; intro a hS
    refine nL (nT ?_)
    refine c_ifD hS rfl (fun hc73 => ?_) (fun hc73 => ?_)
    ·
     refine cS (cR ?_)
     refine Rn hS (.m rfl <| .a rfl <| .a rfl .n) ?_; clear hS a; intro a hS
     refine nL (nT (wp_ret ?_))
     refine r_then (r_block (r_then (r_then (r_block (r_then ?_)))))
     refine c_retN hS Tryz.results22 (.cons (.tmp rfl) (.cons (.tmp rfl) .nil)) rfl ?_
     have hbad : rvBad own (vsT es) (pl s) at_ x := ⟨hisF, hc73⟩
     have hre := rv_bad hx hbad hgd
     have hne : rvErr own (vsT es) (pl s) at_ (accsL s.acs) ≠ 0 := by rw [hre]; exact hc73
     rw [if_pos hne, hre]
     exact ⟨.slice none 0 0, rfl, hS.chg, nil_new⟩
    have hng : ¬ rvBad own (vsT es) (pl s) at_ x := fun e => hc73 e.2
    have hg2 : ∀ j, j < i + 1 → ∀ y, (accsL s.acs)[j]? = some y → ¬ rvBad own (vsT es) (pl s) at_ y := fun j hj y hy => by
     by_cases e : j = i
     · subst e; rw [hx] at hy; cases hy; exact hng
     · exact hgd j (by omega) y hy
    refine wS (nT (cS (cR ?_)))
    refine Rn hS (.m rfl <| .c (e_bin rfl rfl rfl) .n) ?_; clear hS a; intro a hS
    refine nL (nT ?_)
    refine c_ifD hS rfl (fun hc76 => ?_) (fun hc76 => ?_)
    ·
     have hone : rvOne own (vsT es) (pl s) at_ x = [⟨x.code, 0, (difF own (vsT es) (pl s) at_ x).1⟩] := if_pos ⟨hisF, hc76⟩
     generalize hD : (difF own (vsT es) (pl s) at_ x).1 = D at hS hone hdb
     refine cS (cR ?_)
     refine Rn hS (.m rfl <| .c (e_fa0 rfl ty_fo35_0) <| .c (e_load rfl (by repeat constructor) ty_sc9 (by rfl)) <| .m rfl <| .c (e_build ty_z82 ty_pl82 (.one rfl rfl rfl (by repeat constructor) (.one rfl rfl rfl (by repeat constructor) .nil))) .n) ?_; clear hS a; intro a hS
     refine L_op (s_bslice hS ty_sl36 ty_sz82 ty_z82 rfl rfl rfl rfl (.agg rfl rfl .nil) rfl ?_); clear hS a; intro a w b82 hS
     refine L_op (s_append1 hS rfl rfl ty_sl36 ty_sz82 ty_by82 ty_z82 rfl rfl rfl (by repeat constructor) (by repeat constructor) (by rfl) (by rfl) (fun _ => (by repeat constructor)) (by omega) ?_); clear hS a; intro v83 a w hv83 hS
     refine L_e hS (e_assign rfl) rfl ?_; clear hS a; intro a hS
     refine nL (nT ?_)
     refine c_drawS [7] (by kernel_rfl) hS (sub_cons (X := .blk b13 _ _) (by repeat constructor) sub_nil) ?_; clear hS; intro w hS
     simp only [List.length_cons, List.length_nil, Nat.zero_add, Nat.reduceAdd, List.replicate]
     refine Rz hS (sub_cons (by repeat constructor) sub_nil) (.y 0 (tf 1 7) rfl wN (e_loadA rfl (by repeat constructor) ty_st131 ty_sz131 (by rfl)) rfl <| .o 1 (tf 2 6) rfl wN (e_move rfl) rfl .n) ?_; clear hS a; intro a hS
     refine Zo 2 (tf 3 5) hS rfl wN rfl (s_callP hS (.cons rfl .nil) cf57 rfl (FromInt_P D (by omega) (by omega) _) ?_); clear hS a; intro a w hS
     refine Z_and hS (sub_cons (by repeat constructor) sub_nil) ?_
     refine Zo 3 (tf 4 4) hS rfl wN rfl (s_callP hS (.cons rfl (.cons rfl .nil)) cf56 rfl (Sub_P (-(sumFn O)) D (by unfold Wd.fit; omega) (by unfold Wd.fit; omega) (by unfold Wd.fit; omega) _) ?_); clear hS a; intro a w hS
     refine Z_and hS (sub_cons (by repeat constructor) sub_nil) ?_
     refine Ry hS (.o 4 (tf 5 3) rfl wN (e_move rfl) rfl <| .o 5 (tf 6 2) rfl wN (e_extract rfl rfl) rfl <| .o 6 (tf 7 1) rfl wN (e_extract rfl rfl) rfl .n) ?_; clear hS a; intro a hS
     refine Zo 7 (tf 8 0) hS rfl wN rfl (s_storeA hS rfl rfl ty_sz131 (by repeat constructor) (by rfl) (by rfl) (by rfl) ?_); clear hS; intro w hS
     refine Z_last (by simp) ?_
     refine Z_done (by kernel_rfl) ?_
     refine n_block (nT (cR ?_))
     refine Rn hS (.c (e_binN rfl rfl rfl (by omega)) <| .m rfl .n) ?_; clear hS a; intro a hS
     refine nL ?_
     first
     | (have hn : ¬ isF own x := hc63
        have hone : rvOne own (vsT es) (pl s) at_ x = [] := if_neg (fun e => hn e.1)
        rw [hone, List.append_nil] at htk
        refine ⟨(i + 1, out), by simp only; omega, ?_, by simp only; omega, fun j hj y hy => ?_⟩
        · simp only
          rw [htk]
          exact (hS.slots (by repeat (first | exact trivial | refine ⟨rfl, ?_⟩))).pick (by repeat (first | exact Pick.nil | (refine Pick.cons (by repeat (first | exact Rem.head | apply Rem.tail)) ?_)))
        · by_cases e : j = i
          · subst e; rw [hx] at hy; cases hy; exact fun e => hn e.1
          · exact hgd j (by simp only at hj; omega) y hy)
     | (have hn : ¬ (difF own (vsT es) (pl s) at_ x).1 ≠ 0 := hc76
        have hone : rvOne own (vsT es) (pl s) at_ x = [] := if_neg (fun e => hn e.2)
        rw [hone, List.append_nil] at htk
        refine ⟨(i + 1, out), by simp only; omega, ?_, by simp only; omega, hg2⟩
        simp only
        rw [htk]
        exact (hS.slots (by repeat (first | exact trivial | refine ⟨rfl, ?_⟩))).pick (by repeat (first | exact Pick.nil | (refine Pick.cons (by repeat (first | exact Rem.head | apply Rem.tail)) ?_))))
     | (rw [hone] at htk
        have e1 : (O ++ [(⟨x.code, 0, D⟩ : Pst)]).length = O.length + 1 := by simp
        have e2 : (O ++ [(⟨x.code, 0, D⟩ : Pst)]).flatMap encP = O.flatMap encP ++ encP ⟨x.code, 0, D⟩ := by simp
        have e3 : -(sumFn (O ++ [(⟨x.code, 0, D⟩ : Pst)])) = -(sumFn O) - D := by
          rw [sumFn_append, sumFn_cons]; simp only [sumFn, List.foldl]; omega
        refine ⟨(i + 1, v83), by simp only; omega, ?_, by simp only; omega, hg2⟩
        simp only
        rw [htk, e1, e2, e3]
        exact (hS.slots (by repeat (first | exact trivial | refine ⟨rfl, ?_⟩))).pick (by repeat (first | exact Pick.nil | (refine Pick.cons (by repeat (first | exact Rem.head | apply Rem.tail)) ?_))))
    refine wS (n_block (nT (cR ?_)))
    refine Rn hS (.c (e_binN rfl rfl rfl (by omega)) <| .m rfl .n) ?_; clear hS a; intro a hS
    refine nL ?_
    first
    | (have hn : ¬ isF own x := hc63
       have hone : rvOne own (vsT es) (pl s) at_ x = [] := if_neg (fun e => hn e.1)
       rw [hone, List.append_nil] at htk
       refine ⟨(i + 1, out), by simp only; omega, ?_, by simp only; omega, fun j hj y hy => ?_⟩
       · simp only
         rw [htk]
         exact (hS.slots (by repeat (first | exact trivial | refine ⟨rfl, ?_⟩))).pick (by repeat (first | exact Pick.nil | (refine Pick.cons (by repeat (first | exact Rem.head | apply Rem.tail)) ?_)))
       · by_cases e : j = i
         · subst e; rw [hx] at hy; cases hy; exact fun e => hn e.1
         · exact hgd j (by simp only at hj; omega) y hy)
    | (have hn : ¬ (difF own (vsT es) (pl s) at_ x).1 ≠ 0 := hc76
       have hone : rvOne own (vsT es) (pl s) at_ x = [] := if_neg (fun e => hn e.2)
       rw [hone, List.append_nil] at htk
       refine ⟨(i + 1, out), by simp only; omega, ?_, by simp only; omega, hg2⟩
       simp only
       rw [htk]
       exact (hS.slots (by repeat (first | exact trivial | refine ⟨rfl, ?_⟩))).pick (by repeat (first | exact Pick.nil | (refine Pick.cons (by repeat (first | exact Rem.head | apply Rem.tail)) ?_))))
    | (rw [hone] at htk
       have e1 : (O ++ [(⟨x.code, 0, D⟩ : Pst)]).length = O.length + 1 := by simp
       have e2 : (O ++ [(⟨x.code, 0, D⟩ : Pst)]).flatMap encP = O.flatMap encP ++ encP ⟨x.code, 0, D⟩ := by simp
       have e3 : -(sumFn (O ++ [(⟨x.code, 0, D⟩ : Pst)])) = -(sumFn O) - D := by
         rw [sumFn_append, sumFn_cons]; simp only [sumFn, List.foldl]; omega
       refine ⟨(i + 1, v83), by simp only; omega, ?_, by simp only; omega, hg2⟩
       simp only
       rw [htk, e1, e2, e3]
       exact (hS.slots (by repeat (first | exact trivial | refine ⟨rfl, ?_⟩))).pick (by repeat (first | exact Pick.nil | (refine Pick.cons (by repeat (first | exact Rem.head | apply Rem.tail)) ?_))))
 obtain rfl : i = s.acs.length := by omega
 rw [← haL, List.take_length] at hS hrl' hrs'
 rw [haL] at hS
 have hgood : rvErr own (vsT es) (pl s) at_ (accsL s.acs) = 0 := rv_good (fun j hj => hgd j (by omega))
 rw [if_neg (fun e => e hgood)]
 generalize hO : rvOut own (vsT es) (pl s) at_ (accsL s.acs) = O at hS hrl' hrs' ⊢
 obtain ⟨qo, co, rfl⟩ := own_slice (hS.gg (X := ownA 82 3 out O.length (O.flatMap encP)))
 refine wp_exit ?_
 refine x_then (x_then (x_hit ?_))
 refine nT (cS (cS (cR ?_)))
 refine Rn hS (.m rfl <| .c (e_len rfl rfl ty_sl36) <| .c (e_bin rfl rfl rfl) .n) ?_; clear hS a; intro a hS
 refine nL (nT ?_)
 refine c_ifD hS rfl (fun hc94 => ?_) (fun hc94 => ?_)
 ·
  refine cS (cR ?_)
  refine Rn hS (.a rfl <| .a rfl .n) ?_; clear hS a; intro a hS
  refine nL (nT (wp_ret (r_then ?_)))
  refine c_retN hS Tryz.results22 (.cons (.tmp rfl) (.cons (.tmp rfl) .nil)) rfl ?_
  have hO0 : O = [] := List.eq_nil_of_length_eq_zero (by omega)
  rw [if_pos hO0]
  exact ⟨.slice none 0 0, rfl, hS.chg, nil_new⟩
 have hO0 : ¬ O = [] := fun e => hc94 (by rw [e]; rfl)
 rw [if_neg hO0]
 refine wS (nT (cS (cR ?_)))
 refine L_e hS (e_loadA rfl (by repeat constructor) ty_st131 ty_sz131 (by rfl)) rfl ?_; clear hS a; intro a hS
 refine L_op (s_callP hS (.cons rfl (.cons rfl .nil)) cf58 rfl (narrow_P (-(sumFn O)) (by unfold Wd.fit; omega) _) ?_); clear hS a; intro a w hS
 refine Rn hS (.m rfl <| .c (e_extract rfl rfl) <| .c (e_extract rfl rfl) <| .a rfl <| .a rfl .n) ?_; clear hS a; intro a hS
 refine nL (nT (cS (cS (cR ?_))))
 refine Rn hS (.m rfl <| .c (e_bin rfl rfl rfl) .n) ?_; clear hS a; intro a hS
 refine nL (nT ?_)
 refine c_ifD hS rfl (fun hc101 => ?_) (fun hc101 => ?_)
 ·
  refine cS (cR ?_)
  refine Rn hS (.m rfl <| .a rfl <| .a rfl .n) ?_; clear hS a; intro a hS
  refine nL (nT (wp_ret (r_then ?_)))
  refine c_retN hS Tryz.results22 (.cons (.tmp rfl) (.cons (.tmp rfl) .nil)) rfl ?_
  have hni : ¬ inU (-(sumFn O)) := fun e => by
   rw [show narrowF (-(sumFn O)) = (-(sumFn O), 0) from if_pos e] at hc101
   exact hc101 rfl
  rw [if_neg hni]
  have e4 : (narrowF (-(sumFn O))).2 = 16 := by rw [show narrowF (-(sumFn O)) = (0, 16) from if_neg hni]
  rw [e4] at hS
  exact ⟨.slice none 0 0, by rw [e4], hS.chg, nil_new⟩
 have hni : inU (-(sumFn O)) := Classical.byContradiction fun e => hc101 (by rw [show narrowF (-(sumFn O)) = (0, 16) from if_neg e]; decide)
 rw [if_pos hni]
 rw [show narrowF (-(sumFn O)) = (-(sumFn O), 0) from if_pos hni] at hS
 refine wS (nT (cS (cR ?_)))
 refine Rn hS (.m rfl <| .m rfl <| .m rfl <| .c (e_build ty_z82 ty_pl82 (.one rfl rfl rfl (by repeat constructor) (.one rfl rfl rfl (by repeat constructor) .nil))) .n) ?_; clear hS a; intro a hS
 refine L_op (s_bslice hS ty_sl36 ty_sz82 ty_z82 rfl rfl rfl rfl (.agg rfl rfl .nil) rfl ?_); clear hS a; intro a w b107 hS
 refine L_op (s_append1 hS rfl rfl ty_sl36 ty_sz82 ty_by82 ty_z82 rfl rfl rfl (by repeat constructor) (by repeat constructor) (by rfl) (by rfl) (fun _ => (by repeat constructor)) (by omega) ?_); clear hS a; intro v108 a w hv108 hS
 refine Rn hS (.a rfl <| .a rfl .n) ?_; clear hS a; intro a hS
 refine nL (nT (wp_ret ?_))
 refine c_retN hS Tryz.results22 (.cons (.tmp rfl) (.cons (.tmp rfl) .nil)) rfl ?_
 have e1 : (O ++ [(⟨gain, 0, -(sumFn O)⟩ : Pst)]).length = O.length + 1 := by simp
 have e2 : (O ++ [(⟨gain, 0, -(sumFn O)⟩ : Pst)]).flatMap encP = O.flatMap encP ++ encP ⟨gain, 0, -(sumFn O)⟩ := by simp
 refine ⟨v108, rfl, hS.chg, ?_⟩
 simp only
 rw [e1, e2]
 exact hS.new (X := ownA 82 3 v108 (O.length + 1) (O.flatMap encP ++ encP ⟨gain, 0, -(sumFn O)⟩)) (by repeat constructor) rfl
theorem setE_bd {own : ByteArray} {l : List (ByteArray × List (Int × Int))} {n : Int} {c : ByteArray} {at_ nano : Int} (h : setE own l n c at_ nano = 0) : 1 ≤ nano ∧ nano ≤ 1125899906842624 := by
 unfold setE at h
 split at h
 · cases h
 · split at h
   · contradiction
   · split at h
     · cases h
     · rename_i h3; omega
theorem rowsOf_put (l : List (ByteArray × List (Int × Int))) (c d : ByteArray) (r : List (Int × Int)) : rowsOf (putL l c r) d = if c = d then r else rowsOf l d := by
 induction l with
 | nil =>
   unfold putL rowsOf
   rw [List.find?_cons]
   by_cases e : c = d
   · subst e; simp
   · simp [e]
 | cons x l ih =>
   obtain ⟨k, u⟩ := x
   unfold putL
   by_cases hk : k = c
   · subst hk
     rw [if_pos rfl]
     unfold rowsOf
     rw [List.find?_cons, List.find?_cons]
     by_cases e : k = d
     · subst e; simp
     · simp [e]
   · rw [if_neg hk]
     by_cases e : k = d
     · subst e
       have h1 : rowsOf ((k, u) :: putL l c r) k = u := by unfold rowsOf; rw [List.find?_cons]; simp
       have h2 : rowsOf ((k, u) :: l) k = u := by unfold rowsOf; rw [List.find?_cons]; simp
       rw [h1, h2, if_neg (fun h => hk h.symm)]
     · have h1 : rowsOf ((k, u) :: putL l c r) d = rowsOf (putL l c r) d := by unfold rowsOf; rw [List.find?_cons]; simp [e]
       have h2 : rowsOf ((k, u) :: l) d = rowsOf l d := by unfold rowsOf; rw [List.find?_cons]; simp [e]
       rw [h1, h2, ih]
theorem nano_set {own : ByteArray} {l : List (ByteArray × List (Int × Int))} {n : Int} (h : nanoOK l) (c : ByteArray) (at_ nano : Int) : nanoOK (setR own l n c at_ nano).1 := by
 unfold setR
 split
 · rename_i hE
   have hb := setE_bd hE
   intro d x hx
   simp only [rowsOf_put] at hx
   split at hx
   · rcases List.mem_append.1 hx with hx | hx
     · exact h c x hx
     · obtain rfl := List.mem_singleton.1 hx; exact hb
   · exact h d x hx
 · exact h
theorem nano_made (own : ByteArray) (l : List RR) : nanoOK (madeF own l).1 := by
 unfold madeF
 have : ∀ (l : List RR) (st : List (ByteArray × List (Int × Int)) × Int), nanoOK st.1 → nanoOK (l.foldl (stepS own) st).1 := by
  intro l
  induction l with
  | nil => exact fun st h => h
  | cons x l ih => exact fun st h => ih _ (nano_set h _ _ _)
 exact this l _ (fun c x hx => by simp [rowsOf] at hx)
def eur : ByteArray := ⟨#[69, 85, 82]⟩
def one1 : List (ByteArray × List (Int × Int)) := [(eur, [(5, 1100000000)])]
theorem f_set1 : setE usd [] 0 eur 5 1100000000 = 0 := by decide +kernel
theorem f_setR1 : setR usd [] 0 eur 5 1100000000 = (one1, 1) := by decide +kernel
theorem f_set2 : setE usd one1 1 eur 5 1 = 34 := by decide +kernel
theorem f_setR2 : setR usd one1 1 eur 5 1 = (one1, 1) := by decide +kernel
theorem f_get1 : getF usd one1 eur 4 = (0, 28) := by decide +kernel
theorem f_get2 : getF usd one1 eur 9 = (1100000000, 0) := by decide +kernel
theorem f_conv : convF 5 500000000 = (2, 0) := by decide +kernel
set_option maxRecDepth 100000 in
theorem fxfirst_P (w0 : World) : PureC Tryz.prog 13 [] w0 (.bool true) := by
 refine c_enter [] [] noB Tryz.func13 rfl Tryz.ntmps13 trivial rfl (by simp) (by simp) (by simp) ?_
 intro a hS
 refine cS (cR ?_)
 refine L_e hS (e_assign rfl) rfl ?_; clear hS a; intro a hS
 refine nL (nT (cS (cR ?_)))
 refine L_op (s_callN hS (.cons rfl .nil) cf47 rfl (fxNew_P usd _ usd_scale) ?_); clear hS a; intro x12 a w hS
 refine Rn hS (.m rfl <| .c (e_extract rfl rfl) <| .c (e_extract rfl rfl) <| .a rfl <| .a rfl .n) ?_; clear hS a; intro a hS
 refine nL (nT (cS (cS (cR ?_))))
 refine Rn hS (.m rfl <| .c (e_nil rfl ty_u44) <| .m rfl .n) ?_; clear hS a; intro a hS
 replace hS := hS.is (t := 17) (c := false) rfl (rfl)
 refine L_ge hS rfl rfl (e_move rfl) rfl ?_; clear hS a; intro a hS
 refine L_go hS rfl rfl (s_callP hS (.cons rfl .nil) cf10 rfl (Num_w 0 _) ?_); clear hS a; intro a w hS
 refine Rn hS (.g rfl rfl (e_bin rfl rfl rfl) <| .c (e_pick_f rfl rfl) .n) ?_; clear hS a; intro a hS
 refine nL (nT ?_)
 replace hS := hS.is (t := 21) (c := false) rfl (rfl)
 refine c_if_f hS rfl ?_
 refine wS (nT (cS (cR ?_)))
 refine L_e hS (e_move rfl) rfl ?_; clear hS a; intro a hS
 refine L_op (s_callM hS (.cons rfl (.cons rfl (.cons rfl (.cons rfl .nil)))) cf48 rfl (fxSet_P x12.1 x12.2 usd eur [] 0 5 1100000000 (by decide) _ (hS.gg (X := ratesA x12.1 x12.2 usd [] 0 true))) (fun x => (by repeat constructor)) rfl ?_); clear hS a; intro x23 a w hS
 obtain ⟨⟨es, n⟩, hes⟩ := x23
 have he1 := hes.trans f_setR1
 have hv : vsT es = one1 := congrArg Prod.fst he1
 have hn1 : n = 1 := congrArg Prod.snd he1
 subst hn1
 have e23 : setE usd (vsT []) 0 eur 5 1100000000 = 0 := f_set1
 rw [e23] at hS
 refine L_e hS (e_assign rfl) rfl ?_; clear hS a; intro a hS
 refine nL (nT (cS (cR ?_)))
 refine L_e hS (e_move rfl) rfl ?_; clear hS a; intro a hS
 refine L_op (s_callM hS (.cons rfl (.cons rfl (.cons rfl (.cons rfl .nil)))) cf48 rfl (fxSet_P x12.1 x12.2 usd eur es 1 5 1 (by decide) _ (hS.gg (X := ratesA x12.1 x12.2 usd es 1 true))) (fun x => (by repeat constructor)) rfl ?_); clear hS a; intro x25 a w hS
 obtain ⟨⟨es2, n2⟩, hes2⟩ := x25
 have he2 := hes2.trans ((congrArg (fun l => setR usd l 1 eur 5 1) hv).trans f_setR2)
 have hv2 : vsT es2 = one1 := congrArg Prod.fst he2
 have hn2 : n2 = 1 := congrArg Prod.snd he2
 subst hn2
 have e25 : setE usd (vsT es) 1 eur 5 1 = 34 := (congrArg (fun l => setE usd l 1 eur 5 1) hv).trans f_set2
 rw [e25] at hS
 refine L_e hS (e_assign rfl) rfl ?_; clear hS a; intro a hS
 refine nL (nT (cS (cR ?_)))
 refine L_e hS (e_move rfl) rfl ?_; clear hS a; intro a hS
 refine L_op (s_callP hS (.cons rfl (.cons rfl (.cons rfl .nil))) cf49 rfl (fxGet_P x12.1 x12.2 usd eur es2 1 4 _ (hS.gg (X := ratesA x12.1 x12.2 usd es2 1 true))) ?_); clear hS a; intro a w hS
 rw [hv2, f_get1] at hS
 refine Rn hS (.m rfl <| .c (e_extract rfl rfl) <| .c (e_extract rfl rfl) <| .a rfl <| .a rfl .n) ?_; clear hS a; intro a hS
 refine nL (nT (cS (cR ?_)))
 refine L_e hS (e_move rfl) rfl ?_; clear hS a; intro a hS
 refine L_op (s_callP hS (.cons rfl (.cons rfl (.cons rfl .nil))) cf49 rfl (fxGet_P x12.1 x12.2 usd eur es2 1 9 _ (hS.gg (X := ratesA x12.1 x12.2 usd es2 1 true))) ?_); clear hS a; intro a w hS
 rw [hv2, f_get2] at hS
 refine Rn hS (.m rfl <| .c (e_extract rfl rfl) <| .c (e_extract rfl rfl) <| .a rfl <| .a rfl .n) ?_; clear hS a; intro a hS
 refine nL (nT (cS (cR ?_)))
 refine L_op (s_callP hS (.cons rfl (.cons rfl .nil)) cf50 rfl (fxConvert_P 5 500000000 (by decide) (by decide) _) ?_); clear hS a; intro a w hS
 rw [f_conv] at hS
 refine Rn hS (.m rfl <| .c (e_extract rfl rfl) <| .c (e_extract rfl rfl) <| .a rfl <| .a rfl .n) ?_; clear hS a; intro a hS
 refine nL (nT (cS (cR ?_)))
 refine L_e hS (e_move rfl) rfl ?_; clear hS a; intro a hS
 refine L_op (s_callP hS (.cons rfl .nil) cf10 rfl (Num_w 0 _) ?_); clear hS a; intro a w hS
 refine Rn hS (.c (e_bin rfl rfl rfl) <| .m rfl .n) ?_; clear hS a; intro a hS
 replace hS := hS.is (t := 43) (c := true) rfl (rfl)
 refine L_ge hS rfl rfl (e_move rfl) rfl ?_; clear hS a; intro a hS
 refine L_go hS rfl rfl (s_callP hS (.cons rfl .nil) cf10 rfl (Num_w 34 _) ?_); clear hS a; intro a w hS
 refine Rn hS (.g rfl rfl (e_bin rfl rfl rfl) <| .c (e_pick_t rfl rfl) <| .m rfl .n) ?_; clear hS a; intro a hS
 replace hS := hS.is (t := 48) (c := true) rfl (rfl)
 refine L_ge hS rfl rfl (e_move rfl) rfl ?_; clear hS a; intro a hS
 refine L_go hS rfl rfl (s_callP hS (.cons rfl .nil) cf10 rfl (Num_w 28 _) ?_); clear hS a; intro a w hS
 refine Rn hS (.g rfl rfl (e_bin rfl rfl rfl) <| .c (e_pick_t rfl rfl) <| .m rfl .n) ?_; clear hS a; intro a hS
 replace hS := hS.is (t := 53) (c := true) rfl (rfl)
 refine Rn hS (.g rfl rfl (e_move rfl) <| .g rfl rfl (e_bin rfl rfl rfl) <| .c (e_pick_t rfl rfl) <| .m rfl .n) ?_; clear hS a; intro a hS
 replace hS := hS.is (t := 57) (c := true) rfl (rfl)
 refine L_ge hS rfl rfl (e_move rfl) rfl ?_; clear hS a; intro a hS
 refine L_go hS rfl rfl (s_callP hS (.cons rfl .nil) cf10 rfl (Num_w 0 _) ?_); clear hS a; intro a w hS
 refine Rn hS (.g rfl rfl (e_bin rfl rfl rfl) <| .c (e_pick_t rfl rfl) <| .m rfl .n) ?_; clear hS a; intro a hS
 replace hS := hS.is (t := 62) (c := true) rfl (rfl)
 refine Rn hS (.g rfl rfl (e_move rfl) <| .g rfl rfl (e_bin rfl rfl rfl) <| .c (e_pick_t rfl rfl) <| .m rfl .n) ?_; clear hS a; intro a hS
 replace hS := hS.is (t := 66) (c := true) rfl (rfl)
 refine L_ge hS rfl rfl (e_move rfl) rfl ?_; clear hS a; intro a hS
 refine L_go hS rfl rfl (s_callP hS (.cons rfl .nil) cf10 rfl (Num_w 0 _) ?_); clear hS a; intro a w hS
 refine Rn hS (.g rfl rfl (e_bin rfl rfl rfl) <| .c (e_pick_t rfl rfl) <| .a rfl .n) ?_; clear hS a; intro a hS
 refine nL (nT (wp_ret ?_))
 refine c_ret1 hS Tryz.results13 (.tmp rfl) ?_
 exact ⟨rfl, hS.chg⟩
abbrev L2 := List (ByteArray × List (Int × Int))
def ofC (c : ByteArray) (rows : List RR) : List RR := rows.filter fun x => decide (x.1 = c)
structure relF (l : L2) (n : Int) (rows : List RR) : Prop where
 keys : (l.map (·.1)).Nodup
 same : ∀ c, (ofC c rows).map (·.2) = rowsOf l c
 sort : rows.Pairwise fun x y => leS x.1 y.1 = true
 rise : ∀ c, (rowsOf l c).Pairwise fun x y => x.1 < y.1
 num : n = rows.length
 few : (l.length : Int) ≤ n
theorem relF_nil : relF [] 0 [] := ⟨.nil, fun _ => rfl, .nil, fun _ => .nil, rfl, Int.le_refl _⟩
theorem putL_len (c : ByteArray) (r : List (Int × Int)) : ∀ l : L2, (putL l c r).length ≤ l.length + 1
 | [] => by simp [putL]
 | (k, u) :: l => by
   have := putL_len c r l
   unfold putL
   split
   · simp
   · simp; omega
theorem last_ge {α : Type} {R : α → α → Prop} {l : List α} (h : l.Pairwise R) {x z : α} (hx : x ∈ l) (hz : l.getLast? = some z) : x = z ∨ R x z := by
 obtain ⟨r, rfl⟩ := List.getLast?_eq_some_iff.1 hz
 rcases List.mem_append.1 hx with h1 | h1
 · exact .inr ((List.pairwise_append.1 h).2.2 x h1 z (.head _))
 · exact .inl (List.mem_singleton.1 h1)
theorem late_iff {l : L2} {n : Int} {rows : List RR} (h : relF l n rows) (c : ByteArray) (at_ : Int) : (∃ x, (rowsOf l c).getLast? = some x ∧ at_ ≤ x.1) ↔ late rows c at_ := by
 constructor
 · rintro ⟨x, hx, hle⟩
   have hm := List.mem_of_getLast? hx
   rw [← h.same c] at hm
   obtain ⟨y, hy, rfl⟩ := List.mem_map.1 hm
   have hy2 := List.mem_filter.1 hy
   exact ⟨y, hy2.1, by simpa using hy2.2, hle⟩
 · rintro ⟨y, hy, hc, hle⟩
   have hm : y.2 ∈ rowsOf l c := by rw [← h.same c]; exact List.mem_map.2 ⟨y, List.mem_filter.2 ⟨hy, by simpa using hc⟩, rfl⟩
   cases hz : (rowsOf l c).getLast? with
   | none => rw [List.getLast?_eq_none_iff.1 hz] at hm; cases hm
   | some z =>
     refine ⟨z, rfl, ?_⟩
     rcases last_ge (h.rise c) hm hz with e | hlt
     · rw [← e]; exact hle
     · omega
theorem setE_eq {l : L2} {n : Int} {rows : List RR} (h : relF l n rows) (own c : ByteArray) (at_ nano : Int) : setE own l n c at_ nano = refE own rows c at_ nano := by
 have hl := late_iff h c at_
 have hs := refS_neg c
 have hn := h.num
 unfold setE refE
 by_cases h1 : c = own
 · rw [if_pos h1, if_pos (.inr h1)]
 · rw [if_neg h1]
   by_cases h2 : (scaleR c).2 ≠ 0
   · have ha : askF c at_ = 18 := by unfold askF; rw [if_pos h2]
     rw [ha, if_pos (by decide), if_pos (.inl (hs.2 h2))]
   · have hc : ¬ (refS c < 0 ∨ c = own) := fun e => e.elim (fun e => h2 (hs.1 e)) h1
     rw [if_neg hc]
     by_cases h3 : inst at_
     · have ha : askF c at_ = 0 := by unfold askF; rw [if_neg h2, if_neg (fun e => e h3)]
       rw [ha, if_neg (show ¬ ((0 : Int) ≠ 0) from fun e => e rfl)]
       by_cases h4 : nano < 1 ∨ 1125899906842624 < nano
       · rw [if_pos h4, if_pos (.inr h4)]
       · have hc4 : ¬ (¬ inst at_ ∨ nano < 1 ∨ 1125899906842624 < nano) := fun e => e.elim (fun e => e h3) h4
         rw [if_neg h4, if_neg hc4]
         by_cases h5 : late rows c at_
         · rw [if_pos (hl.2 h5), if_pos h5]
         · rw [if_neg (fun e => h5 (hl.1 e)), if_neg h5]
           by_cases h6 : 500 ≤ n
           · rw [if_pos h6, if_pos (by omega)]
           · rw [if_neg h6, if_neg (by omega)]
     · have ha : askF c at_ = 6 := by unfold askF; rw [if_neg h2, if_pos h3]
       rw [ha, if_pos (by decide), if_pos (.inl h3)]
theorem putL_keys (l : L2) (c : ByteArray) (r : List (Int × Int)) (h : (l.map (·.1)).Nodup) : ((putL l c r).map (·.1)).Nodup ∧ ∀ k, k ∈ (putL l c r).map (·.1) ↔ k = c ∨ k ∈ l.map (·.1) := by
 induction l with
 | nil => exact ⟨by simp [putL], fun k => by simp [putL]⟩
 | cons p l ih =>
   obtain ⟨k0, u⟩ := p
   have h2 := List.nodup_cons.1 h
   obtain ⟨i1, i2⟩ := ih h2.2
   unfold putL
   by_cases e : k0 = c
   · rw [if_pos e]
     refine ⟨by rw [List.map_cons, ← e]; exact h, fun k => ?_⟩
     simp only [List.map_cons, List.mem_cons, e]
     constructor
     · intro q; rcases q with q | q
       · exact .inl q
       · exact .inr (.inr q)
     · intro q; rcases q with q | q | q
       · exact .inl q
       · exact .inl q
       · exact .inr q
   · rw [if_neg e]
     refine ⟨List.nodup_cons.2 ⟨fun hm => ?_, i1⟩, fun k => ?_⟩
     · rcases (i2 k0).1 hm with q | q
       · exact e q
       · exact h2.1 q
     · simp only [List.map_cons, List.mem_cons]
       have := i2 k
       simp only [List.mem_map] at this ⊢
       constructor
       · rintro (q | q)
         · exact .inr (.inl q)
         · rcases this.1 q with q | q
           · exact .inl q
           · exact .inr (.inr q)
       · rintro (q | q | q)
         · exact .inr (this.2 (.inl q))
         · exact .inl q
         · exact .inr (this.2 (.inr q))
theorem rel_step {l : L2} {n : Int} {rows rows' : List RR} (h : relF l n rows) {own c : ByteArray} {at_ nano : Int} (hs : refStep own rows c at_ nano rows') : relF (setR own l n c at_ nano).1 (setR own l n c at_ nano).2 rows' := by
 have hE := setE_eq h own c at_ nano
 unfold setR
 rcases hs with ⟨h1, rfl⟩ | ⟨h1, k, hk, rfl⟩
 · rw [if_neg (by rw [hE]; exact h1)]; exact h
 · rw [if_pos (by rw [hE]; exact h1)]
   have hnl : ¬ late rows c at_ := fun hl => by
    unfold refE at h1
    split at h1
    · cases h1
    · split at h1
      · cases h1
      · first | (rw [if_pos hl] at h1; cases h1) | cases h1 | exact absurd h1 (by decide)
   obtain ⟨hkl, hk1, hk2⟩ := hk
   have htd := List.take_append_drop k rows
   have hpw := h.sort
   rw [← htd] at hpw
   obtain ⟨hp1, hp2, hp3⟩ := List.pairwise_append.1 hpw
   have hdr : ∀ y ∈ rows.drop k, leS y.1 c = false := fun y hy => by
    obtain ⟨j, hj, rfl⟩ := List.mem_iff_getElem.1 hy
    rw [List.length_drop] at hj
    rw [List.getElem_drop]
    exact hk2 (k + j) (by omega) (by omega) _ (List.getElem?_eq_getElem (by omega))
   have htk : ∀ y ∈ rows.take k, leS y.1 c = true := fun y hy => by
    rcases hk1 with rfl | ⟨z, hz, hzc⟩
    · simp at hy
    · obtain ⟨j, hj, rfl⟩ := List.mem_iff_getElem.1 hy
      rw [List.length_take] at hj
      rw [List.getElem_take]
      obtain ⟨hz1, rfl⟩ := List.getElem?_eq_some_iff.1 hz
      by_cases e : j = k - 1
      · subst e; exact hzc
      · exact leS_trans (List.pairwise_iff_getElem.1 h.sort j (k - 1) (by omega) hz1 (by omega)) hzc
   have hof : ∀ d, ofC d rows = ofC d (rows.take k) ++ ofC d (rows.drop k) := fun d => by unfold ofC; rw [← List.filter_append, htd]
   have hcd : ofC c (rows.drop k) = [] := by
    unfold ofC
    rw [List.filter_eq_nil_iff]
    intro y hy e
    have h2 := hdr y hy
    rw [show y.1 = c by simpa using e, leS_refl] at h2; cases h2
   have hfirst : ∀ x ∈ rowsOf l c, x.1 < at_ := fun x hx => by
    rw [← h.same c] at hx
    obtain ⟨y, hy, rfl⟩ := List.mem_map.1 hx
    have hy2 := List.mem_filter.1 hy
    rcases Int.lt_or_le y.2.1 at_ with q | q
    · exact q
    · exact absurd ⟨y, hy2.1, by simpa using hy2.2, q⟩ hnl
   refine ⟨(putL_keys l c _ h.keys).1, fun d => ?_, ?_, fun d => ?_, ?_, by have := h.few; have := putL_len c (rowsOf l c ++ [(at_, nano)]) l; simp only; omega⟩
   · rw [rowsOf_put]
     have e1 : ofC d (rows.take k ++ (c, at_, nano) :: rows.drop k) = ofC d (rows.take k) ++ (if c = d then [(c, at_, nano)] else []) ++ ofC d (rows.drop k) := by
      unfold ofC
      rw [List.filter_append, List.filter_cons, List.append_assoc]
      by_cases e : c = d
      · simp [e]
      · simp [e]
     rw [e1]
     by_cases e : c = d
     · subst e
       rw [if_pos rfl, if_pos rfl, hcd, List.append_nil, List.map_append, ← h.same c, hof c, hcd, List.append_nil]; rfl
     · rw [if_neg e, if_neg e, List.append_nil, ← hof d, h.same d]
   · refine List.pairwise_append.2 ⟨hp1, List.pairwise_cons.2 ⟨fun y hy => leS_total (hdr y hy), hp2⟩, fun x hx y hy => ?_⟩
     rcases List.mem_cons.1 hy with rfl | hy
     · exact htk x hx
     · exact hp3 x hx y hy
   · rw [rowsOf_put]
     by_cases e : c = d
     · rw [if_pos e]
       exact List.pairwise_append.2 ⟨h.rise c, List.pairwise_singleton _ _, fun x hx y hy => by obtain rfl := List.mem_singleton.1 hy; exact hfirst x hx⟩
     · rw [if_neg e]; exact h.rise d
   · have := h.num
     simp only [List.length_append, List.length_cons, List.length_take, List.length_drop]
     omega
def outF (rows : List RR) (c : ByteArray) (at_ : Int) : Int := rows.foldl (fun o x => if x.1 = c ∧ x.2.1 ≤ at_ then x.2.2 else o) 0
def rgetF (own : ByteArray) (rows : List RR) (c : ByteArray) (at_ : Int) : Int × Int :=
 if refS c < 0 then (0, 18) else if ¬ inst at_ then (0, 6) else if c = own then (1000000000, 0) else if outF rows c at_ = 0 then (0, 28) else (outF rows c at_, 0)
theorem fold_find {α : Type} (p : α → Bool) (f : α → Int) (l : List α) : ∀ o, l.foldl (fun o x => if p x = true then f x else o) o = match l.reverse.find? p with | some x => f x | none => o := by
 induction l with
 | nil => intro o; rfl
 | cons a r ih =>
   intro o
   rw [List.foldl_cons, ih, List.reverse_cons, List.find?_append]
   cases hr : r.reverse.find? p with
   | some x => rfl
   | none =>
     by_cases hp : p a = true
     · rw [if_pos hp]; simp [hp]
     · rw [if_neg hp]; simp [hp]
theorem outF_eq {l : L2} {n : Int} {rows : List RR} (h : relF l n rows) (c : ByteArray) (at_ : Int) : outF rows c at_ = match lastLe (rowsOf l c) at_ with | some x => x.2 | none => 0 := by
 unfold outF lastLe
 have e1 : ∀ (r : List RR) (o : Int), r.foldl (fun o x => if x.1 = c ∧ x.2.1 ≤ at_ then x.2.2 else o) o = ((ofC c r).map (·.2)).foldl (fun o x => if decide (x.1 ≤ at_) = true then x.2 else o) o := by
  intro r
  induction r with
  | nil => intro o; rfl
  | cons a r ih =>
    intro o
    unfold ofC at ih ⊢
    rw [List.foldl_cons, List.filter_cons]
    by_cases hc : a.1 = c
    · have e2 : decide (a.1 = c) = true := by simpa using hc
      rw [if_pos e2, List.map_cons, List.foldl_cons, ih]
      congr 1
      simp [hc]
    · have e2 : ¬ decide (a.1 = c) = true := by simpa using hc
      rw [if_neg e2, ih]
      congr 1
      simp [hc]
 rw [e1, h.same c, fold_find]
 cases List.find? (fun x => decide (x.1 ≤ at_)) (rowsOf l c).reverse <;> rfl
theorem get_eq {l : L2} {n : Int} {rows : List RR} (h : relF l n rows) (hb : nanoOK l) (own c : ByteArray) (at_ : Int) : getF own l c at_ = rgetF own rows c at_ := by
 have hs := refS_neg c
 have ho := outF_eq h c at_
 unfold getF rgetF
 by_cases h2 : (scaleR c).2 ≠ 0
 · have ha : askF c at_ = 18 := by unfold askF; rw [if_pos h2]
   rw [ha, if_pos (by decide), if_pos (hs.2 h2)]
 · rw [if_neg (fun e => h2 (hs.1 e)) (c := refS c < 0)]
   by_cases h3 : inst at_
   · have ha : askF c at_ = 0 := by unfold askF; rw [if_neg h2, if_neg (fun e => e h3)]
     rw [ha, if_neg (show ¬ ((0 : Int) ≠ 0) from fun e => e rfl), if_neg (fun e => e h3) (c := ¬ inst at_)]
     by_cases h4 : c = own
     · rw [if_pos h4, if_pos h4]
     · rw [if_neg h4, if_neg h4]
       cases hl : lastLe (rowsOf l c) at_ with
       | none => rw [hl] at ho; simp only at ho; rw [if_pos ho]
       | some x =>
         rw [hl] at ho
         simp only at ho
         have hm := List.mem_reverse.1 (List.mem_of_find?_eq_some hl)
         have := hb c x hm
         rw [if_neg (by omega), ho]
   · have ha : askF c at_ = 6 := by unfold askF; rw [if_neg h2, if_pos h3]
     rw [ha, if_pos (by decide), if_pos h3]
set_option maxRecDepth 100000 in
theorem BigNeg_P (p : Option (Nat × Nat)) (c : Nat) (hp : p = none → c = 0) (x : Int) (hc : (dgs x.natAbs).length ≤ c) (hx : (dgs x.natAbs).length ≤ 1000000) (w0 : World) (h : RowP p 1 ((dgs x.natAbs).map encD) w0) (hb : ∀ r, p = some r → r.1 < w0.heap.size) :
 NewC Tryz.prog 64 [bigV x p c] w0 (fun r : At (-x) => bigV (-x) (some (r.1.1, 0)) r.1.2) (fun r => bigA (-x) r.1.1) := by
 refine c_enter [(0, bigV x p c)] [oneA p (dgs x.natAbs)] noB Tryz.func64 rfl Tryz.ntmps64 ⟨rfl, trivial⟩ rfl (by intro X hX; obtain rfl := List.mem_singleton.1 hX; exact ok_rowP h hb) (by simp) (by intro X hX hm; obtain rfl := List.mem_singleton.1 hX; cases hm) ?_
 intro a hS
 refine cS (cR ?_)
 refine L_op (s_boxA hS rfl rfl ?_); clear hS a; intro a w b1 hS
 refine L_op (s_alloc hS ty_z139 rfl ?_); clear hS a; intro a w b2 hS
 refine nL (nT (cS (cR ?_)))
 refine Rn hS (.c (e_fa0 rfl ty_fo139_0) <| .c (e_load rfl (by repeat constructor) ty_sc4 (by rfl)) <| .c (e_not rfl) <| .c (e_fa0 rfl ty_fo139_1) <| .c (e_load rfl (by repeat constructor) ty_sc137 (by rfl)) .n) ?_; clear hS a; intro a hS
 have hT := trim_P (!decide (x < 0)) p c hp (dgs x.natAbs) (inR_dgs _) hc hx w (hS.get (X := oneA p (dgs x.natAbs)) (by repeat (first | exact .head _ | refine .tail _ ?_))) (fun q hq => (hS.ok (oneA p (dgs x.natAbs)) (by repeat (first | exact .head _ | refine .tail _ ?_))).lt q.1 ⟨q.2, hq⟩)
 rw [show sgn (!decide (x < 0)) (nv (dgs x.natAbs)) = -x by rw [nv_dgs]; unfold sgn; by_cases hneg : x < 0 <;> simp [hneg] <;> omega] at hT
 refine L_op (s_callN hS (.cons rfl (.cons rfl .nil)) cf100 rfl (hT) ?_); clear hS a; intro x8 a w hS
 refine L_op (s_storeA hS rfl rfl ty_sz139 (by repeat constructor) (by rfl) (by rfl) (by rfl) ?_); clear hS; intro w hS
 refine nL (nT (wp_ret ?_))
 refine c_ret1 hS Tryz.results64 (.cellA rfl (by repeat constructor) ty_st139 ty_sz139 (by rfl)) ?_
 exact ⟨x8, rfl, hS.chg, hS.new (X := bigA (-x) x8.1.1) (by repeat (first | exact .head _ | refine .tail _ ?_)) rfl⟩
set_option maxRecDepth 100000 in
theorem BigSub_P (p q : Option (Nat × Nat)) (c1 c2 : Nat) (hq0 : q = none → c2 = 0) (x y : Int) (hc : (dgs y.natAbs).length ≤ c2) (N : Nat) (hN : N ≤ 100000) (hx : (dgs x.natAbs).length ≤ N) (hy : (dgs y.natAbs).length ≤ N) (w0 : World) (h : (twoA p q (dgs x.natAbs) (dgs y.natAbs)).ok w0) :
 NewC Tryz.prog 61 [bigV x p c1, bigV y q c2] w0 (fun r : At (x - y) => bigV (x - y) (some (r.1.1, 0)) r.1.2) (fun r => bigA (x - y) r.1.1) := by
 have hny : (-y).natAbs = y.natAbs := by omega
 refine c_enter [(0, bigV x p c1), (1, bigV y q c2)] [twoA p q (dgs x.natAbs) (dgs y.natAbs)] noB Tryz.func61 rfl Tryz.ntmps61 ⟨rfl, rfl, trivial⟩ rfl (by intro X hX; obtain rfl := List.mem_singleton.1 hX; exact h) (by simp) (by intro X hX hm; obtain rfl := List.mem_singleton.1 hX; cases hm) ?_
 intro a hS
 refine cS (cR ?_)
 refine L_op (s_boxA hS rfl rfl ?_); clear hS a; intro a w b2 hS
 refine L_op (s_boxA hS rfl rfl ?_); clear hS a; intro a w b3 hS
 refine L_op (s_alloc hS ty_z139 rfl ?_); clear hS a; intro a w b4 hS
 refine nL (nT (cS ?_))
 refine c_drawS [4] (by kernel_rfl) hS (sub_cons (X := .blk b2 _ _) (by repeat constructor) (sub_cons (X := .blk b3 _ _) (by repeat constructor) sub_nil)) ?_; clear hS; intro w hS
 simp only [List.length_cons, List.length_nil, Nat.zero_add, Nat.reduceAdd, List.replicate]
 refine Rz hS (sub_cons (by repeat constructor) (sub_cons (by repeat constructor) sub_nil)) (.y 0 (tf 1 4) rfl wN (e_loadA rfl (by repeat constructor) ty_st139 ty_sz139 (by rfl)) rfl <| .y 1 (tf 2 3) rfl wN (e_loadA rfl (by repeat constructor) ty_st139 ty_sz139 (by rfl)) rfl .n) ?_; clear hS a; intro a hS
 refine Zo 2 (tf 3 2) hS rfl wN rfl (s_callN hS (.cons rfl .nil) cf64 rfl (BigNeg_P q c2 hq0 y hc (by omega) _ (hS.get (X := twoA p q _ _) (by repeat (first | exact .head _ | refine .tail _ ?_))).2 (fun r e => (hS.ok (twoA p q _ _) (by repeat (first | exact .head _ | refine .tail _ ?_))).lt r.1 (.inr ⟨r.2, e⟩))) ?_); clear hS a; intro x7 a w hS
 refine Z_and hS (sub_cons (by repeat constructor) (sub_cons (by repeat constructor) sub_nil)) ?_
 have hT := BigAdd_P p (some (x7.1.1, 0)) c1 x7.1.2 x (-y) N hN hx (by rw [hny]; exact hy) w (two_ok (hS.get (X := twoA p q _ _) (by repeat (first | exact .head _ | refine .tail _ ?_))).1 (hS.get (X := bigA (-y) x7.1.1) (by repeat (first | exact .head _ | refine .tail _ ?_))) (fun r e => (hS.ok (twoA p q _ _) (by repeat (first | exact .head _ | refine .tail _ ?_))).lt r.1 (.inl ⟨r.2, e⟩)) (fun r e => by cases e; exact (hS.ok (bigA (-y) x7.1.1) (by repeat (first | exact .head _ | refine .tail _ ?_))).lt x7.1.1 rfl))
 rw [show x + -y = x - y by omega] at hT
 refine Zo 3 (tf 4 1) hS rfl wN rfl (s_callN hS (.cons rfl (.cons rfl .nil)) cf63 rfl (hT) ?_); clear hS a; intro x8 a w hS
 refine Z_and hS (sub_cons (by repeat constructor) (sub_cons (by repeat constructor) sub_nil)) ?_
 refine Zo 4 (tf 5 0) hS rfl wN rfl (s_storeA hS rfl rfl ty_sz139 (by repeat constructor) (by rfl) (by rfl) (by rfl) ?_); clear hS; intro w hS
 refine Z_last (by simp) ?_
 refine Z_done (by kernel_rfl) ?_
 refine nT (wp_ret ?_)
 refine c_ret1 hS Tryz.results61 (.cellA rfl (by repeat constructor) ty_st139 ty_sz139 (by rfl)) ?_
 exact ⟨x8, rfl, hS.chg, hS.new (X := bigA (x - y) x8.1.1) (by repeat (first | exact .head _ | refine .tail _ ?_)) rfl⟩
theorem wrap_u64 {m : Int} (h : 0 ≤ m ∧ m ≤ 18446744073709551615) : IntKind.u64.wrap m = m := IntWalk.u64_in _ (by omega)
theorem nv_set {l : List Int} {i : Nat} {d : Int} (v : Int) (h : l[i]? = some d) : nv (l.set i v) = nv l + 10000 ^ i * (v - d) := by
 induction l generalizing i with
 | nil => cases h
 | cons e r ih =>
   cases i with
   | zero => cases h; simp only [List.set_cons_zero, nv, Int.pow_zero]; omega
   | succ i =>
     have := ih (i := i) (by simpa using h)
     simp only [List.set_cons_succ, nv, this, Int.pow_succ]
     rw [Int.mul_add, Int.mul_comm (10000 ^ i) 10000, Int.mul_assoc]; omega
theorem inR_set {l : List Int} (h : inR l) {i : Nat} {v : Int} (hv : 0 ≤ v ∧ v ≤ 9999) : inR (l.set i v) := by
 intro d hd
 rcases List.mem_or_eq_of_mem_set hd with hd | rfl
 · exact h d hd
 · exact hv
theorem gd_set {l : List Int} {i j : Nat} {v : Int} (h : j ≠ i) : gd (l.set i v) j = gd l j := by
 unfold gd; rw [List.getElem?_set_ne (by omega)]
theorem gd_zeros (n j : Nat) : gd (List.replicate n 0) j = 0 := by
 unfold gd; rw [List.getElem?_replicate]; split <;> rfl
theorem nv_zeros (n : Nat) : nv (List.replicate n 0) = 0 := by
 induction n with
 | zero => rfl
 | succ n ih => rw [List.replicate_succ, nv, ih]; rfl
theorem inR_zeros (n : Nat) : inR (List.replicate n 0) := by
 intro d hd
 obtain rfl := (List.mem_replicate.1 hd).2
 decide
theorem zeros_flat (n : Nat) : List.replicate n (Value.int .i64 0) = (List.replicate n (0 : Int)).flatMap encD := by
 induction n with
 | zero => rfl
 | succ n ih => rw [List.replicate_succ, List.replicate_succ, List.flatMap_cons, ← ih]; rfl
theorem nv_take_succ (ys : List Int) (k : Nat) : nv (ys.take (k + 1)) = nv (ys.take k) + 10000 ^ k * gd ys k := by
 unfold gd
 rw [List.take_add_one]
 cases h : ys[k]? with
 | none => simp
 | some d =>
   have := (List.getElem?_eq_some_iff.1 h).1
   simp only [Option.toList, Option.getD]
   rw [nv_snoc, List.length_take, Nat.min_eq_left (by omega)]
theorem mul_bd {a b : Int} (ha : 0 ≤ a ∧ a ≤ 9999) (hb : 0 ≤ b ∧ b ≤ 9999) : 0 ≤ a * b ∧ a * b ≤ 99980001 :=
 ⟨Int.mul_nonneg ha.1 hb.1, Int.mul_le_mul ha.2 hb.2 hb.1 (by decide)⟩
theorem mul_step {nD V0 a b c d x Q R T : Int} (h : nD + Q * R * c = V0 + a * Q * T) (hx : x = d + c + a * b) : (nD + Q * R * (x % 10000 - d)) + Q * R * 10000 * (x / 10000) = V0 + a * Q * (T + R * b) := by
 have e : x % 10000 = x - 10000 * (x / 10000) := by omega
 rw [e]
 generalize x / 10000 = q
 subst hx
 grind
theorem mul_end {nD V0 a Q T S : Int} (h : nD + S * 0 = V0 + a * Q * T) {A : Int} (hV : V0 = A * T) : nD = (A + Q * a) * T := by
 grind
theorem sgn_mul (x y : Int) : sgn (decide (decide (x < 0) ≠ decide (y < 0))) ((x.natAbs : Int) * y.natAbs) = x * y := by
 have hx : (x.natAbs : Int) = if x < 0 then -x else x := by split <;> omega
 have hy : (y.natAbs : Int) = if y < 0 then -y else y := by split <;> omega
 rw [hx, hy]
 unfold sgn
 by_cases h1 : x < 0 <;> by_cases h2 : y < 0 <;> simp [h1, h2, Int.neg_mul, Int.mul_neg]
theorem dig_set {D : List Int} {i : Nat} {d v : Int} (hd : D[i]? = some d) : (D.flatMap encD).set (0 + i * 1) (.int .i64 v) = (D.set i v).flatMap encD := by
 rw [Nat.zero_add]
 exact flat_set encD 1 (fun _ => rfl) D i d v 0 (.int .i64 v) hd (by decide) rfl
theorem own_dig {Γ : List Asn} {g c n : Nat} {l : List Int} (hm : ownA 3 1 (.slice (some ⟨g, 0, none⟩) n c) n (l.flatMap encD) ∈ Γ) {i : Nat} {d : Int} (hd : l[i]? = some d) : ∀ w, Hd Γ w → w.cell? ⟨g, 0 + i * 1, none⟩ = some (.int .i64 d) := by
 intro w hh
 have h : w.ownsRow 0 3 1 (.slice (some ⟨g, 0, none⟩) n c) n (l.flatMap encD) := hh _ hm
 have := row_of_own (enc := encD) (fun _ => rfl) h i (encD d) (by simp [hd]) 0 (.int .i64 d) rfl
 simpa using this
set_option maxHeartbeats 1000000 in
set_option maxRecDepth 100000 in
theorem BigMul_P (p q : Option (Nat × Nat)) (c1 c2 : Nat) (x y : Int) (hx : (dgs x.natAbs).length ≤ 100000) (hy : (dgs y.natAbs).length ≤ 100000) (w0 : World) (h : (twoA p q (dgs x.natAbs) (dgs y.natAbs)).ok w0) :
 NewC Tryz.prog 132 [bigV x p c1, bigV y q c2] w0 (fun r : At (x * y) => bigV (x * y) (some (r.1.1, 0)) r.1.2) (fun r => bigA (x * y) r.1.1) := by
 have hp := h.now.1
 have hq := h.now.2
 have inx := inR_dgs x.natAbs
 have iny := inR_dgs y.natAbs
 refine c_enter [(0, bigV x p c1), (1, bigV y q c2)] [twoA p q (dgs x.natAbs) (dgs y.natAbs)] noB Tryz.func132 rfl Tryz.ntmps132 ⟨rfl, rfl, trivial⟩ rfl (by intro X hX; obtain rfl := List.mem_singleton.1 hX; exact h) (by simp) (by intro X hX hm; obtain rfl := List.mem_singleton.1 hX; cases hm) ?_
 intro a hS
 refine cS (cR ?_)
 refine L_op (s_boxA hS rfl rfl ?_); clear hS a; intro a w b2 hS
 refine L_op (s_boxA hS rfl rfl ?_); clear hS a; intro a w b3 hS
 refine L_op (s_alloc hS ty_z139 rfl ?_); clear hS a; intro a w b4 hS
 refine nL (nT (cS (cR ?_)))
 refine Rn hS (.c (e_fa0 rfl ty_fo139_1) <| .c (e_load rfl (by repeat constructor) ty_sc137 (by rfl)) <| .c (e_len rfl rfl ty_sl137) <| .c (e_fa0 rfl ty_fo139_1) <| .c (e_load rfl (by repeat constructor) ty_sc137 (by rfl)) <| .c (e_len rfl rfl ty_sl137) <| .c (e_binN rfl rfl rfl (by omega)) <| .c (e_binN rfl rfl rfl (by omega)) .n) ?_; clear hS a; intro a hS
 refine L_op (s_makeN1 (c := (dgs x.natAbs).length + (dgs y.natAbs).length + 1) hS rfl rfl ty_sl137 ty_sz3 ty_by3 ty_z3 rfl (by omega) ?_); clear hS a; intro b18 a w hS; rw [zeros_flat] at hS
 refine L_e hS (e_assign rfl) rfl ?_; clear hS a; intro a hS
 refine nL (nT (cS (cS (cR ?_))))
 refine L_e hS (e_assign rfl) rfl ?_; clear hS a; intro a hS
 refine nL (nT (wB ?_))
 skip
 refine c_loop (γ := (Nat × List Int)) (fun G a w => St 79 noB w0 a w [(6, .int .i64 (G.1 : Int)), (5, .slice (some ⟨b18, 0, none⟩) ((dgs x.natAbs).length + (dgs y.natAbs).length + 1) ((dgs x.natAbs).length + (dgs y.natAbs).length + 1)), (2, .pointer (some ⟨b2, 0, none⟩)), (3, .pointer (some ⟨b3, 0, none⟩)), (4, .pointer (some ⟨b4, 0, none⟩))] [ownA 3 1 (.slice (some ⟨b18, 0, none⟩) ((dgs x.natAbs).length + (dgs y.natAbs).length + 1) ((dgs x.natAbs).length + (dgs y.natAbs).length + 1)) ((dgs x.natAbs).length + (dgs y.natAbs).length + 1) (G.2.flatMap encD), .blk b4 [.bool false, .slice none 0 0] 139, .blk b3 [.bool (decide (y < 0)), sliceV q (dgs y.natAbs).length c2] 139, .blk b2 [.bool (decide (x < 0)), sliceV p (dgs x.natAbs).length c1] 139, twoA p q (dgs x.natAbs) (dgs y.natAbs)] ∧ G.1 ≤ (dgs x.natAbs).length ∧ G.2.length = (dgs x.natAbs).length + (dgs y.natAbs).length + 1 ∧ inR G.2 ∧ (∀ j, G.1 + (dgs y.natAbs).length ≤ j → gd G.2 j = 0) ∧ nv G.2 = nv ((dgs x.natAbs).take G.1) * nv (dgs y.natAbs)) (fun G => (dgs x.natAbs).length - G.1) (0, List.replicate ((dgs x.natAbs).length + (dgs y.natAbs).length + 1) 0) ⟨hS.slots ⟨rfl, rfl, rfl, rfl, rfl, trivial⟩, Nat.zero_le _, by simp, inR_zeros _, fun j _ => gd_zeros _ _, by rw [nv_zeros, List.take_zero]; simp [nv]⟩ ?_
 clear hS a; intro G a w hI
 obtain ⟨i, D0⟩ := G
 obtain ⟨hS, hi, hlD0, hinD0, hzD0, hvD0⟩ := hI
 simp only at hS hi hlD0 hinD0 hzD0 hvD0
 refine cS (cS (cR ?_))
 refine Rn hS (.m rfl <| .c (e_fa0 rfl ty_fo139_1) <| .c (e_load rfl (by repeat constructor) ty_sc137 (by rfl)) <| .c (e_len rfl rfl ty_sl137) <| .c (e_bin rfl rfl rfl) .n) ?_; clear hS a; intro a hS
 refine nL (nT ?_)
 refine c_ifD hS rfl (fun hc23 => ?_) (fun hc23 => ?_)
 ·
  obtain ⟨ax, hax⟩ : ∃ d, (dgs x.natAbs)[i]? = some d := ⟨(dgs x.natAbs)[i]'(by omega), List.getElem?_eq_getElem (by omega)⟩
  obtain ⟨bp, op, rfl⟩ := two_pos hp (fun e => by rw [e] at hax; cases hax)
  have hab := inx ax (List.mem_of_getElem? hax)
  refine wS (nT (cS (wB (cS (cR ?_)))))
  refine L_e hS (e_assign rfl) rfl ?_; clear hS a; intro a hS
  refine nL (nT (cS (cR ?_)))
  refine L_e hS (e_assign rfl) rfl ?_; clear hS a; intro a hS
  refine nL (nT (wB ?_))
  skip
  refine c_loop (γ := (Nat × Int × List Int)) (fun G a w => St 79 noB w0 a w [(8, .int .i64 (G.1 : Int)), (7, .int .i64 G.2.1), (6, .int .i64 (i : Int)), (5, .slice (some ⟨b18, 0, none⟩) ((dgs x.natAbs).length + (dgs y.natAbs).length + 1) ((dgs x.natAbs).length + (dgs y.natAbs).length + 1)), (2, .pointer (some ⟨b2, 0, none⟩)), (3, .pointer (some ⟨b3, 0, none⟩)), (4, .pointer (some ⟨b4, 0, none⟩))] [ownA 3 1 (.slice (some ⟨b18, 0, none⟩) ((dgs x.natAbs).length + (dgs y.natAbs).length + 1) ((dgs x.natAbs).length + (dgs y.natAbs).length + 1)) ((dgs x.natAbs).length + (dgs y.natAbs).length + 1) (G.2.2.flatMap encD), .blk b4 [.bool false, .slice none 0 0] 139, .blk b3 [.bool (decide (y < 0)), sliceV q (dgs y.natAbs).length c2] 139, .blk b2 [.bool (decide (x < 0)), sliceV (some (bp, op)) (dgs x.natAbs).length c1] 139, twoA (some (bp, op)) q (dgs x.natAbs) (dgs y.natAbs)] ∧ G.1 ≤ (dgs y.natAbs).length + 1 ∧ (0 ≤ G.2.1 ∧ G.2.1 ≤ 9999) ∧ (G.1 = (dgs y.natAbs).length + 1 → G.2.1 = 0) ∧ G.2.2.length = (dgs x.natAbs).length + (dgs y.natAbs).length + 1 ∧ inR G.2.2 ∧ (∀ j, i + (dgs y.natAbs).length ≤ j → i + G.1 ≤ j → gd G.2.2 j = 0) ∧ nv G.2.2 + 10000 ^ i * 10000 ^ G.1 * G.2.1 = nv D0 + ax * 10000 ^ i * nv ((dgs y.natAbs).take G.1)) (fun G => (dgs y.natAbs).length + 2 - G.1) (0, 0, D0) ⟨hS.slots ⟨rfl, rfl, rfl, rfl, rfl, rfl, rfl, trivial⟩, Nat.zero_le _, (by simp), fun _ => rfl, hlD0, hinD0, fun j h1 _ => hzD0 j h1, by simp [nv]⟩ ?_
  clear hS a; intro G a w hI
  obtain ⟨k, cy, D⟩ := G
  obtain ⟨hS, hk, hcy, hkc, hlD, hinD, hzD, hvD⟩ := hI
  simp only at hS hk hcy hkc hlD hinD hzD hvD
  refine cS (cS (cR ?_))
  refine Rn hS (.m rfl <| .c (e_fa0 rfl ty_fo139_1) <| .c (e_load rfl (by repeat constructor) ty_sc137 (by rfl)) <| .c (e_len rfl rfl ty_sl137) <| .c (e_bin rfl rfl rfl) <| .m rfl .n) ?_; clear hS a; intro a hS
  refine g_splitD (t := 31) hS rfl ?_ ?_ <;> (clear hS; intro hg31 hS)
  ·
   refine Rn hS (.f rfl rfl <| .f rfl rfl <| .c (e_pick_t rfl rfl) .n) ?_; clear hS a; intro a hS
   refine nL (nT ?_)
   refine c_if_t hS rfl ?_
   refine wS (nT (cS (wB (cS (cR ?_)))))
   have hk2 : k ≤ (dgs y.natAbs).length := by
    rcases Nat.lt_or_ge k ((dgs y.natAbs).length + 1) with h1 | h1
    · omega
    · have := hkc (by omega); omega
   have hkn : ((i : Int) + (k : Int)).toNat = i + k := by omega
   obtain ⟨d, hd⟩ : ∃ d, D[i + k]? = some d := ⟨D[i + k]'(by omega), List.getElem?_eq_getElem (by omega)⟩
   have hdb := hinD d (List.mem_of_getElem? hd)
   have hyb := gd_in iny k
   have hm := mul_bd hab hyb
   refine Rn hS (.m rfl <| .m rfl <| .m rfl <| .c (e_binN rfl rfl rfl (by omega)) <| .c (e_ix rfl rfl ty_sl137 ty_sz3 (by omega)) <| .c (e_loadC rfl ty_sc3 (fun w hh => by rw [hkn]; exact own_dig (by repeat (first | exact .head _ | refine .tail _ ?_)) hd w hh)) <| .m rfl <| .c (e_binN rfl rfl rfl (by omega)) <| .a rfl .n) ?_; clear hS a; intro a hS
   refine nL (nT ?_)
   refine c_cut (fun a w => ∃ xx : Int, St 79 noB w0 a w [(9, .int .i64 xx), (8, .int .i64 (k : Int)), (7, .int .i64 cy), (6, .int .i64 (i : Int)), (5, .slice (some ⟨b18, 0, none⟩) ((dgs x.natAbs).length + (dgs y.natAbs).length + 1) ((dgs x.natAbs).length + (dgs y.natAbs).length + 1)), (2, .pointer (some ⟨b2, 0, none⟩)), (3, .pointer (some ⟨b3, 0, none⟩)), (4, .pointer (some ⟨b4, 0, none⟩))] [ownA 3 1 (.slice (some ⟨b18, 0, none⟩) ((dgs x.natAbs).length + (dgs y.natAbs).length + 1) ((dgs x.natAbs).length + (dgs y.natAbs).length + 1)) ((dgs x.natAbs).length + (dgs y.natAbs).length + 1) (D.flatMap encD), .blk b4 [.bool false, .slice none 0 0] 139, .blk b3 [.bool (decide (y < 0)), sliceV q (dgs y.natAbs).length c2] 139, .blk b2 [.bool (decide (x < 0)), sliceV (some (bp, op)) (dgs x.natAbs).length c1] 139, twoA (some (bp, op)) q (dgs x.natAbs) (dgs y.natAbs)] ∧ xx = d + cy + ax * gd (dgs y.natAbs) k) ?_ ?_
   ·
    refine cS (cR ?_)
    refine Rn hS (.m rfl <| .c (e_fa0 rfl ty_fo139_1) <| .c (e_load rfl (by repeat constructor) ty_sc137 (by rfl)) <| .c (e_len rfl rfl ty_sl137) <| .c (e_bin rfl rfl rfl) .n) ?_; clear hS a; intro a hS
    refine nL (nT ?_)
    refine c_ifD hS rfl (fun hc49 => ?_) (fun hc49 => ?_)
    ·
     obtain ⟨e, he⟩ : ∃ d, (dgs y.natAbs)[k]? = some d := ⟨(dgs y.natAbs)[k]'(by omega), List.getElem?_eq_getElem (by omega)⟩
     obtain ⟨bq, oq, rfl⟩ := two_pos hq (fun e => by rw [e] at he; cases he)
     have hgd : gd (dgs y.natAbs) k = e := by unfold gd; rw [he]; rfl
     rw [hgd] at hm hyb
     refine c_draw1 [] (by kernel_rfl) hS ?_; clear hS; intro w hS
     simp only [List.length_cons, List.length_nil, Nat.zero_add, Nat.reduceAdd, List.replicate]
     refine Rz hS (by intro X hX; repeat (first | exact hX | apply List.Mem.tail)) (.o 0 (tf 1 13) rfl wN (e_move rfl) rfl <| .o 1 (tf 2 12) rfl wN (e_fa0 rfl ty_fo139_1) rfl <| .y 2 (tf 3 11) rfl wN (e_load rfl (by repeat constructor) ty_sc137 (by rfl)) rfl <| .o 3 (tf 4 10) rfl wN (e_move rfl) rfl <| .o 4 (tf 5 9) rfl wN (e_ixN rfl rfl ty_sl137 ty_sz3 (by omega)) rfl <| .y 5 (tf 6 8) rfl wN (e_loadC rfl ty_sc3 (two_l (by repeat (first | exact .head _ | refine .tail _ ?_)) hax)) rfl <| .o 6 (tf 7 7) rfl wN (e_fa0 rfl ty_fo139_1) rfl <| .y 7 (tf 8 6) rfl wN (e_load rfl (by repeat constructor) ty_sc137 (by rfl)) rfl <| .o 8 (tf 9 5) rfl wN (e_move rfl) rfl <| .o 9 (tf 10 4) rfl wN (e_ixN rfl rfl ty_sl137 ty_sz3 (by omega)) rfl <| .y 10 (tf 11 3) rfl wN (e_loadC rfl ty_sc3 (two_r (by repeat (first | exact .head _ | refine .tail _ ?_)) he)) rfl <| .o 11 (tf 12 2) rfl wN (e_binN rfl rfl rfl (by omega)) rfl <| .o 12 (tf 13 1) rfl wN (e_binN rfl rfl rfl (by omega)) rfl <| .o 13 (tf 14 0) rfl wN (e_assign rfl) rfl .n) ?_; clear hS a; intro a hS
     refine Z_done (by kernel_rfl) ?_
     exact ⟨_, hS.slots (by exact ⟨rfl, rfl, rfl, rfl, rfl, rfl, rfl, rfl, trivial⟩), by rw [hgd]; try omega⟩
    have hgd : gd (dgs y.natAbs) k = 0 := by unfold gd; rw [List.getElem?_eq_none (by omega)]; rfl
    refine wS ?_
    exact ⟨_, hS.slots (by exact ⟨rfl, rfl, rfl, rfl, rfl, rfl, rfl, rfl, trivial⟩), by rw [hgd]; try omega⟩
   clear hS a; intro a w hS
   obtain ⟨xx, hS, hxx⟩ := hS
   have hs2 := mul_step hvD hxx
   refine cS (cR ?_)
   refine Rn hS (.m rfl <| .m rfl <| .m rfl <| .c (e_binN rfl rfl rfl (by omega)) <| .m rfl <| .c (e_remN rfl rfl (by omega)) <| .c (e_ix rfl rfl ty_sl137 ty_sz3 (by omega)) .n) ?_; clear hS a; intro a hS
   refine L_op (s_storeO hS rfl rfl rfl ty_sz3 (by repeat (first | apply Rep.head | apply Rep.tail)) (by omega) ?_); clear hS; intro w hS; rw [hkn, dig_set hd] at hS
   refine nL (nT (cR ?_))
   refine Rn hS (.m rfl <| .c (e_quoN rfl rfl (by omega)) <| .a rfl .n) ?_; clear hS a; intro a hS
   refine nL (n_block (nT (cR ?_)))
   refine Rn hS (.m rfl <| .c (e_binN rfl rfl rfl (by omega)) <| .a rfl .n) ?_; clear hS a; intro a hS
   refine nL ?_
   refine ⟨(k + 1, xx / 10000, D.set (i + k) (xx % 10000)), by simp only; omega, hS.slots (by exact ⟨rfl, rfl, rfl, rfl, rfl, rfl, rfl, trivial⟩), by simp only; omega, by simp only; omega, fun h1 => ?_, by simp only [List.length_set]; exact hlD, inR_set hinD (by omega), fun j h1 h2 => ?_, ?_⟩
   · simp only at h1 ⊢
     have hz0 := hzD (i + k) (by omega) (Nat.le_refl _)
     have hd0 : d = 0 := by rw [gd, hd] at hz0; exact hz0
     have hg0 : gd (dgs y.natAbs) k = 0 := by unfold gd; rw [List.getElem?_eq_none (by omega)]; rfl
     rw [hg0, Int.mul_zero] at hxx
     omega
   · simp only at h1 h2 ⊢
     rw [gd_set (by omega)]
     exact hzD j h1 (by omega)
   · simp only
     rw [nv_set _ hd, nv_take_succ, Int.pow_add, Int.pow_succ, ← hs2, ← Int.mul_assoc]
  refine Rn hS (.g rfl rfl (e_move rfl) <| .g rfl rfl (e_bin rfl rfl rfl) <| .c (e_pick_f rfl rfl) .n) ?_; clear hS a; intro a hS
  refine nL (nT ?_)
  refine c_ifD hS rfl (fun hc34 => ?_) (fun hc34 => ?_)
  ·
   refine wS (nT (cS (wB (cS (cR ?_)))))
   have hk2 : k ≤ (dgs y.natAbs).length := by
    rcases Nat.lt_or_ge k ((dgs y.natAbs).length + 1) with h1 | h1
    · omega
    · have := hkc (by omega); omega
   have hkn : ((i : Int) + (k : Int)).toNat = i + k := by omega
   obtain ⟨d, hd⟩ : ∃ d, D[i + k]? = some d := ⟨D[i + k]'(by omega), List.getElem?_eq_getElem (by omega)⟩
   have hdb := hinD d (List.mem_of_getElem? hd)
   have hyb := gd_in iny k
   have hm := mul_bd hab hyb
   refine Rn hS (.m rfl <| .m rfl <| .m rfl <| .c (e_binN rfl rfl rfl (by omega)) <| .c (e_ix rfl rfl ty_sl137 ty_sz3 (by omega)) <| .c (e_loadC rfl ty_sc3 (fun w hh => by rw [hkn]; exact own_dig (by repeat (first | exact .head _ | refine .tail _ ?_)) hd w hh)) <| .m rfl <| .c (e_binN rfl rfl rfl (by omega)) <| .a rfl .n) ?_; clear hS a; intro a hS
   refine nL (nT ?_)
   refine c_cut (fun a w => ∃ xx : Int, St 79 noB w0 a w [(9, .int .i64 xx), (8, .int .i64 (k : Int)), (7, .int .i64 cy), (6, .int .i64 (i : Int)), (5, .slice (some ⟨b18, 0, none⟩) ((dgs x.natAbs).length + (dgs y.natAbs).length + 1) ((dgs x.natAbs).length + (dgs y.natAbs).length + 1)), (2, .pointer (some ⟨b2, 0, none⟩)), (3, .pointer (some ⟨b3, 0, none⟩)), (4, .pointer (some ⟨b4, 0, none⟩))] [ownA 3 1 (.slice (some ⟨b18, 0, none⟩) ((dgs x.natAbs).length + (dgs y.natAbs).length + 1) ((dgs x.natAbs).length + (dgs y.natAbs).length + 1)) ((dgs x.natAbs).length + (dgs y.natAbs).length + 1) (D.flatMap encD), .blk b4 [.bool false, .slice none 0 0] 139, .blk b3 [.bool (decide (y < 0)), sliceV q (dgs y.natAbs).length c2] 139, .blk b2 [.bool (decide (x < 0)), sliceV (some (bp, op)) (dgs x.natAbs).length c1] 139, twoA (some (bp, op)) q (dgs x.natAbs) (dgs y.natAbs)] ∧ xx = d + cy + ax * gd (dgs y.natAbs) k) ?_ ?_
   ·
    refine cS (cR ?_)
    refine Rn hS (.m rfl <| .c (e_fa0 rfl ty_fo139_1) <| .c (e_load rfl (by repeat constructor) ty_sc137 (by rfl)) <| .c (e_len rfl rfl ty_sl137) <| .c (e_bin rfl rfl rfl) .n) ?_; clear hS a; intro a hS
    refine nL (nT ?_)
    refine c_ifD hS rfl (fun hc49 => ?_) (fun hc49 => ?_)
    ·
     obtain ⟨e, he⟩ : ∃ d, (dgs y.natAbs)[k]? = some d := ⟨(dgs y.natAbs)[k]'(by omega), List.getElem?_eq_getElem (by omega)⟩
     obtain ⟨bq, oq, rfl⟩ := two_pos hq (fun e => by rw [e] at he; cases he)
     have hgd : gd (dgs y.natAbs) k = e := by unfold gd; rw [he]; rfl
     rw [hgd] at hm hyb
     refine c_draw1 [] (by kernel_rfl) hS ?_; clear hS; intro w hS
     simp only [List.length_cons, List.length_nil, Nat.zero_add, Nat.reduceAdd, List.replicate]
     refine Rz hS (by intro X hX; repeat (first | exact hX | apply List.Mem.tail)) (.o 0 (tf 1 13) rfl wN (e_move rfl) rfl <| .o 1 (tf 2 12) rfl wN (e_fa0 rfl ty_fo139_1) rfl <| .y 2 (tf 3 11) rfl wN (e_load rfl (by repeat constructor) ty_sc137 (by rfl)) rfl <| .o 3 (tf 4 10) rfl wN (e_move rfl) rfl <| .o 4 (tf 5 9) rfl wN (e_ixN rfl rfl ty_sl137 ty_sz3 (by omega)) rfl <| .y 5 (tf 6 8) rfl wN (e_loadC rfl ty_sc3 (two_l (by repeat (first | exact .head _ | refine .tail _ ?_)) hax)) rfl <| .o 6 (tf 7 7) rfl wN (e_fa0 rfl ty_fo139_1) rfl <| .y 7 (tf 8 6) rfl wN (e_load rfl (by repeat constructor) ty_sc137 (by rfl)) rfl <| .o 8 (tf 9 5) rfl wN (e_move rfl) rfl <| .o 9 (tf 10 4) rfl wN (e_ixN rfl rfl ty_sl137 ty_sz3 (by omega)) rfl <| .y 10 (tf 11 3) rfl wN (e_loadC rfl ty_sc3 (two_r (by repeat (first | exact .head _ | refine .tail _ ?_)) he)) rfl <| .o 11 (tf 12 2) rfl wN (e_binN rfl rfl rfl (by omega)) rfl <| .o 12 (tf 13 1) rfl wN (e_binN rfl rfl rfl (by omega)) rfl <| .o 13 (tf 14 0) rfl wN (e_assign rfl) rfl .n) ?_; clear hS a; intro a hS
     refine Z_done (by kernel_rfl) ?_
     exact ⟨_, hS.slots (by exact ⟨rfl, rfl, rfl, rfl, rfl, rfl, rfl, rfl, trivial⟩), by rw [hgd]; try omega⟩
    have hgd : gd (dgs y.natAbs) k = 0 := by unfold gd; rw [List.getElem?_eq_none (by omega)]; rfl
    refine wS ?_
    exact ⟨_, hS.slots (by exact ⟨rfl, rfl, rfl, rfl, rfl, rfl, rfl, rfl, trivial⟩), by rw [hgd]; try omega⟩
   clear hS a; intro a w hS
   obtain ⟨xx, hS, hxx⟩ := hS
   have hs2 := mul_step hvD hxx
   refine cS (cR ?_)
   refine Rn hS (.m rfl <| .m rfl <| .m rfl <| .c (e_binN rfl rfl rfl (by omega)) <| .m rfl <| .c (e_remN rfl rfl (by omega)) <| .c (e_ix rfl rfl ty_sl137 ty_sz3 (by omega)) .n) ?_; clear hS a; intro a hS
   refine L_op (s_storeO hS rfl rfl rfl ty_sz3 (by repeat (first | apply Rep.head | apply Rep.tail)) (by omega) ?_); clear hS; intro w hS; rw [hkn, dig_set hd] at hS
   refine nL (nT (cR ?_))
   refine Rn hS (.m rfl <| .c (e_quoN rfl rfl (by omega)) <| .a rfl .n) ?_; clear hS a; intro a hS
   refine nL (n_block (nT (cR ?_)))
   refine Rn hS (.m rfl <| .c (e_binN rfl rfl rfl (by omega)) <| .a rfl .n) ?_; clear hS a; intro a hS
   refine nL ?_
   refine ⟨(k + 1, xx / 10000, D.set (i + k) (xx % 10000)), by simp only; omega, hS.slots (by exact ⟨rfl, rfl, rfl, rfl, rfl, rfl, rfl, trivial⟩), by simp only; omega, by simp only; omega, fun h1 => ?_, by simp only [List.length_set]; exact hlD, inR_set hinD (by omega), fun j h1 h2 => ?_, ?_⟩
   · simp only at h1 ⊢
     have hz0 := hzD (i + k) (by omega) (Nat.le_refl _)
     have hd0 : d = 0 := by rw [gd, hd] at hz0; exact hz0
     have hg0 : gd (dgs y.natAbs) k = 0 := by unfold gd; rw [List.getElem?_eq_none (by omega)]; rfl
     rw [hg0, Int.mul_zero] at hxx
     omega
   · simp only at h1 h2 ⊢
     rw [gd_set (by omega)]
     exact hzD j h1 (by omega)
   · simp only
     rw [nv_set _ hd, nv_take_succ, Int.pow_add, Int.pow_succ, ← hs2, ← Int.mul_assoc]
  refine wp_exit ?_
  refine x_then (x_then (x_hit ?_))
  refine n_block (nT (cR ?_))
  refine Rn hS (.m rfl <| .c (e_binN rfl rfl rfl (by omega)) <| .a rfl .n) ?_; clear hS a; intro a hS
  refine nL ?_
  have hcy0 : cy = 0 := by omega
  subst hcy0
  refine ⟨(i + 1, D), by simp only; omega, hS.slots (by exact ⟨rfl, rfl, rfl, rfl, rfl, trivial⟩), by simp only; omega, hlD, hinD, fun j h1 => hzD j (by simp only at h1; omega) (by simp only at h1; omega), ?_⟩
  simp only
  rw [List.take_of_length_le (show (dgs y.natAbs).length ≤ k by omega)] at hvD
  rw [nv_take_succ, show gd (dgs x.natAbs) i = ax by rw [gd, hax]; rfl]
  exact mul_end hvD hvD0
 obtain rfl : i = (dgs x.natAbs).length := by omega
 rw [List.take_length, nv_dgs, nv_dgs] at hvD0
 refine wp_exit ?_
 refine x_then (x_then (x_hit ?_))
 refine nT (cS (cR ?_))
 refine Rn hS (.c (e_fa0 rfl ty_fo139_0) <| .c (e_load rfl (by repeat constructor) ty_sc4 (by rfl)) <| .c (e_fa0 rfl ty_fo139_0) <| .c (e_load rfl (by repeat constructor) ty_sc4 (by rfl)) <| .c (e_binBn rfl rfl ty_u4) <| .m rfl .n) ?_; clear hS a; intro a hS
 have hD := hS.get (X := ownA 3 1 (.slice (some ⟨b18, 0, none⟩) ((dgs x.natAbs).length + (dgs y.natAbs).length + 1) ((dgs x.natAbs).length + (dgs y.natAbs).length + 1)) ((dgs x.natAbs).length + (dgs y.natAbs).length + 1) (D0.flatMap encD)) (by repeat (first | exact .head _ | refine .tail _ ?_))
 rw [← hlD0] at hS
 have hT := trim_P (decide (decide (x < 0) ≠ decide (y < 0))) (some (b18, 0)) D0.length (fun e => by cases e) D0 hinD0 (Nat.le_refl _) (by omega) w (row_of_own (enc := encD) (fun _ => rfl) hD) (fun r e => by cases e; exact (World.ownsRow.lt hD b18 rfl).2)
 rw [hvD0, sgn_mul] at hT
 refine L_op (s_callN hS (.cons rfl (.cons rfl .nil)) cf100 rfl (hT) ?_); clear hS a; intro x78 a w hS
 refine L_op (s_storeA hS rfl rfl ty_sz139 (by repeat constructor) (by rfl) (by rfl) (by rfl) ?_); clear hS; intro w hS
 refine nL (nT (wp_ret ?_))
 refine c_ret1 hS Tryz.results132 (.cellA rfl (by repeat constructor) ty_st139 ty_sz139 (by rfl)) ?_
 exact ⟨x78, rfl, hS.chg, hS.new (X := bigA (x * y) x78.1.1) (by repeat (first | exact .head _ | refine .tail _ ?_)) rfl⟩
def bigP (R : Nat) (p : Option (Nat × Nat)) : Asn := .any (fun k => ∃ off, p = some (k, off)) (RowP p 1 ((dgs R).map encD)) true
theorem bigP_none {w : World} : (bigP 0 none).ok w := by
 refine ⟨fun b hb => ?_, fun w' _ => ?_⟩
 · obtain ⟨off, e⟩ := hb; cases e
 · show RowP none 1 _ w'
   rw [dgs_zero]; rfl
theorem bigP_of {w : World} {z : Int} {b : Nat} (h : (bigA z b).ok w) : (bigP z.natAbs (some (b, 0))).ok w :=
 ⟨fun k hk => by obtain ⟨off, e⟩ := hk; cases e; exact h.lt b rfl, fun w' hw => h.hold w' (fun k hk => hw k ⟨0, by rw [show k = b from hk]⟩)⟩
theorem own_lit {w : World} {b E : Nat} {v : Value} (h : w.heap[b]? = some (.cells [v].toArray E (0, 0))) : (ownA E 1 (.slice (some ⟨b, 0, none⟩) 1 1) 1 [v]).ok w :=
 ok_own ⟨rfl, .inr ⟨b, 1, #[v], rfl, Nat.zero_le _, h, Nat.le_refl _, by decide, rfl, rfl⟩⟩
theorem len_mul {Y m : Nat} (hm : m ≤ 10000) : (dgs (Y * m)).length ≤ (dgs Y).length + 1 := by
 by_cases h0 : Y = 0
 · subst h0; rw [Nat.zero_mul, dgs_zero]; simp
 · have h1 := dgs_len_mono (show Y * m ≤ Y * 10000 from Nat.mul_le_mul_left _ hm)
   have h2 : dgs (Y * 10000) = 0 :: dgs Y := by
    rw [dgs_pos (by omega), show Y * 10000 / 10000 = Y by omega, show Y * 10000 % 10000 = 0 by omega]; rfl
   rw [h2, List.length_cons] at h1
   exact h1
theorem cmpZ_le {x y : Int} : cmpZ x y ≤ 0 ↔ x ≤ y := by unfold cmpZ; split <;> (try split) <;> omega
theorem own_rowP {w : World} {p : Option (Nat × Nat)} {c : Nat} {l : List Int} (h : w.ownsRow 0 3 1 (sliceV p l.length c) l.length (l.flatMap encD)) : RowP p 1 (l.map encD) w ∧ ∀ r, p = some r → r.1 < w.heap.size := by
 obtain ⟨p5, c5, e5, _, _, h6, h7⟩ := own_digs h
 obtain ⟨rfl, rfl⟩ := sliceV_inj e5
 exact ⟨h6, h7⟩
def pairA (z1 : Int) (b1 : Nat) (z2 : Int) (b2 : Nat) : Asn := .any (fun k => k = b1 ∨ k = b2) (fun w => RowP (some (b1, 0)) 1 ((dgs z1.natAbs).map encD) w ∧ RowP (some (b2, 0)) 1 ((dgs z2.natAbs).map encD) w) true
theorem pair_ok {z1 z2 : Int} {b1 b2 : Nat} {w : World} (h1 : (bigA z1 b1).ok w) (h2 : (bigA z2 b2).ok w) : (pairA z1 b1 z2 b2).ok w :=
 ⟨fun k hk => by rcases hk with rfl | rfl; exact h1.lt _ rfl; exact h2.lt _ rfl, fun w' hw => ⟨h1.hold w' (fun k hk => hw k (.inl hk)), h2.hold w' (fun k hk => hw k (.inr hk))⟩⟩
theorem quo_sgn {x y : Int} {V R : Nat} (hR : R < y.natAbs) (h : x.natAbs = V * y.natAbs + R) : sgn (decide (decide (x < 0) ≠ decide (y < 0))) (V : Int) = x.tdiv y ∧ sgn (decide (x < 0)) (R : Int) = x.tmod y := by
 have h1 : x.natAbs / y.natAbs = V := by
  rw [h, Nat.mul_comm, Nat.mul_add_div (by omega), Nat.div_eq_of_lt hR, Nat.add_zero]
 have h2 : x.natAbs % y.natAbs = R := by
  rw [h, Nat.mul_comm, Nat.mul_add_mod, Nat.mod_eq_of_lt hR]
 rw [← h1, ← h2]
 clear h h1 h2 hR
 cases x with
 | ofNat m =>
   have e1 : decide (Int.ofNat m < 0) = false := decide_eq_false (by simp)
   cases y with
   | ofNat n =>
     have e2 : decide (Int.ofNat n < 0) = false := decide_eq_false (by simp)
     rw [e1, e2]; exact ⟨rfl, rfl⟩
   | negSucc n =>
     have e2 : decide (Int.negSucc n < 0) = true := decide_eq_true (Int.negSucc_lt_zero n)
     rw [e1, e2]; exact ⟨rfl, rfl⟩
 | negSucc m =>
   have e1 : decide (Int.negSucc m < 0) = true := decide_eq_true (Int.negSucc_lt_zero m)
   cases y with
   | ofNat n =>
     have e2 : decide (Int.ofNat n < 0) = false := decide_eq_false (by simp)
     rw [e1, e2]; exact ⟨rfl, rfl⟩
   | negSucc n =>
     have e2 : decide (Int.negSucc n < 0) = true := decide_eq_true (Int.negSucc_lt_zero n)
     rw [e1, e2]; exact ⟨rfl, rfl⟩
section
variable {n : Nat} {F0 : Nat → Prop} {w0 w : World} {a : Act} {L : List (Nat × Value)} {Γ : List Asn}
theorem s_appendD {K : Act → World → Prop} {Q : Exit → Act → World → Prop} {d ty : Nat} {pos : String} {af : Array Edge} {g : Option (Nat × Bool)} {x y : Operand} {v : Value} {m c : Nat} {p : Option (Nat × Nat)} {ds : List Int} {cs : List Value} {Γ' : Value → List Asn} (hS : St n F0 w0 a w L Γ) (hx : ev L x = some v) (hy : ev L y = some (sliceV p ds.length c))
 (hp : p = none → c = 0) (hrow : RowP p 1 (ds.map encD) w) (hn : Nat.blt d n = true) (hm : ownA 3 1 v m cs ∈ Γ) (hbd : m + ds.length ≤ 1000000)
 (hr : ∀ v', Rep (ownA 3 1 v m cs) (ownA 3 1 v' (m + ds.length) (cs ++ ds.flatMap encD)) Γ (Γ' v'))
 (h : ∀ v' a' w', (v' = .slice none 0 0 ↔ v = .slice none 0 0 ∧ ds.length = 0) → St n F0 w0 a' w' ((d, v') :: L) (Γ' v') → K a' w') : OW Tryz.prog ⟨some d, .call ⟨.builtin .append, #[x, y], #[137, 137]⟩, ty, pos, af, g⟩ a w K Q := by
 cases p with
 | none =>
   obtain rfl := hp rfl
   obtain rfl : ds = [] := by simpa [RowP] using hrow
   refine s_e hS (e_append0 hx hy ty_sl137 ty_sz3 ty_by3 ty_z3 hm) hn ?_
   intro a' hS'
   refine h v a' w (by simp) (hS'.upd (hr v) (Chg.refl _ _) ?_ (fun b hb => .inl hb) rfl)
   have := hS'.ok _ hm
   simpa using this
 | some r =>
   exact s_append hS hx hy ty_sl137 ty_sz3 ty_by3 ty_z3 rfl rfl hn hm (by rw [flat_len encD 1 (fun _ => rfl)]) (dig_flat hrow) (digOne ds) (by omega) hr h
end
set_option maxHeartbeats 1000000 in
set_option maxRecDepth 100000 in
theorem BigQuo_P (p q : Option (Nat × Nat)) (c1 c2 : Nat) (x y : Int) (hy0 : y ≠ 0) (hx : (dgs x.natAbs).length ≤ 1000) (hy : (dgs y.natAbs).length ≤ 1000) (w0 : World) (h : (twoA p q (dgs x.natAbs) (dgs y.natAbs)).ok w0) :
 NewC Tryz.prog 147 [bigV x p c1, bigV y q c2] w0 (fun r : At (x.tdiv y) × At (x.tmod y) => .tuple [bigV (x.tdiv y) (some (r.1.1.1, 0)) r.1.1.2, bigV (x.tmod y) (some (r.2.1.1, 0)) r.2.1.2].toArray) (fun r => pairA (x.tdiv y) r.1.1.1 (x.tmod y) r.2.1.1) := by
 have hp := h.now.1
 have hq := h.now.2
 have inx := inR_dgs x.natAbs
 refine c_enter [(0, bigV x p c1), (1, bigV y q c2)] [twoA p q (dgs x.natAbs) (dgs y.natAbs)] noB Tryz.func147 rfl Tryz.ntmps147 ⟨rfl, rfl, trivial⟩ rfl (by intro X hX; obtain rfl := List.mem_singleton.1 hX; exact h) (by simp) (by intro X hX hm; obtain rfl := List.mem_singleton.1 hX; cases hm) ?_
 intro a hS
 refine cS (cR ?_)
 refine L_op (s_boxA hS rfl rfl ?_); clear hS a; intro a w b2 hS
 refine L_op (s_boxA hS rfl rfl ?_); clear hS a; intro a w b3 hS
 refine L_op (s_alloc hS ty_z139 rfl ?_); clear hS a; intro a w b4 hS
 refine L_op (s_alloc hS ty_z139 rfl ?_); clear hS a; intro a w b5 hS
 refine nL (nT (cS (cR ?_)))
 refine L_e hS (e_assign rfl) rfl ?_; clear hS a; intro a hS
 refine nL (nT (cS (cR ?_)))
 refine L_e hS (e_build ty_z139 ty_pl139 .nil) rfl ?_; clear hS a; intro a hS
 refine L_op (s_alloc hS ty_z139 rfl ?_); clear hS a; intro a w b7 hS
 refine L_op (s_storeA hS rfl rfl ty_sz139 (by repeat constructor) (by rfl) (by rfl) (by rfl) ?_); clear hS; intro w hS
 refine nL (nT (cS (cR ?_)))
 refine Rn hS (.c (e_fa0 rfl ty_fo139_1) <| .c (e_load rfl (by repeat constructor) ty_sc137 (by rfl)) <| .c (e_build ty_z139 ty_pl139 (.one rfl rfl rfl (by repeat constructor) .nil)) .n) ?_; clear hS a; intro a hS
 refine L_op (s_alloc hS ty_z139 rfl ?_); clear hS a; intro a w b8 hS
 refine L_op (s_storeA hS rfl rfl ty_sz139 (by repeat constructor) (by rfl) (by rfl) (by rfl) ?_); clear hS; intro w hS
 refine nL (nT (cS (cS (cR ?_))))
 refine Rn hS (.c (e_fa0 rfl ty_fo139_1) <| .c (e_load rfl (by repeat constructor) ty_sc137 (by rfl)) <| .c (e_len rfl rfl ty_sl137) <| .c (e_binN rfl rfl rfl (by omega)) <| .a rfl .n) ?_; clear hS a; intro a hS
 refine nL (nT (wB ?_))
 replace hS := hS.swap (X := .blk b8 [.bool false, sliceV q (dgs y.natAbs).length c2] 139) (Y := .blk b8 [.bool (decide ((y.natAbs : Int) < 0)), sliceV q (dgs (y.natAbs : Int).natAbs).length c2] 139) (by repeat (first | apply Rep.head | apply Rep.tail)) (by rw [show decide ((y.natAbs : Int) < 0) = false from decide_eq_false (by omega)]; exact hS.ok _ (by repeat (first | exact .head _ | refine .tail _ ?_))) (fun _ hb => hb) rfl
 replace hS := hS.swap (X := .blk b7 [.bool false, .slice none 0 0] 139) (Y := .blk b7 [.bool (decide (((0 : Nat) : Int) < 0)), sliceV none (dgs ((0 : Nat) : Int).natAbs).length 0] 139) (by repeat (first | apply Rep.head | apply Rep.tail)) (by rw [show (dgs ((0 : Nat) : Int).natAbs).length = 0 by rw [show ((0 : Nat) : Int).natAbs = 0 from rfl, dgs_zero]; rfl]; exact hS.ok (.blk b7 [.bool false, .slice none 0 0] 139) (by repeat (first | exact .head _ | refine .tail _ ?_))) (fun _ hb => hb) rfl
 replace hS := (hS.more (Y := bigP ((0 : Nat) : Int).natAbs none) bigP_none (fun b hb => by obtain ⟨off, e⟩ := hb; cases e)).own_nil 3 1
 refine c_loop (γ := (Nat × Nat × List Int)) (fun G a w => ∃ (rp : Option (Nat × Nat)) (rc : Nat) (qv : Value), St 74 noB w0 a w [(9, .int .i64 ((G.1 : Int) - 1)), (6, qv), (2, .pointer (some ⟨b2, 0, none⟩)), (3, .pointer (some ⟨b3, 0, none⟩)), (4, .pointer (some ⟨b4, 0, none⟩)), (5, .pointer (some ⟨b5, 0, none⟩)), (7, .pointer (some ⟨b7, 0, none⟩)), (8, .pointer (some ⟨b8, 0, none⟩))] [.blk b7 [.bool (decide ((G.2.1 : Int) < 0)), sliceV rp (dgs (G.2.1 : Int).natAbs).length rc] 139, bigP (G.2.1 : Int).natAbs rp, ownA 3 1 qv G.2.2.length (G.2.2.flatMap encD), .blk b8 [.bool (decide ((y.natAbs : Int) < 0)), sliceV q (dgs (y.natAbs : Int).natAbs).length c2] 139, .blk b5 [.bool false, .slice none 0 0] 139, .blk b4 [.bool false, .slice none 0 0] 139, .blk b3 [.bool (decide (y < 0)), sliceV q (dgs y.natAbs).length c2] 139, .blk b2 [.bool (decide (x < 0)), sliceV p (dgs x.natAbs).length c1] 139, twoA p q (dgs x.natAbs) (dgs y.natAbs)] ∧ G.1 ≤ (dgs x.natAbs).length ∧ G.2.2.length + G.1 = (dgs x.natAbs).length ∧ inR G.2.2 ∧ G.2.1 < y.natAbs ∧ nv ((dgs x.natAbs).drop G.1) = nv G.2.2 * y.natAbs + G.2.1 ∧ (rp = none → rc = 0) ∧ (dgs (G.2.1 : Int).natAbs).length ≤ rc) (fun G => G.1) ((dgs x.natAbs).length, 0, []) ⟨none, 0, .slice none 0 0, (hS.pick (by repeat (first | exact Pick.nil | (refine Pick.cons (by repeat (first | exact Rem.head | apply Rem.tail)) ?_)))).slots ⟨rfl, rfl, rfl, rfl, rfl, rfl, rfl, rfl, trivial⟩, Nat.le_refl _, by simp, (by intro d hd; cases hd), Int.natAbs_pos.2 hy0, by simp [nv], fun _ => rfl, by simp only; rw [show ((0 : Nat) : Int).natAbs = 0 from rfl, dgs_zero]; exact Nat.le_refl _⟩ ?_
 clear hS a; intro G a w hI
 obtain ⟨k, R, Q⟩ := G
 obtain ⟨rp, rc, qv, hS, hk, hlQ, hinQ, hRY, hval, hrp, hrc⟩ := hI
 simp only at hS hk hlQ hinQ hRY hval hrp hrc
 obtain ⟨pq, cq, rfl, hpq, hcq, _, _⟩ := own_digs (hS.get (X := ownA 3 1 qv Q.length (Q.flatMap encD)) (by repeat (first | exact .head _ | refine .tail _ ?_)))
 refine cS (cS (cR ?_))
 refine Rn hS (.m rfl <| .c (e_bin rfl rfl rfl) .n) ?_; clear hS a; intro a hS
 refine nL (nT ?_)
 refine c_ifD hS rfl (fun hc22 => ?_) (fun hc22 => ?_)
 ·
  have hk1 : 0 < k := by omega
  have hkn : ((k : Int) - 1).toNat = k - 1 := by omega
  obtain ⟨d, hd⟩ : ∃ d, (dgs x.natAbs)[k - 1]? = some d := ⟨(dgs x.natAbs)[k - 1]'(by omega), List.getElem?_eq_getElem (by omega)⟩
  obtain ⟨bp, op, rfl⟩ := two_pos hp (fun e => by rw [e] at hd; cases hd)
  have hdr := inx d (List.mem_of_getElem? hd)
  obtain ⟨dn, rfl⟩ : ∃ dn : Nat, d = dn := ⟨d.toNat, by omega⟩
  have hRl : (dgs (R : Int).natAbs).length ≤ 1000 := Nat.le_trans (dgs_len_mono (by omega)) hy
  obtain ⟨R1, hR1⟩ : ∃ R1 : Nat, R1 = dn + 10000 * R := ⟨_, rfl⟩
  refine wS (nT (cS (wB (cS ?_))))
  refine c_drawS [10] (by kernel_rfl) hS (sub_cons (X := .blk b2 _ _) (by repeat constructor) (sub_cons (X := .blk b7 _ _) (by repeat constructor) (sub_cons (X := twoA (some (bp, op)) q (dgs x.natAbs) (dgs y.natAbs)) (by repeat constructor) sub_nil))) ?_; clear hS; intro w hS
  simp only [List.length_cons, List.length_nil, Nat.zero_add, Nat.reduceAdd, List.replicate]
  refine Rz hS (sub_cons (by repeat constructor) (sub_cons (by repeat constructor) (sub_cons (by repeat constructor) sub_nil))) (.o 0 (tf 1 10) rfl wN (e_fa0 rfl ty_fo139_1) rfl <| .y 1 (tf 2 9) rfl wN (e_load rfl (by repeat constructor) ty_sc137 (by rfl)) rfl <| .o 2 (tf 3 8) rfl wN (e_move rfl) rfl <| .o 3 (tf 4 7) rfl wN (e_ix rfl rfl ty_sl137 ty_sz3 (by omega)) rfl <| .y 4 (tf 5 6) rfl wN (e_loadC rfl ty_sc3 (fun w hh => by rw [hkn]; exact two_l (by repeat (first | exact .head _ | refine .tail _ ?_)) hd w hh)) rfl <| .o 6 [true, true, true, true, true, false, true, false, false, false, false] rfl wN (e_fa0 rfl ty_fo139_1) rfl <| .y 7 [true, true, true, true, true, false, true, true, false, false, false] rfl wN (e_load rfl (by repeat constructor) ty_sc137 (by rfl)) rfl .n) ?_; clear hS a; intro a hS
  refine Zo 5 (tf 8 3) hS rfl wN rfl (s_bslice hS ty_sl137 ty_sz3 ty_z3 rfl rfl rfl rfl (.one rfl rfl rfl .nil) rfl ?_); clear hS a; intro a w b30 hS
  refine Z_and hS (sub_cons (by repeat constructor) (sub_cons (by repeat constructor) (sub_cons (by repeat constructor) sub_nil))) ?_
  replace hS := hS.swap (X := .blk b30 [.int .i64 (dn : Int)] 3) (Y := ownA 3 1 (.slice (some ⟨b30, 0, none⟩) 1 1) 1 [.int .i64 (dn : Int)]) (by repeat (first | apply Rep.head | apply Rep.tail)) (own_lit (hS.get (X := .blk b30 [.int .i64 (dn : Int)] 3) (by repeat (first | exact .head _ | refine .tail _ ?_)))) (fun b hb => by simpa [ownA, Asn.F, Value.ownBlock, eq_comm] using hb) rfl
  refine Zo 8 (tf 9 2) hS rfl wN rfl (s_appendD hS rfl rfl hrp (hS.get (X := bigP (R : Int).natAbs rp) (by repeat (first | exact .head _ | refine .tail _ ?_))) rfl (by repeat (first | exact .head _ | refine .tail _ ?_)) (by omega) (fun _ => (by repeat (first | apply Rep.head | apply Rep.tail))) ?_); clear hS a; intro v33 a w hv33 hS
  rw [show [Value.int .i64 (dn : Int)] ++ (dgs (R : Int).natAbs).flatMap encD = ((dn : Int) :: dgs (R : Int).natAbs).flatMap encD from rfl, show 1 + (dgs (R : Int).natAbs).length = ((dn : Int) :: dgs (R : Int).natAbs).length by simp; omega] at hS
  obtain ⟨p5, c5, e5, h4, h5, h6, h7⟩ := own_digs (hS.get (X := ownA 3 1 v33 ((dn : Int) :: dgs (R : Int).natAbs).length (((dn : Int) :: dgs (R : Int).natAbs).flatMap encD)) (by repeat (first | exact .head _ | refine .tail _ ?_)))
  subst e5
  have hT := trim_P false p5 c5 h4 ((dn : Int) :: dgs (R : Int).natAbs) (by
    intro u hu
    rcases List.mem_cons.1 hu with rfl | hu
    · exact hdr
    · exact inR_dgs _ u hu) h5 (by simp only [List.length_cons]; omega) w h6 h7
  rw [show sgn false (nv ((dn : Int) :: dgs (R : Int).natAbs)) = (R1 : Int) by rw [nv, nv_dgs]; unfold sgn; simp; omega] at hT
  refine Z_and hS (sub_cons (by repeat constructor) (sub_cons (by repeat constructor) (sub_cons (by repeat constructor) sub_nil))) ?_
  refine Zo 9 (tf 10 1) hS rfl wN rfl (s_callN hS (.cons rfl (.cons rfl .nil)) cf100 rfl (hT) ?_); clear hS a; intro x34 a w hS
  refine Z_and hS (sub_cons (by repeat constructor) (sub_cons (by repeat constructor) (sub_cons (by repeat constructor) sub_nil))) ?_
  refine Zo 10 (tf 11 0) hS rfl wN rfl (s_storeA hS rfl rfl ty_sz139 (by repeat constructor) (by rfl) (by rfl) (by rfl) ?_); clear hS; intro w hS
  refine Z_last (by simp) ?_
  refine Z_done (by kernel_rfl) ?_
  refine nT (cS (cR ?_))
  replace hS := hS.swap (X := bigA (R1 : Int) x34.1.1) (Y := bigP (R1 : Int).natAbs (some (x34.1.1, 0))) (by repeat (first | apply Rep.head | apply Rep.tail)) (bigP_of (hS.ok (bigA (R1 : Int) x34.1.1) (by repeat (first | exact .head _ | refine .tail _ ?_)))) (fun b hb => by obtain ⟨off, e⟩ := hb; cases e; rfl) rfl
  have hYpos : 0 < y.natAbs := Int.natAbs_pos.2 hy0
  refine L_e hS (e_assign rfl) rfl ?_; clear hS a; intro a hS
  refine nL (nT (cS (cR ?_)))
  refine L_e hS (e_assign rfl) rfl ?_; clear hS a; intro a hS
  refine nL (nT (cS (wB ?_)))
  skip
  refine c_loop (γ := (Int × Int)) (fun G a w => St 74 noB w0 a w [(10, .int .i64 G.1), (11, .int .i64 G.2), (9, .int .i64 ((k : Int) - 1)), (6, sliceV pq Q.length cq), (2, .pointer (some ⟨b2, 0, none⟩)), (3, .pointer (some ⟨b3, 0, none⟩)), (4, .pointer (some ⟨b4, 0, none⟩)), (5, .pointer (some ⟨b5, 0, none⟩)), (7, .pointer (some ⟨b7, 0, none⟩)), (8, .pointer (some ⟨b8, 0, none⟩))] [.blk b7 [.bool (decide ((R1 : Int) < 0)), sliceV (some (x34.1.1, 0)) (dgs (R1 : Int).natAbs).length x34.1.2] 139, bigP (R1 : Int).natAbs (some (x34.1.1, 0)), ownA 3 1 (sliceV pq Q.length cq) Q.length (Q.flatMap encD), .blk b8 [.bool (decide ((y.natAbs : Int) < 0)), sliceV q (dgs (y.natAbs : Int).natAbs).length c2] 139, .blk b5 [.bool false, .slice none 0 0] 139, .blk b4 [.bool false, .slice none 0 0] 139, .blk b3 [.bool (decide (y < 0)), sliceV q (dgs y.natAbs).length c2] 139, .blk b2 [.bool (decide (x < 0)), sliceV (some (bp, op)) (dgs x.natAbs).length c1] 139, twoA (some (bp, op)) q (dgs x.natAbs) (dgs y.natAbs)] ∧ 0 ≤ G.1 ∧ G.1 < G.2 ∧ G.2 ≤ 10000 ∧ (y.natAbs : Int) * G.1 ≤ R1 ∧ (R1 : Int) < y.natAbs * G.2) (fun G => (G.2 - G.1).toNat) (0, 10000) ⟨(hS.pick (by repeat (first | exact Pick.nil | (refine Pick.cons (by repeat (first | exact Rem.head | apply Rem.tail)) ?_)))).slots ⟨rfl, rfl, rfl, rfl, rfl, rfl, rfl, rfl, rfl, rfl, trivial⟩, by simp, by simp, by simp, by simp, by simp only; omega⟩ ?_
  clear hS a; intro G a w hI
  obtain ⟨lo, hi⟩ := G
  obtain ⟨hS, l0, l1, l2, l3, l4⟩ := hI
  simp only at hS l0 l1 l2 l3 l4
  refine cS (cS (cR ?_))
  refine Rn hS (.m rfl <| .m rfl <| .c (e_binN rfl rfl rfl (by omega)) <| .c (e_bin rfl rfl rfl) .n) ?_; clear hS a; intro a hS
  refine nL (nT ?_)
  refine c_ifD hS rfl (fun hc38 => ?_) (fun hc38 => ?_)
  ·
   refine wS (nT (wB (cS (cR ?_))))
   refine Rn hS (.m rfl <| .m rfl <| .c (e_binN rfl rfl rfl (by omega)) <| .c (e_quoN rfl rfl (by omega)) <| .a rfl .n) ?_; clear hS a; intro a hS
   refine nL (nT (cS ?_))
   refine c_drawS [] (by kernel_rfl) hS (sub_cons (X := .blk b8 _ _) (by repeat constructor) (sub_cons (X := .blk b7 _ _) (by repeat constructor) sub_nil)) ?_; clear hS; intro w hS
   simp only [List.length_cons, List.length_nil, Nat.zero_add, Nat.reduceAdd, List.replicate]
   refine Rz hS (sub_cons (by repeat constructor) (sub_cons (by repeat constructor) sub_nil)) (.y 0 (tf 1 6) rfl wN (e_loadA rfl (by repeat constructor) ty_st139 ty_sz139 (by rfl)) rfl <| .o 1 (tf 2 5) rfl wN (e_move rfl) rfl <| .y 4 [true, true, false, false, true, false, false] rfl wN (e_loadA rfl (by repeat constructor) ty_st139 ty_sz139 (by rfl)) rfl .n) ?_; clear hS a; intro a hS
   refine Zo 2 [true, true, true, false, true, false, false] hS rfl wN rfl (s_callN hS (.cons rfl .nil) cf62 rfl (BigOf_P ((lo + hi) / 2) (by omega) _) ?_); clear hS a; intro x45 a w hS
   refine Z_and hS (sub_cons (by repeat constructor) (sub_cons (by repeat constructor) sub_nil)) ?_
   have hml := len_mul (Y := y.natAbs) (m := ((lo + hi) / 2).natAbs) (by omega)
   rw [show y.natAbs * ((lo + hi) / 2).natAbs = ((y.natAbs : Int) * ((lo + hi) / 2)).natAbs by rw [Int.natAbs_mul]; rfl] at hml
   have hmid := len20 (z := (lo + hi) / 2) (by omega)
   refine Zo 3 (tf 5 2) hS rfl wN rfl (s_callN hS (.cons rfl (.cons rfl .nil)) cf132 rfl (BigMul_P q (some (x45.1.1, 0)) c2 x45.1.2 (y.natAbs : Int) ((lo + hi) / 2) (by show (dgs y.natAbs).length ≤ _; omega) (by omega) _ (two_ok (hS.get (X := twoA (some (bp, op)) q (dgs x.natAbs) (dgs y.natAbs)) (by repeat (first | exact .head _ | refine .tail _ ?_))).2 (hS.get (X := bigA ((lo + hi) / 2) x45.1.1) (by repeat (first | exact .head _ | refine .tail _ ?_))) (fun r e => (hS.ok (twoA (some (bp, op)) q (dgs x.natAbs) (dgs y.natAbs)) (by repeat (first | exact .head _ | refine .tail _ ?_))).lt r.1 (.inr ⟨r.2, e⟩)) (fun r e => by cases e; exact (hS.ok (bigA ((lo + hi) / 2) x45.1.1) (by repeat (first | exact .head _ | refine .tail _ ?_))).lt x45.1.1 rfl))) ?_); clear hS a; intro x46 a w hS
   refine Z_and hS (sub_cons (by repeat constructor) (sub_cons (by repeat constructor) sub_nil)) ?_
   refine Zo 5 (tf 6 1) hS rfl wN rfl (s_callP hS (.cons rfl (.cons rfl .nil)) cf155 rfl (BigCmp_P (some (x46.1.1, 0)) (some (x34.1.1, 0)) x46.1.2 x34.1.2 ((y.natAbs : Int) * ((lo + hi) / 2)) (R1 : Int) (by omega) _ (two_ok (hS.get (X := bigA ((y.natAbs : Int) * ((lo + hi) / 2)) x46.1.1) (by repeat (first | exact .head _ | refine .tail _ ?_))) (hS.get (X := bigP (R1 : Int).natAbs (some (x34.1.1, 0))) (by repeat (first | exact .head _ | refine .tail _ ?_))) (fun r e => by cases e; exact (hS.ok (bigA ((y.natAbs : Int) * ((lo + hi) / 2)) x46.1.1) (by repeat (first | exact .head _ | refine .tail _ ?_))).lt x46.1.1 rfl) (fun r e => by cases e; exact (hS.ok (bigP (R1 : Int).natAbs (some (x34.1.1, 0))) (by repeat (first | exact .head _ | refine .tail _ ?_))).lt x34.1.1 ⟨0, rfl⟩))) ?_); clear hS a; intro a w hS
   refine Z_and hS (sub_cons (by repeat constructor) (sub_cons (by repeat constructor) sub_nil)) ?_
   refine Zt0 6 (tf 7 0) hS rfl want_none (e_bin rfl rfl rfl) rfl (by kernel_rfl) rfl ?_; clear hS a; intro a hS
   refine Z_done (by kernel_rfl) ?_
   refine nT ?_
   refine c_ifD hS rfl (fun hc49 => ?_) (fun hc49 => ?_)
   ·
    refine cR ?_
    refine Rn hS (.m rfl <| .a rfl .n) ?_; clear hS a; intro a hS
    refine nL (n_block ?_)
    rw [cmpZ_le] at hc49
    first
    | exact ⟨((lo + hi) / 2, hi), by simp only; omega, (hS.pick (by repeat (first | exact Pick.nil | (refine Pick.cons (by repeat (first | exact Rem.head | apply Rem.tail)) ?_)))).slots (by repeat (first | exact trivial | refine ⟨rfl, ?_⟩)), by simp only; omega, by simp only; omega, by simp only; omega, hc49, l4⟩
    | exact ⟨(lo, (lo + hi) / 2), by simp only; omega, (hS.pick (by repeat (first | exact Pick.nil | (refine Pick.cons (by repeat (first | exact Rem.head | apply Rem.tail)) ?_)))).slots (by repeat (first | exact trivial | refine ⟨rfl, ?_⟩)), by simp only; omega, by simp only; omega, by simp only; omega, l3, by simp only; omega⟩
   refine cR ?_
   refine Rn hS (.m rfl <| .a rfl .n) ?_; clear hS a; intro a hS
   refine nL (n_block ?_)
   rw [cmpZ_le] at hc49
   first
   | exact ⟨((lo + hi) / 2, hi), by simp only; omega, (hS.pick (by repeat (first | exact Pick.nil | (refine Pick.cons (by repeat (first | exact Rem.head | apply Rem.tail)) ?_)))).slots (by repeat (first | exact trivial | refine ⟨rfl, ?_⟩)), by simp only; omega, by simp only; omega, by simp only; omega, hc49, l4⟩
   | exact ⟨(lo, (lo + hi) / 2), by simp only; omega, (hS.pick (by repeat (first | exact Pick.nil | (refine Pick.cons (by repeat (first | exact Rem.head | apply Rem.tail)) ?_)))).slots (by repeat (first | exact trivial | refine ⟨rfl, ?_⟩)), by simp only; omega, by simp only; omega, by simp only; omega, l3, by simp only; omega⟩
  obtain rfl : hi = lo + 1 := by omega
  rw [Int.mul_add, Int.mul_one] at l4
  obtain ⟨R2, hR2⟩ : ∃ R2 : Nat, (R2 : Int) = (R1 : Int) - (y.natAbs : Int) * lo := ⟨((R1 : Int) - (y.natAbs : Int) * lo).toNat, by omega⟩
  have hml := len_mul (Y := y.natAbs) (m := lo.natAbs) (by omega)
  rw [show y.natAbs * lo.natAbs = ((y.natAbs : Int) * lo).natAbs by rw [Int.natAbs_mul]; rfl] at hml
  have hlo := len20 (z := lo) (by omega)
  have hR1l : (dgs (R1 : Int).natAbs).length ≤ 1002 := by
   have h1 := len_mul (Y := y.natAbs) (m := (lo + 1).natAbs) (by omega)
   have h2 := dgs_len_mono (show (R1 : Int).natAbs ≤ y.natAbs * (lo + 1).natAbs by
     have e1 : ((y.natAbs * (lo + 1).natAbs : Nat) : Int) = (y.natAbs : Int) * (lo + 1) := by rw [Int.natCast_mul, Int.natAbs_of_nonneg (show 0 ≤ lo + 1 by omega)]
     rw [Int.mul_add, Int.mul_one] at e1; omega)
   omega
  refine wp_exit ?_
  refine x_then (x_then (x_hit ?_))
  refine nT (cS ?_)
  refine c_drawS [6] (by kernel_rfl) hS (sub_cons (X := .blk b8 _ _) (by repeat constructor) (sub_cons (X := .blk b7 _ _) (by repeat constructor) sub_nil)) ?_; clear hS; intro w hS
  simp only [List.length_cons, List.length_nil, Nat.zero_add, Nat.reduceAdd, List.replicate]
  refine Rz hS (sub_cons (by repeat constructor) (sub_cons (by repeat constructor) sub_nil)) (.y 0 (tf 1 6) rfl wN (e_loadA rfl (by repeat constructor) ty_st139 ty_sz139 (by rfl)) rfl <| .y 1 (tf 2 5) rfl wN (e_loadA rfl (by repeat constructor) ty_st139 ty_sz139 (by rfl)) rfl <| .o 2 (tf 3 4) rfl wN (e_move rfl) rfl .n) ?_; clear hS a; intro a hS
  refine Zo 3 (tf 4 3) hS rfl wN rfl (s_callN hS (.cons rfl .nil) cf62 rfl (BigOf_P lo (by omega) _) ?_); clear hS a; intro x55 a w hS
  refine Z_and hS (sub_cons (by repeat constructor) (sub_cons (by repeat constructor) sub_nil)) ?_
  refine Zo 4 (tf 5 2) hS rfl wN rfl (s_callN hS (.cons rfl (.cons rfl .nil)) cf132 rfl (BigMul_P q (some (x55.1.1, 0)) c2 x55.1.2 (y.natAbs : Int) lo (by show (dgs y.natAbs).length ≤ _; omega) (by omega) _ (two_ok (hS.gg (X := twoA (some (bp, op)) q (dgs x.natAbs) (dgs y.natAbs))).2 (hS.gg (X := bigA lo x55.1.1)) (fun r e => (hS.ok (twoA (some (bp, op)) q (dgs x.natAbs) (dgs y.natAbs)) (by repeat constructor)).lt r.1 (.inr ⟨r.2, e⟩)) (fun r e => by cases e; exact (hS.ok (bigA lo x55.1.1) (by repeat constructor)).lt x55.1.1 rfl))) ?_); clear hS a; intro x56 a w hS
  refine Z_and hS (sub_cons (by repeat constructor) (sub_cons (by repeat constructor) sub_nil)) ?_
  refine Zo 5 (tf 6 1) hS rfl wN rfl (s_callN hS (.cons rfl (.cons rfl .nil)) cf61 rfl (BigSub_P (some (x34.1.1, 0)) (some (x56.1.1, 0)) x34.1.2 x56.1.2 (fun e => by cases e) (R1 : Int) ((y.natAbs : Int) * lo) x56.2 2000 (by omega) (by omega) (by omega) _ (two_ok (hS.gg (X := bigP (R1 : Int).natAbs (some (x34.1.1, 0)))) (hS.gg (X := bigA ((y.natAbs : Int) * lo) x56.1.1)) (fun r e => by cases e; exact (hS.ok (bigP (R1 : Int).natAbs (some (x34.1.1, 0))) (by repeat constructor)).lt x34.1.1 ⟨0, rfl⟩) (fun r e => by cases e; exact (hS.ok (bigA ((y.natAbs : Int) * lo) x56.1.1) (by repeat constructor)).lt x56.1.1 rfl))) ?_); clear hS a; intro x57 a w hS
  refine Z_and hS (sub_cons (by repeat constructor) (sub_cons (by repeat constructor) sub_nil)) ?_
  refine Zo 6 (tf 7 0) hS rfl wN rfl (s_storeA hS rfl rfl ty_sz139 (by repeat constructor) (by rfl) (by rfl) (by rfl) ?_); clear hS; intro w hS
  refine Z_last (by simp) ?_
  refine Z_done (by kernel_rfl) ?_
  refine nT (cR ?_)
  obtain ⟨⟨nb, nc⟩, hnc⟩ := x57
  simp only at hS
  rw [← hR2] at hS hnc
  replace hS := hS.swap (X := bigA (R2 : Int) nb) (Y := bigP (R2 : Int).natAbs (some (nb, 0))) (by repeat constructor) (bigP_of (hS.ok (bigA (R2 : Int) nb) (by repeat constructor))) (fun b hb => by obtain ⟨off, e⟩ := hb; cases e; rfl) rfl
  refine L_e hS (e_move rfl) rfl ?_; clear hS a; intro a hS
  refine L_op (s_bslice hS ty_sl137 ty_sz3 ty_z3 rfl rfl rfl rfl (.one rfl rfl rfl .nil) rfl ?_); clear hS a; intro a w b59 hS
  refine L_e hS (e_move rfl) rfl ?_; clear hS a; intro a hS
  replace hS := hS.swap (X := .blk b59 [.int .i64 lo] 3) (Y := ownA 3 1 (.slice (some ⟨b59, 0, none⟩) 1 1) 1 [.int .i64 lo]) (by repeat constructor) (own_lit (hS.gg (X := .blk b59 [.int .i64 lo] 3))) (fun b hb => by simpa [ownA, Asn.F, Value.ownBlock, eq_comm] using hb) rfl
  have hQrow := own_rowP (hS.gg (X := ownA 3 1 (sliceV pq Q.length cq) Q.length (Q.flatMap encD)))
  refine L_op (s_appendD hS rfl rfl hpq hQrow.1 rfl (by repeat constructor) (by omega) (fun _ => (by repeat constructor)) ?_); clear hS a; intro v61 a w hv61 hS
  refine L_e hS (e_assign rfl) rfl ?_; clear hS a; intro a hS
  refine nL (n_block (nT (cR ?_)))
  refine Rn hS (.m rfl <| .c (e_binN rfl rfl rfl (by omega)) <| .a rfl .n) ?_; clear hS a; intro a hS
  refine nL ?_
  rw [show [Value.int .i64 lo] ++ Q.flatMap encD = (lo :: Q).flatMap encD from rfl, show 1 + Q.length = (lo :: Q).length by simp; omega] at hS
  refine ⟨(k - 1, R2, lo :: Q), by simp only; omega, some (nb, 0), nc, v61, ?_, by simp only; omega, by simp only [List.length_cons]; omega, ?_, by simp only; omega, ?_, fun e => (by cases e), hnc⟩
  · have hS2 := (hS.pick (Γ' := [.blk b7 [.bool (decide ((R2 : Int) < 0)), sliceV (some (nb, 0)) (dgs (R2 : Int).natAbs).length nc] 139, bigP (R2 : Int).natAbs (some (nb, 0)), ownA 3 1 v61 (lo :: Q).length ((lo :: Q).flatMap encD), .blk b8 [.bool (decide ((y.natAbs : Int) < 0)), sliceV q (dgs (y.natAbs : Int).natAbs).length c2] 139, .blk b5 [.bool false, .slice none 0 0] 139, .blk b4 [.bool false, .slice none 0 0] 139, .blk b3 [.bool (decide (y < 0)), sliceV q (dgs y.natAbs).length c2] 139, .blk b2 [.bool (decide (x < 0)), sliceV (some (bp, op)) (dgs x.natAbs).length c1] 139, twoA (some (bp, op)) q (dgs x.natAbs) (dgs y.natAbs)]) (by repeat (first | exact Pick.nil | (refine Pick.cons (by repeat (first | exact Rem.head | apply Rem.tail)) ?_)))).slots (L' := [(9, .int .i64 (((k - 1 : Nat) : Int) - 1)), (6, v61), (2, .pointer (some ⟨b2, 0, none⟩)), (3, .pointer (some ⟨b3, 0, none⟩)), (4, .pointer (some ⟨b4, 0, none⟩)), (5, .pointer (some ⟨b5, 0, none⟩)), (7, .pointer (some ⟨b7, 0, none⟩)), (8, .pointer (some ⟨b8, 0, none⟩))]) (by rw [show ((k - 1 : Nat) : Int) - 1 = (k : Int) - 1 - 1 by omega]; exact (by repeat (first | exact trivial | refine ⟨rfl, ?_⟩)))
    exact hS2
  · intro d hd
    rcases List.mem_cons.1 hd with rfl | hd
    · omega
    · exact hinQ d hd
  · simp only
    rw [drop_at hd, show k - 1 + 1 = k by omega, nv, nv, hval]
    rw [hR1] at hR2
    grind
 obtain rfl : k = 0 := by omega
 rw [List.drop_zero, nv_dgs] at hval
 have hnq := nv_nonneg hinQ
 have hsg := quo_sgn (x := x) (y := y) (V := (nv Q).toNat) (R := R) hRY (by
   have e1 : (((nv Q).toNat * y.natAbs + R : Nat) : Int) = nv Q * (y.natAbs : Int) + (R : Int) := by rw [Int.natCast_add, Int.natCast_mul, Int.toNat_of_nonneg hnq]
   omega)
 rw [Int.toNat_of_nonneg hnq] at hsg
 have hRl : (dgs (R : Int).natAbs).length ≤ 1000 := Nat.le_trans (dgs_len_mono (by omega)) hy
 refine wp_exit ?_
 refine x_then (x_then (x_hit ?_))
 refine nT (cS ?_)
 refine c_drawS [12, 13] (by kernel_rfl) hS (sub_cons (X := .blk b2 _ _) (by repeat constructor) (sub_cons (X := .blk b3 _ _) (by repeat constructor) (sub_cons (X := .blk b7 _ _) (by repeat constructor) sub_nil))) ?_; clear hS; intro w hS
 simp only [List.length_cons, List.length_nil, Nat.zero_add, Nat.reduceAdd, List.replicate]
 refine Rz hS (sub_cons (by repeat constructor) (sub_cons (by repeat constructor) (sub_cons (by repeat constructor) sub_nil))) (.o 0 (tf 1 13) rfl wN (e_fa0 rfl ty_fo139_0) rfl <| .y 1 (tf 2 12) rfl wN (e_load rfl (by repeat constructor) ty_sc4 (by rfl)) rfl <| .o 2 (tf 3 11) rfl wN (e_fa0 rfl ty_fo139_0) rfl <| .y 3 (tf 4 10) rfl wN (e_load rfl (by repeat constructor) ty_sc4 (by rfl)) rfl <| .o 4 (tf 5 9) rfl wN (e_binBn rfl rfl ty_u4) rfl <| .o 5 (tf 6 8) rfl wN (e_move rfl) rfl <| .o 7 [true, true, true, true, true, true, false, true, false, false, false, false, false, false] rfl wN (e_fa0 rfl ty_fo139_0) rfl <| .y 8 [true, true, true, true, true, true, false, true, true, false, false, false, false, false] rfl wN (e_load rfl (by repeat constructor) ty_sc4 (by rfl)) rfl <| .o 9 [true, true, true, true, true, true, false, true, true, true, false, false, false, false] rfl wN (e_fa0 rfl ty_fo139_1) rfl <| .y 10 [true, true, true, true, true, true, false, true, true, true, true, false, false, false] rfl wN (e_load rfl (by repeat constructor) ty_sc137 (by rfl)) rfl .n) ?_; clear hS a; intro a hS
 have hQr := own_rowP (hS.gg (X := ownA 3 1 (sliceV pq Q.length cq) Q.length (Q.flatMap encD)))
 have hT1 := trim_P (decide (decide (x < 0) ≠ decide (y < 0))) pq cq hpq Q hinQ hcq (by omega) w hQr.1 hQr.2
 rw [hsg.1] at hT1
 refine Zo 6 (tf 11 3) hS rfl wN rfl (s_callN hS (.cons rfl (.cons rfl .nil)) cf100 rfl (hT1) ?_); clear hS a; intro x68 a w hS
 refine Z_and hS (sub_cons (by repeat constructor) (sub_cons (by repeat constructor) (sub_cons (by repeat constructor) sub_nil))) ?_
 have hT2 := trim_P (decide (x < 0)) rp rc hrp (dgs (R : Int).natAbs) (inR_dgs _) hrc (by omega) w (hS.gg (X := bigP (R : Int).natAbs rp)) (fun r e => (hS.ok (bigP (R : Int).natAbs rp) (by repeat constructor)).lt r.1 ⟨r.2, e⟩)
 rw [show nv (dgs (R : Int).natAbs) = (R : Int) by rw [nv_dgs]; rfl, hsg.2] at hT2
 refine Zo 11 (tf 12 2) hS rfl wN rfl (s_callN hS (.cons rfl (.cons rfl .nil)) cf100 rfl (hT2) ?_); clear hS a; intro x73 a w hS
 refine Z_and hS (sub_cons (by repeat constructor) (sub_cons (by repeat constructor) (sub_cons (by repeat constructor) sub_nil))) ?_
 refine Zo 12 (tf 13 1) hS rfl wN rfl (s_storeA hS rfl rfl ty_sz139 (by repeat constructor) (by rfl) (by rfl) (by rfl) ?_); clear hS; intro w hS
 refine Z_last (by simp) ?_
 refine Zo 13 (tf 14 0) hS rfl wN rfl (s_storeA hS rfl rfl ty_sz139 (by repeat constructor) (by rfl) (by rfl) (by rfl) ?_); clear hS; intro w hS
 refine Z_last (by simp) ?_
 refine Z_done (by kernel_rfl) ?_
 refine nT (wp_ret ?_)
 refine c_retN hS Tryz.results147 (.cons (.cellA rfl (by repeat constructor) ty_st139 ty_sz139 (by rfl)) (.cons (.cellA rfl (by repeat constructor) ty_st139 ty_sz139 (by rfl)) .nil)) rfl ?_
 exact ⟨(x68, x73), rfl, hS.chg, pair_ok (hS.ok (bigA (x.tdiv y) x68.1.1) (by repeat constructor)) (hS.ok (bigA (x.tmod y) x73.1.1) (by repeat constructor)), fun b hb => by rcases hb with rfl | rfl; exact (hS.new (X := bigA (x.tdiv y) x68.1.1) (by repeat constructor) rfl).2 _ rfl; exact (hS.new (X := bigA (x.tmod y) x73.1.1) (by repeat constructor) rfl).2 _ rfl⟩
end Go.Proofs.YtheofhegdjjfgaaGreat
namespace Go.Proofs.YtheofhegdjjfgaaGreat
open Go.RowKit
theorem nv_inj {l r : List Int} (hl : inR l) (hr : inR r) (hlen : l.length = r.length) (h : nv l = nv r) : l = r := by
 induction l generalizing r with
 | nil => cases r with
   | nil => rfl
   | cons d r => simp at hlen
 | cons d l ih => cases r with
   | nil => simp at hlen
   | cons e r =>
     have h1 := hl d (.head _)
     have h2 := hr e (.head _)
     rw [nv, nv] at h
     have e1 : d = e := by omega
     have e2 : nv l = nv r := by omega
     rw [e1, ih (inR_tail hl) (inR_tail hr) (by simpa using hlen) e2]
set_option maxRecDepth 100000 in
theorem addN_P (p q : Option (Nat × Nat)) (c1 c2 : Nat) (xs ys : List Int) (hx : inR xs) (hy : inR ys) (N : Nat) (hN : N ≤ 1000000) (hlx : xs.length ≤ N) (hly : ys.length ≤ N) (w0 : World) (h : (twoA p q xs ys).ok w0) :
 NewC Tryz.prog 101 [sliceV p xs.length c1, sliceV q ys.length c2] w0 (fun r : { r : Digs // inR r.1 ∧ nv r.1 = nv xs + nv ys ∧ r.1.length ≤ N + 1 ∧ (r.1.length ≤ N ∨ ∃ s d, r.1 = s ++ [d] ∧ d ≠ 0) } => r.1.2) (fun r => digA r.1) := by
 have hp := h.now.1
 have hq := h.now.2
 refine c_enter [(0, sliceV p xs.length c1), (1, sliceV q ys.length c2)] [twoA p q xs ys] noB Tryz.func101 rfl Tryz.ntmps101 ⟨rfl, rfl, trivial⟩ rfl (by intro X hX; obtain rfl := List.mem_singleton.1 hX; exact h) (by simp) (by intro X hX hm; obtain rfl := List.mem_singleton.1 hX; cases hm) ?_
 intro a hS
 refine cS (cR ?_)
 refine L_e hS (e_assign rfl) rfl ?_; clear hS a; intro a hS
 refine nL (nT (cS (cR ?_)))
 refine L_e hS (e_assign rfl) rfl ?_; clear hS a; intro a hS
 refine nL (nT (cS (cR ?_)))
 refine L_e hS (e_assign rfl) rfl ?_; clear hS a; intro a hS
 refine nL (nT (cS (cS (cR ?_))))
 refine L_e hS (e_assign rfl) rfl ?_; clear hS a; intro a hS
 refine nL (nT (wB ?_))
 skip
 refine c_loop (γ := (Int × List Int × Value)) (fun G a w => St 54 noB w0 a w [(0, sliceV p xs.length c1), (1, sliceV q ys.length c2), (5, G.2.2), (6, .int .i64 G.1), (7, .int .i64 (G.2.1.length : Int))] [ownA 3 1 G.2.2 G.2.1.length (G.2.1.flatMap encD), twoA p q xs ys] ∧ inR G.2.1 ∧ 0 ≤ G.1 ∧ G.1 ≤ 1 ∧ G.2.1.length ≤ N + 1 ∧ (G.2.1.length = N + 1 → G.1 = 0) ∧ (G.2.1.length ≤ N ∨ ∃ s d, G.2.1 = s ++ [d] ∧ d ≠ 0) ∧ nv xs + nv ys = nv G.2.1 + 10000 ^ G.2.1.length * (G.1 + nv (xs.drop G.2.1.length) + nv (ys.drop G.2.1.length))) (fun G => N + 2 - G.2.1.length) (0, [], .slice none 0 0) ⟨(hS.own_nil 3 1).slots ⟨rfl, rfl, rfl, rfl, rfl, trivial⟩, (by intro d hd; cases hd), by decide, by decide, Nat.zero_le _, fun _ => rfl, .inl (Nat.zero_le _), by simp [nv]⟩ ?_
 clear hS a; intro G a w hI
 obtain ⟨cy, l, sv⟩ := G
 obtain ⟨hS, hin, hc0, hc1, hll, hlN, htop, hsum⟩ := hI
 simp only at hS hin hc0 hc1 hll hlN hsum
 have ga := gd_in hx l.length
 have gb := gd_in hy l.length
 have da := nv_drop xs l.length
 have db := nv_drop ys l.length
 refine cS (cS (cR ?_))
 refine Rn hS (.m rfl <| .m rfl <| .c (e_len rfl rfl ty_sl137) <| .c (e_bin rfl rfl rfl) <| .m rfl .n) ?_; clear hS a; intro a hS
 refine g_splitD (t := 13) hS rfl ?_ ?_ <;> (clear hS; intro hg13 hS)
 ·
  refine Rn hS (.f rfl rfl <| .f rfl rfl <| .f rfl rfl <| .f rfl rfl <| .c (e_pick_t rfl rfl) <| .m rfl <| .f rfl rfl <| .f rfl rfl <| .c (e_pick_t rfl rfl) .n) ?_; clear hS a; intro a hS
  refine nL (nT ?_)
  refine c_if_t hS rfl ?_
  refine wS (nT (cS (wB (cS (cR ?_)))))
  refine Rn hS (.m rfl <| .a rfl .n) ?_; clear hS a; intro a hS
  refine nL (nT ?_)
  refine c_cut (fun a w => ∃ d1 : Int, St 54 noB w0 a w [(8, .int .i64 d1), (0, sliceV p xs.length c1), (1, sliceV q ys.length c2), (5, sv), (6, .int .i64 cy), (7, .int .i64 (l.length : Int))] [ownA 3 1 sv l.length (l.flatMap encD), twoA p q xs ys] ∧ d1 = cy + gd xs l.length) ?_ ?_
  ·
   refine cS (cR ?_)
   refine Rn hS (.m rfl <| .m rfl <| .c (e_len rfl rfl ty_sl137) <| .c (e_bin rfl rfl rfl) .n) ?_; clear hS a; intro a hS
   refine nL (nT ?_)
   refine c_ifD hS rfl (fun hc29 => ?_) (fun hc29 => ?_)
   ·
    obtain ⟨d, hd⟩ : ∃ d, xs[l.length]? = some d := ⟨xs[l.length]'(by omega), List.getElem?_eq_getElem (by omega)⟩
    obtain ⟨b1, o1, rfl⟩ := two_pos hp (fun e => by rw [e] at hd; cases hd)
    have hgd : gd xs l.length = d := by unfold gd; rw [hd]; rfl
    refine cR ?_
    refine Rn hS (.m rfl <| .m rfl <| .m rfl <| .c (e_ixN rfl rfl ty_sl137 ty_sz3 (by omega)) <| .c (e_loadC rfl ty_sc3 (two_l (by repeat (first | exact .head _ | refine .tail _ ?_)) hd)) <| .c (e_binN rfl rfl rfl (by omega)) <| .a rfl .n) ?_; clear hS a; intro a hS
    refine nL ?_
    exact ⟨_, hS.slots (by exact ⟨rfl, rfl, rfl, rfl, rfl, rfl, trivial⟩), by omega⟩
   have hgd : gd xs l.length = 0 := by unfold gd; rw [List.getElem?_eq_none (by omega)]; rfl
   refine wS ?_
   exact ⟨_, hS.slots (by exact ⟨rfl, rfl, rfl, rfl, rfl, rfl, trivial⟩), by omega⟩
  clear hS a; intro a w hS
  obtain ⟨d1, hS, hd1⟩ := hS
  refine c_cut (fun a w => ∃ d2 : Int, St 54 noB w0 a w [(8, .int .i64 d2), (0, sliceV p xs.length c1), (1, sliceV q ys.length c2), (5, sv), (6, .int .i64 cy), (7, .int .i64 (l.length : Int))] [ownA 3 1 sv l.length (l.flatMap encD), twoA p q xs ys] ∧ d2 = cy + gd xs l.length + gd ys l.length) ?_ ?_
  ·
   refine cS (cR ?_)
   refine Rn hS (.m rfl <| .m rfl <| .c (e_len rfl rfl ty_sl137) <| .c (e_bin rfl rfl rfl) .n) ?_; clear hS a; intro a hS
   refine nL (nT ?_)
   refine c_ifD hS rfl (fun hc39 => ?_) (fun hc39 => ?_)
   ·
    obtain ⟨d, hd⟩ : ∃ d, ys[l.length]? = some d := ⟨ys[l.length]'(by omega), List.getElem?_eq_getElem (by omega)⟩
    obtain ⟨b2, o2, rfl⟩ := two_pos hq (fun e => by rw [e] at hd; cases hd)
    have hgd : gd ys l.length = d := by unfold gd; rw [hd]; rfl
    refine cR ?_
    refine Rn hS (.m rfl <| .m rfl <| .m rfl <| .c (e_ixN rfl rfl ty_sl137 ty_sz3 (by omega)) <| .c (e_loadC rfl ty_sc3 (two_r (by repeat (first | exact .head _ | refine .tail _ ?_)) hd)) <| .c (e_binN rfl rfl rfl (by omega)) <| .a rfl .n) ?_; clear hS a; intro a hS
    refine nL ?_
    exact ⟨_, hS.slots (by exact ⟨rfl, rfl, rfl, rfl, rfl, rfl, trivial⟩), by omega⟩
   have hgd : gd ys l.length = 0 := by unfold gd; rw [List.getElem?_eq_none (by omega)]; rfl
   refine wS ?_
   exact ⟨_, hS.slots (by exact ⟨rfl, rfl, rfl, rfl, rfl, rfl, trivial⟩), by omega⟩
  clear hS a; intro a w hS
  obtain ⟨d2, hS, hd2⟩ := hS
  have e1 : (l ++ [d2 % 10000]).flatMap encD = l.flatMap encD ++ [.int .i64 (d2 % 10000)] := by simp [encD]
  have hs2 := add_step hsum da db hd2
  refine cS (cR ?_)
  refine Rn hS (.m rfl <| .m rfl <| .c (e_remN rfl rfl (by omega)) .n) ?_; clear hS a; intro a hS
  refine L_op (s_bslice hS ty_sl137 ty_sz3 ty_z3 rfl rfl rfl rfl (.one rfl rfl rfl .nil) rfl ?_); clear hS a; intro a w b49 hS
  refine L_op (s_append1 hS rfl rfl ty_sl137 ty_sz3 ty_by3 ty_z3 rfl rfl rfl (by repeat constructor) (by repeat constructor) (by rfl) (by rfl) (fun _ => (by repeat constructor)) (by omega) ?_); clear hS a; intro v50 a w hv50 hS
  refine L_e hS (e_assign rfl) rfl ?_; clear hS a; intro a hS
  refine nL (nT (cR ?_))
  refine Rn hS (.m rfl <| .c (e_quoN rfl rfl (by omega)) <| .a rfl .n) ?_; clear hS a; intro a hS
  refine nL (n_block (nT (cR ?_)))
  refine Rn hS (.m rfl <| .c (e_binN rfl rfl rfl (by omega)) <| .a rfl .n) ?_; clear hS a; intro a hS
  refine nL ?_
  have hlN2 : l.length ≤ N := by
   rcases Nat.lt_or_ge l.length (N + 1) with h1 | h1
   · omega
   · have := hlN (by omega)
     omega
  refine ⟨(d2 / 10000, l ++ [d2 % 10000], v50), by simp only [List.length_append, List.length_cons, List.length_nil]; omega, ?_, inR_snoc hin (by omega), by simp only; omega, by simp only; omega, by simp only [List.length_append, List.length_cons, List.length_nil]; omega, ?_, ?_, ?_⟩
  · simp only [List.length_append, List.length_cons, List.length_nil, Nat.zero_add, e1]
    exact (hS.drop (by repeat (first | exact List.Sublist.refl _ | apply List.Sublist.cons_cons | apply List.Sublist.cons))).slots (by exact ⟨rfl, rfl, rfl, rfl, rfl, trivial⟩)
  · simp only [List.length_append, List.length_cons, List.length_nil, Nat.zero_add]
    intro h1
    have za : gd xs l.length = 0 := by unfold gd; rw [List.getElem?_eq_none (by omega)]; rfl
    have zb : gd ys l.length = 0 := by unfold gd; rw [List.getElem?_eq_none (by omega)]; rfl
    omega
  · simp only [List.length_append, List.length_cons, List.length_nil, Nat.zero_add]
    by_cases h1 : l.length < N
    · exact .inl h1
    · refine .inr ⟨l, _, rfl, ?_⟩
      have za : gd xs l.length = 0 := by unfold gd; rw [List.getElem?_eq_none (by omega)]; rfl
      have zb : gd ys l.length = 0 := by unfold gd; rw [List.getElem?_eq_none (by omega)]; rfl
      omega
  · simp only [List.length_append, List.length_cons, List.length_nil, Nat.zero_add]
    rw [nv_snoc, hs2, Int.pow_succ]
 refine Rn hS (.g rfl rfl (e_move rfl) <| .g rfl rfl (e_move rfl) <| .g rfl rfl (e_len rfl rfl ty_sl137) <| .g rfl rfl (e_bin rfl rfl rfl) <| .c (e_pick_f rfl rfl) <| .m rfl .n) ?_; clear hS a; intro a hS
 refine g_splitD (t := 19) hS rfl ?_ ?_ <;> (clear hS; intro hg19 hS)
 ·
  refine Rn hS (.f rfl rfl <| .f rfl rfl <| .c (e_pick_t rfl rfl) .n) ?_; clear hS a; intro a hS
  refine nL (nT ?_)
  refine c_if_t hS rfl ?_
  refine wS (nT (cS (wB (cS (cR ?_)))))
  refine Rn hS (.m rfl <| .a rfl .n) ?_; clear hS a; intro a hS
  refine nL (nT ?_)
  refine c_cut (fun a w => ∃ d1 : Int, St 54 noB w0 a w [(8, .int .i64 d1), (0, sliceV p xs.length c1), (1, sliceV q ys.length c2), (5, sv), (6, .int .i64 cy), (7, .int .i64 (l.length : Int))] [ownA 3 1 sv l.length (l.flatMap encD), twoA p q xs ys] ∧ d1 = cy + gd xs l.length) ?_ ?_
  ·
   refine cS (cR ?_)
   refine Rn hS (.m rfl <| .m rfl <| .c (e_len rfl rfl ty_sl137) <| .c (e_bin rfl rfl rfl) .n) ?_; clear hS a; intro a hS
   refine nL (nT ?_)
   refine c_ifD hS rfl (fun hc29 => ?_) (fun hc29 => ?_)
   ·
    obtain ⟨d, hd⟩ : ∃ d, xs[l.length]? = some d := ⟨xs[l.length]'(by omega), List.getElem?_eq_getElem (by omega)⟩
    obtain ⟨b1, o1, rfl⟩ := two_pos hp (fun e => by rw [e] at hd; cases hd)
    have hgd : gd xs l.length = d := by unfold gd; rw [hd]; rfl
    refine cR ?_
    refine Rn hS (.m rfl <| .m rfl <| .m rfl <| .c (e_ixN rfl rfl ty_sl137 ty_sz3 (by omega)) <| .c (e_loadC rfl ty_sc3 (two_l (by repeat (first | exact .head _ | refine .tail _ ?_)) hd)) <| .c (e_binN rfl rfl rfl (by omega)) <| .a rfl .n) ?_; clear hS a; intro a hS
    refine nL ?_
    exact ⟨_, hS.slots (by exact ⟨rfl, rfl, rfl, rfl, rfl, rfl, trivial⟩), by omega⟩
   have hgd : gd xs l.length = 0 := by unfold gd; rw [List.getElem?_eq_none (by omega)]; rfl
   refine wS ?_
   exact ⟨_, hS.slots (by exact ⟨rfl, rfl, rfl, rfl, rfl, rfl, trivial⟩), by omega⟩
  clear hS a; intro a w hS
  obtain ⟨d1, hS, hd1⟩ := hS
  refine c_cut (fun a w => ∃ d2 : Int, St 54 noB w0 a w [(8, .int .i64 d2), (0, sliceV p xs.length c1), (1, sliceV q ys.length c2), (5, sv), (6, .int .i64 cy), (7, .int .i64 (l.length : Int))] [ownA 3 1 sv l.length (l.flatMap encD), twoA p q xs ys] ∧ d2 = cy + gd xs l.length + gd ys l.length) ?_ ?_
  ·
   refine cS (cR ?_)
   refine Rn hS (.m rfl <| .m rfl <| .c (e_len rfl rfl ty_sl137) <| .c (e_bin rfl rfl rfl) .n) ?_; clear hS a; intro a hS
   refine nL (nT ?_)
   refine c_ifD hS rfl (fun hc39 => ?_) (fun hc39 => ?_)
   ·
    obtain ⟨d, hd⟩ : ∃ d, ys[l.length]? = some d := ⟨ys[l.length]'(by omega), List.getElem?_eq_getElem (by omega)⟩
    obtain ⟨b2, o2, rfl⟩ := two_pos hq (fun e => by rw [e] at hd; cases hd)
    have hgd : gd ys l.length = d := by unfold gd; rw [hd]; rfl
    refine cR ?_
    refine Rn hS (.m rfl <| .m rfl <| .m rfl <| .c (e_ixN rfl rfl ty_sl137 ty_sz3 (by omega)) <| .c (e_loadC rfl ty_sc3 (two_r (by repeat (first | exact .head _ | refine .tail _ ?_)) hd)) <| .c (e_binN rfl rfl rfl (by omega)) <| .a rfl .n) ?_; clear hS a; intro a hS
    refine nL ?_
    exact ⟨_, hS.slots (by exact ⟨rfl, rfl, rfl, rfl, rfl, rfl, trivial⟩), by omega⟩
   have hgd : gd ys l.length = 0 := by unfold gd; rw [List.getElem?_eq_none (by omega)]; rfl
   refine wS ?_
   exact ⟨_, hS.slots (by exact ⟨rfl, rfl, rfl, rfl, rfl, rfl, trivial⟩), by omega⟩
  clear hS a; intro a w hS
  obtain ⟨d2, hS, hd2⟩ := hS
  have e1 : (l ++ [d2 % 10000]).flatMap encD = l.flatMap encD ++ [.int .i64 (d2 % 10000)] := by simp [encD]
  have hs2 := add_step hsum da db hd2
  refine cS (cR ?_)
  refine Rn hS (.m rfl <| .m rfl <| .c (e_remN rfl rfl (by omega)) .n) ?_; clear hS a; intro a hS
  refine L_op (s_bslice hS ty_sl137 ty_sz3 ty_z3 rfl rfl rfl rfl (.one rfl rfl rfl .nil) rfl ?_); clear hS a; intro a w b49 hS
  refine L_op (s_append1 hS rfl rfl ty_sl137 ty_sz3 ty_by3 ty_z3 rfl rfl rfl (by repeat constructor) (by repeat constructor) (by rfl) (by rfl) (fun _ => (by repeat constructor)) (by omega) ?_); clear hS a; intro v50 a w hv50 hS
  refine L_e hS (e_assign rfl) rfl ?_; clear hS a; intro a hS
  refine nL (nT (cR ?_))
  refine Rn hS (.m rfl <| .c (e_quoN rfl rfl (by omega)) <| .a rfl .n) ?_; clear hS a; intro a hS
  refine nL (n_block (nT (cR ?_)))
  refine Rn hS (.m rfl <| .c (e_binN rfl rfl rfl (by omega)) <| .a rfl .n) ?_; clear hS a; intro a hS
  refine nL ?_
  have hlN2 : l.length ≤ N := by
   rcases Nat.lt_or_ge l.length (N + 1) with h1 | h1
   · omega
   · have := hlN (by omega)
     omega
  refine ⟨(d2 / 10000, l ++ [d2 % 10000], v50), by simp only [List.length_append, List.length_cons, List.length_nil]; omega, ?_, inR_snoc hin (by omega), by simp only; omega, by simp only; omega, by simp only [List.length_append, List.length_cons, List.length_nil]; omega, ?_, ?_, ?_⟩
  · simp only [List.length_append, List.length_cons, List.length_nil, Nat.zero_add, e1]
    exact (hS.drop (by repeat (first | exact List.Sublist.refl _ | apply List.Sublist.cons_cons | apply List.Sublist.cons))).slots (by exact ⟨rfl, rfl, rfl, rfl, rfl, trivial⟩)
  · simp only [List.length_append, List.length_cons, List.length_nil, Nat.zero_add]
    intro h1
    have za : gd xs l.length = 0 := by unfold gd; rw [List.getElem?_eq_none (by omega)]; rfl
    have zb : gd ys l.length = 0 := by unfold gd; rw [List.getElem?_eq_none (by omega)]; rfl
    omega
  · simp only [List.length_append, List.length_cons, List.length_nil, Nat.zero_add]
    by_cases h1 : l.length < N
    · exact .inl h1
    · refine .inr ⟨l, _, rfl, ?_⟩
      have za : gd xs l.length = 0 := by unfold gd; rw [List.getElem?_eq_none (by omega)]; rfl
      have zb : gd ys l.length = 0 := by unfold gd; rw [List.getElem?_eq_none (by omega)]; rfl
      omega
  · simp only [List.length_append, List.length_cons, List.length_nil, Nat.zero_add]
    rw [nv_snoc, hs2, Int.pow_succ]
 refine Rn hS (.g rfl rfl (e_move rfl) <| .g rfl rfl (e_bin rfl rfl rfl) <| .c (e_pick_f rfl rfl) .n) ?_; clear hS a; intro a hS
 refine nL (nT ?_)
 refine c_ifD hS rfl (fun hc22 => ?_) (fun hc22 => ?_)
 ·
  refine wS (nT (cS (wB (cS (cR ?_)))))
  refine Rn hS (.m rfl <| .a rfl .n) ?_; clear hS a; intro a hS
  refine nL (nT ?_)
  refine c_cut (fun a w => ∃ d1 : Int, St 54 noB w0 a w [(8, .int .i64 d1), (0, sliceV p xs.length c1), (1, sliceV q ys.length c2), (5, sv), (6, .int .i64 cy), (7, .int .i64 (l.length : Int))] [ownA 3 1 sv l.length (l.flatMap encD), twoA p q xs ys] ∧ d1 = cy + gd xs l.length) ?_ ?_
  ·
   refine cS (cR ?_)
   refine Rn hS (.m rfl <| .m rfl <| .c (e_len rfl rfl ty_sl137) <| .c (e_bin rfl rfl rfl) .n) ?_; clear hS a; intro a hS
   refine nL (nT ?_)
   refine c_ifD hS rfl (fun hc29 => ?_) (fun hc29 => ?_)
   ·
    obtain ⟨d, hd⟩ : ∃ d, xs[l.length]? = some d := ⟨xs[l.length]'(by omega), List.getElem?_eq_getElem (by omega)⟩
    obtain ⟨b1, o1, rfl⟩ := two_pos hp (fun e => by rw [e] at hd; cases hd)
    have hgd : gd xs l.length = d := by unfold gd; rw [hd]; rfl
    refine cR ?_
    refine Rn hS (.m rfl <| .m rfl <| .m rfl <| .c (e_ixN rfl rfl ty_sl137 ty_sz3 (by omega)) <| .c (e_loadC rfl ty_sc3 (two_l (by repeat (first | exact .head _ | refine .tail _ ?_)) hd)) <| .c (e_binN rfl rfl rfl (by omega)) <| .a rfl .n) ?_; clear hS a; intro a hS
    refine nL ?_
    exact ⟨_, hS.slots (by exact ⟨rfl, rfl, rfl, rfl, rfl, rfl, trivial⟩), by omega⟩
   have hgd : gd xs l.length = 0 := by unfold gd; rw [List.getElem?_eq_none (by omega)]; rfl
   refine wS ?_
   exact ⟨_, hS.slots (by exact ⟨rfl, rfl, rfl, rfl, rfl, rfl, trivial⟩), by omega⟩
  clear hS a; intro a w hS
  obtain ⟨d1, hS, hd1⟩ := hS
  refine c_cut (fun a w => ∃ d2 : Int, St 54 noB w0 a w [(8, .int .i64 d2), (0, sliceV p xs.length c1), (1, sliceV q ys.length c2), (5, sv), (6, .int .i64 cy), (7, .int .i64 (l.length : Int))] [ownA 3 1 sv l.length (l.flatMap encD), twoA p q xs ys] ∧ d2 = cy + gd xs l.length + gd ys l.length) ?_ ?_
  ·
   refine cS (cR ?_)
   refine Rn hS (.m rfl <| .m rfl <| .c (e_len rfl rfl ty_sl137) <| .c (e_bin rfl rfl rfl) .n) ?_; clear hS a; intro a hS
   refine nL (nT ?_)
   refine c_ifD hS rfl (fun hc39 => ?_) (fun hc39 => ?_)
   ·
    obtain ⟨d, hd⟩ : ∃ d, ys[l.length]? = some d := ⟨ys[l.length]'(by omega), List.getElem?_eq_getElem (by omega)⟩
    obtain ⟨b2, o2, rfl⟩ := two_pos hq (fun e => by rw [e] at hd; cases hd)
    have hgd : gd ys l.length = d := by unfold gd; rw [hd]; rfl
    refine cR ?_
    refine Rn hS (.m rfl <| .m rfl <| .m rfl <| .c (e_ixN rfl rfl ty_sl137 ty_sz3 (by omega)) <| .c (e_loadC rfl ty_sc3 (two_r (by repeat (first | exact .head _ | refine .tail _ ?_)) hd)) <| .c (e_binN rfl rfl rfl (by omega)) <| .a rfl .n) ?_; clear hS a; intro a hS
    refine nL ?_
    exact ⟨_, hS.slots (by exact ⟨rfl, rfl, rfl, rfl, rfl, rfl, trivial⟩), by omega⟩
   have hgd : gd ys l.length = 0 := by unfold gd; rw [List.getElem?_eq_none (by omega)]; rfl
   refine wS ?_
   exact ⟨_, hS.slots (by exact ⟨rfl, rfl, rfl, rfl, rfl, rfl, trivial⟩), by omega⟩
  clear hS a; intro a w hS
  obtain ⟨d2, hS, hd2⟩ := hS
  have e1 : (l ++ [d2 % 10000]).flatMap encD = l.flatMap encD ++ [.int .i64 (d2 % 10000)] := by simp [encD]
  have hs2 := add_step hsum da db hd2
  refine cS (cR ?_)
  refine Rn hS (.m rfl <| .m rfl <| .c (e_remN rfl rfl (by omega)) .n) ?_; clear hS a; intro a hS
  refine L_op (s_bslice hS ty_sl137 ty_sz3 ty_z3 rfl rfl rfl rfl (.one rfl rfl rfl .nil) rfl ?_); clear hS a; intro a w b49 hS
  refine L_op (s_append1 hS rfl rfl ty_sl137 ty_sz3 ty_by3 ty_z3 rfl rfl rfl (by repeat constructor) (by repeat constructor) (by rfl) (by rfl) (fun _ => (by repeat constructor)) (by omega) ?_); clear hS a; intro v50 a w hv50 hS
  refine L_e hS (e_assign rfl) rfl ?_; clear hS a; intro a hS
  refine nL (nT (cR ?_))
  refine Rn hS (.m rfl <| .c (e_quoN rfl rfl (by omega)) <| .a rfl .n) ?_; clear hS a; intro a hS
  refine nL (n_block (nT (cR ?_)))
  refine Rn hS (.m rfl <| .c (e_binN rfl rfl rfl (by omega)) <| .a rfl .n) ?_; clear hS a; intro a hS
  refine nL ?_
  have hlN2 : l.length ≤ N := by
   rcases Nat.lt_or_ge l.length (N + 1) with h1 | h1
   · omega
   · have := hlN (by omega)
     omega
  refine ⟨(d2 / 10000, l ++ [d2 % 10000], v50), by simp only [List.length_append, List.length_cons, List.length_nil]; omega, ?_, inR_snoc hin (by omega), by simp only; omega, by simp only; omega, by simp only [List.length_append, List.length_cons, List.length_nil]; omega, ?_, ?_, ?_⟩
  · simp only [List.length_append, List.length_cons, List.length_nil, Nat.zero_add, e1]
    exact (hS.drop (by repeat (first | exact List.Sublist.refl _ | apply List.Sublist.cons_cons | apply List.Sublist.cons))).slots (by exact ⟨rfl, rfl, rfl, rfl, rfl, trivial⟩)
  · simp only [List.length_append, List.length_cons, List.length_nil, Nat.zero_add]
    intro h1
    have za : gd xs l.length = 0 := by unfold gd; rw [List.getElem?_eq_none (by omega)]; rfl
    have zb : gd ys l.length = 0 := by unfold gd; rw [List.getElem?_eq_none (by omega)]; rfl
    omega
  · simp only [List.length_append, List.length_cons, List.length_nil, Nat.zero_add]
    by_cases h1 : l.length < N
    · exact .inl h1
    · refine .inr ⟨l, _, rfl, ?_⟩
      have za : gd xs l.length = 0 := by unfold gd; rw [List.getElem?_eq_none (by omega)]; rfl
      have zb : gd ys l.length = 0 := by unfold gd; rw [List.getElem?_eq_none (by omega)]; rfl
      omega
  · simp only [List.length_append, List.length_cons, List.length_nil, Nat.zero_add]
    rw [nv_snoc, hs2, Int.pow_succ]
 refine wp_exit ?_
 refine x_then (x_then (x_hit ?_))
 refine nT (cS (cR ?_))
 refine Rn hS (.m rfl <| .a rfl .n) ?_; clear hS a; intro a hS
 refine nL (nT (wp_ret ?_))
 refine c_ret1 hS Tryz.results101 (.tmp rfl) ?_
 refine ⟨⟨(l, sv), hin, ?_, hll, htop⟩, rfl, hS.chg, hS.new (X := ownA 3 1 sv l.length (l.flatMap encD)) (by repeat (first | exact .head _ | refine .tail _ ?_)) rfl⟩
 rw [hsum, List.drop_eq_nil_of_le (by omega), List.drop_eq_nil_of_le (by omega), show cy = 0 by omega]
 simp [nv]
theorem add_can {l : List Int} {m n N : Nat} (hin : inR l) (hv : nv l = (m : Int) + n) (hN : (dgs m).length = N ∨ (dgs n).length = N) (ht : l.length ≤ N ∨ ∃ s d, l = s ++ [d] ∧ d ≠ 0) : l = dgs (m + n) := by
 have e1 : (nv l).toNat = m + n := by omega
 rcases ht with ht | ⟨s, d, hd, hne⟩
 · have h1 := nv_lt hin
   have h2 : (dgs (m + n)).length ≤ l.length := dgs_length_le (by
     have : ((m + n : Nat) : Int) < ((10000 ^ l.length : Nat) : Int) := by rw [Int.natCast_pow]; simp only [Int.natCast_add]; rw [← hv]; exact h1
     omega)
   have h3 : N ≤ (dgs (m + n)).length := by
    rcases hN with h | h
    · rw [← h]; exact dgs_len_mono (by omega)
    · rw [← h]; exact dgs_len_mono (by omega)
   exact nv_inj hin (inR_dgs _) (by omega) (by rw [hv, nv_dgs]; omega)
 · rw [← e1]
   refine dgs_of hin (fun r d' e => ?_)
   rw [hd] at e
   have := List.append_inj_right' e rfl
   simp only [List.cons.injEq, and_true] at this
   rw [← this]; exact hne
theorem addD_P (p q : Option (Nat × Nat)) (c1 c2 : Nat) (m n : Nat) (hN : (dgs m).length ≤ 100000 ∧ (dgs n).length ≤ 100000) (w0 : World) (h : (twoA p q (dgs m) (dgs n)).ok w0) :
 NewC Tryz.prog 101 [sliceV p (dgs m).length c1, sliceV q (dgs n).length c2] w0 (fun r : { r : Digs // r.1 = dgs (m + n) } => r.1.2) (fun r => digA r.1) := by
 rcases Nat.le_total (dgs m).length (dgs n).length with hle | hle
 · exact (addN_P p q c1 c2 (dgs m) (dgs n) (inR_dgs m) (inR_dgs n) (dgs n).length (by omega) hle (Nat.le_refl _) w0 h).mono fun e w' ⟨⟨r, h1, h2, h3, h4⟩, he, hc, hY, hF⟩ => ⟨⟨r, add_can h1 (by rw [h2, nv_dgs, nv_dgs]) (.inr rfl) h4⟩, he, hc, hY, hF⟩
 · exact (addN_P p q c1 c2 (dgs m) (dgs n) (inR_dgs m) (inR_dgs n) (dgs m).length (by omega) (Nat.le_refl _) hle w0 h).mono fun e w' ⟨⟨r, h1, h2, h3, h4⟩, he, hc, hY, hF⟩ => ⟨⟨r, add_can h1 (by rw [h2, nv_dgs, nv_dgs]) (.inl rfl) h4⟩, he, hc, hY, hF⟩
theorem ab_abs (v : Int) : Wd.ab v = v.natAbs := by unfold Wd.ab; split <;> omega
def upD (x y : Int) : Prop := y.natAbs < 2 * (x.tmod y).natAbs ∨ 2 * (x.tmod y).natAbs = y.natAbs ∧ (x.tdiv y).natAbs % 2 = 1
instance (x y : Int) : Decidable (upD x y) := by unfold upD; infer_instance
theorem dv_up (x y : Int) : Wd.dv x y = if upD x y then x.tdiv y + (if decide (x < 0) ≠ decide (y < 0) then -1 else 1) else x.tdiv y := by
 have h1 : (x.tdiv y).natAbs = x.natAbs / y.natAbs := Int.natAbs_tdiv x y
 have h2 : (x.tmod y).natAbs = x.natAbs % y.natAbs := Int.natAbs_tmod x y
 have h3 := Wd.tq_of x y
 have hu : upD x y ↔ (y.natAbs < 2 * (x.natAbs % y.natAbs) ∨ 2 * (x.natAbs % y.natAbs) = y.natAbs ∧ x.natAbs / y.natAbs % 2 = 1) := by unfold upD; rw [h1, h2]
 unfold Wd.dv Wd.ev
 rw [ab_abs, ab_abs] at *
 have e1 : ((x.natAbs : Int) % (y.natAbs : Int)) = ((x.natAbs % y.natAbs : Nat) : Int) := rfl
 have e2 : ((x.natAbs : Int) / (y.natAbs : Int)) = ((x.natAbs / y.natAbs : Nat) : Int) := rfl
 rw [e2] at h3
 rw [e1, e2]
 generalize x.natAbs / y.natAbs = Q at *
 generalize x.natAbs % y.natAbs = R at *
 have hc : ((y.natAbs : Int) < 2 * (R : Int) ∨ 2 * (R : Int) = (y.natAbs : Int) ∧ (Q : Int) % 2 = 1) ↔ upD x y := by rw [hu]; omega
 rw [← h3]
 unfold Wd.sv
 by_cases hd : upD x y
 · rw [if_pos hd, if_pos (hc.2 hd)]
   cases decide (x < 0) <;> cases decide (y < 0) <;> simp <;> omega
 · rw [if_neg hd, if_neg (fun e => hd (hc.1 e))]
theorem odd_dg {z : Int} {d : Int} (h : (dgs z.natAbs)[0]? = some d) : (d % 2 = 1 ↔ z.natAbs % 2 = 1) := by
 by_cases h0 : z.natAbs = 0
 · rw [h0, dgs_zero] at h; simp at h
 · rw [dgs_pos h0] at h; simp at h; omega
set_option maxHeartbeats 1000000 in
set_option maxRecDepth 100000 in
theorem BigEven_P (p q : Option (Nat × Nat)) (c1 c2 : Nat) (x y : Int) (hy0 : y ≠ 0) (hx : (dgs x.natAbs).length ≤ 1000) (hy : (dgs y.natAbs).length ≤ 1000) (w0 : World) (h : (twoA p q (dgs x.natAbs) (dgs y.natAbs)).ok w0) :
 NewC Tryz.prog 131 [bigV x p c1, bigV y q c2] w0 (fun r : At (Wd.dv x y) => bigV (Wd.dv x y) (some (r.1.1, 0)) r.1.2) (fun r => bigA (Wd.dv x y) r.1.1) := by
 have hq := h.now.2
 have hql : (dgs (x.tdiv y).natAbs).length ≤ 1000 := Nat.le_trans (dgs_len_mono (by rw [Int.natAbs_tdiv]; exact Nat.div_le_self _ _)) hx
 have hrl : (dgs (x.tmod y).natAbs).length ≤ 1000 := Nat.le_trans (dgs_len_mono (by rw [Int.natAbs_tmod]; exact Nat.mod_le _ _)) hx
 have h2l : (dgs ((x.tmod y).natAbs + (x.tmod y).natAbs)).length ≤ 1001 := by
  have := len_mul (Y := (x.tmod y).natAbs) (m := 2) (by omega)
  rw [show (x.tmod y).natAbs * 2 = (x.tmod y).natAbs + (x.tmod y).natAbs by omega] at this; omega
 have hup := dv_up x y
 refine c_enter [(0, bigV x p c1), (1, bigV y q c2)] [twoA p q (dgs x.natAbs) (dgs y.natAbs)] noB Tryz.func131 rfl Tryz.ntmps131 ⟨rfl, rfl, trivial⟩ rfl (okC (h) okN) dis1 (mineC (by rfl) mineN) ?_
 intro a hS
 refine cS (cR ?_)
 refine L_op (s_boxA hS rfl rfl ?_); clear hS a; intro a w b2 hS
 refine L_op (s_boxA hS rfl rfl ?_); clear hS a; intro a w b3 hS
 refine L_op (s_alloc hS ty_z139 rfl ?_); clear hS a; intro a w b4 hS
 refine nL (nT (cS (cR ?_)))
 refine Rn hS (.c (e_loadA rfl (by repeat constructor) ty_st139 ty_sz139 (by rfl)) <| .c (e_loadA rfl (by repeat constructor) ty_st139 ty_sz139 (by rfl)) .n) ?_; clear hS a; intro a hS
 refine L_op (s_callN hS (.cons rfl (.cons rfl .nil)) cf147 rfl (BigQuo_P p q c1 c2 x y hy0 hx hy _ (hS.ok _ (by repeat constructor))) ?_); clear hS a; intro x13 a w hS
 refine Rn hS (.m rfl <| .c (e_extract rfl rfl) <| .c (e_extract rfl rfl) .n) ?_; clear hS a; intro a hS
 refine L_op (s_alloc hS ty_z139 rfl ?_); clear hS a; intro a w b5 hS
 refine L_op (s_alloc hS ty_z139 rfl ?_); clear hS a; intro a w b6 hS
 refine L_op (s_storeA hS rfl rfl ty_sz139 (by repeat constructor) (by rfl) (by rfl) (by rfl) ?_); clear hS; intro w hS
 refine L_op (s_storeA hS rfl rfl ty_sz139 (by repeat constructor) (by rfl) (by rfl) (by rfl) ?_); clear hS; intro w hS
 refine nL (nT (cS ?_))
 refine c_drawS [] (by kernel_rfl) hS (sub_cons (X := .blk b6 _ _) (by repeat constructor) (sub_cons (X := .blk b3 _ _) (by repeat constructor) sub_nil)) ?_; clear hS; intro w hS
 simp only [List.length_cons, List.length_nil, Nat.zero_add, Nat.reduceAdd, List.replicate]
 refine Rz hS (sub_cons (by repeat constructor) (sub_cons (by repeat constructor) sub_nil)) (.o 0 (tf 1 8) rfl wN (e_fa0 rfl ty_fo139_1) rfl <| .y 1 (tf 2 7) rfl wN (e_load rfl (by repeat constructor) ty_sc137 (by rfl)) rfl <| .o 2 (tf 3 6) rfl wN (e_fa0 rfl ty_fo139_1) rfl <| .y 3 (tf 4 5) rfl wN (e_load rfl (by repeat constructor) ty_sc137 (by rfl)) rfl <| .o 5 [true, true, true, true, false, true, false, false, false] rfl wN (e_fa0 rfl ty_fo139_1) rfl <| .y 6 [true, true, true, true, false, true, true, false, false] rfl wN (e_load rfl (by repeat constructor) ty_sc137 (by rfl)) rfl .n) ?_; clear hS a; intro a hS
 have hpr := hS.gg (X := pairA (x.tdiv y) x13.1.1.1 (x.tmod y) x13.2.1.1)
 have hplt : x13.2.1.1 < w.heap.size := (hS.ok (pairA (x.tdiv y) x13.1.1.1 (x.tmod y) x13.2.1.1) (by repeat constructor)).lt _ (.inr rfl)
 refine Zo 4 (tf 7 2) hS rfl wN rfl (s_callN hS (.cons rfl (.cons rfl .nil)) cf101 rfl (addD_P (some (x13.2.1.1, 0)) (some (x13.2.1.1, 0)) x13.2.1.2 x13.2.1.2 (x.tmod y).natAbs (x.tmod y).natAbs ⟨by omega, by omega⟩ _ (two_ok hpr.2 hpr.2 (fun r e => by cases e; exact hplt) (fun r e => by cases e; exact hplt))) ?_); clear hS a; intro x20 a w hS
 obtain ⟨⟨l20, v20⟩, e20⟩ := x20
 have e20 : l20 = dgs ((x.tmod y).natAbs + (x.tmod y).natAbs) := e20
 subst e20
 obtain ⟨p20, c20, e20, _, _, _, _⟩ := own_digs (hS.gg (X := digA (dgs ((x.tmod y).natAbs + (x.tmod y).natAbs), v20)))
 have e20 : v20 = sliceV p20 (dgs ((x.tmod y).natAbs + (x.tmod y).natAbs)).length c20 := e20
 subst e20
 refine Z_and hS (sub_cons (by repeat constructor) (sub_cons (by repeat constructor) sub_nil)) ?_
 have hrw := own_rowP (hS.gg (X := digA (dgs ((x.tmod y).natAbs + (x.tmod y).natAbs), sliceV p20 (dgs ((x.tmod y).natAbs + (x.tmod y).natAbs)).length c20)))
 have htw := hS.ok (twoA p q (dgs x.natAbs) (dgs y.natAbs)) (by repeat constructor)
 refine Zo 7 (tf 8 1) hS rfl wN rfl (s_callP hS (.cons rfl (.cons rfl .nil)) cf102 rfl (cmp_P p20 q c20 c2 ((x.tmod y).natAbs + (x.tmod y).natAbs) y.natAbs (by omega) _ (two_ok hrw.1 (htw.now.2) hrw.2 (fun r e => htw.lt r.1 (.inr ⟨r.2, e⟩)))) ?_); clear hS a; intro a w hS
 refine Z_and hS (sub_cons (by repeat constructor) (sub_cons (by repeat constructor) sub_nil)) ?_
 refine Zt0 8 (tf 9 0) hS rfl want_none (e_assign rfl) rfl (by kernel_rfl) rfl ?_; clear hS a; intro a hS
 refine Z_done (by kernel_rfl) ?_
 refine nT (cS (cR ?_))
 have hcN : ((x.tmod y).natAbs + (x.tmod y).natAbs < y.natAbs ∧ cmpN ((x.tmod y).natAbs + (x.tmod y).natAbs) y.natAbs = -1) ∨ ((x.tmod y).natAbs + (x.tmod y).natAbs = y.natAbs ∧ cmpN ((x.tmod y).natAbs + (x.tmod y).natAbs) y.natAbs = 0) ∨ (y.natAbs < (x.tmod y).natAbs + (x.tmod y).natAbs ∧ cmpN ((x.tmod y).natAbs + (x.tmod y).natAbs) y.natAbs = 1) := by
  obtain ⟨z1, z2, z3⟩ := @cmpN_Z ((x.tmod y).natAbs + (x.tmod y).natAbs) y.natAbs
  rcases Nat.lt_trichotomy ((x.tmod y).natAbs + (x.tmod y).natAbs) y.natAbs with h1 | h1 | h1
  · exact .inl ⟨h1, z1 h1⟩
  · exact .inr (.inl ⟨h1, z3 h1⟩)
  · exact .inr (.inr ⟨h1, z2 h1⟩)
 refine Rn hS (.c (e_fa0 rfl ty_fo139_1) <| .c (e_load rfl (by repeat constructor) ty_sc137 (by rfl)) <| .c (e_len rfl rfl ty_sl137) <| .c (e_bin rfl rfl rfl) <| .m rfl .n) ?_; clear hS a; intro a hS
 refine L_merge 7 35 (.bool (decide ((x.tdiv y).natAbs % 2 = 1))) hS ?_ ?_
 · intro hcM35
   refine g_splitD (t := 28) hS rfl ?_ ?_ <;> (clear hS; intro hg28 hS)
   ·
    obtain ⟨d, hd⟩ : ∃ d, (dgs (x.tdiv y).natAbs)[0]? = some d := ⟨(dgs (x.tdiv y).natAbs)[0]'(by omega), List.getElem?_eq_getElem (by omega)⟩
    have hdr := inR_dgs _ d (List.mem_of_getElem? hd)
    have hod := odd_dg hd
    refine Rn hS (.g rfl rfl (e_fa0 rfl ty_fo139_1) <| .g rfl rfl (e_load rfl (by repeat constructor) ty_sc137 (by rfl)) <| .g rfl rfl (e_ix0 rfl rfl ty_sl137 ty_sz3 (by omega)) <| .g rfl rfl (e_loadC rfl ty_sc3 (fun w hh => (hh (pairA (x.tdiv y) x13.1.1.1 (x.tmod y) x13.2.1.1) (by repeat constructor)).1 0 (encD d) (by rw [List.getElem?_map, hd]; rfl) 0 (.int .i64 d) rfl)) <| .g rfl rfl (e_remN rfl rfl (by omega)) <| .g rfl rfl (e_bin rfl rfl rfl) <| .c (e_pick_t rfl rfl) .n) ?_; clear hS a; intro a hS
    exact hcM35 _ _ (hS.ends 8 35 28 rfl (congrArg Value.bool (by rw [decide_eq_decide]; exact hod)) rfl rfl (by first | exact congrArg Value.bool (decide_eq_true hg28).symm | exact congrArg Value.bool hg28.symm | simp [hg28]) rfl)
   have hq0 : (x.tdiv y).natAbs = 0 := by
    have h1 := @dgs_ne (x.tdiv y).natAbs
    rw [← List.length_pos_iff] at h1; omega
   refine Rn hS (.t rfl rfl <| .t rfl rfl <| .t rfl rfl <| .t rfl rfl <| .t rfl rfl <| .t rfl rfl <| .c (e_pick_f rfl rfl) .n) ?_; clear hS a; intro a hS
   exact hcM35 _ _ (hS.ends 8 35 28 rfl (congrArg Value.bool (by rw [hq0]; rfl)) rfl rfl (by first | exact congrArg Value.bool (decide_eq_false hg28).symm | exact congrArg Value.bool hg28.symm | simp [hg28]) rfl)
 · clear hS a; intro a w hS
   simp only [List.drop_succ_cons, List.drop_zero]
   refine L_e hS (e_assign rfl) rfl ?_; clear hS a; intro a hS
   refine nL (nT (cS (cS (cR ?_))))
   refine Rn hS (.m rfl <| .c (e_bin rfl rfl rfl) <| .m rfl .n) ?_; clear hS a; intro a hS
   refine L_merge 6 44 (.bool (decide (upD x y))) hS ?_ ?_
   · intro hcM44
     refine g_splitD (t := 38) hS rfl ?_ ?_ <;> (clear hS; intro hg38 hS)
     ·
      refine Rn hS (.f rfl rfl <| .f rfl rfl <| .f rfl rfl .n) ?_; clear hS a; intro a hS
      refine L_skip_u hS rfl rfl rfl ?_; clear hS a; intro a hS
      refine Rn hS (.f rfl rfl <| .c (e_pick_t rfl rfl) .n) ?_; clear hS a; intro a hS
      exact hcM44 _ _ (hS.ends 7 44 38 rfl (congrArg Value.bool (by exact (decide_eq_true (by unfold upD; omega)).symm)) rfl rfl (by first | exact congrArg Value.bool (decide_eq_true hg38).symm | exact congrArg Value.bool hg38.symm | simp [hg38]) rfl)
     refine Rn hS (.g rfl rfl (e_move rfl) <| .g rfl rfl (e_bin rfl rfl rfl) <| .g rfl rfl (e_move rfl) .n) ?_; clear hS a; intro a hS
     refine L_merge 2 43 (.bool (decide (cmpN ((x.tmod y).natAbs + (x.tmod y).natAbs) y.natAbs = 0 ∧ (x.tdiv y).natAbs % 2 = 1))) hS ?_ ?_
     · intro hcM43
       refine g_splitD (t := 41) hS rfl ?_ ?_ <;> (clear hS; intro hg41 hS)
       ·
        refine Rn hS (.g rfl rfl (e_move rfl) <| .g rfl rfl (e_pick_t rfl rfl) .n) ?_; clear hS a; intro a hS
        exact hcM43 _ _ (hS.ends 3 43 41 rfl (congrArg Value.bool (by first | rfl | (simp [hg41]; done) | (simp [hg41]; omega) | grind)) rfl rfl (by first | exact congrArg Value.bool (decide_eq_true hg41).symm | exact congrArg Value.bool hg41.symm | simp [hg41]) rfl)
       refine Rn hS (.t rfl rfl <| .g rfl rfl (e_pick_f rfl rfl) .n) ?_; clear hS a; intro a hS
       exact hcM43 _ _ (hS.ends 3 43 41 rfl (congrArg Value.bool (by first | rfl | (simp [hg41]; done) | (simp [hg41]; omega) | grind)) rfl rfl (by first | exact congrArg Value.bool (decide_eq_false hg41).symm | exact congrArg Value.bool hg41.symm | simp [hg41]) rfl)
     · clear hS a; intro a w hS
       simp only [List.drop_succ_cons, List.drop_zero]
       refine L_e hS (e_pick_f rfl rfl) rfl ?_; clear hS a; intro a hS
       exact hcM44 _ _ (hS.ends 6 44 38 rfl (congrArg Value.bool (by rw [decide_eq_decide]; unfold upD; omega)) rfl rfl (by first | exact congrArg Value.bool (decide_eq_false hg38).symm | exact congrArg Value.bool hg38.symm | simp [hg38]) rfl)
   · clear hS a; intro a w hS
     simp only [List.drop_succ_cons, List.drop_zero]
     refine nL (nT ?_)
     refine c_ifD hS rfl (fun hc44 => ?_) (fun hc44 => ?_)
     ·
      refine cS (cR ?_)
      refine L_op (s_callN hS (.cons rfl .nil) cf62 rfl (BigOf_P 1 (by decide) _) ?_); clear hS a; intro x45 a w hS
      refine L_op (s_alloc hS ty_z139 rfl ?_); clear hS a; intro a w b9 hS
      refine L_op (s_storeA hS rfl rfl ty_sz139 (by repeat constructor) (by rfl) (by rfl) (by rfl) ?_); clear hS; intro w hS
      refine nL (nT ?_)
      refine c_cut (fun a w => ∃ (s : Int) (nb nc : Nat), St 56 noB w0 a w [(9, .pointer (some ⟨b9, 0, none⟩)), (4, .pointer (some ⟨b4, 0, none⟩)), (5, .pointer (some ⟨b5, 0, none⟩))] [.blk b9 [.bool (decide (s < 0)), sliceV (some (nb, 0)) (dgs s.natAbs).length nc] 139, bigA s nb, pairA (x.tdiv y) x13.1.1.1 (x.tmod y) x13.2.1.1, .blk b5 [.bool (decide (x.tdiv y < 0)), sliceV (some (x13.1.1.1, 0)) (dgs (x.tdiv y).natAbs).length x13.1.1.2] 139, .blk b4 [.bool false, .slice none 0 0] 139] ∧ s = if decide (x < 0) ≠ decide (y < 0) then -1 else 1) ?_ ?_
      ·
       refine cS (cR ?_)
       refine Rn hS (.c (e_fa0 rfl ty_fo139_0) <| .c (e_load rfl (by repeat constructor) ty_sc4 (by rfl)) <| .c (e_fa0 rfl ty_fo139_0) <| .c (e_load rfl (by repeat constructor) ty_sc4 (by rfl)) <| .c (e_binBn rfl rfl ty_u4) .n) ?_; clear hS a; intro a hS
       refine nL (nT ?_)
       refine c_ifD hS rfl (fun hc50 => ?_) (fun hc50 => ?_)
       ·
        refine cR ?_
        refine L_op (s_callN hS (.cons rfl .nil) cf62 rfl (BigOf_P (-1) (by decide) _) ?_); clear hS a; intro x51 a w hS
        refine L_op (s_storeA hS rfl rfl ty_sz139 (by repeat constructor) (by rfl) (by rfl) (by rfl) ?_); clear hS; intro w hS
        refine nL ?_
        first
        | exact ⟨-1, x51.1.1, x51.1.2, (hS.pick (by repeat (first | exact Pick.nil | (refine Pick.cons (by repeat (first | exact Rem.head | apply Rem.tail)) ?_)))).slots (by repeat (first | exact trivial | refine ⟨rfl, ?_⟩)), by rw [if_pos hc50]⟩
        | exact ⟨1, x45.1.1, x45.1.2, (hS.pick (by repeat (first | exact Pick.nil | (refine Pick.cons (by repeat (first | exact Rem.head | apply Rem.tail)) ?_)))).slots (by repeat (first | exact trivial | refine ⟨rfl, ?_⟩)), by rw [if_neg hc50]⟩
       refine wS ?_
       first
       | exact ⟨-1, x51.1.1, x51.1.2, (hS.pick (by repeat (first | exact Pick.nil | (refine Pick.cons (by repeat (first | exact Rem.head | apply Rem.tail)) ?_)))).slots (by repeat (first | exact trivial | refine ⟨rfl, ?_⟩)), by rw [if_pos hc50]⟩
       | exact ⟨1, x45.1.1, x45.1.2, (hS.pick (by repeat (first | exact Pick.nil | (refine Pick.cons (by repeat (first | exact Rem.head | apply Rem.tail)) ?_)))).slots (by repeat (first | exact trivial | refine ⟨rfl, ?_⟩)), by rw [if_neg hc50]⟩
      clear hS a; intro a w hS
      obtain ⟨s, nb, nc, hS, hs⟩ := hS
      have hs1 : s.natAbs = 1 := by rw [hs]; split <;> rfl
      have hpl : x13.1.1.1 < w.heap.size := (hS.ok (pairA (x.tdiv y) x13.1.1.1 (x.tmod y) x13.2.1.1) (by repeat constructor)).lt _ (.inl rfl)
      have hAd := BigAdd_P (some (x13.1.1.1, 0)) (some (nb, 0)) x13.1.1.2 nc (x.tdiv y) s 1000 (by decide) hql (by rw [hs1]; have := len20 (z := 1) (by decide); exact Nat.le_trans this (by decide)) w (two_ok (hS.gg (X := pairA (x.tdiv y) x13.1.1.1 (x.tmod y) x13.2.1.1)).1 (hS.gg (X := bigA s nb)) (fun r e => by cases e; exact hpl) (fun r e => by cases e; exact (hS.ok (bigA s nb) (by repeat constructor)).lt _ rfl))
      rw [if_pos hc44, ← hs] at hup
      rw [← hup] at hAd
      refine cS (cR ?_)
      refine Rn hS (.c (e_loadA rfl (by repeat constructor) ty_st139 ty_sz139 (by rfl)) <| .c (e_loadA rfl (by repeat constructor) ty_st139 ty_sz139 (by rfl)) .n) ?_; clear hS a; intro a hS
      refine L_op (s_callN hS (.cons rfl (.cons rfl .nil)) cf63 rfl (hAd) ?_); clear hS a; intro x54 a w hS
      refine L_op (s_storeA hS rfl rfl ty_sz139 (by repeat constructor) (by rfl) (by rfl) (by rfl) ?_); clear hS; intro w hS
      refine nL (nT (wp_ret (r_then ?_)))
      refine c_ret1 hS Tryz.results131 (.cellA rfl (by repeat constructor) ty_st139 ty_sz139 (by rfl)) ?_
      exact ⟨x54, rfl, hS.chg, hS.new (X := bigA (Wd.dv x y) x54.1.1) (by repeat constructor) rfl⟩
     refine wS (nT (cS (cR ?_)))
     refine L_e hS (e_loadA rfl (by repeat constructor) ty_st139 ty_sz139 (by rfl)) rfl ?_; clear hS a; intro a hS
     refine L_op (s_storeA hS rfl rfl ty_sz139 (by repeat constructor) (by rfl) (by rfl) (by rfl) ?_); clear hS; intro w hS
     refine nL (nT (wp_ret ?_))
     refine c_ret1 hS Tryz.results131 (.cellA rfl (by repeat constructor) ty_st139 ty_sz139 (by rfl)) ?_
     rw [if_neg hc44] at hup
     have hcap : (dgs (Wd.dv x y).natAbs).length ≤ x13.1.1.2 := by rw [hup]; exact x13.1.2
     have hA := hS.ok (pairA (x.tdiv y) x13.1.1.1 (x.tmod y) x13.2.1.1) (by repeat constructor)
     have hB := hS.new (X := pairA (x.tdiv y) x13.1.1.1 (x.tmod y) x13.2.1.1) (by repeat constructor) rfl
     refine ⟨⟨(x13.1.1.1, x13.1.1.2), hcap⟩, ?_, hS.chg, ⟨fun k hk => hA.lt k (.inl hk), fun w' hw => ?_⟩, fun b hb => hB.2 b (.inl hb)⟩
     · simp only [hup]; rfl
     · show RowP (some (x13.1.1.1, 0)) 1 ((dgs (Wd.dv x y).natAbs).map encD) w'
       rw [hup]
       exact RowAt.keep hA.now.1 (hw _ rfl)
theorem units_iffR (z : Int) : inU z ↔ ((i64R z).2 = true ∧ (i64R z).1 ≤ 4611686018427387904) ∧ -4611686018427387904 ≤ (i64R z).1 := by
 unfold inU i64R
 split
 · simp; omega
 · simp; omega
set_option maxRecDepth 100000 in
theorem unitsR_P (p : Option (Nat × Nat)) (c : Nat) (z : Int) (hz : (dgs z.natAbs).length ≤ 1000) (w0 : World) (h : (oneA p (dgs z.natAbs)).ok w0) :
 PureC Tryz.prog 60 [bigV z p c] w0 (.tuple [.int .i64 (i64R z).1, .bool (decide (inU z))].toArray) := by
 refine c_enter [(0, bigV z p c)] [oneA p (dgs z.natAbs)] noB Tryz.func60 rfl Tryz.ntmps60 ⟨rfl, trivial⟩ rfl (okC (h) okN) dis1 (mineC (by rfl) mineN) ?_
 intro a hS
 refine cS (cR ?_)
 refine L_op (s_boxA hS rfl rfl ?_); clear hS a; intro a w b1 hS
 refine Rn hS (.a rfl <| .a rfl .n) ?_; clear hS a; intro a hS
 refine nL (nT (cS (cR ?_)))
 refine L_e hS (e_loadA rfl (by repeat constructor) ty_st139 ty_sz139 (by rfl)) rfl ?_; clear hS a; intro a hS
 refine L_op (s_callP hS (.cons rfl .nil) cf99 rfl (BigInt_P p c z hz _ (hS.ok (oneA p (dgs z.natAbs)) (by repeat constructor))) ?_); clear hS a; intro a w hS
 refine Rn hS (.m rfl <| .c (e_extract rfl rfl) <| .c (e_extract rfl rfl) <| .a rfl <| .a rfl .n) ?_; clear hS a; intro a hS
 refine nL (nT (cS (cR ?_)))
 refine Rn hS (.m rfl <| .m rfl <| .m rfl .n) ?_; clear hS a; intro a hS
 refine L_merge 3 16 (.bool (decide ((i64R z).2 = true ∧ (i64R z).1 ≤ 4611686018427387904))) hS ?_ ?_
 · intro hcM16
   refine g_split (t := 13) hS rfl ?_ ?_ <;> (clear hS; intro hg13 hS)
   ·
    refine Rn hS (.g rfl rfl (e_move rfl) <| .g rfl rfl (e_bin rfl rfl rfl) <| .c (e_pick_t rfl rfl) .n) ?_; clear hS a; intro a hS
    exact hcM16 _ _ (hS.ends 4 16 13 rfl (congrArg Value.bool (by first | rfl | (simp [hg13]; done) | (simp [hg13]; omega) | grind)) rfl rfl (by first | exact congrArg Value.bool (decide_eq_true hg13).symm | exact congrArg Value.bool hg13.symm | simp [hg13]) rfl)
   refine Rn hS (.t rfl rfl <| .t rfl rfl <| .c (e_pick_f rfl rfl) .n) ?_; clear hS a; intro a hS
   exact hcM16 _ _ (hS.ends 4 16 13 rfl (congrArg Value.bool (by first | rfl | (simp [hg13]; done) | (simp [hg13]; omega) | grind)) rfl rfl (by first | exact congrArg Value.bool (decide_eq_false hg13).symm | exact congrArg Value.bool hg13.symm | simp [hg13]) rfl)
 · clear hS a; intro a w hS
   simp only [List.drop_succ_cons, List.drop_zero]
   refine L_e hS (e_move rfl) rfl ?_; clear hS a; intro a hS
   refine L_merge 3 20 (.bool (decide (inU z))) hS ?_ ?_
   · intro hcM20
     refine g_splitD (t := 17) hS rfl ?_ ?_ <;> (clear hS; intro hg17 hS)
     ·
      refine Rn hS (.g rfl rfl (e_move rfl) <| .g rfl rfl (e_bin rfl rfl rfl) <| .c (e_pick_t rfl rfl) .n) ?_; clear hS a; intro a hS
      exact hcM20 _ _ (hS.ends 4 20 17 rfl (congrArg Value.bool (by exact decide_eq_decide.2 ⟨fun h => (units_iffR z).2 ⟨hg17, h⟩, fun h => ((units_iffR z).1 h).2⟩)) rfl rfl (by first | exact congrArg Value.bool (decide_eq_true hg17).symm | exact congrArg Value.bool hg17.symm | simp [hg17]) rfl)
     refine Rn hS (.t rfl rfl <| .t rfl rfl <| .c (e_pick_f rfl rfl) .n) ?_; clear hS a; intro a hS
     exact hcM20 _ _ (hS.ends 4 20 17 rfl (congrArg Value.bool (by exact (decide_eq_false (fun h => hg17 ((units_iffR z).1 h).1)).symm)) rfl rfl (by first | exact congrArg Value.bool (decide_eq_false hg17).symm | exact congrArg Value.bool hg17.symm | simp [hg17]) rfl)
   · clear hS a; intro a w hS
     simp only [List.drop_succ_cons, List.drop_zero]
     refine Rn hS (.a rfl <| .a rfl .n) ?_; clear hS a; intro a hS
     refine nL (nT (wp_ret ?_))
     refine c_retN hS Tryz.results60 (.cons (.tmp rfl) (.cons (.tmp rfl) .nil)) rfl ?_
     exact ⟨rfl, hS.chg⟩
theorem i64R_inR {z : Int} (h : inU z) : (i64R z).1 = z := by unfold i64R; unfold inU at h; rw [if_pos (by omega)]
theorem dv_len {u n : Int} (hu : inU u) (hn : 0 ≤ n ∧ n ≤ 1125899906842624) : (dgs (Wd.dv (u * n) 1000000000).natAbs).length ≤ 20 := by
 have h1 := dv_bd (u * n) (prod_bd hu hn)
 unfold Wd.fit at h1
 exact len20 (by omega)
set_option maxRecDepth 100000 in
theorem xEven_P (u n : Int) (hu : inU u) (hn : 0 ≤ n ∧ n ≤ 1125899906842624) (w0 : World) :
 PureC Tryz.prog 120 [.int .i64 u, .int .i64 n, .int .i64 1000000000] w0 (.tuple [.int .i64 (i64R (Wd.dv (u * n) 1000000000)).1, .bool (decide (inU (Wd.dv (u * n) 1000000000)))].toArray) := by
 have hp := prod_bd hu hn
 have hdl := dv_len hu hn
 have hu2 := hu
 unfold inU at hu2
 refine c_enter [(0, .int .i64 u), (1, .int .i64 n), (2, .int .i64 1000000000)] [] noB Tryz.func120 rfl Tryz.ntmps120 ⟨rfl, rfl, rfl, trivial⟩ rfl (by simp) (by simp) (by simp) ?_
 intro a hS
 refine cS (cR ?_)
 refine Rn hS (.a rfl <| .a rfl .n) ?_; clear hS a; intro a hS
 refine nL (nT (cS (cR ?_)))
 refine L_e hS (e_move rfl) rfl ?_; clear hS a; intro a hS
 refine L_op (s_callN hS (.cons rfl .nil) cf62 rfl (BigOf_P u (by omega) _) ?_); clear hS a; intro x9 a w hS
 refine L_e hS (e_move rfl) rfl ?_; clear hS a; intro a hS
 refine L_op (s_callN hS (.cons rfl .nil) cf62 rfl (BigOf_P n (by omega) _) ?_); clear hS a; intro x11 a w hS
 refine L_op (s_callN hS (.cons rfl (.cons rfl .nil)) cf132 rfl (BigMul_P (some (x9.1.1, 0)) (some (x11.1.1, 0)) x9.1.2 x11.1.2 u n (by have := len20 (z := u) (by omega); omega) (by have := len20 (z := n) (by omega); omega) _ (two_bb hS (b := x9.1.1) (c := x11.1.1) (by repeat constructor) (by repeat constructor))) ?_); clear hS a; intro x12 a w hS
 refine L_e hS (e_move rfl) rfl ?_; clear hS a; intro a hS
 refine L_op (s_callN hS (.cons rfl .nil) cf62 rfl (BigOf_P 1000000000 (by decide) _) ?_); clear hS a; intro x14 a w hS
 refine L_op (s_callN hS (.cons rfl (.cons rfl .nil)) cf131 rfl (BigEven_P (some (x12.1.1, 0)) (some (x14.1.1, 0)) x12.1.2 x14.1.2 (u * n) 1000000000 (by decide) (by have := len20 (z := u * n) (by omega); omega) (by have := len20 (z := 1000000000) (by decide); omega) _ (two_bb hS (b := x12.1.1) (c := x14.1.1) (by repeat constructor) (by repeat constructor))) ?_); clear hS a; intro x15 a w hS
 refine L_op (s_callP hS (.cons rfl .nil) cf60 rfl (unitsR_P (some (x15.1.1, 0)) x15.1.2 (Wd.dv (u * n) 1000000000) (by omega) _ (ok_rowP (row_b hS (x := Wd.dv (u * n) 1000000000) (b := x15.1.1) (by repeat constructor)).1 (row_b hS (x := Wd.dv (u * n) 1000000000) (b := x15.1.1) (by repeat constructor)).2)) ?_); clear hS a; intro a w hS
 refine Rn hS (.c (e_extract rfl rfl) <| .c (e_extract rfl rfl) <| .a rfl <| .a rfl .n) ?_; clear hS a; intro a hS
 refine nL (nT (wp_ret ?_))
 refine c_retN hS Tryz.results120 (.cons (.tmp rfl) (.cons (.tmp rfl) .nil)) rfl ?_
 exact ⟨rfl, hS.chg⟩
set_option maxRecDepth 100000 in
theorem xConv_P (u n : Int) (w0 : World) : PureC Tryz.prog 98 [.int .i64 u, .int .i64 n] w0 (.tuple [.int .i64 (convF u n).1, .int .i64 (convF u n).2].toArray) := by
 refine c_enter [(0, .int .i64 u), (1, .int .i64 n)] [] noB Tryz.func98 rfl Tryz.ntmps98 ⟨rfl, rfl, trivial⟩ rfl (by simp) (by simp) (by simp) ?_
 intro a hS
 refine cS (cR ?_)
 refine Rn hS (.a rfl <| .a rfl .n) ?_; clear hS a; intro a hS
 refine nL (nT (cS (cS (cR ?_))))
 refine L_e hS (e_move rfl) rfl ?_; clear hS a; intro a hS
 refine L_op (s_callP hS (.cons rfl .nil) cf93 rfl (Within_P u _) ?_); clear hS a; intro a w hS
 refine Rn hS (.c (e_not rfl) <| .m rfl .n) ?_; clear hS a; intro a hS
 refine L_merge 3 14 (.bool (decide (¬ inU u ∨ n < 0))) hS ?_ ?_
 · intro hcM14
   refine g_split (t := 11) hS rfl ?_ ?_ <;> (clear hS; intro hg11 hS)
   ·
    refine Rn hS (.f rfl rfl <| .f rfl rfl <| .c (e_pick_t rfl rfl) .n) ?_; clear hS a; intro a hS
    exact hcM14 _ _ (hS.ends 4 14 11 rfl (congrArg Value.bool (by simp at hg11; simp [hg11])) rfl rfl (by first | exact congrArg Value.bool (decide_eq_true hg11).symm | exact congrArg Value.bool hg11.symm | simp [hg11]) rfl)
   refine Rn hS (.g rfl rfl (e_move rfl) <| .g rfl rfl (e_bin rfl rfl rfl) <| .c (e_pick_f rfl rfl) .n) ?_; clear hS a; intro a hS
   exact hcM14 _ _ (hS.ends 4 14 11 rfl (congrArg Value.bool (by simp at hg11; rw [decide_eq_decide]; simp [hg11])) rfl rfl (by first | exact congrArg Value.bool (decide_eq_false hg11).symm | exact congrArg Value.bool hg11.symm | simp [hg11]) rfl)
 · clear hS a; intro a w hS
   simp only [List.drop_succ_cons, List.drop_zero]
   refine L_e hS (e_move rfl) rfl ?_; clear hS a; intro a hS
   refine L_merge 3 18 (.bool (decide (¬ inU u ∨ n < 0 ∨ 1125899906842624 < n))) hS ?_ ?_
   · intro hcM18
     refine g_splitD (t := 15) hS rfl ?_ ?_ <;> (clear hS; intro hg15 hS)
     ·
      refine Rn hS (.f rfl rfl <| .f rfl rfl <| .c (e_pick_t rfl rfl) .n) ?_; clear hS a; intro a hS
      exact hcM18 _ _ (hS.ends 4 18 15 rfl (congrArg Value.bool (by symm; rw [decide_eq_true_eq]; rcases hg15 with h | h; exact .inl h; exact .inr (.inl h))) rfl rfl (by first | exact congrArg Value.bool (decide_eq_true hg15).symm | exact congrArg Value.bool hg15.symm | simp [hg15]) rfl)
     refine Rn hS (.g rfl rfl (e_move rfl) <| .g rfl rfl (e_bin rfl rfl rfl) <| .c (e_pick_f rfl rfl) .n) ?_; clear hS a; intro a hS
     exact hcM18 _ _ (hS.ends 4 18 15 rfl (congrArg Value.bool (by rw [decide_eq_decide]; constructor; exact fun h => .inr (.inr h); exact fun h => by (rcases h with h | h | h; exact absurd (.inl h) hg15; exact absurd (.inr h) hg15; exact h))) rfl rfl (by first | exact congrArg Value.bool (decide_eq_false hg15).symm | exact congrArg Value.bool hg15.symm | simp [hg15]) rfl)
   · clear hS a; intro a w hS
     simp only [List.drop_succ_cons, List.drop_zero]
     refine nL (nT ?_)
     refine c_ifD hS rfl (fun hc18 => ?_) (fun hc18 => ?_)
     ·
      refine cS (cR ?_)
      refine Rn hS (.a rfl <| .a rfl .n) ?_; clear hS a; intro a hS
      refine nL (nT (wp_ret (r_then ?_)))
      refine c_retN hS Tryz.results98 (.cons (.tmp rfl) (.cons (.tmp rfl) .nil)) rfl ?_
      exact ⟨by rw [show convF u n = (0, 6) from if_pos hc18], hS.chg⟩
     have hu : inU u := Classical.byContradiction fun h => hc18 (.inl h)
     have hn : 0 ≤ n ∧ n ≤ 1125899906842624 := by omega
     refine wS (nT (cS (cR ?_)))
     refine Rn hS (.m rfl <| .m rfl .n) ?_; clear hS a; intro a hS
     refine L_op (s_callP hS (.cons rfl (.cons rfl (.cons rfl .nil))) cf120 rfl (xEven_P u n hu hn _) ?_); clear hS a; intro a w hS
     refine Rn hS (.m rfl <| .c (e_extract rfl rfl) <| .c (e_extract rfl rfl) <| .a rfl <| .a rfl .n) ?_; clear hS a; intro a hS
     refine nL (nT (cS (cS (cR ?_))))
     refine Rn hS (.m rfl <| .c (e_not rfl) .n) ?_; clear hS a; intro a hS
     refine nL (nT ?_)
     refine c_if hS rfl (fun hc26 => ?_) (fun hc26 => ?_)
     ·
      refine cS (cR ?_)
      refine Rn hS (.a rfl <| .a rfl .n) ?_; clear hS a; intro a hS
      refine nL (nT (wp_ret (r_then ?_)))
      refine c_retN hS Tryz.results98 (.cons (.tmp rfl) (.cons (.tmp rfl) .nil)) rfl ?_
      exact ⟨by rw [show convF u n = (0, 16) by unfold convF; rw [if_neg hc18, if_neg (by simpa using hc26)]], hS.chg⟩
     refine wS (nT (cS (cR ?_)))
     refine Rn hS (.m rfl <| .a rfl <| .a rfl .n) ?_; clear hS a; intro a hS
     refine nL (nT (wp_ret ?_))
     refine c_retN hS Tryz.results98 (.cons (.tmp rfl) (.cons (.tmp rfl) .nil)) rfl ?_
     have hr : inU (Wd.dv (u * n) 1000000000) := by simpa using hc26
     exact ⟨by rw [show convF u n = (Wd.dv (u * n) 1000000000, 0) by unfold convF; rw [if_neg hc18, if_pos hr], i64R_inR hr], hS.chg⟩
set_option maxRecDepth 100000 in
theorem xCheck6_P (u : Int) (c : ByteArray) (w0 : World) : PureC Tryz.prog 96 [.agg [.int .i64 u, .string c].toArray] w0 (.int .i64 (checkF u c)) := by
 have hs := refS_neg c
 refine c_enter [(0, .agg [.int .i64 u, .string c].toArray)] [] noB Tryz.func96 rfl Tryz.ntmps96 ⟨rfl, trivial⟩ rfl (by simp) (by simp) (by simp) ?_
 intro a hS
 refine cS (cR ?_)
 refine L_op (s_boxA hS rfl rfl ?_); clear hS a; intro a w b1 hS
 refine L_e hS (e_assign rfl) rfl ?_; clear hS a; intro a hS
 refine nL (nT (cS (cS (cR ?_))))
 refine Rn hS (.c (e_fa0 rfl ty_fo141_1) <| .c (e_load rfl (by repeat constructor) ty_sc9 (by rfl)) .n) ?_; clear hS a; intro a hS
 refine L_op (s_callP hS (.cons rfl .nil) cf35 rfl (xScale_P c _) ?_); clear hS a; intro a w hS
 refine L_e hS (e_bin rfl rfl rfl) rfl ?_; clear hS a; intro a hS
 refine nL (nT ?_)
 refine c_ifD hS rfl (fun hc6 => ?_) (fun hc6 => ?_)
 ·
  refine cS (cR ?_)
  refine L_e hS (e_assign rfl) rfl ?_; clear hS a; intro a hS
  refine nL (nT (wp_ret (r_then ?_)))
  refine c_ret1 hS Tryz.results96 (.tmp rfl) ?_
  exact ⟨by unfold checkF; rw [if_pos (hs.1 hc6)], hS.chg⟩
 refine wS (nT (cS (cS (cR ?_))))
 refine Rn hS (.c (e_fa0 rfl ty_fo141_0) <| .c (e_load rfl (by repeat constructor) ty_sc3 (by rfl)) .n) ?_; clear hS a; intro a hS
 refine L_op (s_callP hS (.cons rfl .nil) cf93 rfl (Within_P u _) ?_); clear hS a; intro a w hS
 refine L_e hS (e_not rfl) rfl ?_; clear hS a; intro a hS
 refine nL (nT ?_)
 refine c_if hS rfl (fun hc10 => ?_) (fun hc10 => ?_)
 ·
  refine cS (cR ?_)
  refine L_e hS (e_assign rfl) rfl ?_; clear hS a; intro a hS
  refine nL (nT (wp_ret (r_then ?_)))
  refine c_ret1 hS Tryz.results96 (.tmp rfl) ?_
  exact ⟨by unfold checkF; rw [if_neg (fun e => hc6 (hs.2 e)), if_pos (by simpa using hc10)], hS.chg⟩
 refine wS (nT (cS (cR ?_)))
 refine L_e hS (e_assign rfl) rfl ?_; clear hS a; intro a hS
 refine nL (nT (wp_ret ?_))
 refine c_ret1 hS Tryz.results96 (.tmp rfl) ?_
 exact ⟨by unfold checkF; rw [if_neg (fun e => hc6 (hs.2 e)), if_neg (by simpa using hc10)], hS.chg⟩
theorem outF_take {rows : List RR} {c : ByteArray} {at_ : Int} {i : Nat} {x : RR} (hx : rows[i]? = some x) : outF (rows.take (i + 1)) c at_ = if x.1 = c ∧ x.2.1 ≤ at_ then x.2.2 else outF (rows.take i) c at_ := by
 unfold outF
 rw [List.take_add_one, hx]
 simp [List.foldl_append]
set_option maxRecDepth 100000 in
theorem rGet_P (bw : Nat) (own c : ByteArray) (rows : List RR) (v : Value) (at_ : Int) (hlen : rows.length ≤ 1000000) (w0 : World) (h : refφ bw own rows v w0) :
 PureC Tryz.prog 97 [.pointer (some ⟨bw, 0, none⟩), .string c, .int .i64 at_] w0 (.tuple [.int .i64 (rgetF own rows c at_).1, .int .i64 (rgetF own rows c at_).2].toArray) := by
 obtain ⟨q, cq, rfl⟩ := own_slice h.rows
 have hsh : rows.length = 0 ∨ ∃ g, q = some ⟨g, 0, none⟩ := by
  rcases h.rows.2 with ⟨e1, e2⟩ | ⟨g, cap, cur, e1, _⟩
  · exact .inl e2
  · injection e1 with e3; exact .inr ⟨g, e3⟩
 refine c_enter [(0, .pointer (some ⟨bw, 0, none⟩)), (1, .string c), (2, .int .i64 at_)] [refA bw own rows (.slice q rows.length cq) false] noB Tryz.func97 rfl Tryz.ntmps97 ⟨rfl, rfl, rfl, trivial⟩ rfl (okC (ref_ok false h) okN) dis1 (mineC (by rfl) mineN) ?_
 intro a hS
 refine cS (cR ?_)
 refine Rn hS (.a rfl <| .a rfl .n) ?_; clear hS a; intro a hS
 refine nL (nT (cS (cS (cR ?_))))
 refine L_e hS (e_move rfl) rfl ?_; clear hS a; intro a hS
 refine L_op (s_callP hS (.cons rfl .nil) cf35 rfl (xScale_P c _) ?_); clear hS a; intro a w hS
 refine L_e hS (e_bin rfl rfl rfl) rfl ?_; clear hS a; intro a hS
 refine nL (nT ?_)
 refine c_ifD hS rfl (fun hc12 => ?_) (fun hc12 => ?_)
 ·
  refine cS (cR ?_)
  refine Rn hS (.a rfl <| .a rfl .n) ?_; clear hS a; intro a hS
  refine nL (nT (wp_ret (r_then ?_)))
  refine c_retN hS Tryz.results97 (.cons (.tmp rfl) (.cons (.tmp rfl) .nil)) rfl ?_
  exact ⟨by rw [show rgetF own rows c at_ = (0, 18) from if_pos hc12], hS.chg⟩
 refine wS (nT (cS (cS (cR ?_))))
 refine L_e hS (e_move rfl) rfl ?_; clear hS a; intro a hS
 refine L_op (s_callP hS (.cons rfl .nil) cf54 rfl (xInstant_P at_ _) ?_); clear hS a; intro a w hS
 refine L_e hS (e_not rfl) rfl ?_; clear hS a; intro a hS
 refine nL (nT ?_)
 refine c_if hS rfl (fun hc15 => ?_) (fun hc15 => ?_)
 ·
  refine cS (cR ?_)
  refine Rn hS (.a rfl <| .a rfl .n) ?_; clear hS a; intro a hS
  refine nL (nT (wp_ret (r_then ?_)))
  refine c_retN hS Tryz.results97 (.cons (.tmp rfl) (.cons (.tmp rfl) .nil)) rfl ?_
  exact ⟨by rw [show rgetF own rows c at_ = (0, 6) by unfold rgetF; rw [if_neg hc12, if_pos (by simpa using hc15)]], hS.chg⟩
 have hin : ¬ ¬ inst at_ := by simpa using hc15
 refine wS (nT (cS (cS (cR ?_))))
 refine Rn hS (.m rfl <| .m rfl <| .c (e_nilCheck rfl) <| .c (e_fa0 rfl ty_fo120_0) <| .c (e_loadC rfl ty_sc9 (fun w hh => cell_of_blk (cs := [.string own, .slice q rows.length cq]) (hh (refA bw own rows (.slice q rows.length cq) false) (by repeat constructor)).bk rfl)) <| .c (e_binS rfl rfl rfl) .n) ?_; clear hS a; intro a hS
 refine nL (nT ?_)
 refine c_ifD hS rfl (fun hc21 => ?_) (fun hc21 => ?_)
 ·
  refine cS (cR ?_)
  refine Rn hS (.a rfl <| .a rfl .n) ?_; clear hS a; intro a hS
  refine nL (nT (wp_ret (r_then ?_)))
  refine c_retN hS Tryz.results97 (.cons (.tmp rfl) (.cons (.tmp rfl) .nil)) rfl ?_
  exact ⟨by rw [show rgetF own rows c at_ = (1000000000, 0) by unfold rgetF; rw [if_neg hc12, if_neg hin, if_pos hc21]], hS.chg⟩
 refine wS (nT (cS (cR ?_)))
 refine L_e hS (e_assign rfl) rfl ?_; clear hS a; intro a hS
 refine nL (nT (cS (cS (cR ?_))))
 refine L_e hS (e_assign rfl) rfl ?_; clear hS a; intro a hS
 refine nL (nT (wB ?_))
 skip
 refine c_loop (γ := Nat) (fun i a w => St 64 noB w0 a w [(9, .int .i64 (i : Int)), (8, .int .i64 (outF (rows.take i) c at_)), (0, .pointer (some ⟨bw, 0, none⟩)), (1, .string c), (2, .int .i64 at_)] [refA bw own rows (.slice q rows.length cq) false] ∧ i ≤ rows.length) (fun i => rows.length - i) 0 ⟨hS.slots (by repeat (first | exact trivial | refine ⟨rfl, ?_⟩)), Nat.zero_le _⟩ ?_
 clear hS a; intro i a w hI
 obtain ⟨hS, hi⟩ := hI
 refine cS (cS (cR ?_))
 refine Rn hS (.m rfl <| .m rfl <| .c (e_nilCheck rfl) <| .c (e_fa0 rfl ty_fo120_1) <| .c (e_loadC rfl ty_sc118 (fun w hh => cell_of_blk (cs := [.string own, .slice q rows.length cq]) (hh (refA bw own rows (.slice q rows.length cq) false) (by repeat constructor)).bk rfl)) <| .c (e_len rfl rfl ty_sl118) <| .c (e_bin rfl rfl rfl) .n) ?_; clear hS a; intro a hS
 refine nL (nT ?_)
 refine c_ifD hS rfl (fun hc28 => ?_) (fun hc28 => ?_)
 ·
  have hil : i < rows.length := by omega
  obtain ⟨x, hx⟩ : ∃ x, rows[i]? = some x := ⟨rows[i], List.getElem?_eq_getElem hil⟩
  obtain ⟨g, rfl⟩ : ∃ g, q = some ⟨g, 0, none⟩ := hsh.resolve_left (by omega)
  have hrr : ∀ w, Hd [refA bw own rows (.slice (some ⟨g, 0, none⟩) rows.length cq) false] w → ∀ j v, (encR x)[j]? = some v → w.cell? ⟨g, 0 + i * 3 + j, none⟩ = some v := fun w hh j v hj => by
   have h1 : w.ownsRow 0 186 3 (.slice (some ⟨g, 0, none⟩) rows.length cq) rows.length (rows.flatMap encR) := (hh _ (.head _)).rows
   have h2 := flat_get encR 3 (fun _ => rfl) rows i x hx j v hj
   have h3 := World.ownsRow.cells h1 (g := g) rfl _ _ h2
   rw [addr_add] at h3
   rw [← h3]; congr 2; omega
  have hot := outF_take (c := c) (at_ := at_) hx
  refine wS (nT (cS (wB (cS (cR ?_)))))
  refine Rn hS (.m rfl <| .c (e_nilCheck rfl) <| .c (e_fa0 rfl ty_fo120_1) <| .c (e_loadC rfl ty_sc118 (fun w hh => cell_of_blk (cs := [.string own, .slice (some ⟨g, 0, none⟩) rows.length cq]) (hh (refA bw own rows (.slice (some ⟨g, 0, none⟩) rows.length cq) false) (by repeat constructor)).bk rfl)) <| .m rfl <| .c (e_ixN rfl rfl ty_sl118 ty_sz186 (by omega)) <| .c (e_faK rfl ty_fo186_0) <| .c (e_loadC rfl ty_sc9 (fun w hh => hrr w hh 0 (.string x.1) rfl)) <| .m rfl <| .c (e_binS rfl rfl rfl) <| .m rfl .n) ?_; clear hS a; intro a hS
  refine L_merge 11 52 (.bool (decide (x.1 = c ∧ x.2.1 ≤ at_))) hS ?_ ?_
  · intro hcM52
    refine g_splitD (t := 41) hS rfl ?_ ?_ <;> (clear hS; intro hg41 hS)
    ·
     refine Rn hS (.g rfl rfl (e_move rfl) <| .g rfl rfl (e_nilCheck rfl) <| .g rfl rfl (e_fa0 rfl ty_fo120_1) <| .g rfl rfl (e_loadC rfl ty_sc118 (fun w hh => cell_of_blk (cs := [.string own, .slice (some ⟨g, 0, none⟩) rows.length cq]) (hh (refA bw own rows (.slice (some ⟨g, 0, none⟩) rows.length cq) false) (by repeat constructor)).bk rfl)) <| .g rfl rfl (e_move rfl) <| .g rfl rfl (e_ixN rfl rfl ty_sl118 ty_sz186 (by omega)) <| .g rfl rfl (e_faK rfl ty_fo186_1) <| .g rfl rfl (e_loadC rfl ty_sc3 (fun w hh => hrr w hh 1 (.int .i64 x.2.1) rfl)) <| .g rfl rfl (e_move rfl) <| .g rfl rfl (e_bin rfl rfl rfl) <| .c (e_pick_t rfl rfl) .n) ?_; clear hS a; intro a hS
     exact hcM52 _ _ (hS.ends 12 52 41 rfl (congrArg Value.bool (by first | rfl | (simp [hg41]; done) | (simp [hg41]; omega) | grind)) rfl rfl (by first | exact congrArg Value.bool (decide_eq_true hg41).symm | exact congrArg Value.bool hg41.symm | simp [hg41]) rfl)
    refine Rn hS (.t rfl rfl <| .t rfl rfl <| .t rfl rfl <| .t rfl rfl <| .t rfl rfl <| .t rfl rfl <| .t rfl rfl <| .t rfl rfl <| .t rfl rfl <| .t rfl rfl <| .c (e_pick_f rfl rfl) .n) ?_; clear hS a; intro a hS
    exact hcM52 _ _ (hS.ends 12 52 41 rfl (congrArg Value.bool (by first | rfl | (simp [hg41]; done) | (simp [hg41]; omega) | grind)) rfl rfl (by first | exact congrArg Value.bool (decide_eq_false hg41).symm | exact congrArg Value.bool hg41.symm | simp [hg41]) rfl)
  · clear hS a; intro a w hS
    simp only [List.drop_succ_cons, List.drop_zero]
    refine nL (nT ?_)
    refine c_ifD hS rfl (fun hc52 => ?_) (fun hc52 => ?_)
    ·
     refine cR ?_
     refine Rn hS (.m rfl <| .c (e_nilCheck rfl) <| .c (e_fa0 rfl ty_fo120_1) <| .c (e_loadC rfl ty_sc118 (fun w hh => cell_of_blk (cs := [.string own, .slice (some ⟨g, 0, none⟩) rows.length cq]) (hh (refA bw own rows (.slice (some ⟨g, 0, none⟩) rows.length cq) false) (by repeat constructor)).bk rfl)) <| .m rfl <| .c (e_ixN rfl rfl ty_sl118 ty_sz186 (by omega)) <| .c (e_faK rfl ty_fo186_2) <| .c (e_loadC rfl ty_sc3 (fun w hh => hrr w hh 2 (.int .i64 x.2.2) rfl)) <| .a rfl .n) ?_; clear hS a; intro a hS
     refine nL (n_block (nT (cR ?_)))
     refine Rn hS (.m rfl <| .c (e_binN rfl rfl rfl (by omega)) <| .a rfl .n) ?_; clear hS a; intro a hS
     refine nL ?_
     first
     | (rw [if_pos hc52] at hot; exact ⟨i + 1, by omega, by rw [hot]; exact hS.slots (by repeat (first | exact trivial | refine ⟨rfl, ?_⟩)), by omega⟩)
     | (rw [if_neg hc52] at hot; exact ⟨i + 1, by omega, by rw [hot]; exact hS.slots (by repeat (first | exact trivial | refine ⟨rfl, ?_⟩)), by omega⟩)
    refine wS (n_block (nT (cR ?_)))
    refine Rn hS (.m rfl <| .c (e_binN rfl rfl rfl (by omega)) <| .a rfl .n) ?_; clear hS a; intro a hS
    refine nL ?_
    first
    | (rw [if_pos hc52] at hot; exact ⟨i + 1, by omega, by rw [hot]; exact hS.slots (by repeat (first | exact trivial | refine ⟨rfl, ?_⟩)), by omega⟩)
    | (rw [if_neg hc52] at hot; exact ⟨i + 1, by omega, by rw [hot]; exact hS.slots (by repeat (first | exact trivial | refine ⟨rfl, ?_⟩)), by omega⟩)
 obtain rfl : i = rows.length := by omega
 rw [List.take_length] at hS
 refine wp_exit ?_
 refine x_then (x_then (x_hit ?_))
 refine nT (cS (cS (cR ?_)))
 refine Rn hS (.m rfl <| .c (e_bin rfl rfl rfl) .n) ?_; clear hS a; intro a hS
 refine nL (nT ?_)
 refine c_ifD hS rfl (fun hc62 => ?_) (fun hc62 => ?_)
 ·
  refine cS (cR ?_)
  refine Rn hS (.a rfl <| .a rfl .n) ?_; clear hS a; intro a hS
  refine nL (nT (wp_ret (r_then ?_)))
  refine c_retN hS Tryz.results97 (.cons (.tmp rfl) (.cons (.tmp rfl) .nil)) rfl ?_
  exact ⟨by rw [show rgetF own rows c at_ = (0, 28) by unfold rgetF; rw [if_neg hc12, if_neg hin, if_neg hc21, if_pos hc62]], hS.chg⟩
 refine wS (nT (cS (cR ?_)))
 refine Rn hS (.m rfl <| .a rfl <| .a rfl .n) ?_; clear hS a; intro a hS
 refine nL (nT (wp_ret ?_))
 refine c_retN hS Tryz.results97 (.cons (.tmp rfl) (.cons (.tmp rfl) .nil)) rfl ?_
 exact ⟨by rw [show rgetF own rows c at_ = (outF rows c at_, 0) by unfold rgetF; rw [if_neg hc12, if_neg hin, if_neg hc21, if_neg hc62]], hS.chg⟩
def rworthF (own : ByteArray) (rows : List RR) (u : Int) (c : ByteArray) (at_ : Int) : Int × Int :=
 if checkF u c ≠ 0 then (0, checkF u c) else if (rgetF own rows c at_).2 ≠ 0 then (0, (rgetF own rows c at_).2) else convF u (rgetF own rows c at_).1
theorem worth_eq {l : L2} {n : Int} {rows : List RR} (h : relF l n rows) (hb : nanoOK l) (own : ByteArray) (u : Int) (c : ByteArray) (at_ : Int) : worthF own l u c at_ = rworthF own rows u c at_ := by
 unfold worthF rworthF
 rw [get_eq h hb own c at_]
set_option maxRecDepth 100000 in
theorem rWorth_P (bw : Nat) (own c : ByteArray) (rows : List RR) (v : Value) (u at_ : Int) (hlen : rows.length ≤ 1000000) (w0 : World) (h : refφ bw own rows v w0) :
 PureC Tryz.prog 59 [.pointer (some ⟨bw, 0, none⟩), .agg [.int .i64 u, .string c].toArray, .int .i64 at_] w0 (.tuple [.int .i64 (rworthF own rows u c at_).1, .int .i64 (rworthF own rows u c at_).2].toArray) := by
 refine c_enter [(0, .pointer (some ⟨bw, 0, none⟩)), (1, .agg [.int .i64 u, .string c].toArray), (2, .int .i64 at_)] [refA bw own rows v false] noB Tryz.func59 rfl Tryz.ntmps59 ⟨rfl, rfl, rfl, trivial⟩ rfl (okC (ref_ok false h) okN) dis1 (mineC (by rfl) mineN) ?_
 intro a hS
 refine cS (cR ?_)
 refine L_op (s_boxA hS rfl rfl ?_); clear hS a; intro a w b4 hS
 refine Rn hS (.a rfl <| .a rfl .n) ?_; clear hS a; intro a hS
 refine nL (nT (cS (cR ?_)))
 refine L_e hS (e_loadA rfl (by repeat constructor) ty_st141 ty_sz141 (by rfl)) rfl ?_; clear hS a; intro a hS
 refine L_op (s_callP hS (.cons rfl .nil) cf96 rfl (xCheck6_P u c _) ?_); clear hS a; intro a w hS
 refine L_e hS (e_assign rfl) rfl ?_; clear hS a; intro a hS
 refine nL (nT (cS (cS (cR ?_))))
 refine Rn hS (.m rfl <| .c (e_bin rfl rfl rfl) .n) ?_; clear hS a; intro a hS
 refine nL (nT ?_)
 refine c_ifD hS rfl (fun hc14 => ?_) (fun hc14 => ?_)
 ·
  refine cS (cR ?_)
  refine Rn hS (.m rfl <| .a rfl <| .a rfl .n) ?_; clear hS a; intro a hS
  refine nL (nT (wp_ret (r_then ?_)))
  refine c_retN hS Tryz.results59 (.cons (.tmp rfl) (.cons (.tmp rfl) .nil)) rfl ?_
  exact ⟨by rw [show rworthF own rows u c at_ = (0, checkF u c) from if_pos hc14], hS.chg⟩
 refine wS (nT (cS (cR ?_)))
 refine Rn hS (.m rfl <| .c (e_fa0 rfl ty_fo141_1) <| .c (e_load rfl (by repeat constructor) ty_sc9 (by rfl)) <| .m rfl .n) ?_; clear hS a; intro a hS
 refine L_op (s_callP hS (.cons rfl (.cons rfl (.cons rfl .nil))) cf97 rfl (rGet_P bw own c rows v at_ hlen _ (hS.gg (X := refA bw own rows v false))) ?_); clear hS a; intro a w hS
 refine Rn hS (.m rfl <| .c (e_extract rfl rfl) <| .c (e_extract rfl rfl) <| .a rfl <| .a rfl .n) ?_; clear hS a; intro a hS
 refine nL (nT (cS (cS (cR ?_))))
 refine Rn hS (.m rfl <| .c (e_bin rfl rfl rfl) .n) ?_; clear hS a; intro a hS
 refine nL (nT ?_)
 refine c_ifD hS rfl (fun hc25 => ?_) (fun hc25 => ?_)
 ·
  refine cS (cR ?_)
  refine Rn hS (.m rfl <| .a rfl <| .a rfl .n) ?_; clear hS a; intro a hS
  refine nL (nT (wp_ret (r_then ?_)))
  refine c_retN hS Tryz.results59 (.cons (.tmp rfl) (.cons (.tmp rfl) .nil)) rfl ?_
  exact ⟨by rw [show rworthF own rows u c at_ = (0, (rgetF own rows c at_).2) by unfold rworthF; rw [if_neg hc14, if_pos hc25]], hS.chg⟩
 refine wS (nT (cS (cR ?_)))
 refine Rn hS (.c (e_fa0 rfl ty_fo141_0) <| .c (e_load rfl (by repeat constructor) ty_sc3 (by rfl)) <| .m rfl .n) ?_; clear hS a; intro a hS
 refine L_op (s_callP hS (.cons rfl (.cons rfl .nil)) cf98 rfl (xConv_P u (rgetF own rows c at_).1 _) ?_); clear hS a; intro a w hS
 refine Rn hS (.c (e_extract rfl rfl) <| .c (e_extract rfl rfl) <| .a rfl <| .a rfl .n) ?_; clear hS a; intro a hS
 refine nL (nT (wp_ret ?_))
 refine c_retN hS Tryz.results59 (.cons (.tmp rfl) (.cons (.tmp rfl) .nil)) rfl ?_
 exact ⟨by rw [show rworthF own rows u c at_ = convF u (rgetF own rows c at_).1 by unfold rworthF; rw [if_neg hc14, if_neg hc25]], hS.chg⟩
structure both (s : LS) (r : RS) (n : Nat) : Prop where
 rel : relR r (pl s)
 wf : wfP (pl s) n
 cur : wfC (pl s)
 ids : idN (pl s)
theorem rel_close {r : RS} {P : PL} (h : relR r P) (at_ : Int) : closeRE r at_ = closeEP P at_ ∧ relR (closeR r at_) (closeP P at_) := by
 have e : closeRE r at_ = closeEP P at_ := by unfold closeRE closeEP; rw [h.closed]
 refine ⟨e, ?_⟩
 unfold closeR closeP
 rw [e]
 split
 · exact ⟨h.cur, h.acs, h.es, rfl⟩
 · exact h
variable {P : Program} {n : Nat} {F0 : Nat → Prop} {w0 w : World} {a : Act} {L : List (Nat × Value)} {Γ : List Asn} {Q : Exit → Act → World → Prop}
end Go.Proofs.YtheofhegdjjfgaaGreat
namespace Go.Proofs.YtheofhegdjjfgaaGreat
open Go.RowKit
theorem bal_rel {r : RS} {P : PL} (h : relR r P) (hn : (codesA P.acs).Nodup) (c : ByteArray) (t : Int) : balF (plR r) c t = balF P c t := by
 have e1 : findA (plR r).acs c = findA P.acs c := by
  have e : (plR r).acs = accsL P.acs := h.acs
  rw [e]; exact findA_accs hn c
 have e2 : sumAt (plR r) c t = sumAt P c t := by
  have e : (plR r).es = P.es := h.es
  unfold sumAt; rw [e]
 unfold balF
 rw [e1, e2]
end Go.Proofs.YtheofhegdjjfgaaGreat
