/- FrontFields: for every argument whose bulk is at most 1048576 the law returns true, and each argument reads afterwards as it read before. No other conditions. (text 4 of 5) -/
import Derived.Test.YtlccmgeclhdegaaGreatDoorLFlC3
namespace Go.Proofs.YtlccmgeclhdegaaGreatDoor
open Go.RowKit
def oddI (r : Nat) : Bool := decide (r < 48 ∨ 57 < r)
set_option maxRecDepth 100000 in
theorem jIntF_P (r : Nat) (hr : r ≤ 1114111) (w0 : World) : PureC Tryz.prog 238 [.int .i32 (r : Int)] w0 (.bool (oddI r)) := by
 refine c_enter [(0, .int .i32 (r : Int))] [] noB Tryz.func238 rfl Tryz.ntmps238 ⟨rfl, trivial⟩ rfl (by simp) (by simp) (by simp) ?_
 intro a hS
 refine cS (cR ?_)
 refine L_e hS (e_assign rfl) rfl ?_; clear hS a; intro a hS
 refine nL (nT (cS (cR ?_)))
 refine Rn hS (.m rfl <| .c (e_bin rfl rfl rfl) <| .m rfl .n) ?_; clear hS a; intro a hS
 refine L_merge 3 8 (.bool (decide (r < 48 ∨ 57 < r))) hS ?_ ?_
 · intro hcM8
   (first | refine g_splitD (t := 5) hS rfl ?_ ?_ | refine g_split (t := 5) hS rfl ?_ ?_) <;> (clear hS; intro hg5 hS)
   ·
    refine Rn hS (.f rfl rfl <| .f rfl rfl <| .c (e_pk rfl rfl) .n) ?_; clear hS a; intro a hS
    exact hcM8 _ _ (hS.ends 4 8 5 rfl (congrArg Value.bool (by exact (decide_eq_true (.inl (by omega))).symm)) rfl rfl (by first | exact congrArg Value.bool (decide_eq_true hg5).symm | exact congrArg Value.bool hg5.symm | simp [hg5]) rfl)
   refine Rn hS (.g rfl rfl (e_move rfl) <| .g rfl rfl (e_bin rfl rfl rfl) <| .c (e_pk rfl rfl) .n) ?_; clear hS a; intro a hS
   exact hcM8 _ _ (hS.ends 4 8 5 rfl (congrArg Value.bool (by exact decide_eq_decide.2 (by omega))) rfl rfl (by first | exact congrArg Value.bool (decide_eq_false hg5).symm | exact congrArg Value.bool hg5.symm | simp [hg5]) rfl)
 · clear hS a; intro a w hS
   simp only [List.drop_succ_cons, List.drop_zero]
   refine L_e hS (e_assign rfl) rfl ?_; clear hS a; intro a hS
   refine nL (nT (wp_ret ?_))
   refine c_ret1 hS Tryz.results238 (.tmp rfl) ?_
   exact ⟨rfl, hS.chg⟩
theorem sign_cut (t : List UInt8) : Lib.trimPrefix t [45] = noSign t ∧ Lib.hasPrefix t [45] = decide (t.head? = some 45) := by
 cases t with
 | nil => exact ⟨rfl, rfl⟩
 | cons c r =>
   by_cases h : c = 45
   · subst h; exact ⟨rfl, rfl⟩
   · have h2 : ¬ c.toNat = 45 := fun e => h (UInt8.toNat_inj.1 e)
     constructor
     · simp [Lib.trimPrefix, Lib.hasPrefix, noSign, h2]; exact fun e => h e.symm
     · simp [Lib.hasPrefix, List.isPrefixOf, h]; exact fun e => h e.symm
theorem odd_any (l : List UInt8) : (l.any fun b => oddI b.toNat) = decide (¬ ∀ x ∈ l, jDg x = true) := by
 rw [Bool.eq_iff_iff, decide_eq_true_iff, List.any_eq_true]
 constructor
 · rintro ⟨x, hx, h⟩ h2
   have h3 := of_decide_eq_true (h2 x hx)
   have h4 := of_decide_eq_true h
   omega
 · intro h
   apply Classical.byContradiction
   intro h2
   refine h fun x hx => decide_eq_true ?_
   have : ¬ oddI x.toNat = true := fun h3 => h2 ⟨x, hx, h3⟩
   have h4 : ¬ (x.toNat < 48 ∨ 57 < x.toNat) := fun h5 => this (decide_eq_true h5)
   omega
def okE {α : Type} (r : Lib.NumEnd α) : Prop := (∃ v, r = .ok v) ∨ r = .range
theorem mag_digits {l : List UInt8} (h : ∀ x ∈ l, jDg x = true) (k : Nat) : okE (Lib.parseUint10 k l) := by
 induction l generalizing k with
 | nil => exact .inl ⟨_, rfl⟩
 | cons c r ih =>
   rw [parse_cons, if_pos (of_decide_eq_true (h c (.head _)))]
   split
   · exact .inr rfl
   · split
     · exact .inr rfl
     · exact ih (fun x hx => h x (.tail _ hx)) _
theorem canon_ns {t : List UInt8} (h : canon t) : okE (Lib.atoiAll t) := by
 have hm : okE (Lib.parseMag (noSign t)) := by unfold Lib.parseMag; rw [if_neg h.1]; exact mag_digits h.2.1 0
 cases t with
 | nil => exact absurd rfl h.1
 | cons c r =>
   by_cases hc : c = 45
   · subst hc
     rw [Lib.atoiAll_minus]
     have e : noSign (45 :: r) = r := rfl
     rw [e] at hm
     rcases hm with ⟨u, hp⟩ | hp
     · rw [hp]; unfold Lib.signed; simp only; split <;> first | exact .inl ⟨_, rfl⟩ | exact .inr rfl
     · rw [hp]; exact .inr rfl
   · have h2 : ¬ c.toNat = 45 := fun e => hc (UInt8.toNat_inj.1 e)
     have e : noSign (c :: r) = c :: r := if_neg h2
     have hd := of_decide_eq_true (h.2.1 c (by rw [e]; exact .head _))
     rw [Lib.atoiAll_plain c r (by omega) h2]
     rw [e] at hm
     rcases hm with ⟨u, hp⟩ | hp
     · rw [hp]; unfold Lib.signless; simp only; split <;> first | exact .inl ⟨_, rfl⟩ | exact .inr rfl
     · rw [hp]; exact .inr rfl
def noCan (t : List UInt8) : Bool := !decide (canon t)
theorem noCan_t {t : List UInt8} : noCan t = true ↔ ¬ canon t := by unfold noCan; simp
theorem noCan_f {t : List UInt8} : noCan t = false ↔ canon t := by unfold noCan; simp
theorem tx_nil {l : List UInt8} : tx l = ⟨#[]⟩ ↔ l = [] := ⟨fun h => tx_inj' (b := []) h, fun h => by rw [h]; rfl⟩
theorem CutMinus_P (t : List UInt8) (w : World) : PureC Tryz.prog 110 [.string (tx t), .string ⟨#[45]⟩] w (.tuple [.string (tx (noSign t)), .bool (decide (t.head? = some 45))].toArray) :=
 (Tryz.strings_CutPrefix (tx t) ⟨#[45]⟩ w).mono fun e w' ⟨he, hw⟩ => ⟨by rw [he]; show Ending.returned (Value.tuple #[.string (tx (Lib.trimPrefix t [45])), .bool (Lib.hasPrefix t [45])]) = _; rw [(sign_cut t).1, (sign_cut t).2], by rw [hw]; exact Chg.refl _ _⟩
def isAtoiJ (t : List UInt8) (x : Int × Value) : Prop := (Lib.atoiAll t = .ok x.1 ∧ x.2 = .nilIface) ∨ (Lib.atoiAll t = .range ∧ ∃ u p, x.2 = .iface u p)
theorem AtoiC_N (W0 : World) (hG : Gj W0) (t : List UInt8) (hc : canon t) (hl : t.length ≤ 10000000) (w0 : World) (ho : oldφ W0 w0) : NewC Tryz.prog 153 [.string (tx t)] w0 (fun x : { x : Int × Value // isAtoiJ t x } => .tuple [.int .i64 x.1.1, x.1.2].toArray) (fun _ => none_) := by
 have hs := tx_size t
 rcases canon_ns hc with ⟨v, h⟩ | h
 rotate_left
 · obtain ⟨ev, he, he2⟩ := (hG.keep ho).er
   exact (Tryz.strconv_Atoi_range (tx t) (by omega) h ev w0 he he2).mono fun e w' ⟨N, he, _, _, hb⟩ => ⟨⟨(_, _), .inr ⟨h, _, _, rfl⟩⟩, he, Chg.of_below hb, none_ok _, fun b hb => hb.elim⟩
 · refine (Tryz.strconv_Atoi_ok (tx t) (by omega) v h w0).mono fun e w' ⟨he, hw⟩ => ⟨⟨(v, .nilIface), .inl ⟨h, rfl⟩⟩, he, ?_, none_ok _, fun b hb => hb.elim⟩
   rcases hw with rfl | ⟨s, rfl⟩
   · exact Chg.refl _ _
   · exact Chg.of_below (Lib.bytesWorld_below _ _ _)
set_option maxRecDepth 100000 in
theorem jInt_P (W0 : World) (hG : Gj W0) (v : JV) (a1 a4 : Option Addr) (a2 a3 a5 a6 : Nat) (hl : v.t.length ≤ 10000000) (w0 : World) (ho : oldφ W0 w0) : PureC Tryz.prog 194 [.agg [.int .i64 (v.k : Int), .string (tx v.t), .slice a1 a2 a3, .slice a4 a5 a6].toArray] w0 (.tuple [.int .i64 (jIntF v).1, .int .i64 (jIntF v).2].toArray) := by
 obtain ⟨k, t, ns, l⟩ := v
 simp only [JV.k, JV.t] at hl ⊢
 have hsz := tx_size (noSign t)
 refine c_enter [(0, .agg [.int .i64 (k : Int), .string (tx t), .slice a1 a2 a3, .slice a4 a5 a6].toArray)] [oldA W0] noB Tryz.func194 rfl Tryz.ntmps194 ⟨rfl, trivial⟩ rfl (okC (old_ok ho) okN) dis1 (mineC rfl mineN) ?_
 intro a hS
 refine cS (cR ?_)
 refine L_op (s_boxA hS rfl rfl ?_); clear hS a; intro a w b1 hS
 refine Rn hS (.a rfl <| .a rfl .n) ?_; clear hS a; intro a hS
 refine nL (nT (cS (cS (cR ?_))))
 (first | refine L_e hS (e_fa0 rfl ty_fo37_0) rfl ?_ | refine L_e hS (e_faK rfl ty_fo37_0) rfl ?_); clear hS a; intro a hS
 refine Rn hS (.c (e_load rfl (by repeat constructor) ty_sc3 (by rfl)) <| .c (e_bin rfl rfl rfl) .n) ?_; clear hS a; intro a hS
 refine nL (nT ?_)
 (first | refine c_ifD hS rfl ?_ ?_ | refine c_if hS rfl ?_ ?_) <;> intro hc11
 ·
  refine cS (cR ?_)
  refine Rn hS (.a rfl <| .a rfl .n) ?_; clear hS a; intro a hS
  refine nL (nT (wp_ret (r_then ?_)))
  refine c_retN hS Tryz.results194 (.cons (.tmp rfl) (.cons (.tmp rfl) .nil)) rfl ?_
  exact ⟨by unfold jIntF; rw [if_pos (show (JV.mk k t ns l).k ≠ 3 from fun e => hc11 (by have e : k = 3 := e; omega))], hS.chg⟩
 refine wS (nT (cS (cR ?_)))
 (first | refine L_e hS (e_fa0 rfl ty_fo37_1) rfl ?_ | refine L_e hS (e_faK rfl ty_fo37_1) rfl ?_); clear hS a; intro a hS
 refine L_e hS (e_load rfl (by repeat constructor) ty_sc9 (by rfl)) rfl ?_; clear hS a; intro a hS
 refine L_op (s_callP hS (.cons rfl (.cons rfl .nil)) cf110 rfl (CutMinus_P t _) ?_); clear hS a; intro a w hS
 refine Rn hS (.m rfl <| .c (e_extract rfl rfl) <| .c (e_extract rfl rfl) <| .a rfl <| .a rfl .n) ?_; clear hS a; intro a hS
 refine nL (nT (cS (cR ?_)))
 refine L_e hS (e_assign rfl) rfl ?_; clear hS a; intro a hS
 refine nL (nT (cS (cS (cR ?_))))
 refine Rn hS (.m rfl <| .c (e_binS rfl rfl rfl) <| .m rfl .n) ?_; clear hS a; intro a hS
 refine L_merge 4 24 (.bool (decide (noSign t = [] ∨ ¬ ∀ x ∈ noSign t, jDg x = true))) hS ?_ ?_
 · intro hcM24
   (first | refine g_splitD (t := 20) hS rfl ?_ ?_ | refine g_split (t := 20) hS rfl ?_ ?_) <;> (clear hS; intro hg20 hS)
   ·
    refine Rn hS (.f rfl rfl <| .f rfl rfl <| .f rfl rfl <| .c (e_pk rfl rfl) .n) ?_; clear hS a; intro a hS
    exact hcM24 _ _ (hS.ends 5 24 20 rfl (congrArg Value.bool (by exact (decide_eq_true (.inl (tx_nil.1 hg20))).symm)) rfl rfl (by first | exact congrArg Value.bool (decide_eq_true hg20).symm | exact congrArg Value.bool hg20.symm | simp [hg20]) rfl)
   refine Rn hS (.g rfl rfl (e_move rfl) <| .g rfl rfl (e_move rfl) .n) ?_; clear hS a; intro a hS
   refine L_go hS rfl rfl (s_callP hS (.cons rfl (.cons rfl .nil)) cf133 rfl (Contains_P 238 oddI cf238 (fun r w hr => jIntF_P r hr w) (fun r hr => decide_eq_true (by omega)) (tx (noSign t)) _) ?_); clear hS a; intro a w hS
   rw [show (tx (noSign t)).data.toList = noSign t from rfl, odd_any] at hS
   refine L_e hS (e_pk rfl rfl) rfl ?_; clear hS a; intro a hS
   exact hcM24 _ _ (hS.ends 5 24 20 rfl (congrArg Value.bool (by exact decide_eq_decide.2 ⟨.inr, fun h => h.resolve_left fun e => hg20 (tx_nil.2 e)⟩)) rfl rfl (by first | exact congrArg Value.bool (decide_eq_false hg20).symm | exact congrArg Value.bool hg20.symm | simp [hg20]) rfl)
 · clear hS a; intro a w hS
   simp only [List.drop_succ_cons, List.drop_zero]
   refine L_e hS (e_move rfl) rfl ?_; clear hS a; intro a hS
   refine L_merge 12 37 (.bool (noCan t)) hS ?_ ?_
   · intro hcM37
     (first | refine g_splitD (t := 25) hS rfl ?_ ?_ | refine g_split (t := 25) hS rfl ?_ ?_) <;> (clear hS; intro hg25 hS)
     ·
      refine Rn hS (.f rfl rfl <| .f rfl rfl <| .f rfl rfl <| .f rfl rfl .n) ?_; clear hS a; intro a hS
      refine L_skip_u hS rfl rfl rfl ?_; clear hS a; intro a hS
      refine L_skip_u hS rfl rfl rfl ?_; clear hS a; intro a hS
      refine L_skip_u hS rfl rfl rfl ?_; clear hS a; intro a hS
      refine L_skip_u hS rfl rfl rfl ?_; clear hS a; intro a hS
      refine L_skip_u hS rfl rfl rfl ?_; clear hS a; intro a hS
      refine L_skip_u hS rfl rfl rfl ?_; clear hS a; intro a hS
      refine Rn hS (.f rfl rfl <| .c (e_pk rfl rfl) .n) ?_; clear hS a; intro a hS
      exact hcM37 _ _ (hS.ends 13 37 25 rfl (congrArg Value.bool (by symm; rw [noCan_t]; exact fun h => hg25.elim h.1 fun h2 => h2 h.2.1)) rfl rfl (by first | exact congrArg Value.bool (decide_eq_true hg25).symm | exact congrArg Value.bool hg25.symm | simp [hg25]) rfl)
     have hne : noSign t ≠ [] := fun e => hg25 (.inl e)
     have hdg : ∀ x ∈ noSign t, jDg x = true := Classical.not_not.1 (fun e => hg25 (.inr e))
     obtain ⟨c, r, hcr⟩ : ∃ c r, noSign t = c :: r := by
      cases h : noSign t with
      | nil => exact absurd h hne
      | cons c r => exact ⟨c, r, rfl⟩
     have h27 : (tx (noSign t)).data.toList.getD (Int.toNat 0) 0 = c := by rw [hcr]; rfl
     have hhd : (noSign t).head? = some 48 ↔ c.toNat = 48 := by
      rw [hcr]
      constructor
      · intro h; have : c = 48 := by simpa using h
        rw [this]; rfl
      · intro h; have : c = 48 := UInt8.toNat_inj.1 h
        rw [this]; rfl
     have hcan : ¬ canon t ↔ (c.toNat = 48 ∧ (1 < (noSign t).length ∨ t.head? = some 45)) := by
      unfold canon
      rw [hhd]
      constructor
      · intro h; exact Classical.byContradiction fun h2 => h ⟨hne, hdg, h2⟩
      · intro h h2; exact h2.2.2 h
     refine Rn hS (.g rfl rfl (e_move rfl) <| .g rfl rfl (e_ixS rfl rfl ty_u9 (by rw [hsz, hcr]; simp)) .n) ?_; clear hS a; intro a hS
     rw [h27] at hS
     refine Rn hS (.g rfl rfl (e_bin rfl rfl rfl) <| .g rfl rfl (e_move rfl) .n) ?_; clear hS a; intro a hS
     refine L_merge 7 36 (.bool (noCan t)) hS ?_ ?_
     · intro hcM36
       (first | refine g_splitD (t := 29) hS rfl ?_ ?_ | refine g_split (t := 29) hS rfl ?_ ?_) <;> (clear hS; intro hg29 hS)
       ·
        refine Rn hS (.g rfl rfl (e_move rfl) <| .g rfl rfl (e_lenS rfl rfl ty_u9) <| .g rfl rfl (e_bin rfl rfl rfl) <| .g rfl rfl (e_move rfl) .n) ?_; clear hS a; intro a hS
        refine L_merge 2 35 (.bool (decide (1 < (noSign t).length ∨ t.head? = some 45))) hS ?_ ?_
        · intro hcM35
          (first | refine g_splitD (t := 33) hS rfl ?_ ?_ | refine g_split (t := 33) hS rfl ?_ ?_) <;> (clear hS; intro hg33 hS)
          ·
           refine Rn hS (.f rfl rfl <| .g rfl rfl (e_pk rfl rfl) .n) ?_; clear hS a; intro a hS
           exact hcM35 _ _ (hS.ends 3 35 33 rfl (congrArg Value.bool (by exact (decide_eq_true (.inl (by omega))).symm)) rfl rfl (by first | exact congrArg Value.bool (decide_eq_true hg33).symm | exact congrArg Value.bool hg33.symm | simp [hg33]) rfl)
          refine Rn hS (.g rfl rfl (e_move rfl) <| .g rfl rfl (e_pk rfl rfl) .n) ?_; clear hS a; intro a hS
          exact hcM35 _ _ (hS.ends 3 35 33 rfl (congrArg Value.bool (by exact decide_eq_decide.2 ⟨.inr, fun h => h.resolve_left fun e => hg33 (by omega)⟩)) rfl rfl (by first | exact congrArg Value.bool (decide_eq_false hg33).symm | exact congrArg Value.bool hg33.symm | simp [hg33]) rfl)
        · clear hS a; intro a w hS
          simp only [List.drop_succ_cons, List.drop_zero]
          refine L_ge hS rfl rfl (e_pk rfl rfl) rfl ?_; clear hS a; intro a hS
          exact hcM36 _ _ (hS.ends 7 36 29 rfl (congrArg Value.bool (by rw [Bool.eq_iff_iff, decide_eq_true_iff, noCan_t, hcan]; exact ⟨fun h => ⟨by omega, h⟩, fun h => h.2⟩)) rfl rfl (by first | exact congrArg Value.bool (decide_eq_true hg29).symm | exact congrArg Value.bool hg29.symm | simp [hg29]) rfl)
       refine Rn hS (.t rfl rfl <| .t rfl rfl <| .t rfl rfl <| .t rfl rfl .n) ?_; clear hS a; intro a hS
       refine L_skip_u hS rfl rfl rfl ?_; clear hS a; intro a hS
       refine Rn hS (.t rfl rfl <| .g rfl rfl (e_pk rfl rfl) .n) ?_; clear hS a; intro a hS
       exact hcM36 _ _ (hS.ends 8 36 29 rfl (congrArg Value.bool (by symm; rw [noCan_f]; exact Classical.not_not.1 (fun h => hg29 (by have := (hcan.1 h).1; omega)))) rfl rfl (by first | exact congrArg Value.bool (decide_eq_false hg29).symm | exact congrArg Value.bool hg29.symm | simp [hg29]) rfl)
     · clear hS a; intro a w hS
       simp only [List.drop_succ_cons, List.drop_zero]
       refine L_e hS (e_pk rfl rfl) rfl ?_; clear hS a; intro a hS
       exact hcM37 _ _ (hS.ends 7 37 25 rfl (congrArg Value.bool (by rfl)) rfl rfl (by first | exact congrArg Value.bool (decide_eq_false hg25).symm | exact congrArg Value.bool hg25.symm | simp [hg25]) rfl)
   · clear hS a; intro a w hS
     simp only [List.drop_succ_cons, List.drop_zero]
     refine nL (nT ?_)
     (first | refine c_ifD hS rfl ?_ ?_ | refine c_if hS rfl ?_ ?_) <;> intro hc37
     ·
      have hc : ¬ canon t := noCan_t.1 hc37
      refine cS (cR ?_)
      refine Rn hS (.a rfl <| .a rfl .n) ?_; clear hS a; intro a hS
      refine nL (nT (wp_ret (r_then ?_)))
      refine c_retN hS Tryz.results194 (.cons (.tmp rfl) (.cons (.tmp rfl) .nil)) rfl ?_
      exact ⟨by unfold jIntF; rw [if_neg (fun e => e (show k = 3 by omega)), if_pos (show ¬ canon (JV.mk k t ns l).t from hc)], hS.chg⟩
     have hc : canon t := noCan_f.1 hc37
     refine wS (nT (cS (cR ?_)))
     (first | refine L_e hS (e_fa0 rfl ty_fo37_1) rfl ?_ | refine L_e hS (e_faK rfl ty_fo37_1) rfl ?_); clear hS a; intro a hS
     refine L_e hS (e_load rfl (by repeat constructor) ty_sc9 (by rfl)) rfl ?_; clear hS a; intro a hS
     refine L_op (s_callN hS (.cons rfl .nil) cf153 rfl (AtoiC_N W0 hG t hc hl _ (hS.gg (X := oldA W0))) ?_); clear hS a; intro x41 a w hS
     obtain ⟨⟨z, ev⟩, hz⟩ := x41
     simp only at hS
     refine Rn hS (.m rfl <| .c (e_extract rfl rfl) <| .c (e_extract rfl rfl) <| .a rfl <| .a rfl .n) ?_; clear hS a; intro a hS
     refine nL (nT (cS (cS (cR ?_))))
     refine Rn hS (.m rfl <| .c (e_ifNe (c := decide (Lib.atoiAll t = .range)) rfl ty_if111 (by rcases hz with ⟨h1, h2⟩ | ⟨h1, h2⟩; exact .inl ⟨h2, decide_eq_false (by rw [h1]; intro e; cases e)⟩; exact .inr ⟨h2, decide_eq_true h1⟩)) .n) ?_; clear hS a; intro a hS
     refine nL (nT ?_)
     (first | refine c_ifD hS rfl ?_ ?_ | refine c_if hS rfl ?_ ?_) <;> intro hc45
     ·
      refine cS (cR ?_)
      refine Rn hS (.a rfl <| .a rfl .n) ?_; clear hS a; intro a hS
      refine nL (nT (wp_ret (r_then ?_)))
      refine c_retN hS Tryz.results194 (.cons (.tmp rfl) (.cons (.tmp rfl) .nil)) rfl ?_
      exact ⟨by unfold jIntF; rw [if_neg (fun e => e (show k = 3 by omega)), if_neg (fun e => e hc), show (JV.mk k t ns l).t = t from rfl, hc45], hS.chg⟩
     refine wS (nT (cS (cR ?_)))
     refine Rn hS (.m rfl <| .a rfl <| .a rfl .n) ?_; clear hS a; intro a hS
     refine nL (nT (wp_ret ?_))
     refine c_retN hS Tryz.results194 (.cons (.tmp rfl) (.cons (.tmp rfl) .nil)) rfl ?_
     exact ⟨by
      rcases hz with ⟨h1, h2⟩ | ⟨h1, h2⟩
      · unfold jIntF; rw [if_neg (fun e => e (show k = 3 by omega)), if_neg (fun e => e hc), show (JV.mk k t ns l).t = t from rfl, h1]
      · exact absurd h1 hc45, hS.chg⟩
set_option maxRecDepth 100000 in
theorem jOfInt_P (W0 : World) (hG : Gj W0) (n : Int) (h0 : -9223372036854775808 ≤ n) (h1 : n ≤ 9223372036854775807) (w0 : World) (ho : oldφ W0 w0) : PureC Tryz.prog 87 [.int .i64 n] w0 (.agg (fourJ 3 (tx (Lib.itoa n)) none 0 0 none 0 0).toArray) := by
 refine c_enter [(0, .int .i64 n)] [oldA W0] noB Tryz.func87 rfl Tryz.ntmps87 ⟨rfl, trivial⟩ rfl (okC (old_ok ho) okN) dis1 (mineC rfl mineN) ?_
 intro a hS
 refine cS (cR ?_)
 refine L_op (s_alloc hS ty_z37 rfl ?_); clear hS a; intro a w b2 hS
 refine nL (nT (cS (cR ?_)))
 refine L_e hS (e_move rfl) rfl ?_; clear hS a; intro a hS
 refine L_op (s_callP hS (.cons rfl .nil) cf69 rfl (Itoa_P W0 hG n h0 h1 _ (hS.gg (X := oldA W0))) ?_); clear hS a; intro a w hS
 refine L_e hS (e_build ty_z37 ty_pl37 (.one rfl rfl rfl (by repeat constructor) (.one rfl rfl rfl (by repeat constructor) .nil))) rfl ?_; clear hS a; intro a hS
 refine L_op (s_storeA hS rfl rfl ty_sz37 (by repeat constructor) (by rfl) (by rfl) (by rfl) ?_); clear hS; intro w hS
 refine nL (nT (wp_ret ?_))
 refine c_ret1 hS Tryz.results87 (.cellA rfl (by repeat constructor) ty_st37 ty_sz37 (by rfl)) ?_
 exact ⟨rfl, hS.chg⟩
set_option maxRecDepth 100000 in
theorem jOfText_P (s : ByteArray) (w0 : World) : PureC Tryz.prog 85 [.string s] w0 (.agg (fourJ 4 s none 0 0 none 0 0).toArray) := by
 refine c_enter [(0, .string s)] [] noB Tryz.func85 rfl Tryz.ntmps85 ⟨rfl, trivial⟩ rfl (by simp) (by simp) (by simp) ?_
 intro a hS
 refine cS (cR ?_)
 refine L_op (s_alloc hS ty_z37 rfl ?_); clear hS a; intro a w b2 hS
 refine nL (nT (cS (cR ?_)))
 refine Rn hS (.m rfl <| .c (e_build ty_z37 ty_pl37 (.one rfl rfl rfl (by repeat constructor) (.one rfl rfl rfl (by repeat constructor) .nil))) .n) ?_; clear hS a; intro a hS
 refine L_op (s_storeA hS rfl rfl ty_sz37 (by repeat constructor) (by rfl) (by rfl) (by rfl) ?_); clear hS; intro w hS
 refine nL (nT (wp_ret ?_))
 refine c_ret1 hS Tryz.results85 (.cellA rfl (by repeat constructor) ty_st37 ty_sz37 (by rfl)) ?_
 exact ⟨rfl, hS.chg⟩
set_option maxRecDepth 100000 in
theorem fIntOf_P (W0 : World) (hG : Gj W0) (v : JV) (a1 a4 : Option Addr) (a2 a3 a5 a6 : Nat) (hl : v.t.length ≤ 10000000) (w0 : World) (ho : oldφ W0 w0) : PureC Tryz.prog 156 [.agg [.int .i64 (v.k : Int), .string (tx v.t), .slice a1 a2 a3, .slice a4 a5 a6].toArray] w0 (.tuple [.int .i64 (intOfF v).1, .int .i64 (intOfF v).2].toArray) := by
 refine c_enter [(0, .agg [.int .i64 (v.k : Int), .string (tx v.t), .slice a1 a2 a3, .slice a4 a5 a6].toArray)] [oldA W0] noB Tryz.func156 rfl Tryz.ntmps156 ⟨rfl, trivial⟩ rfl (okC (old_ok ho) okN) dis1 (mineC rfl mineN) ?_
 intro a hS
 refine cS (cR ?_)
 refine L_op (s_boxA hS rfl rfl ?_); clear hS a; intro a w b1 hS
 refine Rn hS (.a rfl <| .a rfl .n) ?_; clear hS a; intro a hS
 refine nL (nT (cS (cR ?_)))
 refine L_e hS (e_loadA rfl (by repeat constructor) ty_st37 ty_sz37 (by rfl)) rfl ?_; clear hS a; intro a hS
 refine L_op (s_callP hS (.cons rfl .nil) cf194 rfl (jInt_P W0 hG v a1 a4 a2 a3 a5 a6 hl _ (hS.gg (X := oldA W0))) ?_); clear hS a; intro a w hS
 refine Rn hS (.m rfl <| .c (e_extract rfl rfl) <| .c (e_extract rfl rfl) <| .a rfl <| .a rfl .n) ?_; clear hS a; intro a hS
 refine nL (nT (cS (cS (cR ?_))))
 refine Rn hS (.m rfl <| .c (e_bin rfl rfl rfl) .n) ?_; clear hS a; intro a hS
 refine nL (nT ?_)
 (first | refine c_ifD hS rfl ?_ ?_ | refine c_if hS rfl ?_ ?_) <;> intro hc12
 ·
  refine cR ?_
  refine L_e hS (e_assign rfl) rfl ?_; clear hS a; intro a hS
  refine nL (nT (cS (cR ?_)))
  refine Rn hS (.m rfl <| .m rfl <| .a rfl <| .a rfl .n) ?_; clear hS a; intro a hS
  refine nL (nT (wp_ret ?_))
  refine c_retN hS Tryz.results156 (.cons (.tmp rfl) (.cons (.tmp rfl) .nil)) rfl ?_
  first
   | exact ⟨by unfold intOfF; rw [if_pos hc12], hS.chg⟩
   | exact ⟨by unfold intOfF; rw [if_neg hc12], hS.chg⟩
 refine wS (nT (cS (cR ?_)))
 refine Rn hS (.m rfl <| .m rfl <| .a rfl <| .a rfl .n) ?_; clear hS a; intro a hS
 refine nL (nT (wp_ret ?_))
 refine c_retN hS Tryz.results156 (.cons (.tmp rfl) (.cons (.tmp rfl) .nil)) rfl ?_
 first
  | exact ⟨by unfold intOfF; rw [if_pos hc12], hS.chg⟩
  | exact ⟨by unfold intOfF; rw [if_neg hc12], hS.chg⟩
set_option maxRecDepth 100000 in
theorem vmInt_P (s : ByteArray) (n : Int) (w0 : World) : PureC Tryz.prog 157 [.string s, .int .i64 n] w0 (.agg [.string s, .int .i64 1, .int .i64 n, .string ⟨#[]⟩].toArray) := by
 refine c_enter [(0, .string s), (1, .int .i64 n)] [] noB Tryz.func157 rfl Tryz.ntmps157 ⟨rfl, rfl, trivial⟩ rfl (by simp) (by simp) (by simp) ?_
 intro a hS
 refine cS (cR ?_)
 refine L_op (s_alloc hS ty_z160 rfl ?_); clear hS a; intro a w b4 hS
 refine nL (nT (cS (cR ?_)))
 refine Rn hS (.m rfl <| .m rfl <| .c (e_build ty_z160 ty_pl160 (.one rfl rfl rfl (by repeat constructor) (.one rfl rfl rfl (by repeat constructor) (.one rfl rfl rfl (by repeat constructor) .nil)))) .n) ?_; clear hS a; intro a hS
 refine L_op (s_storeA hS rfl rfl ty_sz160 (by repeat constructor) (by rfl) (by rfl) (by rfl) ?_); clear hS; intro w hS
 refine nL (nT (wp_ret ?_))
 refine c_ret1 hS Tryz.results157 (.cellA rfl (by repeat constructor) ty_st160 ty_sz160 (by rfl)) ?_
 exact ⟨rfl, hS.chg⟩
set_option maxRecDepth 100000 in
theorem vmText_P (s t : ByteArray) (w0 : World) : PureC Tryz.prog 158 [.string s, .string t] w0 (.agg [.string s, .int .i64 3, .int .i64 0, .string t].toArray) := by
 refine c_enter [(0, .string s), (1, .string t)] [] noB Tryz.func158 rfl Tryz.ntmps158 ⟨rfl, rfl, trivial⟩ rfl (by simp) (by simp) (by simp) ?_
 intro a hS
 refine cS (cR ?_)
 refine L_op (s_alloc hS ty_z160 rfl ?_); clear hS a; intro a w b4 hS
 refine nL (nT (cS (cR ?_)))
 refine Rn hS (.m rfl <| .m rfl <| .c (e_build ty_z160 ty_pl160 (.one rfl rfl rfl (by repeat constructor) (.one rfl rfl rfl (by repeat constructor) (.one rfl rfl rfl (by repeat constructor) .nil)))) .n) ?_; clear hS a; intro a hS
 refine L_op (s_storeA hS rfl rfl ty_sz160 (by repeat constructor) (by rfl) (by rfl) (by rfl) ?_); clear hS; intro w hS
 refine nL (nT (wp_ret ?_))
 refine c_ret1 hS Tryz.results158 (.cellA rfl (by repeat constructor) ty_st160 ty_sz160 (by rfl)) ?_
 exact ⟨rfl, hS.chg⟩
set_option maxRecDepth 100000 in
theorem vmTruth_P (b : Bool) (w0 : World) : PureC Tryz.prog 195 [.bool b] w0 (.int .i64 (if b then 1 else 0)) := by
 refine c_enter [(0, .bool b)] [] noB Tryz.func195 rfl Tryz.ntmps195 ⟨rfl, trivial⟩ rfl (by simp) (by simp) (by simp) ?_
 intro a hS
 refine cS (cR ?_)
 refine L_e hS (e_assign rfl) rfl ?_; clear hS a; intro a hS
 refine nL (nT (cS (cS (cR ?_))))
 refine L_e hS (e_move rfl) rfl ?_; clear hS a; intro a hS
 refine nL (nT ?_)
 (first | refine c_ifD hS rfl ?_ ?_ | refine c_if hS rfl ?_ ?_) <;> intro hc3
 ·
  refine cS (cR ?_)
  refine L_e hS (e_assign rfl) rfl ?_; clear hS a; intro a hS
  refine nL (nT (wp_ret (r_then ?_)))
  refine c_ret1 hS Tryz.results195 (.tmp rfl) ?_
  first
  | exact ⟨by rw [hc3]; rfl, hS.chg⟩
  | exact ⟨by rw [Bool.eq_false_iff.2 hc3]; rfl, hS.chg⟩
 refine wS (nT (cS (cR ?_)))
 refine L_e hS (e_assign rfl) rfl ?_; clear hS a; intro a hS
 refine nL (nT (wp_ret ?_))
 refine c_ret1 hS Tryz.results195 (.tmp rfl) ?_
 first
 | exact ⟨by rw [hc3]; rfl, hS.chg⟩
 | exact ⟨by rw [Bool.eq_false_iff.2 hc3]; rfl, hS.chg⟩
set_option maxRecDepth 100000 in
theorem vmBool_P (s : ByteArray) (b : Bool) (w0 : World) : PureC Tryz.prog 159 [.string s, .bool b] w0 (.agg [.string s, .int .i64 2, .int .i64 (if b then 1 else 0), .string ⟨#[]⟩].toArray) := by
 refine c_enter [(0, .string s), (1, .bool b)] [] noB Tryz.func159 rfl Tryz.ntmps159 ⟨rfl, rfl, trivial⟩ rfl (by simp) (by simp) (by simp) ?_
 intro a hS
 refine cS (cR ?_)
 refine L_op (s_alloc hS ty_z160 rfl ?_); clear hS a; intro a w b4 hS
 refine nL (nT (cS (cR ?_)))
 refine Rn hS (.m rfl <| .m rfl .n) ?_; clear hS a; intro a hS
 refine L_op (s_callP hS (.cons rfl .nil) cf195 rfl (vmTruth_P b _) ?_); clear hS a; intro a w hS
 refine L_e hS (e_build ty_z160 ty_pl160 (.one rfl rfl rfl (by repeat constructor) (.one rfl rfl rfl (by repeat constructor) (.one rfl rfl rfl (by repeat constructor) .nil)))) rfl ?_; clear hS a; intro a hS
 refine L_op (s_storeA hS rfl rfl ty_sz160 (by repeat constructor) (by rfl) (by rfl) (by rfl) ?_); clear hS; intro w hS
 refine nL (nT (wp_ret ?_))
 refine c_ret1 hS Tryz.results159 (.cellA rfl (by repeat constructor) ty_st160 ty_sz160 (by rfl)) ?_
 exact ⟨rfl, hS.chg⟩
theorem getF_mem {v y : JV} {nm : List UInt8} (h : getF v nm = some y) : v.k = 6 ∧ y ∈ v.l := by
 unfold getF at h
 split at h
 · rename_i hk
   refine ⟨hk, ?_⟩
   rw [Option.map_eq_some_iff] at h
   obtain ⟨p, hp, rfl⟩ := h
   exact (List.of_mem_zip (List.mem_of_find?_eq_some hp)).2
 · cases h
theorem smV_kid {n : Nat} {v y : JV} (h : smV (n + 1) v) (hy : y ∈ v.l) : smV n y := by
 cases v with
 | mk k t ns l => exact h.2.2.2.2 y hy
theorem smV_t {n : Nat} {v : JV} (h : smV n v) : v.t.length ≤ 1100000 := by
 cases n with
 | zero => exact absurd h (fun h => h)
 | succ n => cases v with
   | mk k t ns l => exact h.1
theorem gt_open {n : Nat} {v : JV} {nm : List UInt8} (x : GetR v nm) {w : World} (hsm : smV (n + 1) v) (h : (gtY n v nm x).ok w) : ∃ (y : JV) (a1 : Option Addr) (a2 a3 : Nat) (a4 : Option Addr) (a5 a6 : Nat) (b : Bool),
 gtV v nm x = .tuple [.agg [.int .i64 (y.k : Int), .string (tx y.t), .slice a1 a2 a3, .slice a4 a5 a6].toArray, .bool b].toArray ∧ (getF v nm).getD jz = y ∧ y.t.length ≤ 10000000 ∧ ((b = true ∧ ∃ x', x = .inl x' ∧ x'.1.v = y ∧ x'.1.cs = [.int .i64 (y.k : Int), .string (tx y.t), .slice a1 a2 a3, .slice a4 a5 a6]) ∨ (b = false ∧ getF v nm = none)) := by
 rcases x with x | x
 · have hj : JAt n x.1.v x.1.cs w := h.now
   obtain ⟨lv, nv, ⟨a1, a2, a3, rfl⟩, ⟨a4, a5, a6, rfl⟩, hcs⟩ := hj.four
   have := smV_t (smV_kid hsm (getF_mem x.2).2)
   refine ⟨x.1.v, a1, a2, a3, a4, a5, a6, true, by show Value.tuple [.agg x.1.cs.toArray, .bool true].toArray = _; rw [hcs], congrArg (·.getD jz) x.2, by omega, .inl ⟨rfl, x, rfl, rfl, hcs⟩⟩
 · exact ⟨jz, none, 0, 0, none, 0, 0, false, rfl, congrArg (·.getD jz) x.2, Nat.zero_le _, .inr ⟨rfl, x.2⟩⟩
theorem fact_step {v y : JV} {nm : List UInt8} {k : Nat} {ns : List (List UInt8)} {acc : List Fct} (h : ns[k]? = some nm) (hy : (getF v nm).getD jz = y) : factsL v (ns.drop k) acc = if (factF nm y).1 ≠ 0 then ((factF nm y).1, []) else factsL v (ns.drop (k + 1)) (acc ++ [(factF nm y).2]) := by
 rw [List.drop_eq_getElem_cons (List.getElem?_eq_some_iff.1 h).1, (List.getElem?_eq_some_iff.1 h).2]
 conv => lhs; unfold factsL
 rw [hy]
def FaR (v : JV) : Type := { _x : Value // (factsF v).1 = 0 } ⊕ { _u : Unit // (factsF v).1 ≠ 0 }
def faV (v : JV) : FaR v → Value
 | .inl x => .tuple [x.1, .int .i64 0].toArray
 | .inr _ => .tuple [.slice none 0 0, .int .i64 (factsF v).1].toArray
def faY (v : JV) : FaR v → Asn
 | .inl x => ownA 160 4 x.1 (factsF v).2.length ((factsF v).2.flatMap encF)
 | .inr _ => none_
set_option maxHeartbeats 2000000 in
set_option maxRecDepth 100000 in
theorem fFactsOf_N (W0 : World) (hG : Gj W0) (n : Nat) (v : JV) (cs : List Value) (w0 : World) (hj : JAt (n + 1) v cs W0) (hsm : smV (n + 1) v) (hold : oldφ W0 w0) :
  NewC Tryz.prog 114 [.agg cs.toArray] w0 (faV v) (faY v) := by
  have hj0 := hj
  have hsm0 := hsm
  obtain ⟨na, nc, lv, hcs, hT⟩ : ∃ na nc lv, cs = [.int .i64 (v.k : Int), .string (tx v.t), lv, .slice na v.ns.length nc] ∧ TxsAt W0 na v.ns := by
   cases v with
   | mk kd t ns l =>
     obtain ⟨lv, nv, rows, rfl, hn1, hn2, hn3, hn4⟩ := hj
     obtain ⟨na, nc, rfl, hT⟩ := txs_of hn1
     exact ⟨na, nc, lv, rfl, hT⟩
  obtain ⟨la, lm, lc, rfl⟩ : ∃ a m c, lv = .slice a m c := by
   obtain ⟨lv2, nv2, h1, h2, h3⟩ := hj0.four
   rw [hcs] at h3
   injection h3 with _ h3; injection h3 with _ h3; injection h3 with h3 _
   rw [h3]; exact h1
  subst hcs
  have hs2 : v.ns.length ≤ 1000000 := by cases v with | mk k t ns l => exact hsm.2.1
  refine c_enter [(0, .agg [.int .i64 (v.k : Int), .string (tx v.t), .slice la lm lc, .slice na v.ns.length nc].toArray)] [oldA W0] noB Tryz.func114 rfl Tryz.ntmps114 ⟨rfl, trivial⟩ rfl (okC (old_ok hold) okN) dis1 (mineC rfl mineN) ?_
  intro a hS
  refine cS (cR ?_)
  refine L_op (s_boxA hS rfl rfl ?_); clear hS a; intro a w b1 hS
  refine Rn hS (.a rfl <| .a rfl .n) ?_; clear hS a; intro a hS
  refine nL (nT (cS (cR ?_)))
  refine L_e hS (e_assign rfl) rfl ?_; clear hS a; intro a hS
  refine nL (nT (cS (cS (cR ?_))))
  (first | refine L_e hS (e_fa0 rfl ty_fo37_3) rfl ?_ | refine L_e hS (e_faK rfl ty_fo37_3) rfl ?_); clear hS a; intro a hS
  refine L_e hS (e_load rfl (by repeat constructor) ty_sc35 (by rfl)) rfl ?_; clear hS a; intro a hS
  refine L_op (s_callN hS (.cons rfl .nil) cf106 rfl (Values_N na v.ns.length nc _) ?_); clear hS a; intro x13 a w hS
  refine L_op (s_callN hS (.cons rfl .nil) cf105 rfl (SortedV_N W0 x13 na nc v.ns hT hs2 _ ⟨hS.gg (X := .blk x13 [.slice na v.ns.length nc] 35), hS.gg (X := oldA W0)⟩) ?_); clear hS a; intro x14 a w hS
  obtain ⟨q14, c14, rfl⟩ := own_slice (hS.gg (X := ownA 9 1 x14 (sortL v.ns).length ((sortL v.ns).map encStr)))
  have hsl := sortL_len v.ns
  refine Rn hS (.c (e_len rfl rfl ty_sl35) <| .m rfl .n) ?_; clear hS a; intro a hS
  refine nL (nT (wB ?_))
  skip
  refine c_loop (γ := List Fct × Value) (fun G a w => St 66 noB w0 a w [(16, .int .i64 (G.1.length : Int)), (15, .int .i64 ((sortL v.ns).length : Int)), (14, .slice q14 (sortL v.ns).length c14), (4, G.2), (1, .pointer (some ⟨b1, 0, none⟩))] [ownA 160 4 G.2 G.1.length (G.1.flatMap encF), ownA 9 1 (.slice q14 (sortL v.ns).length c14) (sortL v.ns).length ((sortL v.ns).map encStr), .blk b1 [.int .i64 (v.k : Int), .string (tx v.t), .slice la lm lc, .slice na v.ns.length nc] 37, oldA W0] ∧ G.1.length ≤ (sortL v.ns).length ∧ factsL v ((sortL v.ns).drop G.1.length) G.1 = factsF v) (fun G => (sortL v.ns).length - G.1.length) ([], .slice none 0 0) ⟨((hS.own_nil 160 4).slots (by repeat (first | exact trivial | refine ⟨rfl, ?_⟩))).pick (by repeat (first | exact Pick.nil | (refine Pick.cons (by repeat (first | exact Rem.head | apply Rem.tail)) ?_))), Nat.zero_le _, rfl⟩ ?_
  clear hS a; intro G a w hI
  obtain ⟨acc, sv⟩ := G
  obtain ⟨hS, hk, hgo⟩ := hI
  simp only at hS hk hgo
  refine cS (cR ?_)
  refine L_e hS (e_bin rfl rfl rfl) rfl ?_; clear hS a; intro a hS
  refine nL (nT (cS ?_))
  (first | refine c_ifD hS rfl ?_ ?_ | refine c_if hS rfl ?_ ?_) <;> intro hc17
  ·
   have hkn : acc.length < (sortL v.ns).length := by omega
   obtain ⟨nm, hnm⟩ : ∃ x, (sortL v.ns)[acc.length]? = some x := ⟨_, List.getElem?_eq_getElem hkn⟩
   obtain ⟨q, rfl⟩ := own_at (hS.gg (X := ownA 9 1 (.slice q14 (sortL v.ns).length c14) (sortL v.ns).length ((sortL v.ns).map encStr))) (by omega)
   refine wS (nT (cS (wB (cS (cR ?_)))))
   refine L_e hS (e_ixN rfl rfl ty_sl35 ty_sz9 (by omega)) rfl ?_; clear hS a; intro a hS
   refine L_op (s_e hS (e_loadC rfl ty_sc9 (fun w hh => by
 have h1 := (World.ownsRow.cells (g := q) (show w.ownsRow 0 9 1 (.slice (some ⟨q, 0, none⟩) (sortL v.ns).length c14) (sortL v.ns).length ((sortL v.ns).map encStr) from hh (ownA 9 1 (.slice (some ⟨q, 0, none⟩) (sortL v.ns).length c14) (sortL v.ns).length ((sortL v.ns).map encStr)) (by repeat constructor)) rfl) acc.length (.string (tx nm)) (by rw [List.getElem?_map, hnm]; rfl)
 simpa [addr_add] using h1)) rfl ?_); clear hS a; intro a hS
   refine L_e hS (e_assign rfl) rfl ?_; clear hS a; intro a hS
   refine nL (nT (cS (cR ?_)))
   refine Rn hS (.c (e_loadA rfl (by repeat constructor) ty_st37 ty_sz37 (by rfl)) <| .m rfl .n) ?_; clear hS a; intro a hS
   refine L_op (s_callN hS (.cons rfl (.cons rfl .nil)) cf112 rfl (jGet_N W0 n v _ nm _ hj0 hsm0 (hS.gg (X := oldA W0))) ?_); clear hS a; intro x23 a w hS
   obtain ⟨y, a1, a2, a3, a4, a5, a6, bb, hgt, hy, hyt, _⟩ := gt_open (n := n) x23 hsm0 (hS.ok (gtY n v nm x23) (by repeat constructor))
   rw [hgt] at hS
   have hst := fact_step (acc := acc) hnm hy
   rw [hgo] at hst
   refine Rn hS (.m rfl <| .c (e_extract rfl rfl) <| .c (e_extract rfl rfl) .n) ?_; clear hS a; intro a hS
   refine L_op (s_alloc hS ty_z37 rfl ?_); clear hS a; intro a w b7 hS
   refine L_op (s_storeA hS rfl rfl ty_sz37 (by repeat constructor) (by rfl) (by rfl) (by rfl) ?_); clear hS; intro w hS
   refine L_e hS (e_assign rfl) rfl ?_; clear hS a; intro a hS
   refine nL (nT (cS (cR ?_)))
   (first | refine L_e hS (e_fa0 rfl ty_fo37_0) rfl ?_ | refine L_e hS (e_faK rfl ty_fo37_0) rfl ?_); clear hS a; intro a hS
   refine L_e hS (e_load rfl (by repeat constructor) ty_sc3 (by rfl)) rfl ?_; clear hS a; intro a hS
   refine nL (nT (wB (cS (cR ?_))))
   refine Rn hS (.c (e_bin rfl rfl rfl) <| .a rfl .n) ?_; clear hS a; intro a hS
   refine nL (nT ?_)
   (first | refine c_ifD hS rfl ?_ ?_ | refine c_if hS rfl ?_ ?_) <;> intro hc28
   ·
    have hk3 : y.k = 3 := by omega
    have hf : factF nm y = ((intOfF y).2, ⟨nm, 1, (intOfF y).1, []⟩) := if_pos hk3
    refine cS (cR ?_)
    refine L_e hS (e_loadA rfl (by repeat constructor) ty_st37 ty_sz37 (by rfl)) rfl ?_; clear hS a; intro a hS
    refine L_op (s_callP hS (.cons rfl .nil) cf156 rfl (fIntOf_P W0 hG y a1 a4 a2 a3 a5 a6 hyt _ (hS.gg (X := oldA W0))) ?_); clear hS a; intro a w hS
    refine Rn hS (.m rfl <| .c (e_extract rfl rfl) <| .c (e_extract rfl rfl) <| .a rfl <| .a rfl .n) ?_; clear hS a; intro a hS
    refine nL (nT (cS (cS (cR ?_))))
    refine Rn hS (.m rfl <| .c (e_bin rfl rfl rfl) .n) ?_; clear hS a; intro a hS
    refine nL (nT ?_)
    (first | refine c_ifD hS rfl ?_ ?_ | refine c_if hS rfl ?_ ?_) <;> intro hc36
    ·
     refine cS (cR ?_)
     refine Rn hS (.m rfl <| .a rfl <| .a rfl .n) ?_; clear hS a; intro a hS
     refine nL (nT (wp_ret ?_))
     refine r_then (r_block (r_block (r_then (r_then (r_block (r_then ?_))))))
     refine c_retN hS Tryz.results114 (.cons (.tmp rfl) (.cons (.tmp rfl) .nil)) rfl ?_
     rw [hf, if_pos hc36] at hst
     exact ⟨.inr ⟨(), by rw [hst]; exact hc36⟩, by show _ = Ending.returned (Value.tuple [.slice none 0 0, .int .i64 (factsF v).1].toArray); rw [hst], hS.chg, none_ok _, fun b h => h.elim⟩
    rw [if_neg (by rw [hf]; exact hc36)] at hst
    refine wS (nT (cR ?_))
    refine Rn hS (.m rfl <| .m rfl <| .m rfl .n) ?_; clear hS a; intro a hS
    refine L_op (s_callP hS (.cons rfl (.cons rfl .nil)) cf157 rfl (vmInt_P (tx nm) (intOfF y).1 _) ?_); clear hS a; intro a w hS
    refine L_op (s_bslice hS ty_sl22 ty_sz160 ty_z160 rfl rfl rfl rfl (.agg rfl rfl .nil) rfl ?_); clear hS a; intro a w b42 hS
    refine L_op (s_append1 hS rfl rfl ty_sl22 ty_sz160 ty_by160 ty_z160 rfl rfl rfl (by repeat constructor) (by repeat constructor) (by rfl) (by rfl) (fun _ => (by repeat constructor)) (by omega) ?_); clear hS a; intro v43 a w hv43 hS
    obtain ⟨s2, rfl⟩ : ∃ s2, s2 = v43 := ⟨_, rfl⟩
    rw [show acc.flatMap encF ++ ([.string (tx nm), .int .i64 1, .int .i64 (intOfF y).1, .string ⟨#[]⟩] ++ []) = (acc ++ [(factF nm y).2]).flatMap encF from by rw [List.flatMap_append, hf]; simp [encF, tx]] at hS
    refine L_e hS (e_assign rfl) rfl ?_; clear hS a; intro a hS
    refine nL (n_block (n_block (nT (cR ?_))))
    (first | refine L_e hS (e_binN rfl rfl rfl (by omega)) rfl ?_ | refine L_e hS (e_bin rfl rfl rfl) rfl ?_); clear hS a; intro a hS
    refine L_e hS (e_move rfl) rfl ?_; clear hS a; intro a hS
    refine nL ?_
    refine ⟨(acc ++ [(factF nm y).2], s2), by show (sortL v.ns).length - (acc ++ [_]).length < (sortL v.ns).length - acc.length; rw [List.length_append, List.length_singleton]; omega, ?_, by show (acc ++ [_]).length ≤ (sortL v.ns).length; rw [List.length_append, List.length_singleton]; omega, by show factsL v ((sortL v.ns).drop (acc ++ [_]).length) (acc ++ [_]) = _; rw [List.length_append, List.length_singleton]; exact hst.symm⟩
    show St _ _ _ _ _ [(16, .int .i64 ((acc ++ [(factF nm y).2]).length : Int)), _, _, _, _] [ownA _ _ _ (acc ++ [(factF nm y).2]).length _, _, _, _]
    rw [List.length_append, List.length_singleton]
    exact (hS.slots (by repeat (first | exact trivial | refine ⟨rfl, ?_⟩))).pick (by repeat (first | exact Pick.nil | (refine Pick.cons (by repeat (first | exact Rem.head | apply Rem.tail)) ?_)))
   refine cS (cR ?_)
   refine Rn hS (.c (e_bin rfl rfl rfl) <| .a rfl .n) ?_; clear hS a; intro a hS
   refine nL (nT ?_)
   (first | refine c_ifD hS rfl ?_ ?_ | refine c_if hS rfl ?_ ?_) <;> intro hc44
   ·
    have hf : factF nm y = (0, ⟨nm, 3, 0, y.t⟩) := by unfold factF; rw [if_neg (by omega), if_pos (by omega)]
    rw [if_neg (by rw [hf]; exact fun h => h rfl)] at hst
    refine cR ?_
    refine Rn hS (.m rfl <| .m rfl .n) ?_; clear hS a; intro a hS
    (first | refine L_e hS (e_fa0 rfl ty_fo37_1) rfl ?_ | refine L_e hS (e_faK rfl ty_fo37_1) rfl ?_); clear hS a; intro a hS
    refine L_e hS (e_load rfl (by repeat constructor) ty_sc9 (by rfl)) rfl ?_; clear hS a; intro a hS
    refine L_op (s_callP hS (.cons rfl (.cons rfl .nil)) cf158 rfl (vmText_P (tx nm) (tx y.t) _) ?_); clear hS a; intro a w hS
    refine L_op (s_bslice hS ty_sl22 ty_sz160 ty_z160 rfl rfl rfl rfl (.agg rfl rfl .nil) rfl ?_); clear hS a; intro a w b51 hS
    refine L_op (s_append1 hS rfl rfl ty_sl22 ty_sz160 ty_by160 ty_z160 rfl rfl rfl (by repeat constructor) (by repeat constructor) (by rfl) (by rfl) (fun _ => (by repeat constructor)) (by omega) ?_); clear hS a; intro v52 a w hv52 hS
    obtain ⟨s2, rfl⟩ : ∃ s2, s2 = v52 := ⟨_, rfl⟩
    rw [show acc.flatMap encF ++ ([.string (tx nm), .int .i64 3, .int .i64 0, .string (tx y.t)] ++ []) = (acc ++ [(factF nm y).2]).flatMap encF from by rw [List.flatMap_append, hf]; simp [encF, tx]] at hS
    refine L_e hS (e_assign rfl) rfl ?_; clear hS a; intro a hS
    refine nL (n_block (n_block (nT (cR ?_))))
    (first | refine L_e hS (e_binN rfl rfl rfl (by omega)) rfl ?_ | refine L_e hS (e_bin rfl rfl rfl) rfl ?_); clear hS a; intro a hS
    refine L_e hS (e_move rfl) rfl ?_; clear hS a; intro a hS
    refine nL ?_
    refine ⟨(acc ++ [(factF nm y).2], s2), by show (sortL v.ns).length - (acc ++ [_]).length < (sortL v.ns).length - acc.length; rw [List.length_append, List.length_singleton]; omega, ?_, by show (acc ++ [_]).length ≤ (sortL v.ns).length; rw [List.length_append, List.length_singleton]; omega, by show factsL v ((sortL v.ns).drop (acc ++ [_]).length) (acc ++ [_]) = _; rw [List.length_append, List.length_singleton]; exact hst.symm⟩
    show St _ _ _ _ _ [(16, .int .i64 ((acc ++ [(factF nm y).2]).length : Int)), _, _, _, _] [ownA _ _ _ (acc ++ [(factF nm y).2]).length _, _, _, _]
    rw [List.length_append, List.length_singleton]
    exact (hS.slots (by repeat (first | exact trivial | refine ⟨rfl, ?_⟩))).pick (by repeat (first | exact Pick.nil | (refine Pick.cons (by repeat (first | exact Rem.head | apply Rem.tail)) ?_)))
   refine cS (cS (cR ?_))
   refine Rn hS (.c (e_bin rfl rfl rfl) <| .a rfl .n) ?_; clear hS a; intro a hS
   refine nL (nT ?_)
   (first | refine c_ifD hS rfl ?_ ?_ | refine c_if hS rfl ?_ ?_) <;> intro hc53
   ·
    refine wS (nT ?_)
    (first | refine c_ifD hS rfl ?_ ?_ | refine c_if hS rfl ?_ ?_) <;> intro hc53
    ·
     refine cR ?_
     refine Rn hS (.m rfl <| .m rfl .n) ?_; clear hS a; intro a hS
     (first | refine L_e hS (e_fa0 rfl ty_fo37_0) rfl ?_ | refine L_e hS (e_faK rfl ty_fo37_0) rfl ?_); clear hS a; intro a hS
     refine Rn hS (.c (e_load rfl (by repeat constructor) ty_sc3 (by rfl)) <| .c (e_bin rfl rfl rfl) .n) ?_; clear hS a; intro a hS
     refine L_op (s_callP hS (.cons rfl (.cons rfl .nil)) cf159 rfl (vmBool_P (tx nm) (decide ((y.k : Int) = 2)) _) ?_); clear hS a; intro a w hS
     have hf : factF nm y = (0, ⟨nm, 2, if decide ((y.k : Int) = 2) = true then 1 else 0, []⟩) := by
      unfold factF
      rw [if_neg (by omega), if_neg (by omega), if_pos (by omega)]
      by_cases h2 : y.k = 2
      · rw [if_pos h2, if_pos (decide_eq_true (by omega))]
      · rw [if_neg h2, if_neg (by rw [decide_eq_false (by omega)]; decide)]
     rw [if_neg (by rw [hf]; exact fun h => h rfl)] at hst
     refine L_op (s_bslice hS ty_sl22 ty_sz160 ty_z160 rfl rfl rfl rfl (.agg rfl rfl .nil) rfl ?_); clear hS a; intro a w b62 hS
     refine L_op (s_append1 hS rfl rfl ty_sl22 ty_sz160 ty_by160 ty_z160 rfl rfl rfl (by repeat constructor) (by repeat constructor) (by rfl) (by rfl) (fun _ => (by repeat constructor)) (by omega) ?_); clear hS a; intro v63 a w hv63 hS
     obtain ⟨s2, rfl⟩ : ∃ s2, s2 = v63 := ⟨_, rfl⟩
     rw [show acc.flatMap encF ++ ([.string (tx nm), .int .i64 2, .int .i64 (if decide ((y.k : Int) = 2) = true then 1 else 0), .string ⟨#[]⟩] ++ []) = (acc ++ [(factF nm y).2]).flatMap encF from by rw [List.flatMap_append, hf]; simp [encF, tx]] at hS
     refine L_e hS (e_assign rfl) rfl ?_; clear hS a; intro a hS
     refine nL (n_block (n_block (nT (cR ?_))))
     (first | refine L_e hS (e_binN rfl rfl rfl (by omega)) rfl ?_ | refine L_e hS (e_bin rfl rfl rfl) rfl ?_); clear hS a; intro a hS
     refine L_e hS (e_move rfl) rfl ?_; clear hS a; intro a hS
     refine nL ?_
     refine ⟨(acc ++ [(factF nm y).2], s2), by show (sortL v.ns).length - (acc ++ [_]).length < (sortL v.ns).length - acc.length; rw [List.length_append, List.length_singleton]; omega, ?_, by show (acc ++ [_]).length ≤ (sortL v.ns).length; rw [List.length_append, List.length_singleton]; omega, by show factsL v ((sortL v.ns).drop (acc ++ [_]).length) (acc ++ [_]) = _; rw [List.length_append, List.length_singleton]; exact hst.symm⟩
     show St _ _ _ _ _ [(16, .int .i64 ((acc ++ [(factF nm y).2]).length : Int)), _, _, _, _] [ownA _ _ _ (acc ++ [(factF nm y).2]).length _, _, _, _]
     rw [List.length_append, List.length_singleton]
     exact (hS.slots (by repeat (first | exact trivial | refine ⟨rfl, ?_⟩))).pick (by repeat (first | exact Pick.nil | (refine Pick.cons (by repeat (first | exact Rem.head | apply Rem.tail)) ?_)))
    refine cS (cR ?_)
    refine Rn hS (.a rfl <| .a rfl .n) ?_; clear hS a; intro a hS
    refine nL (nT (wp_ret ?_))
    refine r_block (r_block (r_then (r_then (r_block (r_then ?_)))))
    refine c_retN hS Tryz.results114 (.cons (.tmp rfl) (.cons (.tmp rfl) .nil)) rfl ?_
    first
     | (exfalso; omega)
     | (have hf : factF nm y = (13, ⟨[], 0, 0, []⟩) := by unfold factF; rw [if_neg (by omega), if_neg (by omega), if_neg (by omega)]
        rw [hf, if_pos (by decide)] at hst
        exact ⟨.inr ⟨(), by rw [hst]; decide⟩, by show _ = Ending.returned (Value.tuple [.slice none 0 0, .int .i64 (factsF v).1].toArray); rw [hst], hS.chg, none_ok _, fun b h => h.elim⟩)
   refine cR ?_
   refine Rn hS (.c (e_bin rfl rfl rfl) <| .a rfl .n) ?_; clear hS a; intro a hS
   refine nL (nT ?_)
   (first | refine c_ifD hS rfl ?_ ?_ | refine c_if hS rfl ?_ ?_) <;> intro hc53
   ·
    refine cR ?_
    refine Rn hS (.m rfl <| .m rfl .n) ?_; clear hS a; intro a hS
    (first | refine L_e hS (e_fa0 rfl ty_fo37_0) rfl ?_ | refine L_e hS (e_faK rfl ty_fo37_0) rfl ?_); clear hS a; intro a hS
    refine Rn hS (.c (e_load rfl (by repeat constructor) ty_sc3 (by rfl)) <| .c (e_bin rfl rfl rfl) .n) ?_; clear hS a; intro a hS
    refine L_op (s_callP hS (.cons rfl (.cons rfl .nil)) cf159 rfl (vmBool_P (tx nm) (decide ((y.k : Int) = 2)) _) ?_); clear hS a; intro a w hS
    have hf : factF nm y = (0, ⟨nm, 2, if decide ((y.k : Int) = 2) = true then 1 else 0, []⟩) := by
     unfold factF
     rw [if_neg (by omega), if_neg (by omega), if_pos (by omega)]
     by_cases h2 : y.k = 2
     · rw [if_pos h2, if_pos (decide_eq_true (by omega))]
     · rw [if_neg h2, if_neg (by rw [decide_eq_false (by omega)]; decide)]
    rw [if_neg (by rw [hf]; exact fun h => h rfl)] at hst
    refine L_op (s_bslice hS ty_sl22 ty_sz160 ty_z160 rfl rfl rfl rfl (.agg rfl rfl .nil) rfl ?_); clear hS a; intro a w b62 hS
    refine L_op (s_append1 hS rfl rfl ty_sl22 ty_sz160 ty_by160 ty_z160 rfl rfl rfl (by repeat constructor) (by repeat constructor) (by rfl) (by rfl) (fun _ => (by repeat constructor)) (by omega) ?_); clear hS a; intro v63 a w hv63 hS
    obtain ⟨s2, rfl⟩ : ∃ s2, s2 = v63 := ⟨_, rfl⟩
    rw [show acc.flatMap encF ++ ([.string (tx nm), .int .i64 2, .int .i64 (if decide ((y.k : Int) = 2) = true then 1 else 0), .string ⟨#[]⟩] ++ []) = (acc ++ [(factF nm y).2]).flatMap encF from by rw [List.flatMap_append, hf]; simp [encF, tx]] at hS
    refine L_e hS (e_assign rfl) rfl ?_; clear hS a; intro a hS
    refine nL (n_block (n_block (nT (cR ?_))))
    (first | refine L_e hS (e_binN rfl rfl rfl (by omega)) rfl ?_ | refine L_e hS (e_bin rfl rfl rfl) rfl ?_); clear hS a; intro a hS
    refine L_e hS (e_move rfl) rfl ?_; clear hS a; intro a hS
    refine nL ?_
    refine ⟨(acc ++ [(factF nm y).2], s2), by show (sortL v.ns).length - (acc ++ [_]).length < (sortL v.ns).length - acc.length; rw [List.length_append, List.length_singleton]; omega, ?_, by show (acc ++ [_]).length ≤ (sortL v.ns).length; rw [List.length_append, List.length_singleton]; omega, by show factsL v ((sortL v.ns).drop (acc ++ [_]).length) (acc ++ [_]) = _; rw [List.length_append, List.length_singleton]; exact hst.symm⟩
    show St _ _ _ _ _ [(16, .int .i64 ((acc ++ [(factF nm y).2]).length : Int)), _, _, _, _] [ownA _ _ _ (acc ++ [(factF nm y).2]).length _, _, _, _]
    rw [List.length_append, List.length_singleton]
    exact (hS.slots (by repeat (first | exact trivial | refine ⟨rfl, ?_⟩))).pick (by repeat (first | exact Pick.nil | (refine Pick.cons (by repeat (first | exact Rem.head | apply Rem.tail)) ?_)))
   refine cS (cR ?_)
   refine Rn hS (.a rfl <| .a rfl .n) ?_; clear hS a; intro a hS
   refine nL (nT (wp_ret ?_))
   refine r_block (r_block (r_then (r_then (r_block (r_then ?_)))))
   refine c_retN hS Tryz.results114 (.cons (.tmp rfl) (.cons (.tmp rfl) .nil)) rfl ?_
   first
    | (exfalso; omega)
    | (have hf : factF nm y = (13, ⟨[], 0, 0, []⟩) := by unfold factF; rw [if_neg (by omega), if_neg (by omega), if_neg (by omega)]
       rw [hf, if_pos (by decide)] at hst
       exact ⟨.inr ⟨(), by rw [hst]; decide⟩, by show _ = Ending.returned (Value.tuple [.slice none 0 0, .int .i64 (factsF v).1].toArray); rw [hst], hS.chg, none_ok _, fun b h => h.elim⟩)
  have hk2 : acc.length = (sortL v.ns).length := by omega
  rw [hk2, List.drop_length] at hgo
  have hgo' : factsF v = (0, acc) := hgo.symm
  refine wp_exit ?_
  refine x_then (x_then (x_hit ?_))
  refine nT (cS (cR ?_))
  refine Rn hS (.m rfl <| .a rfl <| .a rfl .n) ?_; clear hS a; intro a hS
  refine nL (nT (wp_ret ?_))
  refine c_retN hS Tryz.results114 (.cons (.tmp rfl) (.cons (.tmp rfl) .nil)) rfl ?_
  exact ⟨.inl ⟨sv, by rw [hgo']⟩, rfl, hS.chg, by show (ownA _ _ sv (factsF v).2.length ((factsF v).2.flatMap encF)).ok w; rw [hgo']; exact hS.ok (ownA 160 4 sv acc.length (acc.flatMap encF)) (by repeat constructor), fun b hb => (hS.mine (ownA 160 4 sv acc.length (acc.flatMap encF)) (by repeat constructor) rfl b hb).resolve_right (fun h => h)⟩
section
variable {P : Program} {n : NN} {a : Act} {L : List (Nat × Value)} {Γ : List Asn} {dst : Option Nat} {ty : Nat} {pos : String} {af : Array Edge} {g : Option (Nat × Bool)}
def fnT (P : Program) (t : TypeId) : Bool := match P.underlying t with | some (.func _ _ _) => true | _ => false
theorem fnT_eq {t : TypeId} (h : fnT P t = true) : ∃ x y z, P.underlying t = some (.func x y z) := by
 unfold fnT at h; cases hi : P.underlying t with
 | none => simp [hi] at h
 | some D => cases D <;> simp_all
theorem e_fnNe {t t' : TypeId} {x : Operand} {v : Value} {c : Bool} (hx : ev L x = some v) (hu : fnT P t = true) (hv : (v = .nilFunc ∧ c = false) ∨ ((∃ f b d, v = .func f b d) ∧ c = true)) : Ex P n a L Γ ⟨dst, .binOp .neq t x (.const .nilFunc) t', ty, pos, af, g⟩ (.bool c) := fun hs w hh => by
 obtain ⟨p1, p2, p3, hp⟩ := fnT_eq hu
 have he : a.eval (.const .nilFunc) = .nilFunc := rfl
 rcases hv with ⟨rfl, rfl⟩ | ⟨⟨f, b, d, rfl⟩, rfl⟩
 · have h : ∀ d : Nat, (Op.equalIn (d + 1) t .nilFunc .nilFunc).run P w = .ok true w := fun d => by simp [Op.equalIn, run_underlying hp]
   have h2 : (binOp .neq t .nilFunc .nilFunc).run P w = .ok (.bool false) w := by
    simp only [binOp]
    simp [Op.equal, Op.maxDepth, h 9999]
   simp [execOp, hs.ev hx, he, eqGuard, h2]
 · have h : ∀ k : Nat, (Op.equalIn (k + 1) t (.func f b d) .nilFunc).run P w = .ok false w := fun k => by simp [Op.equalIn, run_underlying hp]
   have h2 : (binOp .neq t (.func f b d) .nilFunc).run P w = .ok (.bool true) w := by
    simp only [binOp]
    simp [Op.equal, Op.maxDepth, h 9999]
   simp [execOp, hs.ev hx, he, eqGuard, h2]
end
theorem upd_set {cs : List Value} {k : Nat} (v : Value) (h : k < cs.length) : Upd cs k v (cs.set k v) := by
 induction cs generalizing k with
 | nil => exact absurd h (Nat.not_lt_zero _)
 | cons x l ih =>
   cases k with
   | zero => exact .z
   | succ k => exact .s (ih (by simpa using h))
theorem upd_putT (c : Cd) (fv : Value) {i : Nat} (x : List UInt8) (h : 1 ≤ i ∧ i ≤ 6) : Upd (cellsC c fv) i (.string (tx x)) (cellsC (c.putT i x) fv) := by
 rw [← cells_putT c fv x h]; exact upd_set _ (by show i < 15; omega)
theorem upd_putN (c : Cd) (fv : Value) {i : Nat} (x : Int) (h : 7 ≤ i ∧ i ≤ 13) : Upd (cellsC c fv) i (.int .i64 x) (cellsC (c.putN i x) fv) := by
 rw [← cells_putN c fv x h]; exact upd_set _ (by show i < 15; omega)
structure PlaceF (g off : Nat) : Prop where
 c : CallsTo Tryz.prog g
 p : ∀ (b : Nat) (w0 : World), PureC Tryz.prog g [.pointer (some ⟨b, 0, none⟩)] w0 (.pointer (some ⟨b, off, none⟩))
structure Fg where
 f : Fd
 g : Nat
def fgV (x : Fg) : List Value := [.string (tx x.f.nm), if x.f.kd = 0 then .func (.func x.g) #[] #[] else .nilFunc, if x.f.kd = 1 then .func (.func x.g) #[] #[] else .nilFunc]
structure Fg.ok (x : Fg) : Prop where
 fd : x.f.ok
 p : x.f.kd ≠ 2 → PlaceF x.g x.f.off
set_option maxRecDepth 100000 in
theorem place_Set : PlaceF 71 2 := ⟨cf71, fun b w0 => by
  refine c_enter [(0, .pointer (some ⟨b, 0, none⟩))] [] noB Tryz.func71 rfl Tryz.ntmps71 ⟨rfl, trivial⟩ rfl (by simp) (by simp) (by simp) ?_
  intro a hS
  refine cS (cR ?_)
  refine L_e hS (e_assign rfl) rfl ?_; clear hS a; intro a hS
  refine nL (nT (cS (cR ?_)))
  refine L_e hS (e_move rfl) rfl ?_; clear hS a; intro a hS
  refine L_e hS (e_nilCheck rfl) rfl ?_; clear hS a; intro a hS
  (first | refine L_e hS (e_fa0 rfl ty_fo24_2) rfl ?_ | refine L_e hS (e_faK rfl ty_fo24_2) rfl ?_); clear hS a; intro a hS
  refine L_e hS (e_assign rfl) rfl ?_; clear hS a; intro a hS
  refine nL (nT (wp_ret ?_))
  refine c_ret1 hS Tryz.results71 (.tmp rfl) ?_
  exact ⟨rfl, hS.chg⟩
  ⟩
set_option maxRecDepth 100000 in
theorem place_Name : PlaceF 72 1 := ⟨cf72, fun b w0 => by
  refine c_enter [(0, .pointer (some ⟨b, 0, none⟩))] [] noB Tryz.func72 rfl Tryz.ntmps72 ⟨rfl, trivial⟩ rfl (by simp) (by simp) (by simp) ?_
  intro a hS
  refine cS (cR ?_)
  refine L_e hS (e_assign rfl) rfl ?_; clear hS a; intro a hS
  refine nL (nT (cS (cR ?_)))
  refine L_e hS (e_move rfl) rfl ?_; clear hS a; intro a hS
  refine L_e hS (e_nilCheck rfl) rfl ?_; clear hS a; intro a hS
  (first | refine L_e hS (e_fa0 rfl ty_fo24_1) rfl ?_ | refine L_e hS (e_faK rfl ty_fo24_1) rfl ?_); clear hS a; intro a hS
  refine L_e hS (e_assign rfl) rfl ?_; clear hS a; intro a hS
  refine nL (nT (wp_ret ?_))
  refine c_ret1 hS Tryz.results72 (.tmp rfl) ?_
  exact ⟨rfl, hS.chg⟩
  ⟩
set_option maxRecDepth 100000 in
theorem place_Cur : PlaceF 73 3 := ⟨cf73, fun b w0 => by
  refine c_enter [(0, .pointer (some ⟨b, 0, none⟩))] [] noB Tryz.func73 rfl Tryz.ntmps73 ⟨rfl, trivial⟩ rfl (by simp) (by simp) (by simp) ?_
  intro a hS
  refine cS (cR ?_)
  refine L_e hS (e_assign rfl) rfl ?_; clear hS a; intro a hS
  refine nL (nT (cS (cR ?_)))
  refine L_e hS (e_move rfl) rfl ?_; clear hS a; intro a hS
  refine L_e hS (e_nilCheck rfl) rfl ?_; clear hS a; intro a hS
  (first | refine L_e hS (e_fa0 rfl ty_fo24_3) rfl ?_ | refine L_e hS (e_faK rfl ty_fo24_3) rfl ?_); clear hS a; intro a hS
  refine L_e hS (e_assign rfl) rfl ?_; clear hS a; intro a hS
  refine nL (nT (wp_ret ?_))
  refine c_ret1 hS Tryz.results73 (.tmp rfl) ?_
  exact ⟨rfl, hS.chg⟩
  ⟩
set_option maxRecDepth 100000 in
theorem place_Key : PlaceF 74 4 := ⟨cf74, fun b w0 => by
  refine c_enter [(0, .pointer (some ⟨b, 0, none⟩))] [] noB Tryz.func74 rfl Tryz.ntmps74 ⟨rfl, trivial⟩ rfl (by simp) (by simp) (by simp) ?_
  intro a hS
  refine cS (cR ?_)
  refine L_e hS (e_assign rfl) rfl ?_; clear hS a; intro a hS
  refine nL (nT (cS (cR ?_)))
  refine L_e hS (e_move rfl) rfl ?_; clear hS a; intro a hS
  refine L_e hS (e_nilCheck rfl) rfl ?_; clear hS a; intro a hS
  (first | refine L_e hS (e_fa0 rfl ty_fo24_4) rfl ?_ | refine L_e hS (e_faK rfl ty_fo24_4) rfl ?_); clear hS a; intro a hS
  refine L_e hS (e_assign rfl) rfl ?_; clear hS a; intro a hS
  refine nL (nT (wp_ret ?_))
  refine c_ret1 hS Tryz.results74 (.tmp rfl) ?_
  exact ⟨rfl, hS.chg⟩
  ⟩
set_option maxRecDepth 100000 in
theorem place_Meter : PlaceF 75 5 := ⟨cf75, fun b w0 => by
  refine c_enter [(0, .pointer (some ⟨b, 0, none⟩))] [] noB Tryz.func75 rfl Tryz.ntmps75 ⟨rfl, trivial⟩ rfl (by simp) (by simp) (by simp) ?_
  intro a hS
  refine cS (cR ?_)
  refine L_e hS (e_assign rfl) rfl ?_; clear hS a; intro a hS
  refine nL (nT (cS (cR ?_)))
  refine L_e hS (e_move rfl) rfl ?_; clear hS a; intro a hS
  refine L_e hS (e_nilCheck rfl) rfl ?_; clear hS a; intro a hS
  (first | refine L_e hS (e_fa0 rfl ty_fo24_5) rfl ?_ | refine L_e hS (e_faK rfl ty_fo24_5) rfl ?_); clear hS a; intro a hS
  refine L_e hS (e_assign rfl) rfl ?_; clear hS a; intro a hS
  refine nL (nT (wp_ret ?_))
  refine c_ret1 hS Tryz.results75 (.tmp rfl) ?_
  exact ⟨rfl, hS.chg⟩
  ⟩
set_option maxRecDepth 100000 in
theorem place_Text : PlaceF 77 6 := ⟨cf77, fun b w0 => by
  refine c_enter [(0, .pointer (some ⟨b, 0, none⟩))] [] noB Tryz.func77 rfl Tryz.ntmps77 ⟨rfl, trivial⟩ rfl (by simp) (by simp) (by simp) ?_
  intro a hS
  refine cS (cR ?_)
  refine L_e hS (e_assign rfl) rfl ?_; clear hS a; intro a hS
  refine nL (nT (cS (cR ?_)))
  refine L_e hS (e_move rfl) rfl ?_; clear hS a; intro a hS
  refine L_e hS (e_nilCheck rfl) rfl ?_; clear hS a; intro a hS
  (first | refine L_e hS (e_fa0 rfl ty_fo24_6) rfl ?_ | refine L_e hS (e_faK rfl ty_fo24_6) rfl ?_); clear hS a; intro a hS
  refine L_e hS (e_assign rfl) rfl ?_; clear hS a; intro a hS
  refine nL (nT (wp_ret ?_))
  refine c_ret1 hS Tryz.results77 (.tmp rfl) ?_
  exact ⟨rfl, hS.chg⟩
  ⟩
set_option maxRecDepth 100000 in
theorem place_At : PlaceF 78 8 := ⟨cf78, fun b w0 => by
  refine c_enter [(0, .pointer (some ⟨b, 0, none⟩))] [] noB Tryz.func78 rfl Tryz.ntmps78 ⟨rfl, trivial⟩ rfl (by simp) (by simp) (by simp) ?_
  intro a hS
  refine cS (cR ?_)
  refine L_e hS (e_assign rfl) rfl ?_; clear hS a; intro a hS
  refine nL (nT (cS (cR ?_)))
  refine L_e hS (e_move rfl) rfl ?_; clear hS a; intro a hS
  refine L_e hS (e_nilCheck rfl) rfl ?_; clear hS a; intro a hS
  (first | refine L_e hS (e_fa0 rfl ty_fo24_8) rfl ?_ | refine L_e hS (e_faK rfl ty_fo24_8) rfl ?_); clear hS a; intro a hS
  refine L_e hS (e_assign rfl) rfl ?_; clear hS a; intro a hS
  refine nL (nT (wp_ret ?_))
  refine c_ret1 hS Tryz.results78 (.tmp rfl) ?_
  exact ⟨rfl, hS.chg⟩
  ⟩
set_option maxRecDepth 100000 in
theorem place_From : PlaceF 79 9 := ⟨cf79, fun b w0 => by
  refine c_enter [(0, .pointer (some ⟨b, 0, none⟩))] [] noB Tryz.func79 rfl Tryz.ntmps79 ⟨rfl, trivial⟩ rfl (by simp) (by simp) (by simp) ?_
  intro a hS
  refine cS (cR ?_)
  refine L_e hS (e_assign rfl) rfl ?_; clear hS a; intro a hS
  refine nL (nT (cS (cR ?_)))
  refine L_e hS (e_move rfl) rfl ?_; clear hS a; intro a hS
  refine L_e hS (e_nilCheck rfl) rfl ?_; clear hS a; intro a hS
  (first | refine L_e hS (e_fa0 rfl ty_fo24_9) rfl ?_ | refine L_e hS (e_faK rfl ty_fo24_9) rfl ?_); clear hS a; intro a hS
  refine L_e hS (e_assign rfl) rfl ?_; clear hS a; intro a hS
  refine nL (nT (wp_ret ?_))
  refine c_ret1 hS Tryz.results79 (.tmp rfl) ?_
  exact ⟨rfl, hS.chg⟩
  ⟩
set_option maxRecDepth 100000 in
theorem place_To : PlaceF 80 10 := ⟨cf80, fun b w0 => by
  refine c_enter [(0, .pointer (some ⟨b, 0, none⟩))] [] noB Tryz.func80 rfl Tryz.ntmps80 ⟨rfl, trivial⟩ rfl (by simp) (by simp) (by simp) ?_
  intro a hS
  refine cS (cR ?_)
  refine L_e hS (e_assign rfl) rfl ?_; clear hS a; intro a hS
  refine nL (nT (cS (cR ?_)))
  refine L_e hS (e_move rfl) rfl ?_; clear hS a; intro a hS
  refine L_e hS (e_nilCheck rfl) rfl ?_; clear hS a; intro a hS
  (first | refine L_e hS (e_fa0 rfl ty_fo24_10) rfl ?_ | refine L_e hS (e_faK rfl ty_fo24_10) rfl ?_); clear hS a; intro a hS
  refine L_e hS (e_assign rfl) rfl ?_; clear hS a; intro a hS
  refine nL (nT (wp_ret ?_))
  refine c_ret1 hS Tryz.results80 (.tmp rfl) ?_
  exact ⟨rfl, hS.chg⟩
  ⟩
set_option maxRecDepth 100000 in
theorem place_Qty : PlaceF 81 7 := ⟨cf81, fun b w0 => by
  refine c_enter [(0, .pointer (some ⟨b, 0, none⟩))] [] noB Tryz.func81 rfl Tryz.ntmps81 ⟨rfl, trivial⟩ rfl (by simp) (by simp) (by simp) ?_
  intro a hS
  refine cS (cR ?_)
  refine L_e hS (e_assign rfl) rfl ?_; clear hS a; intro a hS
  refine nL (nT (cS (cR ?_)))
  refine L_e hS (e_move rfl) rfl ?_; clear hS a; intro a hS
  refine L_e hS (e_nilCheck rfl) rfl ?_; clear hS a; intro a hS
  (first | refine L_e hS (e_fa0 rfl ty_fo24_7) rfl ?_ | refine L_e hS (e_faK rfl ty_fo24_7) rfl ?_); clear hS a; intro a hS
  refine L_e hS (e_assign rfl) rfl ?_; clear hS a; intro a hS
  refine nL (nT (wp_ret ?_))
  refine c_ret1 hS Tryz.results81 (.tmp rfl) ?_
  exact ⟨rfl, hS.chg⟩
  ⟩
set_option maxRecDepth 100000 in
theorem place_Number : PlaceF 82 11 := ⟨cf82, fun b w0 => by
  refine c_enter [(0, .pointer (some ⟨b, 0, none⟩))] [] noB Tryz.func82 rfl Tryz.ntmps82 ⟨rfl, trivial⟩ rfl (by simp) (by simp) (by simp) ?_
  intro a hS
  refine cS (cR ?_)
  refine L_e hS (e_assign rfl) rfl ?_; clear hS a; intro a hS
  refine nL (nT (cS (cR ?_)))
  refine L_e hS (e_move rfl) rfl ?_; clear hS a; intro a hS
  refine L_e hS (e_nilCheck rfl) rfl ?_; clear hS a; intro a hS
  (first | refine L_e hS (e_fa0 rfl ty_fo24_11) rfl ?_ | refine L_e hS (e_faK rfl ty_fo24_11) rfl ?_); clear hS a; intro a hS
  refine L_e hS (e_assign rfl) rfl ?_; clear hS a; intro a hS
  refine nL (nT (wp_ret ?_))
  refine c_ret1 hS Tryz.results82 (.tmp rfl) ?_
  exact ⟨rfl, hS.chg⟩
  ⟩
set_option maxRecDepth 100000 in
theorem place_Units : PlaceF 83 12 := ⟨cf83, fun b w0 => by
  refine c_enter [(0, .pointer (some ⟨b, 0, none⟩))] [] noB Tryz.func83 rfl Tryz.ntmps83 ⟨rfl, trivial⟩ rfl (by simp) (by simp) (by simp) ?_
  intro a hS
  refine cS (cR ?_)
  refine L_e hS (e_assign rfl) rfl ?_; clear hS a; intro a hS
  refine nL (nT (cS (cR ?_)))
  refine L_e hS (e_move rfl) rfl ?_; clear hS a; intro a hS
  refine L_e hS (e_nilCheck rfl) rfl ?_; clear hS a; intro a hS
  (first | refine L_e hS (e_fa0 rfl ty_fo24_12) rfl ?_ | refine L_e hS (e_faK rfl ty_fo24_12) rfl ?_); clear hS a; intro a hS
  refine L_e hS (e_assign rfl) rfl ?_; clear hS a; intro a hS
  refine nL (nT (wp_ret ?_))
  refine c_ret1 hS Tryz.results83 (.tmp rfl) ?_
  exact ⟨rfl, hS.chg⟩
  ⟩
set_option maxRecDepth 100000 in
theorem place_Nano : PlaceF 84 13 := ⟨cf84, fun b w0 => by
  refine c_enter [(0, .pointer (some ⟨b, 0, none⟩))] [] noB Tryz.func84 rfl Tryz.ntmps84 ⟨rfl, trivial⟩ rfl (by simp) (by simp) (by simp) ?_
  intro a hS
  refine cS (cR ?_)
  refine L_e hS (e_assign rfl) rfl ?_; clear hS a; intro a hS
  refine nL (nT (cS (cR ?_)))
  refine L_e hS (e_move rfl) rfl ?_; clear hS a; intro a hS
  refine L_e hS (e_nilCheck rfl) rfl ?_; clear hS a; intro a hS
  (first | refine L_e hS (e_fa0 rfl ty_fo24_13) rfl ?_ | refine L_e hS (e_faK rfl ty_fo24_13) rfl ?_); clear hS a; intro a hS
  refine L_e hS (e_assign rfl) rfl ?_; clear hS a; intro a hS
  refine nL (nT (wp_ret ?_))
  refine c_ret1 hS Tryz.results84 (.tmp rfl) ?_
  exact ⟨rfl, hS.chg⟩
  ⟩
end Go.Proofs.YtlccmgeclhdegaaGreatDoor
namespace Go.Proofs.YtlccmgeclhdegaaGreatDoor
open Go.RowKit
set_option maxRecDepth 100000 in
theorem fRead0_M (g off : Nat) (hp : PlaceF g off) (ho : 1 ≤ off ∧ off ≤ 6) (nm : List UInt8) (c : Cd) (fv : Value) (y : JV) (a1 a4 : Option Addr) (a2 a3 a5 a6 : Nat) (cb : Nat) (w0 : World) (h : (Asn.blk cb (cellsC c fv) 24).ok w0) :
 MutC Tryz.prog 113 [.agg [.string (tx nm), .func (.func g) #[] #[], .nilFunc].toArray, .pointer (some ⟨cb, 0, none⟩), .agg [.int .i64 (y.k : Int), .string (tx y.t), .slice a1 a2 a3, .slice a4 a5 a6].toArray] w0 (.blk cb (cellsC c fv) 24) (fun _ : Unit => .int .i64 (if y.k = 4 then 0 else 13)) (fun _ => .blk cb (cellsC (if y.k = 4 then c.putT off y.t else c) fv) 24) := by
 refine c_enter [(0, .agg [.string (tx nm), .func (.func g) #[] #[], .nilFunc].toArray), (1, .pointer (some ⟨cb, 0, none⟩)), (2, .agg [.int .i64 (y.k : Int), .string (tx y.t), .slice a1 a2 a3, .slice a4 a5 a6].toArray)] [.blk cb (cellsC c fv) 24] (fun k => k = cb) Tryz.func113 rfl Tryz.ntmps113 ⟨rfl, rfl, rfl, trivial⟩ rfl (okC h okN) dis1 (mineO (fun _ hb => hb) mineN) ?_
 intro a hS
 refine cS (cR ?_)
 refine L_op (s_boxA hS rfl rfl ?_); clear hS a; intro a w b3 hS
 refine L_op (s_boxA hS rfl rfl ?_); clear hS a; intro a w b5 hS
 refine L_e hS (e_assign rfl) rfl ?_; clear hS a; intro a hS
 refine nL (nT (cS (wB (cS (cR ?_)))))
 (first | refine L_e hS (e_fa0 rfl ty_fo88_1) rfl ?_ | refine L_e hS (e_faK rfl ty_fo88_1) rfl ?_); clear hS a; intro a hS
 refine Rn hS (.c (e_load rfl (by repeat constructor) ty_sc85 (by rfl)) <| .c (e_fnNe (c := true) rfl (by kernel_rfl) (.inr ⟨⟨_, _, _, rfl⟩, rfl⟩)) <| .a rfl .n) ?_; clear hS a; intro a hS
 refine nL (nT ?_)
 replace hS := hS.is (t := 9) (c := true) rfl (rfl)
 refine c_if_t hS rfl ?_
 refine cS (cS (cR ?_))
 (first | refine L_e hS (e_fa0 rfl ty_fo37_0) rfl ?_ | refine L_e hS (e_faK rfl ty_fo37_0) rfl ?_); clear hS a; intro a hS
 refine Rn hS (.c (e_load rfl (by repeat constructor) ty_sc3 (by rfl)) <| .c (e_bin rfl rfl rfl) .n) ?_; clear hS a; intro a hS
 refine nL (nT ?_)
 (first | refine c_ifD hS rfl ?_ ?_ | refine c_if hS rfl ?_ ?_) <;> intro hc15
 ·
  refine cS (cR ?_)
  refine L_e hS (e_assign rfl) rfl ?_; clear hS a; intro a hS
  refine nL (nT (wp_ret ?_))
  refine r_then (r_block (r_then ?_))
  refine c_ret1 hS Tryz.results113 (.tmp rfl) ?_
  exact ⟨(), by rw [if_neg (by omega)], hS.chg, by rw [if_neg (by omega)]; exact hS.ok (.blk cb (cellsC c fv) 24) (by repeat constructor), fun k hk => .inl hk⟩
 refine wS (nT ?_)
 refine c_drawS [7] (by kernel_rfl) hS (sub_cons (X := .blk b3 [.string (tx nm), .func (.func g) #[] #[], .nilFunc] 88) (by repeat constructor) (sub_cons (X := .blk b5 [.int .i64 (y.k : Int), .string (tx y.t), .slice a1 a2 a3, .slice a4 a5 a6] 37) (by repeat constructor) sub_nil)) ?_; clear hS; intro w hS
 simp only [List.length_cons, List.length_nil, Nat.zero_add, Nat.reduceAdd, List.replicate]
 (first | refine Zt0 0 (tf 1 7) hS rfl want_none (e_fa0 rfl ty_fo88_1) rfl (by kernel_rfl) rfl ?_ | refine Zt0 0 (tf 1 7) hS rfl want_none (e_faK rfl ty_fo88_1) rfl (by kernel_rfl) rfl ?_); clear hS a; intro a hS
 refine Rz hS (sub_cons (by repeat constructor) (sub_cons (by repeat constructor) sub_nil)) (.y 1 (tf 2 6) rfl wN (e_load rfl (by repeat constructor) ty_sc85 (by rfl)) rfl <| .o 2 (tf 3 5) rfl wN (e_move rfl) rfl .n) ?_; clear hS a; intro a hS
 (first | refine Zt0 4 [true, true, true, false, true, false, false, false] hS rfl want_none (e_fa0 rfl ty_fo37_1) rfl (by kernel_rfl) rfl ?_ | refine Zt0 4 [true, true, true, false, true, false, false, false] hS rfl want_none (e_faK rfl ty_fo37_1) rfl (by kernel_rfl) rfl ?_); clear hS a; intro a hS
 refine Zt 5 [true, true, true, false, true, true, false, false] hS rfl want_none (e_load rfl (by repeat constructor) ty_sc9 (by rfl)) rfl (by kernel_rfl) (sub_cons (by repeat constructor) (sub_cons (by repeat constructor) sub_nil)) rfl ?_; clear hS a; intro a hS
 refine Zo 3 (tf 6 2) hS rfl wN rfl (s_callvP (cs := []) hS rfl (.cons rfl .nil) hp.c rfl (hp.p cb _) ?_); clear hS a; intro a w hS
 refine Z_and hS (sub_cons (by repeat constructor) (sub_cons (by repeat constructor) sub_nil)) ?_
 refine Zt0 6 (tf 7 1) hS rfl want_none (e_nilCheck rfl) rfl (by kernel_rfl) rfl ?_; clear hS a; intro a hS
 refine Zo 7 (tf 8 0) hS rfl wN rfl (s_store hS rfl rfl rfl ty_sz9 (by repeat constructor) (upd_putT c fv y.t ho) ?_); clear hS; intro w hS
 refine Z_last (by simp) ?_
 refine Z_done (by kernel_rfl) ?_
 refine n_block (nT (cS (cR ?_)))
 refine L_e hS (e_assign rfl) rfl ?_; clear hS a; intro a hS
 refine nL (nT (wp_ret ?_))
 refine c_ret1 hS Tryz.results113 (.tmp rfl) ?_
 exact ⟨(), by rw [if_pos (by omega)], hS.chg, by rw [if_pos (by omega)]; exact hS.ok (.blk cb (cellsC (c.putT off y.t) fv) 24) (by repeat constructor), fun k hk => .inl hk⟩
set_option maxRecDepth 100000 in
theorem fRead1_M (W0 : World) (hG : Gj W0) (g off : Nat) (hp : PlaceF g off) (ho : 7 ≤ off ∧ off ≤ 13) (nm : List UInt8) (c : Cd) (fv : Value) (y : JV) (a1 a4 : Option Addr) (a2 a3 a5 a6 : Nat) (hyt : y.t.length ≤ 10000000) (cb : Nat) (hcb : W0.heap.size ≤ cb) (w0 : World) (hold : oldφ W0 w0) (h : (Asn.blk cb (cellsC c fv) 24).ok w0) :
 MutC Tryz.prog 113 [.agg [.string (tx nm), .nilFunc, .func (.func g) #[] #[]].toArray, .pointer (some ⟨cb, 0, none⟩), .agg [.int .i64 (y.k : Int), .string (tx y.t), .slice a1 a2 a3, .slice a4 a5 a6].toArray] w0 (.blk cb (cellsC c fv) 24) (fun _ : Unit => .int .i64 (intOfF y).2) (fun _ => .blk cb (cellsC (if (intOfF y).2 = 0 then c.putN off (intOfF y).1 else c) fv) 24) := by
 refine c_enter [(0, .agg [.string (tx nm), .nilFunc, .func (.func g) #[] #[]].toArray), (1, .pointer (some ⟨cb, 0, none⟩)), (2, .agg [.int .i64 (y.k : Int), .string (tx y.t), .slice a1 a2 a3, .slice a4 a5 a6].toArray)] [.blk cb (cellsC c fv) 24, oldA W0] (fun k => k = cb) Tryz.func113 rfl Tryz.ntmps113 ⟨rfl, rfl, rfl, trivial⟩ rfl (okC h (okC (old_ok hold) okN)) (disC (sepC (fun k h1 h2 => by have h1 : k = cb := h1; have h2 : k < W0.heap.size := h2; omega) sepN) dis1) (mineO (fun _ hb => hb) (mineC rfl mineN)) ?_
 intro a hS
 refine cS (cR ?_)
 refine L_op (s_boxA hS rfl rfl ?_); clear hS a; intro a w b3 hS
 refine L_op (s_boxA hS rfl rfl ?_); clear hS a; intro a w b5 hS
 refine L_e hS (e_assign rfl) rfl ?_; clear hS a; intro a hS
 refine nL (nT (cS (wB (cS (cR ?_)))))
 (first | refine L_e hS (e_fa0 rfl ty_fo88_1) rfl ?_ | refine L_e hS (e_faK rfl ty_fo88_1) rfl ?_); clear hS a; intro a hS
 refine Rn hS (.c (e_load rfl (by repeat constructor) ty_sc85 (by rfl)) <| .c (e_fnNe (c := false) rfl (by kernel_rfl) (.inl ⟨rfl, rfl⟩)) <| .a rfl .n) ?_; clear hS a; intro a hS
 refine nL (nT ?_)
 replace hS := hS.is (t := 9) (c := false) rfl (rfl)
 refine c_if_f hS rfl ?_
 refine cS (cR ?_)
 (first | refine L_e hS (e_fa0 rfl ty_fo88_2) rfl ?_ | refine L_e hS (e_faK rfl ty_fo88_2) rfl ?_); clear hS a; intro a hS
 refine Rn hS (.c (e_load rfl (by repeat constructor) ty_sc86 (by rfl)) <| .c (e_fnNe (c := true) rfl (by kernel_rfl) (.inr ⟨⟨_, _, _, rfl⟩, rfl⟩)) <| .a rfl .n) ?_; clear hS a; intro a hS
 refine nL (nT ?_)
 replace hS := hS.is (t := 23) (c := true) rfl (rfl)
 refine c_if_t hS rfl ?_
 refine cS (cR ?_)
 refine L_e hS (e_loadA rfl (by repeat constructor) ty_st37 ty_sz37 (by rfl)) rfl ?_; clear hS a; intro a hS
 refine L_op (s_callP hS (.cons rfl .nil) cf156 rfl (fIntOf_P W0 hG y a1 a4 a2 a3 a5 a6 hyt _ (hS.gg (X := oldA W0))) ?_); clear hS a; intro a w hS
 refine Rn hS (.m rfl <| .c (e_extract rfl rfl) <| .c (e_extract rfl rfl) <| .a rfl <| .a rfl .n) ?_; clear hS a; intro a hS
 refine nL (nT (cS (cS (cR ?_))))
 refine Rn hS (.m rfl <| .c (e_bin rfl rfl rfl) .n) ?_; clear hS a; intro a hS
 refine nL (nT ?_)
 (first | refine c_ifD hS rfl ?_ ?_ | refine c_if hS rfl ?_ ?_) <;> intro hc33
 ·
  refine cS (cR ?_)
  refine Rn hS (.m rfl <| .a rfl .n) ?_; clear hS a; intro a hS
  refine nL (nT (wp_ret ?_))
  refine r_then (r_block (r_then ?_))
  refine c_ret1 hS Tryz.results113 (.tmp rfl) ?_
  exact ⟨(), rfl, hS.chg, by rw [if_neg hc33]; exact hS.ok (.blk cb (cellsC c fv) 24) (by repeat constructor), fun k hk => .inl hk⟩
 have hc : (intOfF y).2 = 0 := Classical.not_not.1 hc33
 refine wS (nT (cR ?_))
 (first | refine L_e hS (e_fa0 rfl ty_fo88_2) rfl ?_ | refine L_e hS (e_faK rfl ty_fo88_2) rfl ?_); clear hS a; intro a hS
 refine Rn hS (.c (e_load rfl (by repeat constructor) ty_sc86 (by rfl)) <| .m rfl .n) ?_; clear hS a; intro a hS
 refine L_op (s_callvP (cs := []) hS rfl (.cons rfl .nil) hp.c rfl (hp.p cb _) ?_); clear hS a; intro a w hS
 refine Rn hS (.m rfl <| .c (e_nilCheck rfl) .n) ?_; clear hS a; intro a hS
 refine L_op (s_store hS rfl rfl rfl ty_sz3 (by repeat constructor) (upd_putN c fv (intOfF y).1 ho) ?_); clear hS; intro w hS
 refine nL (n_block (nT (cS (cR ?_))))
 refine L_e hS (e_assign rfl) rfl ?_; clear hS a; intro a hS
 refine nL (nT (wp_ret ?_))
 refine c_ret1 hS Tryz.results113 (.tmp rfl) ?_
 exact ⟨(), by rw [hc], hS.chg, by rw [if_pos hc]; exact hS.ok (.blk cb (cellsC (c.putN off (intOfF y).1) fv) 24) (by repeat constructor), fun k hk => .inl hk⟩
set_option maxRecDepth 100000 in
theorem fRead2_M (nm : List UInt8) (c : Cd) (fv : Value) (y : JV) (a1 a4 : Option Addr) (a2 a3 a5 a6 : Nat) (cb : Nat) (w0 : World) (h : (Asn.blk cb (cellsC c fv) 24).ok w0) :
 MutC Tryz.prog 113 [.agg [.string (tx nm), .nilFunc, .nilFunc].toArray, .pointer (some ⟨cb, 0, none⟩), .agg [.int .i64 (y.k : Int), .string (tx y.t), .slice a1 a2 a3, .slice a4 a5 a6].toArray] w0 (.blk cb (cellsC c fv) 24) (fun _ : Unit => .int .i64 (if y.k = 6 then 0 else 13)) (fun _ => .blk cb (cellsC c fv) 24) := by
 refine c_enter [(0, .agg [.string (tx nm), .nilFunc, .nilFunc].toArray), (1, .pointer (some ⟨cb, 0, none⟩)), (2, .agg [.int .i64 (y.k : Int), .string (tx y.t), .slice a1 a2 a3, .slice a4 a5 a6].toArray)] [.blk cb (cellsC c fv) 24] (fun k => k = cb) Tryz.func113 rfl Tryz.ntmps113 ⟨rfl, rfl, rfl, trivial⟩ rfl (okC h okN) dis1 (mineO (fun _ hb => hb) mineN) ?_
 intro a hS
 refine cS (cR ?_)
 refine L_op (s_boxA hS rfl rfl ?_); clear hS a; intro a w b3 hS
 refine L_op (s_boxA hS rfl rfl ?_); clear hS a; intro a w b5 hS
 refine L_e hS (e_assign rfl) rfl ?_; clear hS a; intro a hS
 refine nL (nT (cS (wB (cS (cR ?_)))))
 (first | refine L_e hS (e_fa0 rfl ty_fo88_1) rfl ?_ | refine L_e hS (e_faK rfl ty_fo88_1) rfl ?_); clear hS a; intro a hS
 refine Rn hS (.c (e_load rfl (by repeat constructor) ty_sc85 (by rfl)) <| .c (e_fnNe (c := false) rfl (by kernel_rfl) (.inl ⟨rfl, rfl⟩)) <| .a rfl .n) ?_; clear hS a; intro a hS
 refine nL (nT ?_)
 replace hS := hS.is (t := 9) (c := false) rfl (rfl)
 refine c_if_f hS rfl ?_
 refine cS (cR ?_)
 (first | refine L_e hS (e_fa0 rfl ty_fo88_2) rfl ?_ | refine L_e hS (e_faK rfl ty_fo88_2) rfl ?_); clear hS a; intro a hS
 refine Rn hS (.c (e_load rfl (by repeat constructor) ty_sc86 (by rfl)) <| .c (e_fnNe (c := false) rfl (by kernel_rfl) (.inl ⟨rfl, rfl⟩)) <| .a rfl .n) ?_; clear hS a; intro a hS
 refine nL (nT ?_)
 replace hS := hS.is (t := 23) (c := false) rfl (rfl)
 refine c_if_f hS rfl ?_
 refine cS (cR ?_)
 (first | refine L_e hS (e_fa0 rfl ty_fo37_0) rfl ?_ | refine L_e hS (e_faK rfl ty_fo37_0) rfl ?_); clear hS a; intro a hS
 refine Rn hS (.c (e_load rfl (by repeat constructor) ty_sc3 (by rfl)) <| .c (e_bin rfl rfl rfl) <| .a rfl .n) ?_; clear hS a; intro a hS
 refine nL (nT ?_)
 (first | refine c_ifD hS rfl ?_ ?_ | refine c_if hS rfl ?_ ?_) <;> intro hc41
 ·
  refine cS (cR ?_)
  refine L_e hS (e_assign rfl) rfl ?_; clear hS a; intro a hS
  refine nL (nT (wp_ret ?_))
  refine r_block (r_then ?_)
  refine c_ret1 hS Tryz.results113 (.tmp rfl) ?_
  exact ⟨(), by rw [if_neg (by omega)], hS.chg, hS.ok (.blk cb (cellsC c fv) 24) (by repeat constructor), fun k hk => .inl hk⟩
 refine wS (n_block (nT (cS (cR ?_))))
 refine L_e hS (e_assign rfl) rfl ?_; clear hS a; intro a hS
 refine nL (nT (wp_ret ?_))
 refine c_ret1 hS Tryz.results113 (.tmp rfl) ?_
 exact ⟨(), by rw [if_pos (by omega)], hS.chg, hS.ok (.blk cb (cellsC c fv) 24) (by repeat constructor), fun k hk => .inl hk⟩
theorem fRead_M (W0 : World) (hG : Gj W0) (x : Fg) (hx : x.ok) (c : Cd) (fv : Value) (y : JV) (a1 a4 : Option Addr) (a2 a3 a5 a6 : Nat) (hyt : y.t.length ≤ 10000000) (cb : Nat) (hcb : W0.heap.size ≤ cb) (w0 : World) (hold : oldφ W0 w0) (h : (Asn.blk cb (cellsC c fv) 24).ok w0) :
 MutC Tryz.prog 113 [.agg (fgV x).toArray, .pointer (some ⟨cb, 0, none⟩), .agg [.int .i64 (y.k : Int), .string (tx y.t), .slice a1 a2 a3, .slice a4 a5 a6].toArray] w0 (.blk cb (cellsC c fv) 24) (fun _ : Unit => .int .i64 (rdE x.f y)) (fun _ => .blk cb (cellsC (if rdE x.f y = 0 then rdC x.f y c else c) fv) 24) := by
 rcases hx.fd.kd with hk | hk | hk
 · have e1 : fgV x = [.string (tx x.f.nm), .func (.func x.g) #[] #[], .nilFunc] := by unfold fgV; rw [if_pos hk, if_neg (by omega)]
   have e2 : rdE x.f y = if y.k = 4 then 0 else 13 := by unfold rdE; rw [if_pos hk]
   have e3 : rdC x.f y c = c.putT x.f.off y.t := by unfold rdC; rw [if_pos hk]
   rw [e1, e2, e3]
   have := fRead0_M x.g x.f.off (hx.p (by omega)) (hx.fd.t hk) x.f.nm c fv y a1 a4 a2 a3 a5 a6 cb w0 h
   by_cases h4 : y.k = 4
   · rw [if_pos h4] at this ⊢; rw [if_pos h4] at this; rw [if_pos rfl]; exact this
   · rw [if_neg h4] at this ⊢; rw [if_neg h4] at this; rw [if_neg (by decide)]; exact this
 · have e1 : fgV x = [.string (tx x.f.nm), .nilFunc, .func (.func x.g) #[] #[]] := by unfold fgV; rw [if_neg (by omega), if_pos hk]
   have e2 : rdE x.f y = (intOfF y).2 := by unfold rdE; rw [if_neg (by omega), if_pos hk]
   have e3 : rdC x.f y c = c.putN x.f.off (intOfF y).1 := by unfold rdC; rw [if_neg (by omega), if_pos hk]
   rw [e1, e2, e3]
   exact fRead1_M W0 hG x.g x.f.off (hx.p (by omega)) (hx.fd.n hk) x.f.nm c fv y a1 a4 a2 a3 a5 a6 hyt cb hcb w0 hold h
 · have e1 : fgV x = [.string (tx x.f.nm), .nilFunc, .nilFunc] := by unfold fgV; rw [if_neg (by omega), if_neg (by omega)]
   have e2 : rdE x.f y = if y.k = 6 then 0 else 13 := by unfold rdE; rw [if_neg (by omega), if_neg (by omega)]
   have e3 : rdC x.f y c = c := by unfold rdC; rw [if_neg (by omega), if_neg (by omega)]
   rw [e1, e2, e3, ite_self]
   exact fRead2_M x.f.nm c fv y a1 a4 a2 a3 a5 a6 cb w0 h
def factsN : List UInt8 := [102, 97, 99, 116, 115]
structure FdsAt (W0 : World) (fb fo : Nat) (fl : List Fg) : Prop where
 c : ∀ (i : Nat) (x : Fg), fl[i]? = some x → ∀ (j : Nat) (u : Value), (fgV x)[j]? = some u → W0.cell? ⟨fb, fo + i * 3 + j, none⟩ = some u
 ok : ∀ x ∈ fl, x.ok
 nm : ∀ x ∈ fl, x.f.nm = factsN ↔ x.f.kd = 2
 n : fl.length ≤ 1000
def fdsOf (fl : List Fg) : List Fd := fl.map Fg.f
theorem fg_three (x : Fg) : ∃ u1 u2, fgV x = [.string (tx x.f.nm), u1, u2] ∧ isOne u1 = true ∧ isOne u2 = true := by
 refine ⟨_, _, rfl, ?_, ?_⟩ <;> (split <;> rfl)
theorem bind_step {fl : List Fg} {k : Nat} {x : Fg} {v y : JV} {c : Cd} {fx : JV} (h : fl[k]? = some x) (hy : getF v x.f.nm = some y) : bindL (fdsOf (fl.drop k)) v c fx = if rdE x.f y ≠ 0 then (rdE x.f y, c, fx) else bindL (fdsOf (fl.drop (k + 1))) v (rdC x.f y c) (if x.f.kd = 2 then y else fx) := by
 unfold fdsOf
 rw [List.drop_eq_getElem_cons (List.getElem?_eq_some_iff.1 h).1, (List.getElem?_eq_some_iff.1 h).2, List.map_cons]
 conv => lhs; unfold bindL
 rw [hy]
theorem bind_lack {fl : List Fg} {k : Nat} {x : Fg} {v : JV} {c : Cd} {fx : JV} (h : fl[k]? = some x) (hy : getF v x.f.nm = none) : bindL (fdsOf (fl.drop k)) v c fx = (32, c, fx) := by
 unfold fdsOf
 rw [List.drop_eq_getElem_cons (List.getElem?_eq_some_iff.1 h).1, (List.getElem?_eq_some_iff.1 h).2, List.map_cons]
 conv => lhs; unfold bindL
 rw [hy]
theorem bindF_e {fs : List Fd} {kd : Int} {v : JV} (h : (bindL fs v (zCd kd) jz).1 ≠ 0) : (bindF fs kd v).1 = (bindL fs v (zCd kd) jz).1 := by unfold bindF; rw [if_pos h]
def BdR (fs : List Fd) (kd : Int) (v : JV) : Type := { _x : Value // (bindF fs kd v).1 = 0 } ⊕ { _u : Unit // (bindF fs kd v).1 ≠ 0 }
def bdV (fs : List Fd) (kd : Int) (v : JV) : BdR fs kd v → Value
 | .inl x => .tuple [.agg (cellsC (bindF fs kd v).2 x.1).toArray, .int .i64 0].toArray
 | .inr _ => .tuple [.agg (cellsC (zCd 0) (.slice none 0 0)).toArray, .int .i64 (bindF fs kd v).1].toArray
def bdY (fs : List Fd) (kd : Int) (v : JV) : BdR fs kd v → Asn
 | .inl x => ownA 160 4 x.1 (bindF fs kd v).2.fx.length ((bindF fs kd v).2.fx.flatMap encF)
 | .inr _ => none_
theorem fa_open {v : JV} (x : FaR v) {w : World} (h : (faY v x).ok w) : ∃ (q : Option Addr) (m c : Nat), faV v x = .tuple [.slice q m c, .int .i64 (factsF v).1].toArray ∧ (((factsF v).1 = 0 ∧ ∃ x', x = .inl x' ∧ x'.1 = .slice q m c) ∨ (factsF v).1 ≠ 0) := by
 rcases x with x | x
 · obtain ⟨xv, h0⟩ := x
   obtain ⟨q, c, e⟩ := own_slice (show w.ownsRow 0 _ 4 xv (factsF v).2.length _ from h.now)
   exact ⟨q, _, c, by show Value.tuple [xv, .int .i64 0].toArray = _; rw [h0, e], .inl ⟨h0, ⟨xv, h0⟩, rfl, e⟩⟩
 · exact ⟨none, 0, 0, rfl, .inr x.2⟩
theorem upd_facts (c : Cd) (fv fv' : Value) : Upd (cellsC c fv) 14 fv' (cellsC c fv') := .s (.s (.s (.s (.s (.s (.s (.s (.s (.s (.s (.s (.s (.s .z)))))))))))))
set_option maxHeartbeats 2000000 in
set_option maxRecDepth 100000 in
theorem fRouteBind_N (W0 : World) (hG : Gj W0) (n : Nat) (path : ByteArray) (kd : Int) (fb fo fc : Nat) (fl : List Fg) (hF : FdsAt W0 fb fo fl) (v : JV) (cs : List Value) (w0 : World) (hj : JAt (n + 2) v cs W0) (hsm : smV (n + 2) v) (hold : oldφ W0 w0) :
 NewC Tryz.prog 45 [.agg [.string path, .int .i64 kd, .slice (some ⟨fb, fo, none⟩) fl.length fc].toArray, .agg cs.toArray] w0 (bdV (fdsOf fl) kd v) (bdY (fdsOf fl) kd v) := by
 have hj0 := hj
 have hsm0 := hsm
 obtain ⟨na, nc, lv, hcs⟩ : ∃ na nc lv, cs = [.int .i64 (v.k : Int), .string (tx v.t), lv, .slice na v.ns.length nc] := by
  cases v with
  | mk kd t ns l =>
    obtain ⟨lv, nv, rows, rfl, hn1, hn2, hn3, hn4⟩ := hj
    obtain ⟨na, nc, rfl, hT⟩ := txs_of hn1
    exact ⟨na, nc, lv, rfl⟩
 obtain ⟨la, lm, lc, rfl⟩ : ∃ a m c, lv = .slice a m c := by
  obtain ⟨lv2, nv2, h1, h2, h3⟩ := hj0.four
  rw [hcs] at h3
  injection h3 with _ h3; injection h3 with _ h3; injection h3 with h3 _
  rw [h3]; exact h1
 subst hcs
 have hfn := hF.n
 refine c_enter [(0, .agg [.string path, .int .i64 kd, .slice (some ⟨fb, fo, none⟩) fl.length fc].toArray), (1, .agg [.int .i64 (v.k : Int), .string (tx v.t), .slice la lm lc, .slice na v.ns.length nc].toArray)] [oldA W0] noB Tryz.func45 rfl Tryz.ntmps45 ⟨rfl, rfl, trivial⟩ rfl (okC (old_ok hold) okN) dis1 (mineC rfl mineN) ?_
 intro a hS
 refine cS (cR ?_)
 refine L_op (s_boxA hS rfl rfl ?_); clear hS a; intro a w b2 hS
 refine L_op (s_boxA hS rfl rfl ?_); clear hS a; intro a w b3 hS
 refine L_op (s_alloc hS ty_z24 rfl ?_); clear hS a; intro a w b4 hS
 refine L_e hS (e_assign rfl) rfl ?_; clear hS a; intro a hS
 refine nL (nT (cS (cR ?_)))
 (first | refine L_e hS (e_fa0 rfl ty_fo83_1) rfl ?_ | refine L_e hS (e_faK rfl ty_fo83_1) rfl ?_); clear hS a; intro a hS
 refine Rn hS (.c (e_load rfl (by repeat constructor) ty_sc3 (by rfl)) <| .c (e_build ty_z24 ty_pl24 (.one rfl rfl rfl (by repeat constructor) .nil)) .n) ?_; clear hS a; intro a hS
 refine L_op (s_alloc hS ty_z24 rfl ?_); clear hS a; intro a w b6 hS
 refine L_op (s_storeA hS rfl rfl ty_sz24 (by repeat constructor) (by rfl) (by rfl) (by rfl) ?_); clear hS; intro w hS
 refine nL (nT (cS (cR ?_)))
 refine L_op (s_alloc hS ty_z37 rfl ?_); clear hS a; intro a w b7 hS
 refine nL (nT (cS (cS (cR ?_))))
 (first | refine L_e hS (e_fa0 rfl ty_fo83_2) rfl ?_ | refine L_e hS (e_faK rfl ty_fo83_2) rfl ?_); clear hS a; intro a hS
 refine Rn hS (.c (e_load rfl (by repeat constructor) ty_sc81 (by rfl)) <| .c (e_len rfl rfl ty_sl81) <| .m rfl .n) ?_; clear hS a; intro a hS
 refine nL (nT (wB ?_))
 skip
 refine c_loop (γ := Nat × Cd × JX) (fun G a w => St 67 noB w0 a w [(21, .int .i64 (G.1 : Int)), (20, .int .i64 (fl.length : Int)), (19, .slice (some ⟨fb, fo, none⟩) fl.length fc), (2, .pointer (some ⟨b2, 0, none⟩)), (3, .pointer (some ⟨b3, 0, none⟩)), (4, .pointer (some ⟨b4, 0, none⟩)), (6, .pointer (some ⟨b6, 0, none⟩)), (7, .pointer (some ⟨b7, 0, none⟩))] [.blk b7 G.2.2.cs 37, jxA (n + 1) G.2.2, .blk b6 (cellsC G.2.1 (.slice none 0 0)) 24, .blk b4 (cellsC (zCd 0) (.slice none 0 0)) 24, .blk b3 [.int .i64 (v.k : Int), .string (tx v.t), .slice la lm lc, .slice na v.ns.length nc] 37, .blk b2 [.string path, .int .i64 kd, .slice (some ⟨fb, fo, none⟩) fl.length fc] 83, oldA W0] ∧ G.1 ≤ fl.length ∧ bindL (fdsOf (fl.drop G.1)) v G.2.1 G.2.2.v = bindL (fdsOf fl) v (zCd kd) jz ∧ smV (n + 1) G.2.2.v) (fun G => fl.length - G.1) (0, zCd kd, ⟨jz, zeroJ, fun _ => False, rfl, rfl⟩) ⟨((hS.more (Y := jxA (n + 1) ⟨jz, zeroJ, fun _ => False, rfl, rfl⟩) (jx_leaf n 0 [] _) (fun b h => h)).slots (by repeat (first | exact trivial | refine ⟨rfl, ?_⟩))).pick (by repeat (first | exact Pick.nil | (refine Pick.cons (by repeat (first | exact Rem.head | apply Rem.tail)) ?_))), Nat.zero_le _, rfl, ⟨Nat.zero_le _, Nat.zero_le _, fun x h => (by cases h), Nat.zero_le _, fun x h => (by cases h)⟩⟩ ?_
 clear hS a; intro G a w hI
 obtain ⟨k, c, fx⟩ := G
 obtain ⟨hS, hk, hgo, hfs⟩ := hI
 simp only at hS hk hgo hfs
 obtain ⟨flv, fnv, ⟨d1, d2, d3, rfl⟩, ⟨d4, d5, d6, rfl⟩, hfc⟩ := JAt.four (hS.gg (X := jxA (n + 1) fx))
 rw [hfc] at hS
 refine cS (cR ?_)
 refine L_e hS (e_bin rfl rfl rfl) rfl ?_; clear hS a; intro a hS
 refine nL (nT (cS ?_))
 (first | refine c_ifD hS rfl ?_ ?_ | refine c_if hS rfl ?_ ?_) <;> intro hc22
 ·
  have hkn : k < fl.length := by omega
  obtain ⟨x, hx⟩ : ∃ x, fl[k]? = some x := ⟨_, List.getElem?_eq_getElem hkn⟩
  have hxm := List.mem_of_getElem? hx
  obtain ⟨u1, u2, hfg, o1, o2⟩ := fg_three x
  have hxc := hF.c k x hx
  rw [hfg] at hxc
  refine wS (nT (cS (wB (cS (cR ?_)))))
  refine Rn hS (.c (e_ixN rfl rfl ty_sl81 ty_sz88 (by omega)) <| .c (e_loadAC (l := [.string (tx x.f.nm), u1, u2]) rfl ty_st88 ty_sz88 (fun w hh j u hj => old_cell (hh (oldA W0) (by repeat constructor)) (hxc j u hj))) .n) ?_; clear hS a; intro a hS
  refine L_op (s_alloc hS ty_z88 rfl ?_); clear hS a; intro a w b9 hS
  refine L_op (s_storeB hS rfl rfl ty_sz88 (cs' := [.string (tx x.f.nm), u1, u2]) (by repeat constructor) rfl (.cons .z (.cons (.s .z) (.cons (.s (.s .z)) .nil))) (by have h1 : isOne (Value.string (tx x.f.nm)) = true := rfl; simp [o1, o2, h1]) ?_); clear hS; intro w hS
  refine nL (nT (cS (cR ?_)))
  refine L_e hS (e_loadA rfl (by repeat constructor) ty_st37 ty_sz37 (by rfl)) rfl ?_; clear hS a; intro a hS
  (first | refine L_e hS (e_fa0 rfl ty_fo88_0) rfl ?_ | refine L_e hS (e_faK rfl ty_fo88_0) rfl ?_); clear hS a; intro a hS
  refine L_e hS (e_load rfl (by repeat constructor) ty_sc9 (by rfl)) rfl ?_; clear hS a; intro a hS
  refine L_op (s_callN hS (.cons rfl (.cons rfl .nil)) cf112 rfl (jGet_N W0 (n + 1) v _ x.f.nm _ hj0 hsm0 (hS.gg (X := oldA W0))) ?_); clear hS a; intro x29 a w hS
  obtain ⟨y, a1, a2, a3, a4, a5, a6, bb, hgt, hy, hyt, hcase⟩ := gt_open (n := n + 1) x29 hsm0 (hS.ok (gtY (n + 1) v x.f.nm x29) (by repeat constructor))
  rw [hgt] at hS
  refine Rn hS (.m rfl <| .c (e_extract rfl rfl) <| .c (e_extract rfl rfl) .n) ?_; clear hS a; intro a hS
  refine L_op (s_alloc hS ty_z37 rfl ?_); clear hS a; intro a w b10 hS
  refine L_op (s_storeA hS rfl rfl ty_sz37 (by repeat constructor) (by rfl) (by rfl) (by rfl) ?_); clear hS; intro w hS
  refine L_e hS (e_assign rfl) rfl ?_; clear hS a; intro a hS
  refine nL (nT (cS (cS (cR ?_))))
  refine Rn hS (.m rfl <| .c (e_not rfl) .n) ?_; clear hS a; intro a hS
  refine nL (nT ?_)
  (first | refine c_ifD hS rfl ?_ ?_ | refine c_if hS rfl ?_ ?_) <;> intro hc33
  ·
   have hno : getF v x.f.nm = none := by
    rcases hcase with ⟨h1, _⟩ | ⟨_, h2⟩
    · rw [h1] at hc33; cases hc33
    · exact h2
   rw [bind_lack hx hno] at hgo
   refine cS (cR ?_)
   refine L_e hS (e_build ty_z24 ty_pl24 .nil) rfl ?_; clear hS a; intro a hS
   refine L_op (s_storeA hS rfl rfl ty_sz24 (by repeat constructor) (by rfl) (by rfl) (by rfl) ?_); clear hS; intro w hS
   refine L_e hS (e_assign rfl) rfl ?_; clear hS a; intro a hS
   refine nL (nT (wp_ret ?_))
   refine r_then (r_block (r_then (r_then (r_block (r_then ?_)))))
   refine c_retN hS Tryz.results45 (.cons (.cellA rfl (by repeat constructor) ty_st24 ty_sz24 (by rfl)) (.cons (.tmp rfl) .nil)) rfl ?_
   have he := bindF_e (fs := fdsOf fl) (kd := kd) (v := v) (by rw [← hgo]; exact (by decide : (32 : Int) ≠ 0))
   rw [← hgo] at he
   exact ⟨.inr ⟨(), by rw [he]; exact (by decide : (32 : Int) ≠ 0)⟩, by show _ = Ending.returned (Value.tuple [.agg (cellsC (zCd 0) (.slice none 0 0)).toArray, .int .i64 (bindF (fdsOf fl) kd v).1].toArray); rw [he]; rfl, hS.chg, none_ok _, fun b h => h.elim⟩
  obtain ⟨xj, rfl, hxv, hxcs⟩ : ∃ x' : { x' : JX // getF v x.f.nm = some x'.v }, x29 = .inl x' ∧ x'.1.v = y ∧ x'.1.cs = [.int .i64 (y.k : Int), .string (tx y.t), .slice a1 a2 a3, .slice a4 a5 a6] := by
   rcases hcase with ⟨_, h2⟩ | ⟨h1, _⟩
   · exact h2
   · rw [h1] at hc33; cases hc33
  rw [show gtY (n + 1) v x.f.nm (.inl xj) = jxA (n + 1) xj.1 from rfl] at hS
  have hgy : getF v x.f.nm = some y := by rw [← hxv]; exact xj.2
  rw [bind_step hx hgy] at hgo
  have hm6 : W0.heap.size ≤ b6 := Nat.not_lt.1 fun h => hS.sep (X := .blk b6 (cellsC c (.slice none 0 0)) 24) (Y := oldA W0) (by repeat constructor) (by repeat constructor) b6 rfl h
  refine wS (nT (cS (cS (cR ?_))))
  refine Rn hS (.c (e_loadA rfl (by repeat constructor) ty_st88 ty_sz88 (by rfl)) <| .c (e_loadA rfl (by repeat constructor) ty_st37 ty_sz37 (by rfl)) .n) ?_; clear hS a; intro a hS
  refine L_op (s_callM hS (.cons rfl (.cons rfl (.cons rfl .nil))) cf113 rfl ((by have := fRead_M W0 hG x (hF.ok x hxm) c (.slice none 0 0) y a1 a4 a2 a3 a5 a6 hyt b6 hm6 _ (hS.gg (X := oldA W0)) (hS.ok (.blk b6 (cellsC c (.slice none 0 0)) 24) (by repeat constructor)); rw [hfg] at this; exact this)) (fun x => (by repeat constructor)) rfl ?_); clear hS a; intro x37 a w hS
  refine L_e hS (e_assign rfl) rfl ?_; clear hS a; intro a hS
  refine nL (nT (cS (cR ?_)))
  refine Rn hS (.m rfl <| .c (e_bin rfl rfl rfl) .n) ?_; clear hS a; intro a hS
  refine nL (nT ?_)
  (first | refine c_ifD hS rfl ?_ ?_ | refine c_if hS rfl ?_ ?_) <;> intro hc39
  ·
   rw [if_pos hc39] at hgo
   refine cS (cR ?_)
   refine Rn hS (.c (e_build ty_z24 ty_pl24 .nil) <| .m rfl .n) ?_; clear hS a; intro a hS
   refine L_op (s_storeA hS rfl rfl ty_sz24 (by repeat constructor) (by rfl) (by rfl) (by rfl) ?_); clear hS; intro w hS
   refine L_e hS (e_assign rfl) rfl ?_; clear hS a; intro a hS
   refine nL (nT (wp_ret ?_))
   refine r_then (r_block (r_then (r_then (r_block (r_then ?_)))))
   refine c_retN hS Tryz.results45 (.cons (.cellA rfl (by repeat constructor) ty_st24 ty_sz24 (by rfl)) (.cons (.tmp rfl) .nil)) rfl ?_
   have he := bindF_e (fs := fdsOf fl) (kd := kd) (v := v) (by rw [← hgo]; exact hc39)
   rw [← hgo] at he
   exact ⟨.inr ⟨(), by rw [he]; exact hc39⟩, by show _ = Ending.returned (Value.tuple [.agg (cellsC (zCd 0) (.slice none 0 0)).toArray, .int .i64 (bindF (fdsOf fl) kd v).1].toArray); rw [he]; rfl, hS.chg, none_ok _, fun b h => h.elim⟩
  rw [if_neg hc39] at hgo
  rw [if_pos (Classical.not_not.1 hc39)] at hS
  refine wS (nT (cS (cR ?_)))
  (first | refine L_e hS (e_fa0 rfl ty_fo88_0) rfl ?_ | refine L_e hS (e_faK rfl ty_fo88_0) rfl ?_); clear hS a; intro a hS
  refine Rn hS (.c (e_load rfl (by repeat constructor) ty_sc9 (by rfl)) <| .c (e_binS rfl rfl rfl) .n) ?_; clear hS a; intro a hS
  refine nL (nT ?_)
  (first | refine c_ifD hS rfl ?_ ?_ | refine c_if hS rfl ?_ ?_) <;> intro hc44
  ·
   have hkd : x.f.kd = 2 := (hF.nm x hxm).1 (tx_inj' hc44)
   rw [if_pos hkd] at hgo
   refine cR ?_
   refine L_e hS (e_loadA rfl (by repeat constructor) ty_st37 ty_sz37 (by rfl)) rfl ?_; clear hS a; intro a hS
   refine L_op (s_storeA hS rfl rfl ty_sz37 (by repeat constructor) (by rfl) (by rfl) (by rfl) ?_); clear hS; intro w hS
   refine nL (n_block (nT (cR ?_)))
   (first | refine L_e hS (e_binN rfl rfl rfl (by omega)) rfl ?_ | refine L_e hS (e_bin rfl rfl rfl) rfl ?_); clear hS a; intro a hS
   refine L_e hS (e_move rfl) rfl ?_; clear hS a; intro a hS
   refine nL ?_
   first
    | exact ⟨(k + 1, rdC x.f y c, xj.1), by show fl.length - (k + 1) < fl.length - k; omega, by
        show St _ _ _ _ _ _ [.blk b7 xj.1.cs _, jxA (n + 1) xj.1, _, _, _, _, _]
        rw [hxcs]
        exact (hS.slots (by repeat (first | exact trivial | refine ⟨rfl, ?_⟩))).pick (by repeat (first | exact Pick.nil | (refine Pick.cons (by repeat (first | exact Rem.head | apply Rem.tail)) ?_))), hkn, by show bindL (fdsOf (fl.drop (k + 1))) v (rdC x.f y c) xj.1.v = _; rw [hxv]; exact hgo, by show smV (n + 1) xj.1.v; rw [hxv]; exact smV_kid hsm0 (getF_mem hgy).2⟩
    | exact ⟨(k + 1, rdC x.f y c, fx), by show fl.length - (k + 1) < fl.length - k; omega, by
        show St _ _ _ _ _ _ [.blk b7 fx.cs _, jxA (n + 1) fx, _, _, _, _, _]
        rw [hfc]
        exact (hS.slots (by repeat (first | exact trivial | refine ⟨rfl, ?_⟩))).pick (by repeat (first | exact Pick.nil | (refine Pick.cons (by repeat (first | exact Rem.head | apply Rem.tail)) ?_))), hkn, hgo, hfs⟩
  have hkd : ¬ x.f.kd = 2 := fun e => hc44 (by rw [(hF.nm x hxm).2 e]; rfl)
  rw [if_neg hkd] at hgo
  refine wS (n_block (nT (cR ?_)))
  (first | refine L_e hS (e_binN rfl rfl rfl (by omega)) rfl ?_ | refine L_e hS (e_bin rfl rfl rfl) rfl ?_); clear hS a; intro a hS
  refine L_e hS (e_move rfl) rfl ?_; clear hS a; intro a hS
  refine nL ?_
  first
   | exact ⟨(k + 1, rdC x.f y c, xj.1), by show fl.length - (k + 1) < fl.length - k; omega, by
       show St _ _ _ _ _ _ [.blk b7 xj.1.cs _, jxA (n + 1) xj.1, _, _, _, _, _]
       rw [hxcs]
       exact (hS.slots (by repeat (first | exact trivial | refine ⟨rfl, ?_⟩))).pick (by repeat (first | exact Pick.nil | (refine Pick.cons (by repeat (first | exact Rem.head | apply Rem.tail)) ?_))), hkn, by show bindL (fdsOf (fl.drop (k + 1))) v (rdC x.f y c) xj.1.v = _; rw [hxv]; exact hgo, by show smV (n + 1) xj.1.v; rw [hxv]; exact smV_kid hsm0 (getF_mem hgy).2⟩
   | exact ⟨(k + 1, rdC x.f y c, fx), by show fl.length - (k + 1) < fl.length - k; omega, by
       show St _ _ _ _ _ _ [.blk b7 fx.cs _, jxA (n + 1) fx, _, _, _, _, _]
       rw [hfc]
       exact (hS.slots (by repeat (first | exact trivial | refine ⟨rfl, ?_⟩))).pick (by repeat (first | exact Pick.nil | (refine Pick.cons (by repeat (first | exact Rem.head | apply Rem.tail)) ?_))), hkn, hgo, hfs⟩
 have hk2 : k = fl.length := by omega
 subst hk2
 rw [List.drop_length] at hgo
 have hgo' : bindL (fdsOf fl) v (zCd kd) jz = (0, c, fx.v) := hgo.symm
 have hfl : (fdsOf fl).length = fl.length := List.length_map ..
 have hno0 : ¬ (bindL (fdsOf fl) v (zCd kd) jz).1 ≠ 0 := by rw [hgo']; exact fun h => h rfl
 refine wp_exit ?_
 refine x_then (x_then (x_hit ?_))
 refine nT (cS (cS (cR ?_)))
 (first | refine L_e hS (e_fa0 rfl ty_fo37_3) rfl ?_ | refine L_e hS (e_faK rfl ty_fo37_3) rfl ?_); clear hS a; intro a hS
 refine Rn hS (.c (e_load rfl (by repeat constructor) ty_sc35 (by rfl)) <| .c (e_len rfl rfl ty_sl35) .n) ?_; clear hS a; intro a hS
 (first | refine L_e hS (e_fa0 rfl ty_fo83_2) rfl ?_ | refine L_e hS (e_faK rfl ty_fo83_2) rfl ?_); clear hS a; intro a hS
 refine Rn hS (.c (e_load rfl (by repeat constructor) ty_sc81 (by rfl)) <| .c (e_len rfl rfl ty_sl81) <| .c (e_bin rfl rfl rfl) .n) ?_; clear hS a; intro a hS
 refine nL (nT ?_)
 (first | refine c_ifD hS rfl ?_ ?_ | refine c_if hS rfl ?_ ?_) <;> intro hc53
 ·
  refine cS (cR ?_)
  refine L_e hS (e_build ty_z24 ty_pl24 .nil) rfl ?_; clear hS a; intro a hS
  refine L_op (s_storeA hS rfl rfl ty_sz24 (by repeat constructor) (by rfl) (by rfl) (by rfl) ?_); clear hS; intro w hS
  refine L_e hS (e_assign rfl) rfl ?_; clear hS a; intro a hS
  refine nL (nT (wp_ret (r_then ?_)))
  refine c_retN hS Tryz.results45 (.cons (.cellA rfl (by repeat constructor) ty_st24 ty_sz24 (by rfl)) (.cons (.tmp rfl) .nil)) rfl ?_
  have he : (bindF (fdsOf fl) kd v).1 = 32 := by unfold bindF; rw [if_neg hno0, if_pos (by omega)]
  exact ⟨.inr ⟨(), by rw [he]; decide⟩, by show _ = Ending.returned (Value.tuple [.agg (cellsC (zCd 0) (.slice none 0 0)).toArray, .int .i64 (bindF (fdsOf fl) kd v).1].toArray); rw [he]; rfl, hS.chg, none_ok _, fun b h => h.elim⟩
 refine wS (nT (cS (cR ?_)))
 refine L_e hS (e_loadA rfl (by repeat constructor) ty_st37 ty_sz37 (by rfl)) rfl ?_; clear hS a; intro a hS
 refine L_op (s_callN hS (.cons rfl .nil) cf114 rfl (fFactsOf_N w (hG.keep (hS.gg (X := oldA W0))) n fx.v _ w (by rw [← hfc]; exact hS.gg (X := jxA (n + 1) fx)) hfs (old_refl w)) ?_); clear hS a; intro x57 a w hS
 obtain ⟨fq, fm, fcc, hfa, hfc2⟩ := fa_open x57 (hS.ok (faY fx.v x57) (by repeat constructor))
 rw [hfa] at hS
 refine Rn hS (.m rfl <| .c (e_extract rfl rfl) <| .c (e_extract rfl rfl) <| .a rfl <| .a rfl .n) ?_; clear hS a; intro a hS
 refine nL (nT (cS (cS (cR ?_))))
 refine Rn hS (.m rfl <| .c (e_bin rfl rfl rfl) .n) ?_; clear hS a; intro a hS
 refine nL (nT ?_)
 (first | refine c_ifD hS rfl ?_ ?_ | refine c_if hS rfl ?_ ?_) <;> intro hc61
 ·
  refine cS (cR ?_)
  refine Rn hS (.c (e_build ty_z24 ty_pl24 .nil) <| .m rfl .n) ?_; clear hS a; intro a hS
  refine L_op (s_storeA hS rfl rfl ty_sz24 (by repeat constructor) (by rfl) (by rfl) (by rfl) ?_); clear hS; intro w hS
  refine L_e hS (e_assign rfl) rfl ?_; clear hS a; intro a hS
  refine nL (nT (wp_ret (r_then ?_)))
  refine c_retN hS Tryz.results45 (.cons (.cellA rfl (by repeat constructor) ty_st24 ty_sz24 (by rfl)) (.cons (.tmp rfl) .nil)) rfl ?_
  have he : (bindF (fdsOf fl) kd v).1 = (factsF fx.v).1 := by unfold bindF; rw [if_neg hno0, if_neg (by omega), hgo', if_pos hc61]
  exact ⟨.inr ⟨(), by rw [he]; exact hc61⟩, by show _ = Ending.returned (Value.tuple [.agg (cellsC (zCd 0) (.slice none 0 0)).toArray, .int .i64 (bindF (fdsOf fl) kd v).1].toArray); rw [he]; rfl, hS.chg, none_ok _, fun b h => h.elim⟩
 obtain ⟨x', rfl, hx'⟩ : ∃ x' : { _x : Value // (factsF fx.v).1 = 0 }, x57 = .inl x' ∧ x'.1 = .slice fq fm fcc := by
  rcases hfc2 with ⟨_, h⟩ | h
  · exact h
  · exact absurd h hc61
 have he : bindF (fdsOf fl) kd v = (0, { c with fx := (factsF fx.v).2 }) := by unfold bindF; rw [if_neg hno0, if_neg (by omega), hgo', if_neg hc61]
 rw [show faY fx.v (.inl x') = ownA 160 4 x'.1 (factsF fx.v).2.length ((factsF fx.v).2.flatMap encF) from rfl, hx'] at hS
 refine wS (nT (cS (cR ?_)))
 refine L_e hS (e_move rfl) rfl ?_; clear hS a; intro a hS
 (first | refine L_e hS (e_fa0 rfl ty_fo24_14) rfl ?_ | refine L_e hS (e_faK rfl ty_fo24_14) rfl ?_); clear hS a; intro a hS
 refine L_op (s_store hS rfl rfl rfl ty_sz22 (by repeat constructor) (upd_facts c (.slice none 0 0) (.slice fq fm fcc)) ?_); clear hS; intro w hS
 refine nL (nT (cS (cR ?_)))
 refine L_e hS (e_loadA (cs := cellsC c (.slice fq fm fcc)) rfl (by repeat constructor) ty_st24 ty_sz24 rfl) rfl ?_; clear hS a; intro a hS
 refine L_op (s_storeA (l := cellsC c (.slice fq fm fcc)) hS rfl rfl ty_sz24 (by repeat constructor) rfl rfl rfl ?_); clear hS; intro w hS
 refine L_e hS (e_assign rfl) rfl ?_; clear hS a; intro a hS
 refine nL (nT (wp_ret ?_))
 refine c_retN hS Tryz.results45 (.cons (.cellA rfl (by repeat constructor) ty_st24 ty_sz24 (by rfl)) (.cons (.tmp rfl) .nil)) rfl ?_
 exact ⟨.inl ⟨.slice fq fm fcc, by rw [he]⟩, by show _ = Ending.returned (Value.tuple [.agg (cellsC (bindF (fdsOf fl) kd v).2 (.slice fq fm fcc)).toArray, .int .i64 0].toArray); rw [he]; rfl, hS.chg, by show (ownA 160 4 (.slice fq fm fcc) (bindF (fdsOf fl) kd v).2.fx.length ((bindF (fdsOf fl) kd v).2.fx.flatMap encF)).ok w; rw [he]; exact hS.ok (ownA 160 4 (.slice fq fm fcc) (factsF fx.v).2.length ((factsF fx.v).2.flatMap encF)) (by repeat constructor), fun b hb => (hS.mine (ownA 160 4 (.slice fq fm fcc) (factsF fx.v).2.length ((factsF fx.v).2.flatMap encF)) (by repeat constructor) rfl b hb).resolve_right (fun h => h)⟩
def fgSet : Fg := ⟨fdSet, 71⟩
def fgName : Fg := ⟨fdName, 72⟩
def fgCur : Fg := ⟨fdCur, 73⟩
def fgKey : Fg := ⟨fdKey, 74⟩
def fgMeter : Fg := ⟨fdMeter, 75⟩
def fgSource : Fg := ⟨fdSource, 77⟩
def fgText : Fg := ⟨fdText, 77⟩
def fgAt : Fg := ⟨fdAt, 78⟩
def fgFrom : Fg := ⟨fdFrom, 79⟩
def fgTo : Fg := ⟨fdTo, 80⟩
def fgQty : Fg := ⟨fdQty, 81⟩
def fgNumber : Fg := ⟨fdNumber, 82⟩
def fgUnits : Fg := ⟨fdUnits, 83⟩
def fgNano : Fg := ⟨fdNano, 84⟩
def fgFacts : Fg := ⟨fdFacts, 0⟩
def rtG : List (List UInt8 × List Fg) := [([47, 114, 117, 108, 101, 115], [fgSet, fgFrom, fgSource]), ([47, 114, 117, 108, 101, 115, 47, 114, 101, 116, 105, 114, 101], [fgSet, fgAt]), ([47, 99, 117, 115, 116, 111, 109, 101, 114, 115], [fgName, fgCur, fgSet, fgFacts]), ([47, 117, 115, 97, 103, 101], [fgKey, fgName, fgMeter, fgQty, fgAt]), ([47, 98, 105, 108, 108, 115], [fgName, fgFrom, fgTo, fgAt]), ([47, 112, 97, 121, 109, 101, 110, 116, 115], [fgNumber, fgUnits, fgAt]), ([47, 99, 114, 101, 100, 105, 116, 115], [fgNumber, fgUnits, fgAt]), ([47, 118, 111, 105, 100, 115], [fgNumber, fgAt]), ([47, 114, 97, 116, 101, 115], [fgCur, fgAt, fgNano]), ([47, 114, 101, 118, 97, 108, 117, 97, 116, 105, 111, 110, 115], [fgAt]), ([47, 99, 108, 111, 115, 105, 110, 103, 115], [fgAt]), ([47, 113, 117, 101, 114, 121], [fgText])]
structure RtG (x : List UInt8 × List Fg) : Prop where
 ok : ∀ y ∈ x.2, y.ok
 nm : ∀ y ∈ x.2, y.f.nm = factsN ↔ y.f.kd = 2
 n : x.2.length ≤ 1000
theorem fgok_Set : fgSet.ok := ⟨⟨by decide, by decide, by decide⟩, fun _ => place_Set⟩
theorem fgok_Name : fgName.ok := ⟨⟨by decide, by decide, by decide⟩, fun _ => place_Name⟩
theorem fgok_Cur : fgCur.ok := ⟨⟨by decide, by decide, by decide⟩, fun _ => place_Cur⟩
theorem fgok_Key : fgKey.ok := ⟨⟨by decide, by decide, by decide⟩, fun _ => place_Key⟩
theorem fgok_Meter : fgMeter.ok := ⟨⟨by decide, by decide, by decide⟩, fun _ => place_Meter⟩
theorem fgok_Source : fgSource.ok := ⟨⟨by decide, by decide, by decide⟩, fun _ => place_Text⟩
theorem fgok_Text : fgText.ok := ⟨⟨by decide, by decide, by decide⟩, fun _ => place_Text⟩
theorem fgok_At : fgAt.ok := ⟨⟨by decide, by decide, by decide⟩, fun _ => place_At⟩
theorem fgok_From : fgFrom.ok := ⟨⟨by decide, by decide, by decide⟩, fun _ => place_From⟩
theorem fgok_To : fgTo.ok := ⟨⟨by decide, by decide, by decide⟩, fun _ => place_To⟩
theorem fgok_Qty : fgQty.ok := ⟨⟨by decide, by decide, by decide⟩, fun _ => place_Qty⟩
theorem fgok_Number : fgNumber.ok := ⟨⟨by decide, by decide, by decide⟩, fun _ => place_Number⟩
theorem fgok_Units : fgUnits.ok := ⟨⟨by decide, by decide, by decide⟩, fun _ => place_Units⟩
theorem fgok_Nano : fgNano.ok := ⟨⟨by decide, by decide, by decide⟩, fun _ => place_Nano⟩
theorem fgok_Facts : fgFacts.ok := ⟨⟨by decide, by decide, by decide⟩, fun h => absurd rfl h⟩
theorem all_cons {α : Type} {p : α → Prop} {x : α} {l : List α} (h : p x) (t : ∀ y ∈ l, p y) : ∀ y ∈ x :: l, p y := fun y hy => by
 rcases List.mem_cons.1 hy with rfl | hy
 · exact h
 · exact t y hy
theorem rtg0 : RtG ([47, 114, 117, 108, 101, 115], [fgSet, fgFrom, fgSource]) := ⟨all_cons fgok_Set (all_cons fgok_From (all_cons fgok_Source (fun _ h => by cases h))), by decide, by decide⟩
theorem rtg1 : RtG ([47, 114, 117, 108, 101, 115, 47, 114, 101, 116, 105, 114, 101], [fgSet, fgAt]) := ⟨all_cons fgok_Set (all_cons fgok_At (fun _ h => by cases h)), by decide, by decide⟩
theorem rtg2 : RtG ([47, 99, 117, 115, 116, 111, 109, 101, 114, 115], [fgName, fgCur, fgSet, fgFacts]) := ⟨all_cons fgok_Name (all_cons fgok_Cur (all_cons fgok_Set (all_cons fgok_Facts (fun _ h => by cases h)))), by decide, by decide⟩
theorem rtg3 : RtG ([47, 117, 115, 97, 103, 101], [fgKey, fgName, fgMeter, fgQty, fgAt]) := ⟨all_cons fgok_Key (all_cons fgok_Name (all_cons fgok_Meter (all_cons fgok_Qty (all_cons fgok_At (fun _ h => by cases h))))), by decide, by decide⟩
theorem rtg4 : RtG ([47, 98, 105, 108, 108, 115], [fgName, fgFrom, fgTo, fgAt]) := ⟨all_cons fgok_Name (all_cons fgok_From (all_cons fgok_To (all_cons fgok_At (fun _ h => by cases h)))), by decide, by decide⟩
theorem rtg5 : RtG ([47, 112, 97, 121, 109, 101, 110, 116, 115], [fgNumber, fgUnits, fgAt]) := ⟨all_cons fgok_Number (all_cons fgok_Units (all_cons fgok_At (fun _ h => by cases h))), by decide, by decide⟩
theorem rtg6 : RtG ([47, 99, 114, 101, 100, 105, 116, 115], [fgNumber, fgUnits, fgAt]) := ⟨all_cons fgok_Number (all_cons fgok_Units (all_cons fgok_At (fun _ h => by cases h))), by decide, by decide⟩
theorem rtg7 : RtG ([47, 118, 111, 105, 100, 115], [fgNumber, fgAt]) := ⟨all_cons fgok_Number (all_cons fgok_At (fun _ h => by cases h)), by decide, by decide⟩
theorem rtg8 : RtG ([47, 114, 97, 116, 101, 115], [fgCur, fgAt, fgNano]) := ⟨all_cons fgok_Cur (all_cons fgok_At (all_cons fgok_Nano (fun _ h => by cases h))), by decide, by decide⟩
theorem rtg9 : RtG ([47, 114, 101, 118, 97, 108, 117, 97, 116, 105, 111, 110, 115], [fgAt]) := ⟨all_cons fgok_At (fun _ h => by cases h), by decide, by decide⟩
theorem rtg10 : RtG ([47, 99, 108, 111, 115, 105, 110, 103, 115], [fgAt]) := ⟨all_cons fgok_At (fun _ h => by cases h), by decide, by decide⟩
theorem rtg11 : RtG ([47, 113, 117, 101, 114, 121], [fgText]) := ⟨all_cons fgok_Text (fun _ h => by cases h), by decide, by decide⟩
theorem rtG_ok : ∀ x ∈ rtG, RtG x := all_cons rtg0 (all_cons rtg1 (all_cons rtg2 (all_cons rtg3 (all_cons rtg4 (all_cons rtg5 (all_cons rtg6 (all_cons rtg7 (all_cons rtg8 (all_cons rtg9 (all_cons rtg10 (all_cons rtg11 (fun _ h => by cases h))))))))))))
def rtCells (f : Nat → Nat) : List Value := [.string (tx [47, 114, 117, 108, 101, 115]), .int .i64 1, .slice (some ⟨f 0, 0, none⟩) 3 3] ++ ([.string (tx [47, 114, 117, 108, 101, 115, 47, 114, 101, 116, 105, 114, 101]), .int .i64 2, .slice (some ⟨f 1, 0, none⟩) 2 2] ++ ([.string (tx [47, 99, 117, 115, 116, 111, 109, 101, 114, 115]), .int .i64 3, .slice (some ⟨f 2, 0, none⟩) 4 4] ++ ([.string (tx [47, 117, 115, 97, 103, 101]), .int .i64 4, .slice (some ⟨f 3, 0, none⟩) 5 5] ++ ([.string (tx [47, 98, 105, 108, 108, 115]), .int .i64 5, .slice (some ⟨f 4, 0, none⟩) 4 4] ++ ([.string (tx [47, 112, 97, 121, 109, 101, 110, 116, 115]), .int .i64 6, .slice (some ⟨f 5, 0, none⟩) 3 3] ++ ([.string (tx [47, 99, 114, 101, 100, 105, 116, 115]), .int .i64 7, .slice (some ⟨f 6, 0, none⟩) 3 3] ++ ([.string (tx [47, 118, 111, 105, 100, 115]), .int .i64 8, .slice (some ⟨f 7, 0, none⟩) 2 2] ++ ([.string (tx [47, 114, 97, 116, 101, 115]), .int .i64 9, .slice (some ⟨f 8, 0, none⟩) 3 3] ++ ([.string (tx [47, 114, 101, 118, 97, 108, 117, 97, 116, 105, 111, 110, 115]), .int .i64 10, .slice (some ⟨f 9, 0, none⟩) 1 1] ++ ([.string (tx [47, 99, 108, 111, 115, 105, 110, 103, 115]), .int .i64 11, .slice (some ⟨f 10, 0, none⟩) 1 1] ++ ([.string (tx [47, 113, 117, 101, 114, 121]), .int .i64 12, .slice (some ⟨f 11, 0, none⟩) 1 1] ++ [])))))))))))
structure RtsAt (lo b : Nat) (f : Nat → Nat) (w : World) : Prop where
 hb : lo ≤ b
 c : w.heap[b]? = some (.cells (rtCells f).toArray 83 (0, 0))
 r : ∀ k x, rtG[k]? = some x → lo ≤ f k ∧ w.heap[f k]? = some (.cells (x.2.flatMap fgV).toArray 88 (0, 0))
inductive RtK where
 | val (u : Value)
 | sl (q : Nat) (vs : List Value)
 | rt (p : List UInt8) (k : Int) (q : Nat) (vs : List Value)
 | all
def RtK.den (lo : Nat) : RtK → Value → World → Prop
 | .val u, v, _ => v = u
 | .sl q vs, v, w => ∃ b, lo ≤ b ∧ v = .slice (some ⟨b, 0, none⟩) q q ∧ w.heap[b]? = some (.cells vs.toArray 88 (0, 0))
 | .rt p k q vs, v, w => ∃ b, lo ≤ b ∧ v = .agg [.string (tx p), .int .i64 k, .slice (some ⟨b, 0, none⟩) q q].toArray ∧ w.heap[b]? = some (.cells vs.toArray 88 (0, 0))
 | .all, v, w => ∃ b f, v = .slice (some ⟨b, 0, none⟩) 12 12 ∧ RtsAt lo b f w
theorem heap_keep {w1 w2 : World} (hc : Chg noB w1 w2) {b : Nat} {o : Obj} (h : w1.heap[b]? = some o) : w2.heap[b]? = some o :=
 (hc.block b (Array.getElem?_eq_some_iff.1 h).1 (fun h => h)).trans h
theorem RtsAt.keep {lo b : Nat} {f : Nat → Nat} {w1 w2 : World} (h : RtsAt lo b f w1) (hc : Chg noB w1 w2) : RtsAt lo b f w2 :=
 ⟨h.hb, heap_keep hc h.c, fun k x hx => ⟨(h.r k x hx).1, heap_keep hc (h.r k x hx).2⟩⟩
theorem den_mono (lo : Nat) (k : RtK) (v : Value) (w1 w2 : World) (hc : Chg noB w1 w2) (h : k.den lo v w1) : k.den lo v w2 := by
 cases k with
 | val u => exact h
 | sl q vs => obtain ⟨b, h1, h2, h3⟩ := h; exact ⟨b, h1, h2, heap_keep hc h3⟩
 | rt p k q vs => obtain ⟨b, h1, h2, h3⟩ := h; exact ⟨b, h1, h2, heap_keep hc h3⟩
 | all => obtain ⟨b, f, h1, h2⟩ := h; exact ⟨b, f, h1, h2.keep hc⟩
def rtTab : List (Nat × Nat × RtK) := [(3, 29, .val (.agg (fgV fgSource).toArray)), (4, 30, .sl 3 (fgV fgSet ++ (fgV fgFrom ++ (fgV fgSource ++ [])))), (5, 31, .rt [47, 114, 117, 108, 101, 115] 1 3 (fgV fgSet ++ (fgV fgFrom ++ (fgV fgSource ++ [])))), (8, 34, .sl 2 (fgV fgSet ++ (fgV fgAt ++ []))), (9, 35, .rt [47, 114, 117, 108, 101, 115, 47, 114, 101, 116, 105, 114, 101] 2 2 (fgV fgSet ++ (fgV fgAt ++ []))), (14, 40, .sl 4 (fgV fgName ++ (fgV fgCur ++ (fgV fgSet ++ (fgV fgFacts ++ []))))), (15, 41, .rt [47, 99, 117, 115, 116, 111, 109, 101, 114, 115] 3 4 (fgV fgName ++ (fgV fgCur ++ (fgV fgSet ++ (fgV fgFacts ++ []))))), (21, 47, .sl 5 (fgV fgKey ++ (fgV fgName ++ (fgV fgMeter ++ (fgV fgQty ++ (fgV fgAt ++ [])))))), (22, 48, .rt [47, 117, 115, 97, 103, 101] 4 5 (fgV fgKey ++ (fgV fgName ++ (fgV fgMeter ++ (fgV fgQty ++ (fgV fgAt ++ [])))))), (27, 53, .sl 4 (fgV fgName ++ (fgV fgFrom ++ (fgV fgTo ++ (fgV fgAt ++ []))))), (28, 54, .rt [47, 98, 105, 108, 108, 115] 5 4 (fgV fgName ++ (fgV fgFrom ++ (fgV fgTo ++ (fgV fgAt ++ []))))), (32, 58, .sl 3 (fgV fgNumber ++ (fgV fgUnits ++ (fgV fgAt ++ [])))), (33, 59, .rt [47, 112, 97, 121, 109, 101, 110, 116, 115] 6 3 (fgV fgNumber ++ (fgV fgUnits ++ (fgV fgAt ++ [])))), (37, 63, .sl 3 (fgV fgNumber ++ (fgV fgUnits ++ (fgV fgAt ++ [])))), (38, 64, .rt [47, 99, 114, 101, 100, 105, 116, 115] 7 3 (fgV fgNumber ++ (fgV fgUnits ++ (fgV fgAt ++ [])))), (41, 67, .sl 2 (fgV fgNumber ++ (fgV fgAt ++ []))), (42, 68, .rt [47, 118, 111, 105, 100, 115] 8 2 (fgV fgNumber ++ (fgV fgAt ++ []))), (46, 72, .sl 3 (fgV fgCur ++ (fgV fgAt ++ (fgV fgNano ++ [])))), (47, 73, .rt [47, 114, 97, 116, 101, 115] 9 3 (fgV fgCur ++ (fgV fgAt ++ (fgV fgNano ++ [])))), (49, 75, .sl 1 (fgV fgAt ++ [])), (50, 76, .rt [47, 114, 101, 118, 97, 108, 117, 97, 116, 105, 111, 110, 115] 10 1 (fgV fgAt ++ [])), (52, 78, .sl 1 (fgV fgAt ++ [])), (53, 79, .rt [47, 99, 108, 111, 115, 105, 110, 103, 115] 11 1 (fgV fgAt ++ [])), (55, 81, .val (.agg (fgV fgText).toArray)), (56, 82, .sl 1 (fgV fgText ++ [])), (57, 83, .rt [47, 113, 117, 101, 114, 121] 12 1 (fgV fgText ++ [])), (58, 84, .all), (59, 0, .all)]
def rtFind : List (Nat × Nat × RtK) → Nat → Nat × RtK
 | [], _ => (0, .all)
 | (j, x) :: l, i => bif Nat.beq j i then x else rtFind l i
def rtR : List Nat := [3, 4, 5, 8, 9, 14, 15, 21, 22, 27, 28, 32, 33, 37, 38, 41, 42, 46, 47, 49, 50, 52, 53, 55, 56, 57, 58, 59]
def rtDst (i : Nat) : Nat := (rtFind rtTab i).1
def rtK (i : Nat) : RtK := (rtFind rtTab i).2
theorem rt_inj : ∀ i ∈ rtR, ∀ j ∈ rtR, rtDst i = rtDst j → i = j := by decide +kernel
section
variable {P : Program} {n : NN} {w0 : World} {a : Act} {w : World} {L : List (Nat × Value)}
variable {Q : Exit → Act → World → Prop} {d ty : Nat} {pos : String} {af : Array Edge} {g : Option (Nat × Bool)}
theorem st_bslice {lo T E m q : Nat} {zs vs : List Value} {r : List (Nat × Operand)} (hlo : lo ≤ w.heap.size) (hp : PartsR L m 0 r vs) (hS : St n noB w a w L []) (hT : sliceT P T = some E) (hs : szOf P E = some m) (hz : zeroOf P E = some zs) (hzl : Nat.beq zs.length m = true) (hm : Nat.blt 0 m = true) (hm2 : Nat.ble (q * m) 16777216 = true) (hq : Nat.beq r.length q = true) (hn : Nat.blt d n.n = true) :
 OW P ⟨some d, .buildSlice T q r.toArray, ty, pos, af, g⟩ a w (fun a2 w2 => ∃ v, Chg noB w w2 ∧ Sl n a2 ((d, v) :: L) ∧ ∃ b, lo ≤ b ∧ v = .slice (some ⟨b, 0, none⟩) q q ∧ w2.heap[b]? = some (.cells vs.toArray E (0, 0))) Q :=
 s_bslice hS hT hs hz hzl hm hm2 hq hp hn fun _ _ b hS' => ⟨_, hS'.chg, hS'.sl, b, Nat.le_trans hlo ((hS'.mine _ (.head _) rfl b rfl).resolve_right id), rfl, hS'.get (.head _)⟩
end
set_option maxRecDepth 100000 in
theorem textField_P (nm : ByteArray) (w0 : World) : PureC Tryz.prog 76 [.string nm] w0 (.agg [.string nm, .func (.func 77) #[] #[], .nilFunc].toArray) := by
 refine c_enter [(0, .string nm)] [] noB Tryz.func76 rfl Tryz.ntmps76 ⟨rfl, trivial⟩ rfl (by simp) (by simp) (by simp) ?_
 intro a hS
 refine cS (cR ?_)
 refine L_op (s_alloc hS ty_z88 rfl ?_); clear hS a; intro a w b2 hS
 refine nL (nT (cS (cR ?_)))
 refine Rn hS (.m rfl <| .c (e_build ty_z88 ty_pl88 (.one rfl rfl rfl (by repeat constructor) (.one rfl rfl rfl (by repeat constructor) .nil))) .n) ?_; clear hS a; intro a hS
 refine L_op (s_storeA hS rfl rfl ty_sz88 (by repeat constructor) (by rfl) (by rfl) (by rfl) ?_); clear hS; intro w hS
 refine nL (nT (wp_ret ?_))
 refine c_ret1 hS Tryz.results76 (.cellA rfl (by repeat constructor) ty_st88 ty_sz88 (by rfl)) ?_
 exact ⟨rfl, hS.chg⟩
end Go.Proofs.YtlccmgeclhdegaaGreatDoor
namespace Go.Proofs.YtlccmgeclhdegaaGreatDoor
open Go.RowKit
def rtsA (lo N b : Nat) (f : Nat → Nat) : Asn := .any (fun k => lo ≤ k ∧ k < N) (RtsAt lo b f) true
theorem rts_ok {lo b : Nat} {f : Nat → Nat} {w : World} (h : RtsAt lo b f w) : (rtsA lo w.heap.size b f).ok w := by
 refine ⟨fun k hk => hk.2, fun w' hw => ⟨h.hb, ?_, fun k x hx => ⟨(h.r k x hx).1, ?_⟩⟩⟩
 · rw [hw b ⟨h.hb, (Array.getElem?_eq_some_iff.1 h.c).1⟩]; exact h.c
 · rw [hw (f k) ⟨(h.r k x hx).1, (Array.getElem?_eq_some_iff.1 (h.r k x hx).2).1⟩]; exact (h.r k x hx).2
theorem rt_all {lo : Nat} {f : Nat → Nat} {w : World} (h0 : lo ≤ f 0 ∧ w.heap[f 0]? = some (.cells (fgV fgSet ++ (fgV fgFrom ++ (fgV fgSource ++ []))).toArray 88 (0, 0))) (h1 : lo ≤ f 1 ∧ w.heap[f 1]? = some (.cells (fgV fgSet ++ (fgV fgAt ++ [])).toArray 88 (0, 0))) (h2 : lo ≤ f 2 ∧ w.heap[f 2]? = some (.cells (fgV fgName ++ (fgV fgCur ++ (fgV fgSet ++ (fgV fgFacts ++ [])))).toArray 88 (0, 0))) (h3 : lo ≤ f 3 ∧ w.heap[f 3]? = some (.cells (fgV fgKey ++ (fgV fgName ++ (fgV fgMeter ++ (fgV fgQty ++ (fgV fgAt ++ []))))).toArray 88 (0, 0))) (h4 : lo ≤ f 4 ∧ w.heap[f 4]? = some (.cells (fgV fgName ++ (fgV fgFrom ++ (fgV fgTo ++ (fgV fgAt ++ [])))).toArray 88 (0, 0))) (h5 : lo ≤ f 5 ∧ w.heap[f 5]? = some (.cells (fgV fgNumber ++ (fgV fgUnits ++ (fgV fgAt ++ []))).toArray 88 (0, 0))) (h6 : lo ≤ f 6 ∧ w.heap[f 6]? = some (.cells (fgV fgNumber ++ (fgV fgUnits ++ (fgV fgAt ++ []))).toArray 88 (0, 0))) (h7 : lo ≤ f 7 ∧ w.heap[f 7]? = some (.cells (fgV fgNumber ++ (fgV fgAt ++ [])).toArray 88 (0, 0))) (h8 : lo ≤ f 8 ∧ w.heap[f 8]? = some (.cells (fgV fgCur ++ (fgV fgAt ++ (fgV fgNano ++ []))).toArray 88 (0, 0))) (h9 : lo ≤ f 9 ∧ w.heap[f 9]? = some (.cells (fgV fgAt ++ []).toArray 88 (0, 0))) (h10 : lo ≤ f 10 ∧ w.heap[f 10]? = some (.cells (fgV fgAt ++ []).toArray 88 (0, 0))) (h11 : lo ≤ f 11 ∧ w.heap[f 11]? = some (.cells (fgV fgText ++ []).toArray 88 (0, 0))) : ∀ k x, rtG[k]? = some x → lo ≤ f k ∧ w.heap[f k]? = some (.cells (x.2.flatMap fgV).toArray 88 (0, 0)) := by
 intro k x hx
 rcases k with _ | _ | _ | _ | _ | _ | _ | _ | _ | _ | _ | _ | k
 · obtain rfl : _ = x := by injection hx
   exact h0
 · obtain rfl : _ = x := by injection hx
   exact h1
 · obtain rfl : _ = x := by injection hx
   exact h2
 · obtain rfl : _ = x := by injection hx
   exact h3
 · obtain rfl : _ = x := by injection hx
   exact h4
 · obtain rfl : _ = x := by injection hx
   exact h5
 · obtain rfl : _ = x := by injection hx
   exact h6
 · obtain rfl : _ = x := by injection hx
   exact h7
 · obtain rfl : _ = x := by injection hx
   exact h8
 · obtain rfl : _ = x := by injection hx
   exact h9
 · obtain rfl : _ = x := by injection hx
   exact h10
 · obtain rfl : _ = x := by injection hx
   exact h11
 · exact absurd (List.getElem?_eq_some_iff.1 hx).1 (by show ¬ k + 12 < 12; omega)
set_option maxHeartbeats 4000000 in
set_option maxRecDepth 100000 in
theorem fRoutes_N (w0 : World) : NewC Tryz.prog 26 [] w0 (fun x : Nat × Nat × (Nat → Nat) => .slice (some ⟨x.2.1, 0, none⟩) 12 12) (fun x => rtsA w0.heap.size x.1 x.2.1 x.2.2) := by
 refine c_enter [] [] noB Tryz.func26 rfl Tryz.ntmps26 trivial rfl (by simp) (by simp) (by simp) ?_
 intro a hS
 refine cS (cR ?_)
 refine L_e hS (e_assign rfl) rfl ?_; clear hS a; intro a hS
 refine nL (nT (cS (cR ?_)))
 refine L_e hS (e_build ty_z88 ty_pl88 (.one rfl rfl rfl (by repeat constructor) (.one rfl rfl rfl (by repeat constructor) .nil))) rfl ?_; clear hS a; intro a hS
 refine L_op (s_alloc hS ty_z88 rfl ?_); clear hS a; intro a w b1 hS
 refine L_op (s_storeA hS rfl rfl ty_sz88 (by repeat constructor) (by rfl) (by rfl) (by rfl) ?_); clear hS; intro w hS
 refine nL (nT (cS (cR ?_)))
 refine L_e hS (e_build ty_z88 ty_pl88 (.one rfl rfl rfl (by repeat constructor) (.one rfl rfl rfl (by repeat constructor) .nil))) rfl ?_; clear hS a; intro a hS
 refine L_op (s_alloc hS ty_z88 rfl ?_); clear hS a; intro a w b2 hS
 refine L_op (s_storeA hS rfl rfl ty_sz88 (by repeat constructor) (by rfl) (by rfl) (by rfl) ?_); clear hS; intro w hS
 refine nL (nT (cS (cR ?_)))
 refine L_e hS (e_build ty_z88 ty_pl88 (.one rfl rfl rfl (by repeat constructor) (.one rfl rfl rfl (by repeat constructor) .nil))) rfl ?_; clear hS a; intro a hS
 refine L_op (s_alloc hS ty_z88 rfl ?_); clear hS a; intro a w b3 hS
 refine L_op (s_storeA hS rfl rfl ty_sz88 (by repeat constructor) (by rfl) (by rfl) (by rfl) ?_); clear hS; intro w hS
 refine nL (nT (cS (cR ?_)))
 refine L_e hS (e_build ty_z88 ty_pl88 (.one rfl rfl rfl (by repeat constructor) (.one rfl rfl rfl (by repeat constructor) .nil))) rfl ?_; clear hS a; intro a hS
 refine L_op (s_alloc hS ty_z88 rfl ?_); clear hS a; intro a w b4 hS
 refine L_op (s_storeA hS rfl rfl ty_sz88 (by repeat constructor) (by rfl) (by rfl) (by rfl) ?_); clear hS; intro w hS
 refine nL (nT (cS (cR ?_)))
 refine L_e hS (e_build ty_z88 ty_pl88 (.one rfl rfl rfl (by repeat constructor) (.one rfl rfl rfl (by repeat constructor) .nil))) rfl ?_; clear hS a; intro a hS
 refine L_op (s_alloc hS ty_z88 rfl ?_); clear hS a; intro a w b5 hS
 refine L_op (s_storeA hS rfl rfl ty_sz88 (by repeat constructor) (by rfl) (by rfl) (by rfl) ?_); clear hS; intro w hS
 refine nL (nT (cS (cR ?_)))
 refine L_e hS (e_assign rfl) rfl ?_; clear hS a; intro a hS
 refine nL (nT (cS (cR ?_)))
 refine L_e hS (e_build ty_z88 ty_pl88 (.one rfl rfl rfl (by repeat constructor) (.one rfl rfl rfl (by repeat constructor) .nil))) rfl ?_; clear hS a; intro a hS
 refine L_op (s_alloc hS ty_z88 rfl ?_); clear hS a; intro a w b7 hS
 refine L_op (s_storeA hS rfl rfl ty_sz88 (by repeat constructor) (by rfl) (by rfl) (by rfl) ?_); clear hS; intro w hS
 refine nL (nT (cS (cR ?_)))
 refine L_e hS (e_build ty_z88 ty_pl88 (.one rfl rfl rfl (by repeat constructor) (.one rfl rfl rfl (by repeat constructor) .nil))) rfl ?_; clear hS a; intro a hS
 refine L_op (s_alloc hS ty_z88 rfl ?_); clear hS a; intro a w b8 hS
 refine L_op (s_storeA hS rfl rfl ty_sz88 (by repeat constructor) (by rfl) (by rfl) (by rfl) ?_); clear hS; intro w hS
 refine nL (nT (cS (cR ?_)))
 refine L_e hS (e_build ty_z88 ty_pl88 (.one rfl rfl rfl (by repeat constructor) (.one rfl rfl rfl (by repeat constructor) .nil))) rfl ?_; clear hS a; intro a hS
 refine L_op (s_alloc hS ty_z88 rfl ?_); clear hS a; intro a w b9 hS
 refine L_op (s_storeA hS rfl rfl ty_sz88 (by repeat constructor) (by rfl) (by rfl) (by rfl) ?_); clear hS; intro w hS
 refine nL (nT (cS (cR ?_)))
 refine L_e hS (e_build ty_z88 ty_pl88 (.one rfl rfl rfl (by repeat constructor) (.one rfl rfl rfl (by repeat constructor) .nil))) rfl ?_; clear hS a; intro a hS
 refine L_op (s_alloc hS ty_z88 rfl ?_); clear hS a; intro a w b10 hS
 refine L_op (s_storeA hS rfl rfl ty_sz88 (by repeat constructor) (by rfl) (by rfl) (by rfl) ?_); clear hS; intro w hS
 refine nL (nT (cS (cR ?_)))
 refine L_e hS (e_build ty_z88 ty_pl88 (.one rfl rfl rfl (by repeat constructor) (.one rfl rfl rfl (by repeat constructor) .nil))) rfl ?_; clear hS a; intro a hS
 refine L_op (s_alloc hS ty_z88 rfl ?_); clear hS a; intro a w b11 hS
 refine L_op (s_storeA hS rfl rfl ty_sz88 (by repeat constructor) (by rfl) (by rfl) (by rfl) ?_); clear hS; intro w hS
 refine nL (nT (cS (cR ?_)))
 refine L_e hS (e_build ty_z88 ty_pl88 (.one rfl rfl rfl (by repeat constructor) (.one rfl rfl rfl (by repeat constructor) .nil))) rfl ?_; clear hS a; intro a hS
 refine L_op (s_alloc hS ty_z88 rfl ?_); clear hS a; intro a w b12 hS
 refine L_op (s_storeA hS rfl rfl ty_sz88 (by repeat constructor) (by rfl) (by rfl) (by rfl) ?_); clear hS; intro w hS
 refine nL (nT (cS (cR ?_)))
 refine L_e hS (e_build ty_z88 ty_pl88 (.one rfl rfl rfl (by repeat constructor) (.one rfl rfl rfl (by repeat constructor) .nil))) rfl ?_; clear hS a; intro a hS
 refine L_op (s_alloc hS ty_z88 rfl ?_); clear hS a; intro a w b13 hS
 refine L_op (s_storeA hS rfl rfl ty_sz88 (by repeat constructor) (by rfl) (by rfl) (by rfl) ?_); clear hS; intro w hS
 refine nL (nT (cS ?_))
 refine c_drawS [] (by kernel_rfl) hS (sub_cons (X := .blk b13 [.string ⟨#[110, 97, 110, 111]⟩, .nilFunc, .func (.func 84) #[] #[]] 88) (by repeat constructor) (sub_cons (X := .blk b12 [.string ⟨#[117, 110, 105, 116, 115]⟩, .nilFunc, .func (.func 83) #[] #[]] 88) (by repeat constructor) (sub_cons (X := .blk b11 [.string ⟨#[110, 117, 109, 98, 101, 114]⟩, .nilFunc, .func (.func 82) #[] #[]] 88) (by repeat constructor) (sub_cons (X := .blk b10 [.string ⟨#[113, 116, 121]⟩, .nilFunc, .func (.func 81) #[] #[]] 88) (by repeat constructor) (sub_cons (X := .blk b9 [.string ⟨#[116, 111]⟩, .nilFunc, .func (.func 80) #[] #[]] 88) (by repeat constructor) (sub_cons (X := .blk b8 [.string ⟨#[102, 114, 111, 109]⟩, .nilFunc, .func (.func 79) #[] #[]] 88) (by repeat constructor) (sub_cons (X := .blk b7 [.string ⟨#[97, 116]⟩, .nilFunc, .func (.func 78) #[] #[]] 88) (by repeat constructor) (sub_cons (X := .blk b5 [.string ⟨#[109, 101, 116, 101, 114]⟩, .func (.func 75) #[] #[], .nilFunc] 88) (by repeat constructor) (sub_cons (X := .blk b4 [.string ⟨#[107, 101, 121]⟩, .func (.func 74) #[] #[], .nilFunc] 88) (by repeat constructor) (sub_cons (X := .blk b3 [.string ⟨#[99, 117, 114]⟩, .func (.func 73) #[] #[], .nilFunc] 88) (by repeat constructor) (sub_cons (X := .blk b2 [.string ⟨#[110, 97, 109, 101]⟩, .func (.func 72) #[] #[], .nilFunc] 88) (by repeat constructor) (sub_cons (X := .blk b1 [.string ⟨#[115, 101, 116]⟩, .func (.func 71) #[] #[], .nilFunc] 88) (by repeat constructor) sub_nil)))))))))))) ?_; clear hS; intro w hS
 simp only [List.length_cons, List.length_nil, Nat.zero_add, Nat.reduceAdd, List.replicate]
 refine Rz hS (sub_cons (by repeat constructor) (sub_cons (by repeat constructor) (sub_cons (by repeat constructor) (sub_cons (by repeat constructor) (sub_cons (by repeat constructor) (sub_cons (by repeat constructor) (sub_cons (by repeat constructor) (sub_cons (by repeat constructor) (sub_cons (by repeat constructor) (sub_cons (by repeat constructor) (sub_cons (by repeat constructor) (sub_cons (by repeat constructor) sub_nil)))))))))))) (.y 0 (tf 1 59) rfl wN (e_loadA rfl (by repeat constructor) ty_st88 ty_sz88 (by rfl)) rfl <| .y 1 (tf 2 58) rfl wN (e_loadA rfl (by repeat constructor) ty_st88 ty_sz88 (by rfl)) rfl <| .o 2 (tf 3 57) rfl wN (e_move rfl) rfl <| .y 6 [true, true, true, false, false, false, true, false, false, false, false, false, false, false, false, false, false, false, false, false, false, false, false, false, false, false, false, false, false, false, false, false, false, false, false, false, false, false, false, false, false, false, false, false, false, false, false, false, false, false, false, false, false, false, false, false, false, false, false, false] rfl wN (e_loadA rfl (by repeat constructor) ty_st88 ty_sz88 (by rfl)) rfl <| .y 7 [true, true, true, false, false, false, true, true, false, false, false, false, false, false, false, false, false, false, false, false, false, false, false, false, false, false, false, false, false, false, false, false, false, false, false, false, false, false, false, false, false, false, false, false, false, false, false, false, false, false, false, false, false, false, false, false, false, false, false, false] rfl wN (e_loadA rfl (by repeat constructor) ty_st88 ty_sz88 (by rfl)) rfl <| .y 10 [true, true, true, false, false, false, true, true, false, false, true, false, false, false, false, false, false, false, false, false, false, false, false, false, false, false, false, false, false, false, false, false, false, false, false, false, false, false, false, false, false, false, false, false, false, false, false, false, false, false, false, false, false, false, false, false, false, false, false, false] rfl wN (e_loadA rfl (by repeat constructor) ty_st88 ty_sz88 (by rfl)) rfl <| .y 11 [true, true, true, false, false, false, true, true, false, false, true, true, false, false, false, false, false, false, false, false, false, false, false, false, false, false, false, false, false, false, false, false, false, false, false, false, false, false, false, false, false, false, false, false, false, false, false, false, false, false, false, false, false, false, false, false, false, false, false, false] rfl wN (e_loadA rfl (by repeat constructor) ty_st88 ty_sz88 (by rfl)) rfl <| .y 12 [true, true, true, false, false, false, true, true, false, false, true, true, true, false, false, false, false, false, false, false, false, false, false, false, false, false, false, false, false, false, false, false, false, false, false, false, false, false, false, false, false, false, false, false, false, false, false, false, false, false, false, false, false, false, false, false, false, false, false, false] rfl wN (e_loadA rfl (by repeat constructor) ty_st88 ty_sz88 (by rfl)) rfl <| .o 13 [true, true, true, false, false, false, true, true, false, false, true, true, true, true, false, false, false, false, false, false, false, false, false, false, false, false, false, false, false, false, false, false, false, false, false, false, false, false, false, false, false, false, false, false, false, false, false, false, false, false, false, false, false, false, false, false, false, false, false, false] rfl wN (e_build ty_z88 ty_pl88 (.one rfl rfl rfl (by repeat constructor) .nil)) rfl <| .y 16 [true, true, true, false, false, false, true, true, false, false, true, true, true, true, false, false, true, false, false, false, false, false, false, false, false, false, false, false, false, false, false, false, false, false, false, false, false, false, false, false, false, false, false, false, false, false, false, false, false, false, false, false, false, false, false, false, false, false, false, false] rfl wN (e_loadA rfl (by repeat constructor) ty_st88 ty_sz88 (by rfl)) rfl <| .y 17 [true, true, true, false, false, false, true, true, false, false, true, true, true, true, false, false, true, true, false, false, false, false, false, false, false, false, false, false, false, false, false, false, false, false, false, false, false, false, false, false, false, false, false, false, false, false, false, false, false, false, false, false, false, false, false, false, false, false, false, false] rfl wN (e_loadA rfl (by repeat constructor) ty_st88 ty_sz88 (by rfl)) rfl <| .y 18 [true, true, true, false, false, false, true, true, false, false, true, true, true, true, false, false, true, true, true, false, false, false, false, false, false, false, false, false, false, false, false, false, false, false, false, false, false, false, false, false, false, false, false, false, false, false, false, false, false, false, false, false, false, false, false, false, false, false, false, false] rfl wN (e_loadA rfl (by repeat constructor) ty_st88 ty_sz88 (by rfl)) rfl <| .y 19 [true, true, true, false, false, false, true, true, false, false, true, true, true, true, false, false, true, true, true, true, false, false, false, false, false, false, false, false, false, false, false, false, false, false, false, false, false, false, false, false, false, false, false, false, false, false, false, false, false, false, false, false, false, false, false, false, false, false, false, false] rfl wN (e_loadA rfl (by repeat constructor) ty_st88 ty_sz88 (by rfl)) rfl <| .y 20 [true, true, true, false, false, false, true, true, false, false, true, true, true, true, false, false, true, true, true, true, true, false, false, false, false, false, false, false, false, false, false, false, false, false, false, false, false, false, false, false, false, false, false, false, false, false, false, false, false, false, false, false, false, false, false, false, false, false, false, false] rfl wN (e_loadA rfl (by repeat constructor) ty_st88 ty_sz88 (by rfl)) rfl <| .y 23 [true, true, true, false, false, false, true, true, false, false, true, true, true, true, false, false, true, true, true, true, true, false, false, true, false, false, false, false, false, false, false, false, false, false, false, false, false, false, false, false, false, false, false, false, false, false, false, false, false, false, false, false, false, false, false, false, false, false, false, false] rfl wN (e_loadA rfl (by repeat constructor) ty_st88 ty_sz88 (by rfl)) rfl <| .y 24 [true, true, true, false, false, false, true, true, false, false, true, true, true, true, false, false, true, true, true, true, true, false, false, true, true, false, false, false, false, false, false, false, false, false, false, false, false, false, false, false, false, false, false, false, false, false, false, false, false, false, false, false, false, false, false, false, false, false, false, false] rfl wN (e_loadA rfl (by repeat constructor) ty_st88 ty_sz88 (by rfl)) rfl <| .y 25 [true, true, true, false, false, false, true, true, false, false, true, true, true, true, false, false, true, true, true, true, true, false, false, true, true, true, false, false, false, false, false, false, false, false, false, false, false, false, false, false, false, false, false, false, false, false, false, false, false, false, false, false, false, false, false, false, false, false, false, false] rfl wN (e_loadA rfl (by repeat constructor) ty_st88 ty_sz88 (by rfl)) rfl <| .y 26 [true, true, true, false, false, false, true, true, false, false, true, true, true, true, false, false, true, true, true, true, true, false, false, true, true, true, true, false, false, false, false, false, false, false, false, false, false, false, false, false, false, false, false, false, false, false, false, false, false, false, false, false, false, false, false, false, false, false, false, false] rfl wN (e_loadA rfl (by repeat constructor) ty_st88 ty_sz88 (by rfl)) rfl <| .y 29 [true, true, true, false, false, false, true, true, false, false, true, true, true, true, false, false, true, true, true, true, true, false, false, true, true, true, true, false, false, true, false, false, false, false, false, false, false, false, false, false, false, false, false, false, false, false, false, false, false, false, false, false, false, false, false, false, false, false, false, false] rfl wN (e_loadA rfl (by repeat constructor) ty_st88 ty_sz88 (by rfl)) rfl <| .y 30 [true, true, true, false, false, false, true, true, false, false, true, true, true, true, false, false, true, true, true, true, true, false, false, true, true, true, true, false, false, true, true, false, false, false, false, false, false, false, false, false, false, false, false, false, false, false, false, false, false, false, false, false, false, false, false, false, false, false, false, false] rfl wN (e_loadA rfl (by repeat constructor) ty_st88 ty_sz88 (by rfl)) rfl <| .y 31 [true, true, true, false, false, false, true, true, false, false, true, true, true, true, false, false, true, true, true, true, true, false, false, true, true, true, true, false, false, true, true, true, false, false, false, false, false, false, false, false, false, false, false, false, false, false, false, false, false, false, false, false, false, false, false, false, false, false, false, false] rfl wN (e_loadA rfl (by repeat constructor) ty_st88 ty_sz88 (by rfl)) rfl <| .y 34 [true, true, true, false, false, false, true, true, false, false, true, true, true, true, false, false, true, true, true, true, true, false, false, true, true, true, true, false, false, true, true, true, false, false, true, false, false, false, false, false, false, false, false, false, false, false, false, false, false, false, false, false, false, false, false, false, false, false, false, false] rfl wN (e_loadA rfl (by repeat constructor) ty_st88 ty_sz88 (by rfl)) rfl <| .y 35 [true, true, true, false, false, false, true, true, false, false, true, true, true, true, false, false, true, true, true, true, true, false, false, true, true, true, true, false, false, true, true, true, false, false, true, true, false, false, false, false, false, false, false, false, false, false, false, false, false, false, false, false, false, false, false, false, false, false, false, false] rfl wN (e_loadA rfl (by repeat constructor) ty_st88 ty_sz88 (by rfl)) rfl <| .y 36 [true, true, true, false, false, false, true, true, false, false, true, true, true, true, false, false, true, true, true, true, true, false, false, true, true, true, true, false, false, true, true, true, false, false, true, true, true, false, false, false, false, false, false, false, false, false, false, false, false, false, false, false, false, false, false, false, false, false, false, false] rfl wN (e_loadA rfl (by repeat constructor) ty_st88 ty_sz88 (by rfl)) rfl <| .y 39 [true, true, true, false, false, false, true, true, false, false, true, true, true, true, false, false, true, true, true, true, true, false, false, true, true, true, true, false, false, true, true, true, false, false, true, true, true, false, false, true, false, false, false, false, false, false, false, false, false, false, false, false, false, false, false, false, false, false, false, false] rfl wN (e_loadA rfl (by repeat constructor) ty_st88 ty_sz88 (by rfl)) rfl <| .y 40 [true, true, true, false, false, false, true, true, false, false, true, true, true, true, false, false, true, true, true, true, true, false, false, true, true, true, true, false, false, true, true, true, false, false, true, true, true, false, false, true, true, false, false, false, false, false, false, false, false, false, false, false, false, false, false, false, false, false, false, false] rfl wN (e_loadA rfl (by repeat constructor) ty_st88 ty_sz88 (by rfl)) rfl <| .y 43 [true, true, true, false, false, false, true, true, false, false, true, true, true, true, false, false, true, true, true, true, true, false, false, true, true, true, true, false, false, true, true, true, false, false, true, true, true, false, false, true, true, false, false, true, false, false, false, false, false, false, false, false, false, false, false, false, false, false, false, false] rfl wN (e_loadA rfl (by repeat constructor) ty_st88 ty_sz88 (by rfl)) rfl <| .y 44 [true, true, true, false, false, false, true, true, false, false, true, true, true, true, false, false, true, true, true, true, true, false, false, true, true, true, true, false, false, true, true, true, false, false, true, true, true, false, false, true, true, false, false, true, true, false, false, false, false, false, false, false, false, false, false, false, false, false, false, false] rfl wN (e_loadA rfl (by repeat constructor) ty_st88 ty_sz88 (by rfl)) rfl <| .y 45 [true, true, true, false, false, false, true, true, false, false, true, true, true, true, false, false, true, true, true, true, true, false, false, true, true, true, true, false, false, true, true, true, false, false, true, true, true, false, false, true, true, false, false, true, true, true, false, false, false, false, false, false, false, false, false, false, false, false, false, false] rfl wN (e_loadA rfl (by repeat constructor) ty_st88 ty_sz88 (by rfl)) rfl <| .y 48 [true, true, true, false, false, false, true, true, false, false, true, true, true, true, false, false, true, true, true, true, true, false, false, true, true, true, true, false, false, true, true, true, false, false, true, true, true, false, false, true, true, false, false, true, true, true, false, false, true, false, false, false, false, false, false, false, false, false, false, false] rfl wN (e_loadA rfl (by repeat constructor) ty_st88 ty_sz88 (by rfl)) rfl <| .y 51 [true, true, true, false, false, false, true, true, false, false, true, true, true, true, false, false, true, true, true, true, true, false, false, true, true, true, true, false, false, true, true, true, false, false, true, true, true, false, false, true, true, false, false, true, true, true, false, false, true, false, false, true, false, false, false, false, false, false, false, false] rfl wN (e_loadA rfl (by repeat constructor) ty_st88 ty_sz88 (by rfl)) rfl <| .o 54 [true, true, true, false, false, false, true, true, false, false, true, true, true, true, false, false, true, true, true, true, true, false, false, true, true, true, true, false, false, true, true, true, false, false, true, true, true, false, false, true, true, false, false, true, true, true, false, false, true, false, false, true, false, false, true, false, false, false, false, false] rfl wN (e_move rfl) rfl .n) ?_; clear hS a; intro a hS
 refine Z_invS (hS.slots (L' := [(26, .agg (fgV fgSet).toArray), (27, .agg (fgV fgFrom).toArray), (28, .func (.func 76) #[] #[]), (32, .agg (fgV fgSet).toArray), (33, .agg (fgV fgAt).toArray), (36, .agg (fgV fgName).toArray), (37, .agg (fgV fgCur).toArray), (38, .agg (fgV fgSet).toArray), (39, .agg (fgV fgFacts).toArray), (42, .agg (fgV fgKey).toArray), (43, .agg (fgV fgName).toArray), (44, .agg (fgV fgMeter).toArray), (45, .agg (fgV fgQty).toArray), (46, .agg (fgV fgAt).toArray), (49, .agg (fgV fgName).toArray), (50, .agg (fgV fgFrom).toArray), (51, .agg (fgV fgTo).toArray), (52, .agg (fgV fgAt).toArray), (55, .agg (fgV fgNumber).toArray), (56, .agg (fgV fgUnits).toArray), (57, .agg (fgV fgAt).toArray), (60, .agg (fgV fgNumber).toArray), (61, .agg (fgV fgUnits).toArray), (62, .agg (fgV fgAt).toArray), (65, .agg (fgV fgNumber).toArray), (66, .agg (fgV fgAt).toArray), (69, .agg (fgV fgCur).toArray), (70, .agg (fgV fgAt).toArray), (71, .agg (fgV fgNano).toArray), (74, .agg (fgV fgAt).toArray), (77, .agg (fgV fgAt).toArray), (80, .func (.func 76) #[] #[])]) (by repeat (first | exact trivial | refine ⟨rfl, ?_⟩))) (fun _ h => h) rtR rtDst (fun i => (rtK i).den w.heap.size) (fun i => den_mono _ (rtK i)) (by kernel_rfl) (by kernel_rfl) rt_inj (by kernel_rfl) (by kernel_rfl) (by decide +kernel) ?_ ?_
 · refine all_cons ?_ (all_cons ?_ (all_cons ?_ (all_cons ?_ (all_cons ?_ (all_cons ?_ (all_cons ?_ (all_cons ?_ (all_cons ?_ (all_cons ?_ (all_cons ?_ (all_cons ?_ (all_cons ?_ (all_cons ?_ (all_cons ?_ (all_cons ?_ (all_cons ?_ (all_cons ?_ (all_cons ?_ (all_cons ?_ (all_cons ?_ (all_cons ?_ (all_cons ?_ (all_cons ?_ (all_cons ?_ (all_cons ?_ (all_cons ?_ (all_cons ?_ (fun _ h => by cases h))))))))))))))))))))))))))))
   · refine ⟨⟨_, _, _, _, _, rfl, fun a1 w1 L1 hc hsup hpre hS1 => ?_⟩⟩
     exact s_callvP (cs := []) hS1 (hsup 28 _ rfl) (.cons rfl .nil) cf76 (by kernel_rfl) (textField_P _ w1) fun a2 w2 hS2 => ⟨_, hS2.chg, hS2.sl, rfl⟩
   · refine ⟨⟨_, _, _, _, _, rfl, fun a1 w1 L1 hc hsup hpre hS1 => ?_⟩⟩
     obtain ⟨v29, g29, rfl⟩ := hpre 3 (by decide) (by kernel_rfl)
     exact st_bslice hc.size (.agg (l := fgV fgSet) (hsup 26 _ rfl) rfl (.agg (l := fgV fgFrom) (hsup 27 _ rfl) rfl (.agg (l := fgV fgSource) (g29) rfl .nil))) hS1 ty_sl81 ty_sz88 ty_z88 rfl rfl rfl rfl (by kernel_rfl)
   · refine ⟨⟨_, _, _, _, _, rfl, fun a1 w1 L1 hc hsup hpre hS1 => ?_⟩⟩
     obtain ⟨_, g, b, h1, rfl, h2⟩ := hpre 4 (by decide) (by kernel_rfl)
     exact s_e hS1 (e_build ty_z83 ty_pl83 (.one rfl rfl rfl .z (.one rfl rfl rfl (.s .z) (.one g rfl rfl (.s (.s .z)) .nil)))) (by kernel_rfl) fun a2 hS2 => ⟨_, hS2.chg, hS2.sl, b, h1, rfl, h2⟩
   · refine ⟨⟨_, _, _, _, _, rfl, fun a1 w1 L1 hc hsup hpre hS1 => ?_⟩⟩
     exact st_bslice hc.size (.agg (l := fgV fgSet) (hsup 32 _ rfl) rfl (.agg (l := fgV fgAt) (hsup 33 _ rfl) rfl .nil)) hS1 ty_sl81 ty_sz88 ty_z88 rfl rfl rfl rfl (by kernel_rfl)
   · refine ⟨⟨_, _, _, _, _, rfl, fun a1 w1 L1 hc hsup hpre hS1 => ?_⟩⟩
     obtain ⟨_, g, b, h1, rfl, h2⟩ := hpre 8 (by decide) (by kernel_rfl)
     exact s_e hS1 (e_build ty_z83 ty_pl83 (.one rfl rfl rfl .z (.one rfl rfl rfl (.s .z) (.one g rfl rfl (.s (.s .z)) .nil)))) (by kernel_rfl) fun a2 hS2 => ⟨_, hS2.chg, hS2.sl, b, h1, rfl, h2⟩
   · refine ⟨⟨_, _, _, _, _, rfl, fun a1 w1 L1 hc hsup hpre hS1 => ?_⟩⟩
     exact st_bslice hc.size (.agg (l := fgV fgName) (hsup 36 _ rfl) rfl (.agg (l := fgV fgCur) (hsup 37 _ rfl) rfl (.agg (l := fgV fgSet) (hsup 38 _ rfl) rfl (.agg (l := fgV fgFacts) (hsup 39 _ rfl) rfl .nil)))) hS1 ty_sl81 ty_sz88 ty_z88 rfl rfl rfl rfl (by kernel_rfl)
   · refine ⟨⟨_, _, _, _, _, rfl, fun a1 w1 L1 hc hsup hpre hS1 => ?_⟩⟩
     obtain ⟨_, g, b, h1, rfl, h2⟩ := hpre 14 (by decide) (by kernel_rfl)
     exact s_e hS1 (e_build ty_z83 ty_pl83 (.one rfl rfl rfl .z (.one rfl rfl rfl (.s .z) (.one g rfl rfl (.s (.s .z)) .nil)))) (by kernel_rfl) fun a2 hS2 => ⟨_, hS2.chg, hS2.sl, b, h1, rfl, h2⟩
   · refine ⟨⟨_, _, _, _, _, rfl, fun a1 w1 L1 hc hsup hpre hS1 => ?_⟩⟩
     exact st_bslice hc.size (.agg (l := fgV fgKey) (hsup 42 _ rfl) rfl (.agg (l := fgV fgName) (hsup 43 _ rfl) rfl (.agg (l := fgV fgMeter) (hsup 44 _ rfl) rfl (.agg (l := fgV fgQty) (hsup 45 _ rfl) rfl (.agg (l := fgV fgAt) (hsup 46 _ rfl) rfl .nil))))) hS1 ty_sl81 ty_sz88 ty_z88 rfl rfl rfl rfl (by kernel_rfl)
   · refine ⟨⟨_, _, _, _, _, rfl, fun a1 w1 L1 hc hsup hpre hS1 => ?_⟩⟩
     obtain ⟨_, g, b, h1, rfl, h2⟩ := hpre 21 (by decide) (by kernel_rfl)
     exact s_e hS1 (e_build ty_z83 ty_pl83 (.one rfl rfl rfl .z (.one rfl rfl rfl (.s .z) (.one g rfl rfl (.s (.s .z)) .nil)))) (by kernel_rfl) fun a2 hS2 => ⟨_, hS2.chg, hS2.sl, b, h1, rfl, h2⟩
   · refine ⟨⟨_, _, _, _, _, rfl, fun a1 w1 L1 hc hsup hpre hS1 => ?_⟩⟩
     exact st_bslice hc.size (.agg (l := fgV fgName) (hsup 49 _ rfl) rfl (.agg (l := fgV fgFrom) (hsup 50 _ rfl) rfl (.agg (l := fgV fgTo) (hsup 51 _ rfl) rfl (.agg (l := fgV fgAt) (hsup 52 _ rfl) rfl .nil)))) hS1 ty_sl81 ty_sz88 ty_z88 rfl rfl rfl rfl (by kernel_rfl)
   · refine ⟨⟨_, _, _, _, _, rfl, fun a1 w1 L1 hc hsup hpre hS1 => ?_⟩⟩
     obtain ⟨_, g, b, h1, rfl, h2⟩ := hpre 27 (by decide) (by kernel_rfl)
     exact s_e hS1 (e_build ty_z83 ty_pl83 (.one rfl rfl rfl .z (.one rfl rfl rfl (.s .z) (.one g rfl rfl (.s (.s .z)) .nil)))) (by kernel_rfl) fun a2 hS2 => ⟨_, hS2.chg, hS2.sl, b, h1, rfl, h2⟩
   · refine ⟨⟨_, _, _, _, _, rfl, fun a1 w1 L1 hc hsup hpre hS1 => ?_⟩⟩
     exact st_bslice hc.size (.agg (l := fgV fgNumber) (hsup 55 _ rfl) rfl (.agg (l := fgV fgUnits) (hsup 56 _ rfl) rfl (.agg (l := fgV fgAt) (hsup 57 _ rfl) rfl .nil))) hS1 ty_sl81 ty_sz88 ty_z88 rfl rfl rfl rfl (by kernel_rfl)
   · refine ⟨⟨_, _, _, _, _, rfl, fun a1 w1 L1 hc hsup hpre hS1 => ?_⟩⟩
     obtain ⟨_, g, b, h1, rfl, h2⟩ := hpre 32 (by decide) (by kernel_rfl)
     exact s_e hS1 (e_build ty_z83 ty_pl83 (.one rfl rfl rfl .z (.one rfl rfl rfl (.s .z) (.one g rfl rfl (.s (.s .z)) .nil)))) (by kernel_rfl) fun a2 hS2 => ⟨_, hS2.chg, hS2.sl, b, h1, rfl, h2⟩
   · refine ⟨⟨_, _, _, _, _, rfl, fun a1 w1 L1 hc hsup hpre hS1 => ?_⟩⟩
     exact st_bslice hc.size (.agg (l := fgV fgNumber) (hsup 60 _ rfl) rfl (.agg (l := fgV fgUnits) (hsup 61 _ rfl) rfl (.agg (l := fgV fgAt) (hsup 62 _ rfl) rfl .nil))) hS1 ty_sl81 ty_sz88 ty_z88 rfl rfl rfl rfl (by kernel_rfl)
   · refine ⟨⟨_, _, _, _, _, rfl, fun a1 w1 L1 hc hsup hpre hS1 => ?_⟩⟩
     obtain ⟨_, g, b, h1, rfl, h2⟩ := hpre 37 (by decide) (by kernel_rfl)
     exact s_e hS1 (e_build ty_z83 ty_pl83 (.one rfl rfl rfl .z (.one rfl rfl rfl (.s .z) (.one g rfl rfl (.s (.s .z)) .nil)))) (by kernel_rfl) fun a2 hS2 => ⟨_, hS2.chg, hS2.sl, b, h1, rfl, h2⟩
   · refine ⟨⟨_, _, _, _, _, rfl, fun a1 w1 L1 hc hsup hpre hS1 => ?_⟩⟩
     exact st_bslice hc.size (.agg (l := fgV fgNumber) (hsup 65 _ rfl) rfl (.agg (l := fgV fgAt) (hsup 66 _ rfl) rfl .nil)) hS1 ty_sl81 ty_sz88 ty_z88 rfl rfl rfl rfl (by kernel_rfl)
   · refine ⟨⟨_, _, _, _, _, rfl, fun a1 w1 L1 hc hsup hpre hS1 => ?_⟩⟩
     obtain ⟨_, g, b, h1, rfl, h2⟩ := hpre 41 (by decide) (by kernel_rfl)
     exact s_e hS1 (e_build ty_z83 ty_pl83 (.one rfl rfl rfl .z (.one rfl rfl rfl (.s .z) (.one g rfl rfl (.s (.s .z)) .nil)))) (by kernel_rfl) fun a2 hS2 => ⟨_, hS2.chg, hS2.sl, b, h1, rfl, h2⟩
   · refine ⟨⟨_, _, _, _, _, rfl, fun a1 w1 L1 hc hsup hpre hS1 => ?_⟩⟩
     exact st_bslice hc.size (.agg (l := fgV fgCur) (hsup 69 _ rfl) rfl (.agg (l := fgV fgAt) (hsup 70 _ rfl) rfl (.agg (l := fgV fgNano) (hsup 71 _ rfl) rfl .nil))) hS1 ty_sl81 ty_sz88 ty_z88 rfl rfl rfl rfl (by kernel_rfl)
   · refine ⟨⟨_, _, _, _, _, rfl, fun a1 w1 L1 hc hsup hpre hS1 => ?_⟩⟩
     obtain ⟨_, g, b, h1, rfl, h2⟩ := hpre 46 (by decide) (by kernel_rfl)
     exact s_e hS1 (e_build ty_z83 ty_pl83 (.one rfl rfl rfl .z (.one rfl rfl rfl (.s .z) (.one g rfl rfl (.s (.s .z)) .nil)))) (by kernel_rfl) fun a2 hS2 => ⟨_, hS2.chg, hS2.sl, b, h1, rfl, h2⟩
   · refine ⟨⟨_, _, _, _, _, rfl, fun a1 w1 L1 hc hsup hpre hS1 => ?_⟩⟩
     exact st_bslice hc.size (.agg (l := fgV fgAt) (hsup 74 _ rfl) rfl .nil) hS1 ty_sl81 ty_sz88 ty_z88 rfl rfl rfl rfl (by kernel_rfl)
   · refine ⟨⟨_, _, _, _, _, rfl, fun a1 w1 L1 hc hsup hpre hS1 => ?_⟩⟩
     obtain ⟨_, g, b, h1, rfl, h2⟩ := hpre 49 (by decide) (by kernel_rfl)
     exact s_e hS1 (e_build ty_z83 ty_pl83 (.one rfl rfl rfl .z (.one rfl rfl rfl (.s .z) (.one g rfl rfl (.s (.s .z)) .nil)))) (by kernel_rfl) fun a2 hS2 => ⟨_, hS2.chg, hS2.sl, b, h1, rfl, h2⟩
   · refine ⟨⟨_, _, _, _, _, rfl, fun a1 w1 L1 hc hsup hpre hS1 => ?_⟩⟩
     exact st_bslice hc.size (.agg (l := fgV fgAt) (hsup 77 _ rfl) rfl .nil) hS1 ty_sl81 ty_sz88 ty_z88 rfl rfl rfl rfl (by kernel_rfl)
   · refine ⟨⟨_, _, _, _, _, rfl, fun a1 w1 L1 hc hsup hpre hS1 => ?_⟩⟩
     obtain ⟨_, g, b, h1, rfl, h2⟩ := hpre 52 (by decide) (by kernel_rfl)
     exact s_e hS1 (e_build ty_z83 ty_pl83 (.one rfl rfl rfl .z (.one rfl rfl rfl (.s .z) (.one g rfl rfl (.s (.s .z)) .nil)))) (by kernel_rfl) fun a2 hS2 => ⟨_, hS2.chg, hS2.sl, b, h1, rfl, h2⟩
   · refine ⟨⟨_, _, _, _, _, rfl, fun a1 w1 L1 hc hsup hpre hS1 => ?_⟩⟩
     exact s_callvP (cs := []) hS1 (hsup 80 _ rfl) (.cons rfl .nil) cf76 (by kernel_rfl) (textField_P _ w1) fun a2 w2 hS2 => ⟨_, hS2.chg, hS2.sl, rfl⟩
   · refine ⟨⟨_, _, _, _, _, rfl, fun a1 w1 L1 hc hsup hpre hS1 => ?_⟩⟩
     obtain ⟨v81, g81, rfl⟩ := hpre 55 (by decide) (by kernel_rfl)
     exact st_bslice hc.size (.agg (l := fgV fgText) (g81) rfl .nil) hS1 ty_sl81 ty_sz88 ty_z88 rfl rfl rfl rfl (by kernel_rfl)
   · refine ⟨⟨_, _, _, _, _, rfl, fun a1 w1 L1 hc hsup hpre hS1 => ?_⟩⟩
     obtain ⟨_, g, b, h1, rfl, h2⟩ := hpre 56 (by decide) (by kernel_rfl)
     exact s_e hS1 (e_build ty_z83 ty_pl83 (.one rfl rfl rfl .z (.one rfl rfl rfl (.s .z) (.one g rfl rfl (.s (.s .z)) .nil)))) (by kernel_rfl) fun a2 hS2 => ⟨_, hS2.chg, hS2.sl, b, h1, rfl, h2⟩
   · refine ⟨⟨_, _, _, _, _, rfl, fun a1 w1 L1 hc hsup hpre hS1 => ?_⟩⟩
     obtain ⟨_, g0, c0, m0, rfl, k0⟩ := hpre 5 (by decide) (by kernel_rfl)
     obtain ⟨_, g1, c1, m1, rfl, k1⟩ := hpre 9 (by decide) (by kernel_rfl)
     obtain ⟨_, g2, c2, m2, rfl, k2⟩ := hpre 15 (by decide) (by kernel_rfl)
     obtain ⟨_, g3, c3, m3, rfl, k3⟩ := hpre 22 (by decide) (by kernel_rfl)
     obtain ⟨_, g4, c4, m4, rfl, k4⟩ := hpre 28 (by decide) (by kernel_rfl)
     obtain ⟨_, g5, c5, m5, rfl, k5⟩ := hpre 33 (by decide) (by kernel_rfl)
     obtain ⟨_, g6, c6, m6, rfl, k6⟩ := hpre 38 (by decide) (by kernel_rfl)
     obtain ⟨_, g7, c7, m7, rfl, k7⟩ := hpre 42 (by decide) (by kernel_rfl)
     obtain ⟨_, g8, c8, m8, rfl, k8⟩ := hpre 47 (by decide) (by kernel_rfl)
     obtain ⟨_, g9, c9, m9, rfl, k9⟩ := hpre 50 (by decide) (by kernel_rfl)
     obtain ⟨_, g10, c10, m10, rfl, k10⟩ := hpre 53 (by decide) (by kernel_rfl)
     obtain ⟨_, g11, c11, m11, rfl, k11⟩ := hpre 57 (by decide) (by kernel_rfl)
     refine s_bslice hS1 ty_sl78 ty_sz83 ty_z83 rfl rfl rfl rfl (.agg g0 rfl (.agg g1 rfl (.agg g2 rfl (.agg g3 rfl (.agg g4 rfl (.agg g5 rfl (.agg g6 rfl (.agg g7 rfl (.agg g8 rfl (.agg g9 rfl (.agg g10 rfl (.agg g11 rfl .nil)))))))))))) (by kernel_rfl) ?_
     intro a2 w2 b hS2
     have hc2 := hS2.chg
     exact ⟨_, hc2, hS2.sl, b, fun k => [c0, c1, c2, c3, c4, c5, c6, c7, c8, c9, c10, c11].getD k 0, rfl, Nat.le_trans hc.size ((hS2.mine _ (.head _) rfl b rfl).resolve_right id), hS2.get (.head _), rt_all ⟨m0, heap_keep hc2 k0⟩ ⟨m1, heap_keep hc2 k1⟩ ⟨m2, heap_keep hc2 k2⟩ ⟨m3, heap_keep hc2 k3⟩ ⟨m4, heap_keep hc2 k4⟩ ⟨m5, heap_keep hc2 k5⟩ ⟨m6, heap_keep hc2 k6⟩ ⟨m7, heap_keep hc2 k7⟩ ⟨m8, heap_keep hc2 k8⟩ ⟨m9, heap_keep hc2 k9⟩ ⟨m10, heap_keep hc2 k10⟩ ⟨m11, heap_keep hc2 k11⟩⟩
   · refine ⟨⟨_, _, _, _, _, rfl, fun a1 w1 L1 hc hsup hpre hS1 => ?_⟩⟩
     obtain ⟨v, g, b, f, rfl, h⟩ := hpre 58 (by decide) (by kernel_rfl)
     exact s_e hS1 (e_assign g) (by kernel_rfl) fun a2 hS2 => ⟨_, hS2.chg, hS2.sl, b, f, rfl, h⟩
 intro a1 w1 L1 hc hsup hsl hall
 obtain ⟨_, g, b, f, rfl, h⟩ := hall 59 (by decide)
 have hS2 : St _ noB w0 a1 w1 [(0, .slice (some ⟨b, 0, none⟩) 12 12)] [] := ⟨hsl.sub ⟨g, trivial⟩, hS.chg.ext hc, (fun X hX => by cases hX), .nil, (fun X hX => by cases hX)⟩
 have hlo : RtsAt w0.heap.size b f w1 := ⟨Nat.le_trans hS.chg.size h.hb, h.c, fun k x hx => ⟨Nat.le_trans hS.chg.size (h.r k x hx).1, (h.r k x hx).2⟩⟩
 clear hS
 have hS := hS2
 refine nT (wp_ret ?_)
 refine c_ret1 hS Tryz.results26 (.tmp rfl) ?_
 exact ⟨(w1.heap.size, b, f), rfl, hS.chg, rts_ok hlo, fun k hk => hk.1⟩
def fcV (x : Fct) : List Value := if x.ty = 1 then fourJ 3 (tx (Lib.itoa x.n)) none 0 0 none 0 0 else if x.ty = 2 then [.int .i64 (IntKind.i64.wrap (1 + x.n)), .string ⟨#[]⟩, .slice none 0 0, .slice none 0 0] else fourJ 4 (tx x.s) none 0 0 none 0 0
theorem fc_some {x : Fct} {y : JV} (h : factJ x = some y) : fcV x = fourJ (y.k : Int) (tx y.t) none 0 0 none 0 0 ∧ y.ns = [] ∧ y.l = [] := by
 unfold factJ at h
 unfold fcV
 split at h
 · rename_i h1
   split at h
   · cases h; rw [if_pos h1]; exact ⟨rfl, rfl, rfl⟩
   · cases h
 · rename_i h1
   rw [if_neg h1]
   split at h
   · rename_i h2
     rw [if_pos h2]
     split at h
     · rename_i h3
       cases h
       refine ⟨?_, rfl, rfl⟩
       rcases h3.2 with h4 | h4 <;> rw [h4] <;> rfl
     · cases h
   · rename_i h2
     rw [if_neg h2]
     split at h
     · cases h; exact ⟨rfl, rfl, rfl⟩
     · cases h
set_option maxRecDepth 100000 in
theorem fFactValue_P (W0 : World) (hG : Gj W0) (x : Fct) (h0 : -9223372036854775808 ≤ x.n) (h1 : x.n ≤ 9223372036854775807) (w0 : World) (ho : oldφ W0 w0) : PureC Tryz.prog 88 [.agg [.string (tx x.nm), .int .i64 x.ty, .int .i64 x.n, .string (tx x.s)].toArray] w0 (.tuple [.agg (fcV x).toArray, .bool (factJ x).isSome].toArray) := by
 refine c_enter [(0, .agg [.string (tx x.nm), .int .i64 x.ty, .int .i64 x.n, .string (tx x.s)].toArray)] [oldA W0] noB Tryz.func88 rfl Tryz.ntmps88 ⟨rfl, trivial⟩ rfl (okC (old_ok ho) okN) dis1 (mineC rfl mineN) ?_
 intro a hS
 refine cS (cR ?_)
 refine L_op (s_boxA hS rfl rfl ?_); clear hS a; intro a w b1 hS
 refine L_op (s_alloc hS ty_z37 rfl ?_); clear hS a; intro a w b2 hS
 refine L_e hS (e_assign rfl) rfl ?_; clear hS a; intro a hS
 refine nL (nT (cS (cS (cR ?_))))
 (first | refine L_e hS (e_fa0 rfl ty_fo160_1) rfl ?_ | refine L_e hS (e_faK rfl ty_fo160_1) rfl ?_); clear hS a; intro a hS
 refine L_e hS (e_load rfl (by repeat constructor) ty_sc3 (by rfl)) rfl ?_; clear hS a; intro a hS
 refine nL (nT (wB (cS (cR ?_))))
 refine Rn hS (.c (e_bin rfl rfl rfl) <| .a rfl .n) ?_; clear hS a; intro a hS
 refine nL (nT ?_)
 (first | refine c_ifD hS rfl ?_ ?_ | refine c_if hS rfl ?_ ?_) <;> intro hc6
 ·
  refine cS ?_
  refine c_drawS [] (by kernel_rfl) hS (sub_cons (X := .blk b1 [.string (tx x.nm), .int .i64 x.ty, .int .i64 x.n, .string (tx x.s)] 160) (by repeat constructor) sub_nil) ?_; clear hS; intro w hS
  simp only [List.length_cons, List.length_nil, Nat.zero_add, Nat.reduceAdd, List.replicate]
  (first | refine Zt0 0 (tf 1 7) hS rfl want_none (e_fa0 rfl ty_fo160_2) rfl (by kernel_rfl) rfl ?_ | refine Zt0 0 (tf 1 7) hS rfl want_none (e_faK rfl ty_fo160_2) rfl (by kernel_rfl) rfl ?_); clear hS a; intro a hS
  refine Zt 1 (tf 2 6) hS rfl want_none (e_load rfl (by repeat constructor) ty_sc3 (by rfl)) rfl (by kernel_rfl) (sub_cons (by repeat constructor) sub_nil) rfl ?_; clear hS a; intro a hS
  (first | refine Zt0 3 [true, true, false, true, false, false, false, false] hS rfl want_none (e_fa0 rfl ty_fo160_3) rfl (by kernel_rfl) rfl ?_ | refine Zt0 3 [true, true, false, true, false, false, false, false] hS rfl want_none (e_faK rfl ty_fo160_3) rfl (by kernel_rfl) rfl ?_); clear hS a; intro a hS
  refine Rz hS (sub_cons (by repeat constructor) sub_nil) (.y 4 [true, true, false, true, true, false, false, false] rfl wN (e_load rfl (by repeat constructor) ty_sc9 (by rfl)) rfl <| .o 5 [true, true, false, true, true, true, false, false] rfl wN (e_binS rfl rfl rfl) rfl .n) ?_; clear hS a; intro a hS
  refine Zo 2 (tf 6 2) hS rfl wN rfl (s_callP hS (.cons rfl .nil) cf87 rfl (jOfInt_P W0 hG x.n h0 h1 _ (hS.gg (X := oldA W0))) ?_); clear hS a; intro a w hS
  refine Z_and hS (sub_cons (by repeat constructor) sub_nil) ?_
  refine Zo 6 (tf 7 1) hS rfl wN rfl (s_storeA hS rfl rfl ty_sz37 (by repeat constructor) (by rfl) (by rfl) (by rfl) ?_); clear hS; intro w hS
  refine Z_and hS (sub_cons (by repeat constructor) sub_nil) ?_
  refine Zt0 7 (tf 8 0) hS rfl want_none (e_assign rfl) rfl (by kernel_rfl) rfl ?_; clear hS a; intro a hS
  refine Z_done (by kernel_rfl) ?_
  refine nT (wp_ret ?_)
  refine r_block (r_then ?_)
  refine c_retN hS Tryz.results88 (.cons (.cellA rfl (by repeat constructor) ty_st37 ty_sz37 (by rfl)) (.cons (.tmp rfl) .nil)) rfl ?_
  have e1 : fcV x = fourJ 3 (tx (Lib.itoa x.n)) none 0 0 none 0 0 := if_pos hc6
  have e2 : (factJ x).isSome = decide (tx x.s = ⟨#[]⟩) := by
   unfold factJ; rw [if_pos hc6]
   by_cases h : x.s = []
   · rw [if_pos h, decide_eq_true (tx_nil.2 h)]; rfl
   · rw [if_neg h, decide_eq_false (fun e => h (tx_nil.1 e))]; rfl
  exact ⟨by rw [e1, e2], hS.chg⟩
 refine cS (cR ?_)
 refine Rn hS (.c (e_bin rfl rfl rfl) <| .a rfl .n) ?_; clear hS a; intro a hS
 refine nL (nT ?_)
 (first | refine c_ifD hS rfl ?_ ?_ | refine c_if hS rfl ?_ ?_) <;> intro hc14
 ·
  refine cS ?_
  refine c_drawS [] (by kernel_rfl) hS (sub_cons (X := .blk b1 [.string (tx x.nm), .int .i64 x.ty, .int .i64 x.n, .string (tx x.s)] 160) (by repeat constructor) sub_nil) ?_; clear hS; intro w hS
  simp only [List.length_cons, List.length_nil, Nat.zero_add, Nat.reduceAdd, List.replicate]
  (first | refine Zt0 0 (tf 1 18) hS rfl want_none (e_fa0 rfl ty_fo160_2) rfl (by kernel_rfl) rfl ?_ | refine Zt0 0 (tf 1 18) hS rfl want_none (e_faK rfl ty_fo160_2) rfl (by kernel_rfl) rfl ?_); clear hS a; intro a hS
  refine Zt 1 (tf 2 17) hS rfl want_none (e_load rfl (by repeat constructor) ty_sc3 (by rfl)) rfl (by kernel_rfl) (sub_cons (by repeat constructor) sub_nil) rfl ?_; clear hS a; intro a hS
  (first | refine Zt0 2 (tf 3 16) hS rfl want_none (e_binN rfl rfl rfl (by omega)) rfl (by kernel_rfl) rfl ?_ | refine Zt0 2 (tf 3 16) hS rfl want_none (e_bin rfl rfl rfl) rfl (by kernel_rfl) rfl ?_); clear hS a; intro a hS
  refine Zt0 3 (tf 4 15) hS rfl want_none (e_build ty_z37 ty_pl37 (.one rfl rfl rfl (by repeat constructor) .nil)) rfl (by kernel_rfl) rfl ?_; clear hS a; intro a hS
  (first | refine Zt0 4 (tf 5 14) hS rfl want_none (e_fa0 rfl ty_fo160_3) rfl (by kernel_rfl) rfl ?_ | refine Zt0 4 (tf 5 14) hS rfl want_none (e_faK rfl ty_fo160_3) rfl (by kernel_rfl) rfl ?_); clear hS a; intro a hS
  refine Rz hS (sub_cons (by repeat constructor) sub_nil) (.y 5 (tf 6 13) rfl wN (e_load rfl (by repeat constructor) ty_sc9 (by rfl)) rfl <| .o 6 (tf 7 12) rfl wN (e_binS rfl rfl rfl) rfl <| .o 7 (tf 8 11) rfl wN (e_move rfl) rfl .n) ?_; clear hS a; intro a hS
  refine Z_merge 2 (tf 17 2) 32 (.bool (decide (x.s = [] ∧ (x.n = 0 ∨ x.n = 1)))) hS ?_ ?_
  · intro hcM32
    (first | refine g_splitD (t := 23) hS rfl ?_ ?_ | refine g_split (t := 23) hS rfl ?_ ?_) <;> (clear hS; intro hg23 hS)
    ·
     (first | refine Zt0 8 (tf 9 10) hS rfl (want_go rfl rfl) (e_fa0 rfl ty_fo160_2) rfl (by kernel_rfl) rfl ?_ | refine Zt0 8 (tf 9 10) hS rfl (want_go rfl rfl) (e_faK rfl ty_fo160_2) rfl (by kernel_rfl) rfl ?_); clear hS a; intro a hS
     refine Rz hS (sub_cons (by repeat constructor) sub_nil) (.y 9 (tf 10 9) rfl (want_go rfl rfl) (e_load rfl (by repeat constructor) ty_sc3 (by rfl)) rfl <| .o 10 (tf 11 8) rfl (want_go rfl rfl) (e_bin rfl rfl rfl) rfl <| .o 11 (tf 12 7) rfl (want_go rfl rfl) (e_move rfl) rfl .n) ?_; clear hS a; intro a hS
     refine Z_merge 3 (tf 16 3) 31 (.bool (decide (x.n = 0 ∨ x.n = 1))) hS ?_ ?_
     · intro hcM31
       (first | refine g_splitD (t := 27) hS rfl ?_ ?_ | refine g_split (t := 27) hS rfl ?_ ?_) <;> (clear hS; intro hg27 hS)
       ·
        refine Ry hS (.f 12 (tf 13 6) rfl rfl rfl rfl <| .f 13 (tf 14 5) rfl rfl rfl rfl <| .f 14 (tf 15 4) rfl rfl rfl rfl <| .o 15 (tf 16 3) rfl (want_go rfl rfl) (e_pk rfl rfl) rfl .n) ?_; clear hS a; intro a hS
        exact hcM31 _ _ (hS.ends 5 31 27 rfl (congrArg Value.bool (by exact (decide_eq_true (.inl hg27)).symm)) rfl rfl (by first | exact congrArg Value.bool (decide_eq_true hg27).symm | exact congrArg Value.bool hg27.symm | simp [hg27]) rfl)
       (first | refine Zt0 12 (tf 13 6) hS rfl (want_go rfl rfl) (e_fa0 rfl ty_fo160_2) rfl (by kernel_rfl) rfl ?_ | refine Zt0 12 (tf 13 6) hS rfl (want_go rfl rfl) (e_faK rfl ty_fo160_2) rfl (by kernel_rfl) rfl ?_); clear hS a; intro a hS
       refine Rz hS (sub_cons (by repeat constructor) sub_nil) (.y 13 (tf 14 5) rfl (want_go rfl rfl) (e_load rfl (by repeat constructor) ty_sc3 (by rfl)) rfl <| .o 14 (tf 15 4) rfl (want_go rfl rfl) (e_bin rfl rfl rfl) rfl <| .o 15 (tf 16 3) rfl (want_go rfl rfl) (e_pk rfl rfl) rfl .n) ?_; clear hS a; intro a hS
       exact hcM31 _ _ (hS.ends 5 31 27 rfl (congrArg Value.bool (by exact decide_eq_decide.2 ⟨.inr, fun h => h.resolve_left hg27⟩)) rfl rfl (by first | exact congrArg Value.bool (decide_eq_false hg27).symm | exact congrArg Value.bool hg27.symm | simp [hg27]) rfl)
     · clear hS a; intro a w hS
       refine Zt0 16 (tf 17 2) hS rfl want_none (e_pk rfl rfl) rfl (by kernel_rfl) rfl ?_; clear hS a; intro a hS
       exact hcM32 _ _ (hS.ends 7 32 23 rfl (congrArg Value.bool (by exact decide_eq_decide.2 ⟨fun h => ⟨tx_nil.1 hg23, h⟩, fun h => h.2⟩)) rfl rfl (by first | exact congrArg Value.bool (decide_eq_true hg23).symm | exact congrArg Value.bool hg23.symm | simp [hg23]) rfl)
    refine Ry hS (.t 8 (tf 9 10) rfl rfl rfl rfl <| .t 9 (tf 10 9) rfl rfl rfl rfl <| .t 10 (tf 11 8) rfl rfl rfl rfl <| .t 11 (tf 12 7) rfl rfl rfl rfl <| .u 12 (tf 13 6) rfl rfl rfl rfl <| .u 13 (tf 14 5) rfl rfl rfl rfl <| .u 14 (tf 15 4) rfl rfl rfl rfl <| .t 15 (tf 16 3) rfl rfl rfl rfl <| .o 16 (tf 17 2) rfl wN (e_pk rfl rfl) rfl .n) ?_; clear hS a; intro a hS
    exact hcM32 _ _ (hS.ends 10 32 23 rfl (congrArg Value.bool (by exact (decide_eq_false (fun h => hg23 (tx_nil.2 h.1))).symm)) rfl rfl (by first | exact congrArg Value.bool (decide_eq_false hg23).symm | exact congrArg Value.bool hg23.symm | simp [hg23]) rfl)
  · clear hS a; intro a w hS
    refine Zo 17 (tf 18 1) hS rfl wN rfl (s_storeA hS rfl rfl ty_sz37 (by repeat constructor) (by rfl) (by rfl) (by rfl) ?_); clear hS; intro w hS
    refine Z_and hS (sub_cons (by repeat constructor) sub_nil) ?_
    refine Zt0 18 (tf 19 0) hS rfl want_none (e_assign rfl) rfl (by kernel_rfl) rfl ?_; clear hS a; intro a hS
    refine Z_done (by kernel_rfl) ?_
    refine nT (wp_ret ?_)
    refine r_block (r_then ?_)
    refine c_retN hS Tryz.results88 (.cons (.cellA rfl (by repeat constructor) ty_st37 ty_sz37 (by rfl)) (.cons (.tmp rfl) .nil)) rfl ?_
    have e1 : fcV x = [.int .i64 (IntKind.i64.wrap (1 + x.n)), .string ⟨#[]⟩, .slice none 0 0, .slice none 0 0] := by unfold fcV; rw [if_neg hc6, if_pos hc14]
    have e2 : (factJ x).isSome = decide (x.s = [] ∧ (x.n = 0 ∨ x.n = 1)) := by
     unfold factJ; rw [if_neg hc6, if_pos hc14]
     by_cases h : x.s = [] ∧ (x.n = 0 ∨ x.n = 1)
     · rw [if_pos h, decide_eq_true h]; rfl
     · rw [if_neg h, decide_eq_false h]; rfl
    exact ⟨by rw [e1, e2], hS.chg⟩
 refine wS (n_block (nT (cS ?_)))
 refine c_drawS [] (by kernel_rfl) hS (sub_cons (X := .blk b1 [.string (tx x.nm), .int .i64 x.ty, .int .i64 x.n, .string (tx x.s)] 160) (by repeat constructor) sub_nil) ?_; clear hS; intro w hS
 simp only [List.length_cons, List.length_nil, Nat.zero_add, Nat.reduceAdd, List.replicate]
 (first | refine Zt0 0 (tf 1 12) hS rfl want_none (e_fa0 rfl ty_fo160_3) rfl (by kernel_rfl) rfl ?_ | refine Zt0 0 (tf 1 12) hS rfl want_none (e_faK rfl ty_fo160_3) rfl (by kernel_rfl) rfl ?_); clear hS a; intro a hS
 refine Zt 1 (tf 2 11) hS rfl want_none (e_load rfl (by repeat constructor) ty_sc9 (by rfl)) rfl (by kernel_rfl) (sub_cons (by repeat constructor) sub_nil) rfl ?_; clear hS a; intro a hS
 (first | refine Zt0 3 [true, true, false, true, false, false, false, false, false, false, false, false, false] hS rfl want_none (e_fa0 rfl ty_fo160_1) rfl (by kernel_rfl) rfl ?_ | refine Zt0 3 [true, true, false, true, false, false, false, false, false, false, false, false, false] hS rfl want_none (e_faK rfl ty_fo160_1) rfl (by kernel_rfl) rfl ?_); clear hS a; intro a hS
 refine Rz hS (sub_cons (by repeat constructor) sub_nil) (.y 4 [true, true, false, true, true, false, false, false, false, false, false, false, false] rfl wN (e_load rfl (by repeat constructor) ty_sc3 (by rfl)) rfl <| .o 5 [true, true, false, true, true, true, false, false, false, false, false, false, false] rfl wN (e_bin rfl rfl rfl) rfl .n) ?_; clear hS a; intro a hS
 refine Zo 2 (tf 6 7) hS rfl wN rfl (s_callP hS (.cons rfl .nil) cf85 rfl (jOfText_P (tx x.s) _) ?_); clear hS a; intro a w hS
 refine Z_and hS (sub_cons (by repeat constructor) sub_nil) ?_
 refine Zt0 6 (tf 7 6) hS rfl want_none (e_move rfl) rfl (by kernel_rfl) rfl ?_; clear hS a; intro a hS
 refine Z_merge 2 (tf 11 2) 43 (.bool (decide (x.ty = 3 ∧ x.n = 0))) hS ?_ ?_
 · intro hcM43
   (first | refine g_splitD (t := 39) hS rfl ?_ ?_ | refine g_split (t := 39) hS rfl ?_ ?_) <;> (clear hS; intro hg39 hS)
   ·
    (first | refine Zt0 7 (tf 8 5) hS rfl (want_go rfl rfl) (e_fa0 rfl ty_fo160_2) rfl (by kernel_rfl) rfl ?_ | refine Zt0 7 (tf 8 5) hS rfl (want_go rfl rfl) (e_faK rfl ty_fo160_2) rfl (by kernel_rfl) rfl ?_); clear hS a; intro a hS
    refine Rz hS (sub_cons (by repeat constructor) sub_nil) (.y 8 (tf 9 4) rfl (want_go rfl rfl) (e_load rfl (by repeat constructor) ty_sc3 (by rfl)) rfl <| .o 9 (tf 10 3) rfl (want_go rfl rfl) (e_bin rfl rfl rfl) rfl <| .o 10 (tf 11 2) rfl wN (e_pk rfl rfl) rfl .n) ?_; clear hS a; intro a hS
    exact hcM43 _ _ (hS.ends 5 43 39 rfl (congrArg Value.bool (by exact decide_eq_decide.2 ⟨fun h => ⟨hg39, h⟩, fun h => h.2⟩)) rfl rfl (by first | exact congrArg Value.bool (decide_eq_true hg39).symm | exact congrArg Value.bool hg39.symm | simp [hg39]) rfl)
   refine Ry hS (.t 7 (tf 8 5) rfl rfl rfl rfl <| .t 8 (tf 9 4) rfl rfl rfl rfl <| .t 9 (tf 10 3) rfl rfl rfl rfl <| .o 10 (tf 11 2) rfl wN (e_pk rfl rfl) rfl .n) ?_; clear hS a; intro a hS
   exact hcM43 _ _ (hS.ends 5 43 39 rfl (congrArg Value.bool (by exact (decide_eq_false (fun h => hg39 h.1)).symm)) rfl rfl (by first | exact congrArg Value.bool (decide_eq_false hg39).symm | exact congrArg Value.bool hg39.symm | simp [hg39]) rfl)
 · clear hS a; intro a w hS
   refine Zo 11 (tf 12 1) hS rfl wN rfl (s_storeA hS rfl rfl ty_sz37 (by repeat constructor) (by rfl) (by rfl) (by rfl) ?_); clear hS; intro w hS
   refine Z_and hS (sub_cons (by repeat constructor) sub_nil) ?_
   refine Zt0 12 (tf 13 0) hS rfl want_none (e_assign rfl) rfl (by kernel_rfl) rfl ?_; clear hS a; intro a hS
   refine Z_done (by kernel_rfl) ?_
   refine nT (wp_ret ?_)
   refine c_retN hS Tryz.results88 (.cons (.cellA rfl (by repeat constructor) ty_st37 ty_sz37 (by rfl)) (.cons (.tmp rfl) .nil)) rfl ?_
   have e1 : fcV x = fourJ 4 (tx x.s) none 0 0 none 0 0 := by unfold fcV; rw [if_neg hc6, if_neg hc14]
   have e2 : (factJ x).isSome = decide (x.ty = 3 ∧ x.n = 0) := by
    unfold factJ; rw [if_neg hc6, if_neg hc14]
    by_cases h : x.ty = 3 ∧ x.n = 0
    · rw [if_pos h, decide_eq_true h]; rfl
    · rw [if_neg h, decide_eq_false h]; rfl
   exact ⟨by rw [e1, e2], hS.chg⟩
set_option maxRecDepth 100000 in
theorem fValue0_M (W0 : World) (hG : Gj W0) (g off : Nat) (hp : PlaceF g off) (ho : 1 ≤ off ∧ off ≤ 6) (nm : List UInt8) (c : Cd) (fv : Value) (hct : (c.t off).length ≤ 10000000) (cb : Nat) (hcb : W0.heap.size ≤ cb) (w0 : World) (hold : oldφ W0 w0) (h : (Asn.blk cb (cellsC c fv) 24).ok w0) :
 MutC Tryz.prog 29 [.agg [.string (tx nm), .func (.func g) #[] #[], .nilFunc].toArray, .pointer (some ⟨cb, 0, none⟩)] w0 (.blk cb (cellsC c fv) 24) (fun _ : Unit => .tuple [.agg (fourJ 4 (tx (c.t off)) none 0 0 none 0 0).toArray, .bool (Lib.validD (c.t off))].toArray) (fun _ => .blk cb (cellsC (c.putT off []) fv) 24) := by
 refine c_enter [(0, .agg [.string (tx nm), .func (.func g) #[] #[], .nilFunc].toArray), (1, .pointer (some ⟨cb, 0, none⟩))] [.blk cb (cellsC c fv) 24, oldA W0] (fun k => k = cb) Tryz.func29 rfl Tryz.ntmps29 ⟨rfl, rfl, trivial⟩ rfl (okC h (okC (old_ok hold) okN)) (disC (sepC (fun k h1 h2 => by have h1 : k = cb := h1; have h2 : k < W0.heap.size := h2; omega) sepN) dis1) (mineO (fun _ hb => hb) (mineC rfl mineN)) ?_
 intro a hS
 refine cS (cR ?_)
 refine L_op (s_boxA hS rfl rfl ?_); clear hS a; intro a w b2 hS
 refine L_op (s_alloc hS ty_z37 rfl ?_); clear hS a; intro a w b4 hS
 refine L_e hS (e_assign rfl) rfl ?_; clear hS a; intro a hS
 refine nL (nT (cS (wB (cS (cR ?_)))))
 (first | refine L_e hS (e_fa0 rfl ty_fo88_1) rfl ?_ | refine L_e hS (e_faK rfl ty_fo88_1) rfl ?_); clear hS a; intro a hS
 refine Rn hS (.c (e_load rfl (by repeat constructor) ty_sc85 (by rfl)) <| .c (e_fnNe (c := true) rfl (by kernel_rfl) (.inr ⟨⟨_, _, _, rfl⟩, rfl⟩)) <| .a rfl .n) ?_; clear hS a; intro a hS
 refine nL (nT ?_)
 replace hS := hS.is (t := 13) (c := true) rfl (rfl)
 refine c_if_t hS rfl ?_
 refine cS (cR ?_)
 (first | refine L_e hS (e_fa0 rfl ty_fo88_1) rfl ?_ | refine L_e hS (e_faK rfl ty_fo88_1) rfl ?_); clear hS a; intro a hS
 refine Rn hS (.c (e_load rfl (by repeat constructor) ty_sc85 (by rfl)) <| .m rfl .n) ?_; clear hS a; intro a hS
 refine L_op (s_callvP (cs := []) hS rfl (.cons rfl .nil) hp.c rfl (hp.p cb _) ?_); clear hS a; intro a w hS
 refine Rn hS (.c (e_nilCheck rfl) <| .c (e_loadC rfl ty_sc9 (fun w hh => cell_of_blk (cs := cellsC c fv) (hh (.blk cb (cellsC c fv) 24) (by repeat constructor)) (cells_t c fv ho))) .n) ?_; clear hS a; intro a hS
 refine L_op (s_callP hS (.cons rfl .nil) cf85 rfl (jOfText_P (tx (c.t off)) _) ?_); clear hS a; intro a w hS
 refine L_op (s_alloc hS ty_z37 rfl ?_); clear hS a; intro a w b6 hS
 refine L_op (s_storeA hS rfl rfl ty_sz37 (by repeat constructor) (by rfl) (by rfl) (by rfl) ?_); clear hS; intro w hS
 refine nL (nT (cS (cR ?_)))
 (first | refine L_e hS (e_fa0 rfl ty_fo88_1) rfl ?_ | refine L_e hS (e_faK rfl ty_fo88_1) rfl ?_); clear hS a; intro a hS
 refine Rn hS (.c (e_load rfl (by repeat constructor) ty_sc85 (by rfl)) <| .m rfl .n) ?_; clear hS a; intro a hS
 refine L_op (s_callvP (cs := []) hS rfl (.cons rfl .nil) hp.c rfl (hp.p cb _) ?_); clear hS a; intro a w hS
 refine L_e hS (e_nilCheck rfl) rfl ?_; clear hS a; intro a hS
 refine L_op (s_store hS rfl rfl rfl ty_sz9 (by repeat constructor) (upd_putT c fv [] ho) ?_); clear hS; intro w hS
 refine nL (nT (cS ?_))
 refine c_drawS [] (by kernel_rfl) hS (sub_cons (X := .blk b6 (fourJ 4 (tx (c.t off)) none 0 0 none 0 0) 37) (by repeat constructor) (sub_cons (X := oldA W0) (by repeat constructor) sub_nil)) ?_; clear hS; intro w hS
 simp only [List.length_cons, List.length_nil, Nat.zero_add, Nat.reduceAdd, List.replicate]
 refine Zt 0 (tf 1 5) hS rfl want_none (e_loadA rfl (by repeat constructor) ty_st37 ty_sz37 (by rfl)) rfl (by kernel_rfl) (sub_cons (by repeat constructor) (sub_cons (by repeat constructor) sub_nil)) rfl ?_; clear hS a; intro a hS
 (first | refine Zt0 1 (tf 2 4) hS rfl want_none (e_fa0 rfl ty_fo37_1) rfl (by kernel_rfl) rfl ?_ | refine Zt0 1 (tf 2 4) hS rfl want_none (e_faK rfl ty_fo37_1) rfl (by kernel_rfl) rfl ?_); clear hS a; intro a hS
 refine Zt 2 (tf 3 3) hS rfl want_none (e_load rfl (by repeat constructor) ty_sc9 (by rfl)) rfl (by kernel_rfl) (sub_cons (by repeat constructor) (sub_cons (by repeat constructor) sub_nil)) rfl ?_; clear hS a; intro a hS
 refine Zo 3 (tf 4 2) hS rfl wN rfl (s_callP hS (.cons rfl .nil) cf86 rfl (validS_P W0 hG.u8 (c.t off) hct _ (hS.gg (X := oldA W0))) ?_); clear hS a; intro a w hS
 refine Z_and hS (sub_cons (by repeat constructor) (sub_cons (by repeat constructor) sub_nil)) ?_
 refine Zo 4 (tf 5 1) hS rfl wN rfl (s_storeA hS rfl rfl ty_sz37 (by repeat constructor) (by rfl) (by rfl) (by rfl) ?_); clear hS; intro w hS
 refine Z_and hS (sub_cons (by repeat constructor) (sub_cons (by repeat constructor) sub_nil)) ?_
 refine Zt0 5 (tf 6 0) hS rfl want_none (e_assign rfl) rfl (by kernel_rfl) rfl ?_; clear hS a; intro a hS
 refine Z_done (by kernel_rfl) ?_
 refine nT (wp_ret ?_)
 refine r_block (r_then ?_)
 refine c_retN hS Tryz.results29 (.cons (.cellA rfl (by repeat constructor) ty_st37 ty_sz37 (by rfl)) (.cons (.tmp rfl) .nil)) rfl ?_
 exact ⟨(), rfl, hS.chg, hS.ok (.blk cb (cellsC (c.putT off []) fv) 24) (by repeat constructor), fun b hb => .inl hb⟩
set_option maxRecDepth 100000 in
theorem fValue1_M (W0 : World) (hG : Gj W0) (g off : Nat) (hp : PlaceF g off) (ho : 7 ≤ off ∧ off ≤ 13) (nm : List UInt8) (c : Cd) (fv : Value) (h0 : -9223372036854775808 ≤ c.n off) (h1 : c.n off ≤ 9223372036854775807) (cb : Nat) (hcb : W0.heap.size ≤ cb) (w0 : World) (hold : oldφ W0 w0) (h : (Asn.blk cb (cellsC c fv) 24).ok w0) :
 MutC Tryz.prog 29 [.agg [.string (tx nm), .nilFunc, .func (.func g) #[] #[]].toArray, .pointer (some ⟨cb, 0, none⟩)] w0 (.blk cb (cellsC c fv) 24) (fun _ : Unit => .tuple [.agg (fourJ 3 (tx (Lib.itoa (c.n off))) none 0 0 none 0 0).toArray, .bool true].toArray) (fun _ => .blk cb (cellsC (c.putN off 0) fv) 24) := by
 refine c_enter [(0, .agg [.string (tx nm), .nilFunc, .func (.func g) #[] #[]].toArray), (1, .pointer (some ⟨cb, 0, none⟩))] [.blk cb (cellsC c fv) 24, oldA W0] (fun k => k = cb) Tryz.func29 rfl Tryz.ntmps29 ⟨rfl, rfl, trivial⟩ rfl (okC h (okC (old_ok hold) okN)) (disC (sepC (fun k h1 h2 => by have h1 : k = cb := h1; have h2 : k < W0.heap.size := h2; omega) sepN) dis1) (mineO (fun _ hb => hb) (mineC rfl mineN)) ?_
 intro a hS
 refine cS (cR ?_)
 refine L_op (s_boxA hS rfl rfl ?_); clear hS a; intro a w b2 hS
 refine L_op (s_alloc hS ty_z37 rfl ?_); clear hS a; intro a w b4 hS
 refine L_e hS (e_assign rfl) rfl ?_; clear hS a; intro a hS
 refine nL (nT (cS (wB (cS (cR ?_)))))
 (first | refine L_e hS (e_fa0 rfl ty_fo88_1) rfl ?_ | refine L_e hS (e_faK rfl ty_fo88_1) rfl ?_); clear hS a; intro a hS
 refine Rn hS (.c (e_load rfl (by repeat constructor) ty_sc85 (by rfl)) <| .c (e_fnNe (c := false) rfl (by kernel_rfl) (.inl ⟨rfl, rfl⟩)) <| .a rfl .n) ?_; clear hS a; intro a hS
 refine nL (nT ?_)
 replace hS := hS.is (t := 13) (c := false) rfl (rfl)
 refine c_if_f hS rfl ?_
 refine cS (cR ?_)
 (first | refine L_e hS (e_fa0 rfl ty_fo88_2) rfl ?_ | refine L_e hS (e_faK rfl ty_fo88_2) rfl ?_); clear hS a; intro a hS
 refine Rn hS (.c (e_load rfl (by repeat constructor) ty_sc86 (by rfl)) <| .c (e_fnNe (c := true) rfl (by kernel_rfl) (.inr ⟨⟨_, _, _, rfl⟩, rfl⟩)) <| .a rfl .n) ?_; clear hS a; intro a hS
 refine nL (nT ?_)
 replace hS := hS.is (t := 33) (c := true) rfl (rfl)
 refine c_if_t hS rfl ?_
 refine cS (cR ?_)
 (first | refine L_e hS (e_fa0 rfl ty_fo88_2) rfl ?_ | refine L_e hS (e_faK rfl ty_fo88_2) rfl ?_); clear hS a; intro a hS
 refine Rn hS (.c (e_load rfl (by repeat constructor) ty_sc86 (by rfl)) <| .m rfl .n) ?_; clear hS a; intro a hS
 refine L_op (s_callvP (cs := []) hS rfl (.cons rfl .nil) hp.c rfl (hp.p cb _) ?_); clear hS a; intro a w hS
 refine Rn hS (.c (e_nilCheck rfl) <| .c (e_loadC rfl ty_sc3 (fun w hh => cell_of_blk (cs := cellsC c fv) (hh (.blk cb (cellsC c fv) 24) (by repeat constructor)) (cells_n c fv ho))) .n) ?_; clear hS a; intro a hS
 refine L_op (s_callP hS (.cons rfl .nil) cf87 rfl (jOfInt_P W0 hG (c.n off) h0 h1 _ (hS.gg (X := oldA W0))) ?_); clear hS a; intro a w hS
 refine L_op (s_alloc hS ty_z37 rfl ?_); clear hS a; intro a w b7 hS
 refine L_op (s_storeA hS rfl rfl ty_sz37 (by repeat constructor) (by rfl) (by rfl) (by rfl) ?_); clear hS; intro w hS
 refine nL (nT (cS (cR ?_)))
 (first | refine L_e hS (e_fa0 rfl ty_fo88_2) rfl ?_ | refine L_e hS (e_faK rfl ty_fo88_2) rfl ?_); clear hS a; intro a hS
 refine Rn hS (.c (e_load rfl (by repeat constructor) ty_sc86 (by rfl)) <| .m rfl .n) ?_; clear hS a; intro a hS
 refine L_op (s_callvP (cs := []) hS rfl (.cons rfl .nil) hp.c rfl (hp.p cb _) ?_); clear hS a; intro a w hS
 refine L_e hS (e_nilCheck rfl) rfl ?_; clear hS a; intro a hS
 refine L_op (s_store hS rfl rfl rfl ty_sz3 (by repeat constructor) (upd_putN c fv 0 ho) ?_); clear hS; intro w hS
 refine nL (nT (cS (cR ?_)))
 refine L_e hS (e_loadA rfl (by repeat constructor) ty_st37 ty_sz37 (by rfl)) rfl ?_; clear hS a; intro a hS
 refine L_op (s_storeA hS rfl rfl ty_sz37 (by repeat constructor) (by rfl) (by rfl) (by rfl) ?_); clear hS; intro w hS
 refine L_e hS (e_assign rfl) rfl ?_; clear hS a; intro a hS
 refine nL (nT (wp_ret ?_))
 refine r_block (r_then ?_)
 refine c_retN hS Tryz.results29 (.cons (.cellA rfl (by repeat constructor) ty_st37 ty_sz37 (by rfl)) (.cons (.tmp rfl) .nil)) rfl ?_
 exact ⟨(), rfl, hS.chg, hS.ok (.blk cb (cellsC (c.putN off 0) fv) 24) (by repeat constructor), fun b hb => .inl hb⟩
theorem less_iff : ∀ a b : List UInt8, Op.bytesLess a b = decide (a < b)
 | [], [] => by simp [Op.bytesLess]
 | [], _ :: _ => by simp [Op.bytesLess]
 | _ :: _, [] => by simp [Op.bytesLess]
 | a :: as1, b :: bs => by
   unfold Op.bytesLess
   rw [less_iff as1 bs, Bool.eq_iff_iff]
   simp [List.cons_lt_cons_iff]
theorem leS_tx (a b : List UInt8) : leS (tx a) (tx b) = !decide (b < a) := by
 unfold leS
 rw [ByteArray.toList_eq, ByteArray.toList_eq, tx_list, tx_list, less_iff, Bool.eq_iff_iff]
 simp only [Bool.or_eq_true, decide_eq_true_eq, beq_iff_eq, Bool.not_eq_true', decide_eq_false_iff_not]
 constructor
 · rintro (h | rfl)
   · exact List.lt_asymm h
   · exact List.lt_irrefl _
 · intro h
   by_cases h2 : a < b
   · exact .inl h2
   · exact .inr (List.le_antisymm (List.not_lt.1 h) (List.not_lt.1 h2))
theorem fc_four (x : Fct) : ∃ (k : Int) (s : ByteArray), fcV x = fourJ k s none 0 0 none 0 0 := by
 unfold fcV
 split
 · exact ⟨_, _, rfl⟩
 · split
   · exact ⟨_, _, rfl⟩
   · exact ⟨_, _, rfl⟩
structure FctAt (W0 : World) (fa : Option Addr) (fs : List Fct) : Prop where
 c : fs ≠ [] → ∃ nb no, fa = some ⟨nb, no, none⟩ ∧ ∀ (i : Nat) (x : Fct), fs[i]? = some x → ∀ (j : Nat) (u : Value), (encF x)[j]? = some u → W0.cell? ⟨nb, no + i * 4 + j, none⟩ = some u
 n : fs.length ≤ 1000
 b : ∀ x ∈ fs, -9223372036854775808 ≤ x.n ∧ x.n ≤ 9223372036854775807
def lastBad (ns : List (List UInt8)) (nm : List UInt8) : Bool := match ns.getLast? with | none => false | some p => !decide (p < nm)
theorem factsJ_step {fs : List Fct} {k : Nat} {x : Fct} {ns : List (List UInt8)} {l : List JV} (h : fs[k]? = some x) : factsJ (fs.drop k) ns l = match factJ x with | none => none | some y => if lastBad ns x.nm then none else factsJ (fs.drop (k + 1)) (ns ++ [x.nm]) (l ++ [y]) := by
 rw [List.drop_eq_getElem_cons (List.getElem?_eq_some_iff.1 h).1, (List.getElem?_eq_some_iff.1 h).2]
 conv => lhs; unfold factsJ
 cases factJ x with
 | none => rfl
 | some y =>
   simp only
   unfold lastBad
   cases ns.getLast? with
   | none => rfl
   | some p => by_cases hp : p < x.nm <;> simp [hp]
def V2R (fs : List Fct) : Type := { x : JX // factsJ fs [] [] = some x.v } ⊕ { _u : Unit // factsJ fs [] [] = none }
def v2V (fs : List Fct) : V2R fs → Value
 | .inl x => .tuple [.agg x.1.cs.toArray, .bool true].toArray
 | .inr _ => .tuple [.agg zeroJ.toArray, .bool false].toArray
def v2Y (c : Cd) (cb : Nat) (fv : Value) : V2R c.fx → Asn
 | .inl x => duo (.blk cb (cellsC c (.slice none 0 0)) 24) (jxA 2 x.1)
 | .inr _ => .blk cb (cellsC c fv) 24
def nmsOf (fs : List Fct) (k : Nat) : List (List UInt8) := (fs.take k).map Fct.nm
set_option maxHeartbeats 4000000 in
set_option maxRecDepth 100000 in
theorem fValue2_M (W0 : World) (hG : Gj W0) (nm : List UInt8) (c : Cd) (fa : Option Addr) (fc : Nat) (hF : FctAt W0 fa c.fx) (cb : Nat) (hcb : W0.heap.size ≤ cb) (w0 : World) (hold : oldφ W0 w0) (h : (Asn.blk cb (cellsC c (.slice fa c.fx.length fc)) 24).ok w0) :
 MutC Tryz.prog 29 [.agg [.string (tx nm), .nilFunc, .nilFunc].toArray, .pointer (some ⟨cb, 0, none⟩)] w0 (.blk cb (cellsC c (.slice fa c.fx.length fc)) 24) (v2V c.fx) (v2Y c cb (.slice fa c.fx.length fc)) := by
 have hfn := hF.n
 refine c_enter [(0, .agg [.string (tx nm), .nilFunc, .nilFunc].toArray), (1, .pointer (some ⟨cb, 0, none⟩))] [.blk cb (cellsC c (.slice fa c.fx.length fc)) 24, oldA W0] (fun k => k = cb) Tryz.func29 rfl Tryz.ntmps29 ⟨rfl, rfl, trivial⟩ rfl (okC h (okC (old_ok hold) okN)) (disC (sepC (fun k h1 h2 => by have h1 : k = cb := h1; have h2 : k < W0.heap.size := h2; omega) sepN) dis1) (mineO (fun _ hb => hb) (mineC rfl mineN)) ?_
 intro a hS
 refine cS (cR ?_)
 refine L_op (s_boxA hS rfl rfl ?_); clear hS a; intro a w b2 hS
 refine L_op (s_alloc hS ty_z37 rfl ?_); clear hS a; intro a w b4 hS
 refine L_e hS (e_assign rfl) rfl ?_; clear hS a; intro a hS
 refine nL (nT (cS (wB (cS (cR ?_)))))
 (first | refine L_e hS (e_fa0 rfl ty_fo88_1) rfl ?_ | refine L_e hS (e_faK rfl ty_fo88_1) rfl ?_); clear hS a; intro a hS
 refine Rn hS (.c (e_load rfl (by repeat constructor) ty_sc85 (by rfl)) <| .c (e_fnNe (c := false) rfl (by kernel_rfl) (.inl ⟨rfl, rfl⟩)) <| .a rfl .n) ?_; clear hS a; intro a hS
 refine nL (nT ?_)
 replace hS := hS.is (t := 13) (c := false) rfl (rfl)
 refine c_if_f hS rfl ?_
 refine cS (cR ?_)
 (first | refine L_e hS (e_fa0 rfl ty_fo88_2) rfl ?_ | refine L_e hS (e_faK rfl ty_fo88_2) rfl ?_); clear hS a; intro a hS
 refine Rn hS (.c (e_load rfl (by repeat constructor) ty_sc86 (by rfl)) <| .c (e_fnNe (c := false) rfl (by kernel_rfl) (.inl ⟨rfl, rfl⟩)) <| .a rfl .n) ?_; clear hS a; intro a hS
 refine nL (nT ?_)
 replace hS := hS.is (t := 33) (c := false) rfl (rfl)
 refine c_if_f hS rfl ?_
 refine wS (n_block (nT (cS (cR ?_))))
 refine L_e hS (e_build ty_z37 ty_pl37 (.one rfl rfl rfl (by repeat constructor) .nil)) rfl ?_; clear hS a; intro a hS
 refine L_op (s_alloc hS ty_z37 rfl ?_); clear hS a; intro a w b8 hS
 refine L_op (s_storeA hS rfl rfl ty_sz37 (by repeat constructor) (by rfl) (by rfl) (by rfl) ?_); clear hS; intro w hS
 refine nL (nT (cS (cS (cR ?_))))
 refine Rn hS (.m rfl <| .c (e_nilCheck rfl) .n) ?_; clear hS a; intro a hS
 (first | refine L_e hS (e_fa0 rfl ty_fo24_14) rfl ?_ | refine L_e hS (e_faK rfl ty_fo24_14) rfl ?_); clear hS a; intro a hS
 refine Rn hS (.c (e_load rfl (by repeat constructor) ty_sc22 (by rfl)) <| .c (e_len rfl rfl ty_sl22) <| .m rfl .n) ?_; clear hS a; intro a hS
 refine nL (nT (wB ?_))
 skip
 refine c_loop (γ := List JX × Value × Value) (fun G a w => St 105 (fun k => k = cb) w0 a w [(56, .int .i64 (G.1.length : Int)), (55, .int .i64 (c.fx.length : Int)), (54, .slice fa c.fx.length fc), (1, .pointer (some ⟨cb, 0, none⟩)), (4, .pointer (some ⟨b4, 0, none⟩)), (8, .pointer (some ⟨b8, 0, none⟩)), (5, .bool false)] [ownA 37 4 G.2.1 G.1.length (G.1.flatMap JX.cs), ownA 9 1 G.2.2 G.1.length ((nmsOf c.fx G.1.length).flatMap encS), kidsA 1 G.1, .blk b8 [.int .i64 6, .string ⟨#[]⟩, G.2.1, G.2.2] 37, .blk b4 zeroJ 37, .blk cb (cellsC c (.slice fa c.fx.length fc)) 24, oldA W0] ∧ G.1.length ≤ c.fx.length ∧ factsJ (c.fx.drop G.1.length) (nmsOf c.fx G.1.length) (G.1.map JX.v) = factsJ c.fx [] []) (fun G => c.fx.length - G.1.length) ([], .slice none 0 0, .slice none 0 0) ⟨((((hS.own_nil 9 1).own_nil 37 4).more (Y := kidsA 1 []) (kids_ok (fun x hx => by cases hx)) (fun b ⟨x, hx, _⟩ => by cases hx)).slots (by repeat (first | exact trivial | refine ⟨rfl, ?_⟩))).pick (by repeat (first | exact Pick.nil | (refine Pick.cons (by repeat (first | exact Rem.head | apply Rem.tail)) ?_))), Nat.zero_le _, rfl⟩ ?_
 clear hS a; intro G a w hI
 obtain ⟨kids, lv, nv⟩ := G
 obtain ⟨hS, hk, hgo⟩ := hI
 simp only at hS hk hgo
 obtain ⟨ql, cl, rfl⟩ := own_slice (hS.gg (X := ownA 37 4 lv kids.length (kids.flatMap JX.cs)))
 obtain ⟨qn, cn, rfl⟩ := own_slice (hS.gg (X := ownA 9 1 nv kids.length ((nmsOf c.fx kids.length).flatMap encS)))
 refine cS (cR ?_)
 refine L_e hS (e_bin rfl rfl rfl) rfl ?_; clear hS a; intro a hS
 refine nL (nT (cS ?_))
 (first | refine c_ifD hS rfl ?_ ?_ | refine c_if hS rfl ?_ ?_) <;> intro hc57
 ·
  have hkn : kids.length < c.fx.length := by omega
  obtain ⟨x, hx⟩ : ∃ x, c.fx[kids.length]? = some x := ⟨_, List.getElem?_eq_getElem hkn⟩
  have hxm := List.mem_of_getElem? hx
  obtain ⟨nb, no, rfl, hcell⟩ := hF.c (fun e => by rw [e] at hkn; exact absurd hkn (Nat.not_lt_zero _))
  obtain ⟨jk, js, hfv⟩ := fc_four x
  rw [factsJ_step hx] at hgo
  refine wS (nT (cS (wB (cS (cR ?_)))))
  refine Rn hS (.m rfl <| .c (e_ixN rfl rfl ty_sl22 ty_sz160 (by omega)) <| .c (e_loadAC (l := encF x) rfl ty_st160 ty_sz160 (fun w hh j u hj => old_cell (hh (oldA W0) (by repeat constructor)) (hcell _ x hx j u hj))) .n) ?_; clear hS a; intro a hS
  unfold encF at hS
  refine L_op (s_alloc hS ty_z160 rfl ?_); clear hS a; intro a w b10 hS
  refine L_e hS (e_assign rfl) rfl ?_; clear hS a; intro a hS
  refine L_op (s_storeA hS rfl rfl ty_sz160 (by repeat constructor) (by rfl) (by rfl) (by rfl) ?_); clear hS; intro w hS
  refine nL (nT (cS (cR ?_)))
  refine L_e hS (e_loadA rfl (by repeat constructor) ty_st160 ty_sz160 (by rfl)) rfl ?_; clear hS a; intro a hS
  refine L_op (s_callP hS (.cons rfl .nil) cf88 rfl (fFactValue_P W0 hG x (hF.b x hxm).1 (hF.b x hxm).2 _ (hS.gg (X := oldA W0))) ?_); clear hS a; intro a w hS
  rw [hfv] at hS
  unfold fourJ at hS
  refine Rn hS (.m rfl <| .c (e_extract rfl rfl) <| .c (e_extract rfl rfl) .n) ?_; clear hS a; intro a hS
  refine L_op (s_alloc hS ty_z37 rfl ?_); clear hS a; intro a w b11 hS
  refine L_op (s_storeA hS rfl rfl ty_sz37 (by repeat constructor) (by rfl) (by rfl) (by rfl) ?_); clear hS; intro w hS
  refine L_e hS (e_assign rfl) rfl ?_; clear hS a; intro a hS
  refine nL (nT (cS (cS ?_)))
  refine c_drawS [] (by kernel_rfl) hS (sub_cons (X := .blk b10 [.string (tx x.nm), .int .i64 x.ty, .int .i64 x.n, .string (tx x.s)] 160) (by repeat constructor) (sub_cons (X := .blk cb (cellsC c (.slice (some ⟨nb, no, none⟩) c.fx.length fc)) 24) (by repeat constructor) (sub_cons (X := oldA W0) (by repeat constructor) sub_nil))) ?_; clear hS; intro w hS
  simp only [List.length_cons, List.length_nil, Nat.zero_add, Nat.reduceAdd, List.replicate]
  refine Ry hS (.o 0 (tf 1 19) rfl wN (e_move rfl) rfl <| .o 1 (tf 2 18) rfl wN (e_not rfl) rfl <| .o 2 (tf 3 17) rfl wN (e_move rfl) rfl .n) ?_; clear hS a; intro a hS
  refine Z_merge 0 (tf 20 0) 85 (.bool ((!(factJ x).isSome || lastBad (nmsOf c.fx kids.length) x.nm))) hS ?_ ?_
  · intro hcM85
    (first | refine g_splitD (t := 68) hS rfl ?_ ?_ | refine g_split (t := 68) hS rfl ?_ ?_) <;> (clear hS; intro hg68 hS)
    ·
     refine Ry hS (.f 3 (tf 4 16) rfl rfl rfl rfl <| .f 4 (tf 5 15) rfl rfl rfl rfl <| .f 5 (tf 6 14) rfl rfl rfl rfl <| .u 6 (tf 7 13) rfl rfl rfl rfl <| .u 7 (tf 8 12) rfl rfl rfl rfl <| .u 8 (tf 9 11) rfl rfl rfl rfl <| .u 9 (tf 10 10) rfl rfl rfl rfl <| .u 10 (tf 11 9) rfl rfl rfl rfl <| .u 11 (tf 12 8) rfl rfl rfl rfl <| .u 12 (tf 13 7) rfl rfl rfl rfl <| .u 13 (tf 14 6) rfl rfl rfl rfl <| .u 14 (tf 15 5) rfl rfl rfl rfl <| .u 15 (tf 16 4) rfl rfl rfl rfl <| .u 16 (tf 17 3) rfl rfl rfl rfl <| .u 17 (tf 18 2) rfl rfl rfl rfl <| .f 18 (tf 19 1) rfl rfl rfl rfl <| .o 19 (tf 20 0) rfl wN (e_pk rfl rfl) rfl .n) ?_; clear hS a; intro a hS
     exact hcM85 _ _ (hS.ends 18 85 68 rfl (congrArg Value.bool (by rw [hg68, Bool.true_or])) rfl rfl (by first | exact congrArg Value.bool (decide_eq_true hg68).symm | exact congrArg Value.bool hg68.symm | simp [hg68]) rfl)
    refine Ry hS (.o 3 (tf 4 16) rfl (want_go rfl rfl) (e_move rfl) rfl <| .o 4 (tf 5 15) rfl (want_go rfl rfl) (e_bin rfl rfl rfl) rfl <| .o 5 (tf 6 14) rfl (want_go rfl rfl) (e_move rfl) rfl .n) ?_; clear hS a; intro a hS
    refine Z_merge 1 (tf 19 1) 84 (.bool (lastBad (nmsOf c.fx kids.length) x.nm)) hS ?_ ?_
    · intro hcM84
      (first | refine g_splitD (t := 71) hS rfl ?_ ?_ | refine g_split (t := 71) hS rfl ?_ ?_) <;> (clear hS; intro hg71 hS)
      ·
       have hpos : 0 < kids.length := by omega
       obtain ⟨p, hp⟩ : ∃ p, c.fx[kids.length - 1]? = some p := ⟨_, List.getElem?_eq_getElem (by omega)⟩
       have hpc := hcell _ p hp 0 (.string (tx p.nm)) rfl
       have hidx : no + ((kids.length : Int) - 1).toNat * 4 + 0 = no + (kids.length - 1) * 4 + 0 := by rw [show ((kids.length : Int) - 1).toNat = kids.length - 1 by omega]
       have hlast : (nmsOf c.fx kids.length).getLast? = some p.nm := by
        unfold nmsOf
        rw [List.getLast?_map, List.getLast?_take, if_neg (by omega), hp]; rfl
       (first | refine Zt0 6 (tf 7 13) hS rfl (want_go rfl rfl) (e_fa0 rfl ty_fo160_0) rfl (by kernel_rfl) rfl ?_ | refine Zt0 6 (tf 7 13) hS rfl (want_go rfl rfl) (e_faK rfl ty_fo160_0) rfl (by kernel_rfl) rfl ?_); clear hS a; intro a hS
       refine Rz hS (sub_cons (by repeat constructor) (sub_cons (by repeat constructor) (sub_cons (by repeat constructor) sub_nil))) (.y 7 (tf 8 12) rfl (want_go rfl rfl) (e_load rfl (by repeat constructor) ty_sc9 (by rfl)) rfl <| .o 8 (tf 9 11) rfl (want_go rfl rfl) (e_move rfl) rfl <| .o 9 (tf 10 10) rfl (want_go rfl rfl) (e_nilCheck rfl) rfl .n) ?_; clear hS a; intro a hS
       (first | refine Zt0 10 (tf 11 9) hS rfl (want_go rfl rfl) (e_fa0 rfl ty_fo24_14) rfl (by kernel_rfl) rfl ?_ | refine Zt0 10 (tf 11 9) hS rfl (want_go rfl rfl) (e_faK rfl ty_fo24_14) rfl (by kernel_rfl) rfl ?_); clear hS a; intro a hS
       refine Rz hS (sub_cons (by repeat constructor) (sub_cons (by repeat constructor) (sub_cons (by repeat constructor) sub_nil))) (.y 11 (tf 12 8) rfl (want_go rfl rfl) (e_load rfl (by repeat constructor) ty_sc22 (by rfl)) rfl <| .o 12 (tf 13 7) rfl (want_go rfl rfl) (e_move rfl) rfl .n) ?_; clear hS a; intro a hS
       (first | refine Zt0 13 (tf 14 6) hS rfl (want_go rfl rfl) (e_binN rfl rfl rfl (by omega)) rfl (by kernel_rfl) rfl ?_ | refine Zt0 13 (tf 14 6) hS rfl (want_go rfl rfl) (e_bin rfl rfl rfl) rfl (by kernel_rfl) rfl ?_); clear hS a; intro a hS
       refine Zt0 14 (tf 15 5) hS rfl (want_go rfl rfl) (e_ix rfl rfl ty_sl22 ty_sz160 (by omega)) rfl (by kernel_rfl) rfl ?_; clear hS a; intro a hS
       (first | refine Zt0 15 (tf 16 4) hS rfl (want_go rfl rfl) (e_fa0 rfl ty_fo160_0) rfl (by kernel_rfl) rfl ?_ | refine Zt0 15 (tf 16 4) hS rfl (want_go rfl rfl) (e_faK rfl ty_fo160_0) rfl (by kernel_rfl) rfl ?_); clear hS a; intro a hS
       refine Rz hS (sub_cons (by repeat constructor) (sub_cons (by repeat constructor) (sub_cons (by repeat constructor) sub_nil))) (.y 16 (tf 17 3) rfl (want_go rfl rfl) (e_loadC rfl ty_sc9 (fun w hh => by rw [hidx]; exact old_cell (hh (oldA W0) (by repeat constructor)) hpc)) rfl <| .o 17 (tf 18 2) rfl (want_go rfl rfl) (e_leS rfl rfl) rfl .n) ?_; clear hS a; intro a hS
       rw [leS_tx] at hS
       refine Zt0 18 (tf 19 1) hS rfl (want_go rfl rfl) (e_pk rfl rfl) rfl (by kernel_rfl) rfl ?_; clear hS a; intro a hS
       exact hcM84 _ _ (hS.ends 14 84 71 rfl (congrArg Value.bool (by unfold lastBad; rw [hlast])) rfl rfl (by first | exact congrArg Value.bool (decide_eq_true hg71).symm | exact congrArg Value.bool hg71.symm | simp [hg71]) rfl)
      refine Ry hS (.t 6 (tf 7 13) rfl rfl rfl rfl <| .t 7 (tf 8 12) rfl rfl rfl rfl <| .t 8 (tf 9 11) rfl rfl rfl rfl <| .t 9 (tf 10 10) rfl rfl rfl rfl <| .t 10 (tf 11 9) rfl rfl rfl rfl <| .t 11 (tf 12 8) rfl rfl rfl rfl <| .t 12 (tf 13 7) rfl rfl rfl rfl <| .t 13 (tf 14 6) rfl rfl rfl rfl <| .t 14 (tf 15 5) rfl rfl rfl rfl <| .t 15 (tf 16 4) rfl rfl rfl rfl <| .t 16 (tf 17 3) rfl rfl rfl rfl <| .t 17 (tf 18 2) rfl rfl rfl rfl <| .o 18 (tf 19 1) rfl (want_go rfl rfl) (e_pk rfl rfl) rfl .n) ?_; clear hS a; intro a hS
      exact hcM84 _ _ (hS.ends 14 84 71 rfl (congrArg Value.bool (by symm; unfold lastBad; rw [show kids.length = 0 by omega]; rfl)) rfl rfl (by first | exact congrArg Value.bool (decide_eq_false hg71).symm | exact congrArg Value.bool hg71.symm | simp [hg71]) rfl)
    · clear hS a; intro a w hS
      refine Zt0 19 (tf 20 0) hS rfl want_none (e_pk rfl rfl) rfl (by kernel_rfl) rfl ?_; clear hS a; intro a hS
      exact hcM85 _ _ (hS.ends 6 85 68 rfl (congrArg Value.bool (by rw [hg68, Bool.false_or])) rfl rfl (by first | exact congrArg Value.bool (decide_eq_false hg68).symm | exact congrArg Value.bool hg68.symm | simp [hg68]) rfl)
  · clear hS a; intro a w hS
    refine Z_done (by kernel_rfl) ?_
    refine nT ?_
    (first | refine c_ifD hS rfl ?_ ?_ | refine c_if hS rfl ?_ ?_) <;> intro hc85
    ·
     have hno : factsJ c.fx [] [] = none := by
      rw [← hgo]
      cases hy : factJ x with
      | none => rfl
      | some y =>
        rw [hy] at hc85
        have hlb : lastBad (nmsOf c.fx kids.length) x.nm = true := by simpa using hc85
        simp only
        rw [if_pos hlb]
     refine cS (cR ?_)
     refine L_e hS (e_build ty_z37 ty_pl37 .nil) rfl ?_; clear hS a; intro a hS
     refine L_op (s_storeA hS rfl rfl ty_sz37 (by repeat constructor) (by rfl) (by rfl) (by rfl) ?_); clear hS; intro w hS
     refine L_e hS (e_assign rfl) rfl ?_; clear hS a; intro a hS
     refine nL (nT (wp_ret ?_))
     refine r_then (r_block (r_then (r_then (r_block (r_then ?_)))))
     refine c_retN hS Tryz.results29 (.cons (.cellA rfl (by repeat constructor) ty_st37 ty_sz37 (by rfl)) (.cons (.tmp rfl) .nil)) rfl ?_
     exact ⟨.inr ⟨(), hno⟩, rfl, hS.chg, hS.ok (.blk cb (cellsC c (.slice (some ⟨nb, no, none⟩) c.fx.length fc)) 24) (by repeat constructor), fun k hk => .inl hk⟩
    obtain ⟨y, hy⟩ : ∃ y, factJ x = some y := by
     cases hy : factJ x with
     | none => rw [hy] at hc85; simp at hc85
     | some y => exact ⟨y, rfl⟩
    have hlb : lastBad (nmsOf c.fx kids.length) x.nm = false := by rw [hy] at hc85; simpa using hc85
    rw [hy] at hgo
    simp only at hgo
    rw [if_neg (by rw [hlb]; decide)] at hgo
    obtain ⟨hfc1, hfc2, hfc3⟩ := fc_some hy
    obtain ⟨rfl, rfl⟩ : jk = (y.k : Int) ∧ js = tx y.t := by
     have e := hfv.symm.trans hfc1
     simp [fourJ] at e
     exact e
    refine wS (nT ?_)
    refine c_drawS [12, 14] (by kernel_rfl) hS (sub_cons (X := .blk b8 [.int .i64 6, .string ⟨#[]⟩, .slice ql kids.length cl, .slice qn kids.length cn] 37) (by repeat constructor) (sub_cons (X := .blk b10 [.string (tx x.nm), .int .i64 x.ty, .int .i64 x.n, .string (tx x.s)] 160) (by repeat constructor) (sub_cons (X := .blk b11 [.int .i64 (y.k : Int), .string (tx y.t), .slice none 0 0, .slice none 0 0] 37) (by repeat constructor) sub_nil))) ?_; clear hS; intro w hS
    simp only [List.length_cons, List.length_nil, Nat.zero_add, Nat.reduceAdd, List.replicate]
    (first | refine Zt0 0 (tf 1 14) hS rfl want_none (e_fa0 rfl ty_fo37_3) rfl (by kernel_rfl) rfl ?_ | refine Zt0 0 (tf 1 14) hS rfl want_none (e_faK rfl ty_fo37_3) rfl (by kernel_rfl) rfl ?_); clear hS a; intro a hS
    refine Zt 1 (tf 2 13) hS rfl want_none (e_load rfl (by repeat constructor) ty_sc35 (by rfl)) rfl (by kernel_rfl) (sub_cons (by repeat constructor) (sub_cons (by repeat constructor) (sub_cons (by repeat constructor) sub_nil))) rfl ?_; clear hS a; intro a hS
    (first | refine Zt0 2 (tf 3 12) hS rfl want_none (e_fa0 rfl ty_fo160_0) rfl (by kernel_rfl) rfl ?_ | refine Zt0 2 (tf 3 12) hS rfl want_none (e_faK rfl ty_fo160_0) rfl (by kernel_rfl) rfl ?_); clear hS a; intro a hS
    refine Zt 3 (tf 4 11) hS rfl want_none (e_load rfl (by repeat constructor) ty_sc9 (by rfl)) rfl (by kernel_rfl) (sub_cons (by repeat constructor) (sub_cons (by repeat constructor) (sub_cons (by repeat constructor) sub_nil))) rfl ?_; clear hS a; intro a hS
    (first | refine Zt0 6 [true, true, true, true, false, false, true, false, false, false, false, false, false, false, false] hS rfl want_none (e_fa0 rfl ty_fo37_2) rfl (by kernel_rfl) rfl ?_ | refine Zt0 6 [true, true, true, true, false, false, true, false, false, false, false, false, false, false, false] hS rfl want_none (e_faK rfl ty_fo37_2) rfl (by kernel_rfl) rfl ?_); clear hS a; intro a hS
    refine Rz hS (sub_cons (by repeat constructor) (sub_cons (by repeat constructor) (sub_cons (by repeat constructor) sub_nil))) (.y 7 [true, true, true, true, false, false, true, true, false, false, false, false, false, false, false] rfl wN (e_load rfl (by repeat constructor) ty_sc34 (by rfl)) rfl <| .y 8 [true, true, true, true, false, false, true, true, true, false, false, false, false, false, false] rfl wN (e_loadA rfl (by repeat constructor) ty_st37 ty_sz37 (by rfl)) rfl .n) ?_; clear hS a; intro a hS
    refine Z_many (j := 4) (js := [9]) (by kernel_rfl) ⟨?_, ?_, trivial⟩
    ·
     refine Z_op (i := 4) rfl (want_none a hS.sl) (listed' := [true, true, true, true, true, false, true, true, true, false, false, false, false, false, false]) rfl (s_bslice hS ty_sl35 ty_sz9 ty_z9 rfl rfl rfl rfl (.one rfl rfl rfl .nil) rfl ?_); clear hS a; intro a w b91 hS
     refine Z_and hS (sub_cons (by repeat constructor) (sub_cons (by repeat constructor) (sub_cons (by repeat constructor) sub_nil))) ?_
     refine Z_many (j := 5) (js := [9]) (by kernel_rfl) ⟨?_, ?_, trivial⟩
     ·
      refine Z_op (i := 5) rfl (want_none a hS.sl) (listed' := (tf 9 6)) rfl (s_append1 hS rfl rfl ty_sl35 ty_sz9 ty_by9 ty_z9 rfl rfl rfl (by repeat constructor) (by repeat constructor) (by rfl) (by rfl) (fun _ => (by repeat constructor)) (by omega) ?_); clear hS a; intro v92 a w hv92 hS
      obtain ⟨q92, c92, rfl⟩ := own_slice (hS.gg (X := ownA 9 1 v92 (kids.length + 1) ((nmsOf c.fx kids.length).flatMap encS ++ [.string (tx x.nm)])))
      refine Z_and hS (sub_cons (by repeat constructor) (sub_cons (by repeat constructor) (sub_cons (by repeat constructor) sub_nil))) ?_
      (first | refine Zt0 11 [true, true, true, true, true, true, true, true, true, false, false, true, false, false, false] hS rfl want_none (e_fa0 rfl ty_fo37_3) rfl (by kernel_rfl) rfl ?_ | refine Zt0 11 [true, true, true, true, true, true, true, true, true, false, false, true, false, false, false] hS rfl want_none (e_faK rfl ty_fo37_3) rfl (by kernel_rfl) rfl ?_); clear hS a; intro a hS
      refine Zo 9 [true, true, true, true, true, true, true, true, true, true, false, true, false, false, false] hS rfl wN rfl (s_bslice hS ty_sl34 ty_sz37 ty_z37 rfl rfl rfl rfl (.agg rfl rfl .nil) rfl ?_); clear hS a; intro a w b96 hS
      refine Z_and hS (sub_cons (by repeat constructor) (sub_cons (by repeat constructor) (sub_cons (by repeat constructor) sub_nil))) ?_
      refine Zo 10 (tf 12 3) hS rfl wN rfl (s_append1 hS rfl rfl ty_sl34 ty_sz37 ty_by37 ty_z37 rfl rfl rfl (by repeat constructor) (by repeat constructor) (by rfl) (by rfl) (fun _ => (by repeat constructor)) (by omega) ?_); clear hS a; intro v97 a w hv97 hS
      obtain ⟨q97, c97, rfl⟩ := own_slice (hS.gg (X := ownA 37 4 v97 (kids.length + 1) _))
      refine Z_and hS (sub_cons (by repeat constructor) (sub_cons (by repeat constructor) (sub_cons (by repeat constructor) sub_nil))) ?_
      refine Zo 12 (tf 13 2) hS rfl wN rfl (s_store hS rfl rfl rfl ty_sz35 (by repeat constructor) (by repeat constructor) ?_); clear hS; intro w hS
      refine Z_last (by simp) ?_
      (first | refine Zt0 13 (tf 14 1) hS rfl want_none (e_fa0 rfl ty_fo37_2) rfl (by kernel_rfl) rfl ?_ | refine Zt0 13 (tf 14 1) hS rfl want_none (e_faK rfl ty_fo37_2) rfl (by kernel_rfl) rfl ?_); clear hS a; intro a hS
      refine Zo 14 (tf 15 0) hS rfl wN rfl (s_store hS rfl rfl rfl ty_sz34 (by repeat constructor) (by repeat constructor) ?_); clear hS; intro w hS
      refine Z_last (by simp) ?_
      refine Z_done (by kernel_rfl) ?_
      refine n_block (nT (cR ?_))
      (first | refine L_e hS (e_binN rfl rfl rfl (by omega)) rfl ?_ | refine L_e hS (e_bin rfl rfl rfl) rfl ?_); clear hS a; intro a hS
      refine L_e hS (e_move rfl) rfl ?_; clear hS a; intro a hS
      refine nL ?_
      obtain ⟨xk, hxk⟩ : ∃ xk : JX, xk = ⟨y, [.int .i64 (y.k : Int), .string (tx y.t), .slice none 0 0, .slice none 0 0], fun _ => False, rfl, rfl⟩ := ⟨_, rfl⟩
      have hxv : xk.v = y := by rw [hxk]
      have hxc : xk.cs = [.int .i64 (y.k : Int), .string (tx y.t), .slice none 0 0, .slice none 0 0] := by rw [hxk]
      have hxA : (jxA 1 xk).ok w := by
       rw [hxk]
       cases y with
       | mk yk yt yn yl =>
         have e1 : yn = [] := hfc2
         have e2 : yl = [] := hfc3
         subst e1 e2
         exact jx_leaf 0 yk yt w
      have hfl2 : (kids ++ [xk]).flatMap JX.cs = kids.flatMap JX.cs ++ ([.int .i64 (y.k : Int), .string (tx y.t), .slice none 0 0, .slice none 0 0] ++ []) := by rw [List.flatMap_append, ← hxc]; simp
      have hkl1 : (kids ++ [xk]).length = kids.length + 1 := by simp
      have hns : nmsOf c.fx (kids.length + 1) = nmsOf c.fx kids.length ++ [x.nm] := by unfold nmsOf; rw [take_next hx, List.map_append]; rfl
      have hnf : (nmsOf c.fx (kids.length + 1)).flatMap encS = (nmsOf c.fx kids.length).flatMap encS ++ [.string (tx x.nm)] := by rw [hns, List.flatMap_append]; rfl
      have hxF : ∀ b, (jxA 1 xk).F b → False := fun b hb => by rw [hxk] at hb; exact hb
      replace hS := kids_add ((hS.more hxA hxF).pick (Γ' := [jxA 1 xk, kidsA 1 kids, ownA 37 4 (.slice q97 (kids.length + 1) c97) (kids.length + 1) (kids.flatMap JX.cs ++ ([.int .i64 (y.k : Int), .string (tx y.t), .slice none 0 0, .slice none 0 0] ++ [])), ownA 9 1 (.slice q92 (kids.length + 1) c92) (kids.length + 1) ((nmsOf c.fx kids.length).flatMap encS ++ [.string (tx x.nm)]), .blk b8 [.int .i64 6, .string ⟨#[]⟩, .slice q97 (kids.length + 1) c97, .slice q92 (kids.length + 1) c92] 37, .blk b4 zeroJ 37, .blk cb (cellsC c (.slice (some ⟨nb, no, none⟩) c.fx.length fc)) 24, oldA W0]) (by repeat (first | exact Pick.nil | (refine Pick.cons (by repeat (first | exact Rem.head | apply Rem.tail)) ?_))))
      rw [← hfl2, ← hnf] at hS
      refine ⟨(kids ++ [xk], .slice q97 (kids.length + 1) c97, .slice q92 (kids.length + 1) c92), by show c.fx.length - (kids ++ [xk]).length < c.fx.length - kids.length; omega, ?_, by show (kids ++ [xk]).length ≤ c.fx.length; omega, by show factsJ (c.fx.drop (kids ++ [xk]).length) (nmsOf c.fx (kids ++ [xk]).length) ((kids ++ [xk]).map JX.v) = _; rw [hkl1, hns, List.map_append, List.map_singleton, hxv]; exact hgo⟩
      show St _ _ _ _ _ [(56, .int .i64 ((kids ++ [xk]).length : Int)), _, _, _, _, _, _] [ownA _ _ _ (kids ++ [xk]).length _, ownA _ _ _ (kids ++ [xk]).length ((nmsOf c.fx (kids ++ [xk]).length).flatMap encS), _, _, _, _, _]
      rw [hkl1]
      exact (hS.slots (by repeat (first | exact trivial | refine ⟨rfl, ?_⟩))).pick (by repeat (first | exact Pick.nil | (refine Pick.cons (by repeat (first | exact Rem.head | apply Rem.tail)) ?_)))
     refine Z_op (i := 9) rfl (want_none a hS.sl) (listed' := [true, true, true, true, true, false, true, true, true, true, false, false, false, false, false]) rfl (s_bslice hS ty_sl34 ty_sz37 ty_z37 rfl rfl rfl rfl (.agg rfl rfl .nil) rfl ?_); clear hS a; intro a w b96 hS
     refine Z_and hS (sub_cons (by repeat constructor) (sub_cons (by repeat constructor) (sub_cons (by repeat constructor) sub_nil))) ?_
     refine Zo 5 (tf 10 5) hS rfl wN rfl (s_append1 hS rfl rfl ty_sl35 ty_sz9 ty_by9 ty_z9 rfl rfl rfl (by repeat constructor) (by repeat constructor) (by rfl) (by rfl) (fun _ => (by repeat constructor)) (by omega) ?_); clear hS a; intro v92 a w hv92 hS
     obtain ⟨q92, c92, rfl⟩ := own_slice (hS.gg (X := ownA 9 1 v92 (kids.length + 1) ((nmsOf c.fx kids.length).flatMap encS ++ [.string (tx x.nm)])))
     refine Z_and hS (sub_cons (by repeat constructor) (sub_cons (by repeat constructor) (sub_cons (by repeat constructor) sub_nil))) ?_
     (first | refine Zt0 11 [true, true, true, true, true, true, true, true, true, true, false, true, false, false, false] hS rfl want_none (e_fa0 rfl ty_fo37_3) rfl (by kernel_rfl) rfl ?_ | refine Zt0 11 [true, true, true, true, true, true, true, true, true, true, false, true, false, false, false] hS rfl want_none (e_faK rfl ty_fo37_3) rfl (by kernel_rfl) rfl ?_); clear hS a; intro a hS
     refine Zo 10 (tf 12 3) hS rfl wN rfl (s_append1 hS rfl rfl ty_sl34 ty_sz37 ty_by37 ty_z37 rfl rfl rfl (by repeat constructor) (by repeat constructor) (by rfl) (by rfl) (fun _ => (by repeat constructor)) (by omega) ?_); clear hS a; intro v97 a w hv97 hS
     obtain ⟨q97, c97, rfl⟩ := own_slice (hS.gg (X := ownA 37 4 v97 (kids.length + 1) _))
     refine Z_and hS (sub_cons (by repeat constructor) (sub_cons (by repeat constructor) (sub_cons (by repeat constructor) sub_nil))) ?_
     refine Zo 12 (tf 13 2) hS rfl wN rfl (s_store hS rfl rfl rfl ty_sz35 (by repeat constructor) (by repeat constructor) ?_); clear hS; intro w hS
     refine Z_last (by simp) ?_
     (first | refine Zt0 13 (tf 14 1) hS rfl want_none (e_fa0 rfl ty_fo37_2) rfl (by kernel_rfl) rfl ?_ | refine Zt0 13 (tf 14 1) hS rfl want_none (e_faK rfl ty_fo37_2) rfl (by kernel_rfl) rfl ?_); clear hS a; intro a hS
     refine Zo 14 (tf 15 0) hS rfl wN rfl (s_store hS rfl rfl rfl ty_sz34 (by repeat constructor) (by repeat constructor) ?_); clear hS; intro w hS
     refine Z_last (by simp) ?_
     refine Z_done (by kernel_rfl) ?_
     refine n_block (nT (cR ?_))
     (first | refine L_e hS (e_binN rfl rfl rfl (by omega)) rfl ?_ | refine L_e hS (e_bin rfl rfl rfl) rfl ?_); clear hS a; intro a hS
     refine L_e hS (e_move rfl) rfl ?_; clear hS a; intro a hS
     refine nL ?_
     obtain ⟨xk, hxk⟩ : ∃ xk : JX, xk = ⟨y, [.int .i64 (y.k : Int), .string (tx y.t), .slice none 0 0, .slice none 0 0], fun _ => False, rfl, rfl⟩ := ⟨_, rfl⟩
     have hxv : xk.v = y := by rw [hxk]
     have hxc : xk.cs = [.int .i64 (y.k : Int), .string (tx y.t), .slice none 0 0, .slice none 0 0] := by rw [hxk]
     have hxA : (jxA 1 xk).ok w := by
      rw [hxk]
      cases y with
      | mk yk yt yn yl =>
        have e1 : yn = [] := hfc2
        have e2 : yl = [] := hfc3
        subst e1 e2
        exact jx_leaf 0 yk yt w
     have hfl2 : (kids ++ [xk]).flatMap JX.cs = kids.flatMap JX.cs ++ ([.int .i64 (y.k : Int), .string (tx y.t), .slice none 0 0, .slice none 0 0] ++ []) := by rw [List.flatMap_append, ← hxc]; simp
     have hkl1 : (kids ++ [xk]).length = kids.length + 1 := by simp
     have hns : nmsOf c.fx (kids.length + 1) = nmsOf c.fx kids.length ++ [x.nm] := by unfold nmsOf; rw [take_next hx, List.map_append]; rfl
     have hnf : (nmsOf c.fx (kids.length + 1)).flatMap encS = (nmsOf c.fx kids.length).flatMap encS ++ [.string (tx x.nm)] := by rw [hns, List.flatMap_append]; rfl
     have hxF : ∀ b, (jxA 1 xk).F b → False := fun b hb => by rw [hxk] at hb; exact hb
     replace hS := kids_add ((hS.more hxA hxF).pick (Γ' := [jxA 1 xk, kidsA 1 kids, ownA 37 4 (.slice q97 (kids.length + 1) c97) (kids.length + 1) (kids.flatMap JX.cs ++ ([.int .i64 (y.k : Int), .string (tx y.t), .slice none 0 0, .slice none 0 0] ++ [])), ownA 9 1 (.slice q92 (kids.length + 1) c92) (kids.length + 1) ((nmsOf c.fx kids.length).flatMap encS ++ [.string (tx x.nm)]), .blk b8 [.int .i64 6, .string ⟨#[]⟩, .slice q97 (kids.length + 1) c97, .slice q92 (kids.length + 1) c92] 37, .blk b4 zeroJ 37, .blk cb (cellsC c (.slice (some ⟨nb, no, none⟩) c.fx.length fc)) 24, oldA W0]) (by repeat (first | exact Pick.nil | (refine Pick.cons (by repeat (first | exact Rem.head | apply Rem.tail)) ?_))))
     rw [← hfl2, ← hnf] at hS
     refine ⟨(kids ++ [xk], .slice q97 (kids.length + 1) c97, .slice q92 (kids.length + 1) c92), by show c.fx.length - (kids ++ [xk]).length < c.fx.length - kids.length; omega, ?_, by show (kids ++ [xk]).length ≤ c.fx.length; omega, by show factsJ (c.fx.drop (kids ++ [xk]).length) (nmsOf c.fx (kids ++ [xk]).length) ((kids ++ [xk]).map JX.v) = _; rw [hkl1, hns, List.map_append, List.map_singleton, hxv]; exact hgo⟩
     show St _ _ _ _ _ [(56, .int .i64 ((kids ++ [xk]).length : Int)), _, _, _, _, _, _] [ownA _ _ _ (kids ++ [xk]).length _, ownA _ _ _ (kids ++ [xk]).length ((nmsOf c.fx (kids ++ [xk]).length).flatMap encS), _, _, _, _, _]
     rw [hkl1]
     exact (hS.slots (by repeat (first | exact trivial | refine ⟨rfl, ?_⟩))).pick (by repeat (first | exact Pick.nil | (refine Pick.cons (by repeat (first | exact Rem.head | apply Rem.tail)) ?_)))
    refine Z_op (i := 9) rfl (want_none a hS.sl) (listed' := [true, true, true, true, false, false, true, true, true, true, false, false, false, false, false]) rfl (s_bslice hS ty_sl34 ty_sz37 ty_z37 rfl rfl rfl rfl (.agg rfl rfl .nil) rfl ?_); clear hS a; intro a w b96 hS
    refine Z_and hS (sub_cons (by repeat constructor) (sub_cons (by repeat constructor) (sub_cons (by repeat constructor) sub_nil))) ?_
    refine Zo 4 [true, true, true, true, true, false, true, true, true, true, false, false, false, false, false] hS rfl wN rfl (s_bslice hS ty_sl35 ty_sz9 ty_z9 rfl rfl rfl rfl (.one rfl rfl rfl .nil) rfl ?_); clear hS a; intro a w b91 hS
    refine Z_and hS (sub_cons (by repeat constructor) (sub_cons (by repeat constructor) (sub_cons (by repeat constructor) sub_nil))) ?_
    refine Zo 5 (tf 10 5) hS rfl wN rfl (s_append1 hS rfl rfl ty_sl35 ty_sz9 ty_by9 ty_z9 rfl rfl rfl (by repeat constructor) (by repeat constructor) (by rfl) (by rfl) (fun _ => (by repeat constructor)) (by omega) ?_); clear hS a; intro v92 a w hv92 hS
    obtain ⟨q92, c92, rfl⟩ := own_slice (hS.gg (X := ownA 9 1 v92 (kids.length + 1) ((nmsOf c.fx kids.length).flatMap encS ++ [.string (tx x.nm)])))
    refine Z_and hS (sub_cons (by repeat constructor) (sub_cons (by repeat constructor) (sub_cons (by repeat constructor) sub_nil))) ?_
    (first | refine Zt0 11 [true, true, true, true, true, true, true, true, true, true, false, true, false, false, false] hS rfl want_none (e_fa0 rfl ty_fo37_3) rfl (by kernel_rfl) rfl ?_ | refine Zt0 11 [true, true, true, true, true, true, true, true, true, true, false, true, false, false, false] hS rfl want_none (e_faK rfl ty_fo37_3) rfl (by kernel_rfl) rfl ?_); clear hS a; intro a hS
    refine Zo 10 (tf 12 3) hS rfl wN rfl (s_append1 hS rfl rfl ty_sl34 ty_sz37 ty_by37 ty_z37 rfl rfl rfl (by repeat constructor) (by repeat constructor) (by rfl) (by rfl) (fun _ => (by repeat constructor)) (by omega) ?_); clear hS a; intro v97 a w hv97 hS
    obtain ⟨q97, c97, rfl⟩ := own_slice (hS.gg (X := ownA 37 4 v97 (kids.length + 1) _))
    refine Z_and hS (sub_cons (by repeat constructor) (sub_cons (by repeat constructor) (sub_cons (by repeat constructor) sub_nil))) ?_
    refine Zo 12 (tf 13 2) hS rfl wN rfl (s_store hS rfl rfl rfl ty_sz35 (by repeat constructor) (by repeat constructor) ?_); clear hS; intro w hS
    refine Z_last (by simp) ?_
    (first | refine Zt0 13 (tf 14 1) hS rfl want_none (e_fa0 rfl ty_fo37_2) rfl (by kernel_rfl) rfl ?_ | refine Zt0 13 (tf 14 1) hS rfl want_none (e_faK rfl ty_fo37_2) rfl (by kernel_rfl) rfl ?_); clear hS a; intro a hS
    refine Zo 14 (tf 15 0) hS rfl wN rfl (s_store hS rfl rfl rfl ty_sz34 (by repeat constructor) (by repeat constructor) ?_); clear hS; intro w hS
    refine Z_last (by simp) ?_
    refine Z_done (by kernel_rfl) ?_
    refine n_block (nT (cR ?_))
    (first | refine L_e hS (e_binN rfl rfl rfl (by omega)) rfl ?_ | refine L_e hS (e_bin rfl rfl rfl) rfl ?_); clear hS a; intro a hS
    refine L_e hS (e_move rfl) rfl ?_; clear hS a; intro a hS
    refine nL ?_
    obtain ⟨xk, hxk⟩ : ∃ xk : JX, xk = ⟨y, [.int .i64 (y.k : Int), .string (tx y.t), .slice none 0 0, .slice none 0 0], fun _ => False, rfl, rfl⟩ := ⟨_, rfl⟩
    have hxv : xk.v = y := by rw [hxk]
    have hxc : xk.cs = [.int .i64 (y.k : Int), .string (tx y.t), .slice none 0 0, .slice none 0 0] := by rw [hxk]
    have hxA : (jxA 1 xk).ok w := by
     rw [hxk]
     cases y with
     | mk yk yt yn yl =>
       have e1 : yn = [] := hfc2
       have e2 : yl = [] := hfc3
       subst e1 e2
       exact jx_leaf 0 yk yt w
    have hfl2 : (kids ++ [xk]).flatMap JX.cs = kids.flatMap JX.cs ++ ([.int .i64 (y.k : Int), .string (tx y.t), .slice none 0 0, .slice none 0 0] ++ []) := by rw [List.flatMap_append, ← hxc]; simp
    have hkl1 : (kids ++ [xk]).length = kids.length + 1 := by simp
    have hns : nmsOf c.fx (kids.length + 1) = nmsOf c.fx kids.length ++ [x.nm] := by unfold nmsOf; rw [take_next hx, List.map_append]; rfl
    have hnf : (nmsOf c.fx (kids.length + 1)).flatMap encS = (nmsOf c.fx kids.length).flatMap encS ++ [.string (tx x.nm)] := by rw [hns, List.flatMap_append]; rfl
    have hxF : ∀ b, (jxA 1 xk).F b → False := fun b hb => by rw [hxk] at hb; exact hb
    replace hS := kids_add ((hS.more hxA hxF).pick (Γ' := [jxA 1 xk, kidsA 1 kids, ownA 37 4 (.slice q97 (kids.length + 1) c97) (kids.length + 1) (kids.flatMap JX.cs ++ ([.int .i64 (y.k : Int), .string (tx y.t), .slice none 0 0, .slice none 0 0] ++ [])), ownA 9 1 (.slice q92 (kids.length + 1) c92) (kids.length + 1) ((nmsOf c.fx kids.length).flatMap encS ++ [.string (tx x.nm)]), .blk b8 [.int .i64 6, .string ⟨#[]⟩, .slice q97 (kids.length + 1) c97, .slice q92 (kids.length + 1) c92] 37, .blk b4 zeroJ 37, .blk cb (cellsC c (.slice (some ⟨nb, no, none⟩) c.fx.length fc)) 24, oldA W0]) (by repeat (first | exact Pick.nil | (refine Pick.cons (by repeat (first | exact Rem.head | apply Rem.tail)) ?_))))
    rw [← hfl2, ← hnf] at hS
    refine ⟨(kids ++ [xk], .slice q97 (kids.length + 1) c97, .slice q92 (kids.length + 1) c92), by show c.fx.length - (kids ++ [xk]).length < c.fx.length - kids.length; omega, ?_, by show (kids ++ [xk]).length ≤ c.fx.length; omega, by show factsJ (c.fx.drop (kids ++ [xk]).length) (nmsOf c.fx (kids ++ [xk]).length) ((kids ++ [xk]).map JX.v) = _; rw [hkl1, hns, List.map_append, List.map_singleton, hxv]; exact hgo⟩
    show St _ _ _ _ _ [(56, .int .i64 ((kids ++ [xk]).length : Int)), _, _, _, _, _, _] [ownA _ _ _ (kids ++ [xk]).length _, ownA _ _ _ (kids ++ [xk]).length ((nmsOf c.fx (kids ++ [xk]).length).flatMap encS), _, _, _, _, _]
    rw [hkl1]
    exact (hS.slots (by repeat (first | exact trivial | refine ⟨rfl, ?_⟩))).pick (by repeat (first | exact Pick.nil | (refine Pick.cons (by repeat (first | exact Rem.head | apply Rem.tail)) ?_)))
 have hk2 : kids.length = c.fx.length := by omega
 rw [hk2, List.drop_length] at hgo
 have hgo' : factsJ c.fx [] [] = some (.mk 6 [] (nmsOf c.fx kids.length) (kids.map JX.v)) := by rw [← hgo, hk2]; rfl
 have hnl : (nmsOf c.fx kids.length).length = kids.length := by unfold nmsOf; rw [List.length_map, List.length_take, hk2, Nat.min_self]
 refine wp_exit ?_
 refine x_then (x_then (x_hit ?_))
 refine nT (cS (cR ?_))
 refine Rn hS (.m rfl <| .c (e_nilCheck rfl) .n) ?_; clear hS a; intro a hS
 (first | refine L_e hS (e_fa0 rfl ty_fo24_14) rfl ?_ | refine L_e hS (e_faK rfl ty_fo24_14) rfl ?_); clear hS a; intro a hS
 refine L_op (s_store hS rfl rfl rfl ty_sz22 (by repeat constructor) (upd_facts c (.slice fa c.fx.length fc) (.slice none 0 0)) ?_); clear hS; intro w hS
 refine nL (nT (cS (cR ?_)))
 refine L_e hS (e_loadA rfl (by repeat constructor) ty_st37 ty_sz37 (by rfl)) rfl ?_; clear hS a; intro a hS
 refine L_op (s_storeA hS rfl rfl ty_sz37 (by repeat constructor) (by rfl) (by rfl) (by rfl) ?_); clear hS; intro w hS
 refine L_e hS (e_assign rfl) rfl ?_; clear hS a; intro a hS
 refine nL (nT (wp_ret ?_))
 refine c_retN hS Tryz.results29 (.cons (.cellA rfl (by repeat constructor) ty_st37 ty_sz37 (by rfl)) (.cons (.tmp rfl) .nil)) rfl ?_
 have hS1 := hS.pick (Γ' := [ownA 37 4 (.slice ql kids.length cl) kids.length (kids.flatMap JX.cs), ownA 9 1 (.slice qn kids.length cn) kids.length ((nmsOf c.fx kids.length).flatMap encS), kidsA 1 kids, .blk cb (cellsC c (.slice none 0 0)) 24]) (by repeat (first | exact Pick.nil | (refine Pick.cons (by repeat (first | exact Rem.head | apply Rem.tail)) ?_)))
 have hS2 := jx_node (d := 1) (k := 6) (t := []) (ns := nmsOf c.fx kids.length) (kids := kids) (by rw [hnl]; exact hS1)
 obtain ⟨F, hF2⟩ : ∃ F : Nat → Prop, F = fun b => (Value.slice ql kids.length cl).ownBlock = some b ∨ (Value.slice qn kids.length cn).ownBlock = some b ∨ kidF kids b := ⟨_, rfl⟩
 rw [← hF2] at hS2
 refine ⟨.inl ⟨⟨.mk 6 [] (nmsOf c.fx kids.length) (kids.map JX.v), [.int .i64 6, .string ⟨#[]⟩, .slice ql kids.length cl, .slice qn kids.length cn], F, rfl, rfl⟩, hgo'⟩, rfl, hS.chg, ?_, ?_⟩
 · exact duo_ok (hS2.ok (.blk cb (cellsC c (.slice none 0 0)) 24) (.tail _ (.head _))) (hS2.ok _ (.head _)) (fun b h1 h2 => (List.pairwise_cons.1 hS2.dis).1 _ (.head _) b h2 h1)
 · rintro b (hb | hb)
   · exact .inl hb
   · exact (hS2.mine _ (.head _) rfl b hb).symm
def VlR (f : Fd) (c : Cd) : Type := { x : JX // (valC f c).1 = some x.v } ⊕ { p : List Value // (valC f c).1 = none ∧ ∃ k s a1 a2 a3 a4 a5 a6, p = fourJ k s a1 a2 a3 a4 a5 a6 }
def vlV (f : Fd) (c : Cd) : VlR f c → Value
 | .inl x => .tuple [.agg x.1.cs.toArray, .bool true].toArray
 | .inr p => .tuple [.agg p.1.toArray, .bool false].toArray
def vlY (f : Fd) (c : Cd) (cb : Nat) (fv : Value) : VlR f c → Asn
 | .inl x => duo (.blk cb (cellsC (valC f c).2 (if f.kd = 2 then .slice none 0 0 else fv)) 24) (jxA 2 x.1)
 | .inr _ => .blk cb (cellsC (valC f c).2 fv) 24
structure Cd.ok (c : Cd) : Prop where
 t : ∀ i, 1 ≤ i → i ≤ 6 → (c.t i).length ≤ 1100000
 n : ∀ i, 7 ≤ i → i ≤ 13 → -9223372036854775808 ≤ c.n i ∧ c.n i ≤ 9223372036854775807
theorem fValue_M (W0 : World) (hG : Gj W0) (x : Fg) (hx : x.ok) (c : Cd) (hc : c.ok) (fa : Option Addr) (fc : Nat) (hF : FctAt W0 fa c.fx) (cb : Nat) (hcb : W0.heap.size ≤ cb) (w0 : World) (hold : oldφ W0 w0) (h : (Asn.blk cb (cellsC c (.slice fa c.fx.length fc)) 24).ok w0) :
 MutC Tryz.prog 29 [.agg (fgV x).toArray, .pointer (some ⟨cb, 0, none⟩)] w0 (.blk cb (cellsC c (.slice fa c.fx.length fc)) 24) (vlV x.f c) (vlY x.f c cb (.slice fa c.fx.length fc)) := by
 rcases hx.fd.kd with hk | hk | hk
 · have e1 : fgV x = [.string (tx x.f.nm), .func (.func x.g) #[] #[], .nilFunc] := by unfold fgV; rw [if_pos hk, if_neg (by omega)]
   have e2 : valC x.f c = (if Lib.validD (c.t x.f.off) then some (jStr (c.t x.f.off)) else none, c.putT x.f.off []) := by unfold valC; rw [if_pos hk]
   have ho := hx.fd.t hk
   have hm := fValue0_M W0 hG x.g x.f.off (hx.p (by omega)) ho x.f.nm c (.slice fa c.fx.length fc) (by have := hc.t x.f.off ho.1 ho.2; omega) cb hcb w0 hold h
   rw [e1]
   refine hm.mono ?_
   rintro e w' ⟨_, he, h1, h2, h3⟩
   cases hv : Lib.validD (c.t x.f.off) with
   | true =>
     have e3 : (valC x.f c).1 = some (jStr (c.t x.f.off)) := by rw [e2, hv]; rfl
     have h4 : (Asn.blk cb (cellsC (valC x.f c).2 (if x.f.kd = 2 then .slice none 0 0 else .slice fa c.fx.length fc)) 24).ok w' := by rw [e2, if_neg (show ¬ x.f.kd = 2 by omega)]; exact h2
     exact ⟨.inl ⟨⟨jStr (c.t x.f.off), fourJ 4 (tx (c.t x.f.off)) none 0 0 none 0 0, fun _ => False, rfl, rfl⟩, e3⟩, by rw [he, hv]; rfl, h1, duo_ok h4 (jx_leaf 1 4 _ w') (fun k _ hk => hk), fun b hb => hb.elim .inl (fun h => h.elim)⟩
   | false =>
     have e3 : (valC x.f c).1 = none := by rw [e2, hv]; rfl
     have h4 : (Asn.blk cb (cellsC (valC x.f c).2 (.slice fa c.fx.length fc)) 24).ok w' := by rw [e2]; exact h2
     exact ⟨.inr ⟨fourJ 4 (tx (c.t x.f.off)) none 0 0 none 0 0, e3, _, _, _, _, _, _, _, _, rfl⟩, by rw [he, hv]; rfl, h1, h4, fun b hb => .inl hb⟩
 · have e1 : fgV x = [.string (tx x.f.nm), .nilFunc, .func (.func x.g) #[] #[]] := by unfold fgV; rw [if_neg (by omega), if_pos hk]
   have e2 : valC x.f c = (some (jNum (Lib.itoa (c.n x.f.off))), c.putN x.f.off 0) := by unfold valC; rw [if_neg (by omega), if_pos hk]
   have ho := hx.fd.n hk
   have hm := fValue1_M W0 hG x.g x.f.off (hx.p (by omega)) ho x.f.nm c (.slice fa c.fx.length fc) (hc.n _ ho.1 ho.2).1 (hc.n _ ho.1 ho.2).2 cb hcb w0 hold h
   rw [e1]
   refine hm.mono ?_
   rintro e w' ⟨_, he, h1, h2, h3⟩
   have h4 : (Asn.blk cb (cellsC (valC x.f c).2 (if x.f.kd = 2 then .slice none 0 0 else .slice fa c.fx.length fc)) 24).ok w' := by rw [e2, if_neg (show ¬ x.f.kd = 2 by omega)]; exact h2
   exact ⟨.inl ⟨⟨jNum (Lib.itoa (c.n x.f.off)), fourJ 3 (tx (Lib.itoa (c.n x.f.off))) none 0 0 none 0 0, fun _ => False, rfl, rfl⟩, by rw [e2]⟩, he, h1, duo_ok h4 (jx_leaf 1 3 _ w') (fun k _ hk => hk), fun b hb => hb.elim .inl (fun h => h.elim)⟩
 · have e1 : fgV x = [.string (tx x.f.nm), .nilFunc, .nilFunc] := by unfold fgV; rw [if_neg (by omega), if_neg (by omega)]
   have e2 : valC x.f c = (factsJ c.fx [] [], { c with fx := [] }) := by unfold valC; rw [if_neg (by omega), if_neg (by omega)]
   rw [e1]
   refine (fValue2_M W0 hG x.f.nm c fa fc hF cb hcb w0 hold h).mono ?_
   rintro e w' ⟨r, he, h1, h2, h3⟩
   rcases r with r | r
   · have e4 : cellsC (valC x.f c).2 (if x.f.kd = 2 then .slice none 0 0 else .slice fa c.fx.length fc) = cellsC c (.slice none 0 0) := by rw [e2, if_pos hk]; rfl
     exact ⟨.inl ⟨r.1, by rw [e2]; exact r.2⟩, he, h1, by unfold vlY; rw [e4]; exact h2, fun b hb => h3 b hb⟩
   · have e4 : cellsC (valC x.f c).2 (.slice fa c.fx.length fc) = cellsC c (.slice fa c.fx.length fc) := by rw [e2]; rfl
     exact ⟨.inr ⟨zeroJ, by rw [e2]; exact r.2, 0, ⟨#[]⟩, none, 0, 0, none, 0, 0, rfl⟩, he, h1, by unfold vlY; rw [e4]; exact h2, fun b hb => .inl hb⟩
set_option maxRecDepth 100000 in
theorem fEmptyF_P (x : Int) (w0 : World) : PureC Tryz.prog 90 [.int .i64 x] w0 (.bool (!decide (x = 0))) := by
 refine c_enter [(0, .int .i64 x)] [] noB Tryz.func90 rfl Tryz.ntmps90 ⟨rfl, trivial⟩ rfl (by simp) (by simp) (by simp) ?_
 intro a hS
 refine cS (cR ?_)
 refine L_e hS (e_assign rfl) rfl ?_; clear hS a; intro a hS
 refine nL (nT (cS (cR ?_)))
 refine Rn hS (.m rfl <| .c (e_bin rfl rfl rfl) <| .a rfl .n) ?_; clear hS a; intro a hS
 refine nL (nT (wp_ret ?_))
 refine c_ret1 hS Tryz.results90 (.tmp rfl) ?_
 exact ⟨by simp, hS.chg⟩
set_option maxRecDepth 100000 in
theorem fIndexI_N (W0 : World) (b c : Nat) (xs : List Int) (hlen : xs.length ≤ 1000) (hx : ∀ (i : Nat) (x : Int), xs[i]? = some x → W0.cell? ⟨b, i, none⟩ = some (.int .i64 x)) (w0 : World) (ho : oldφ W0 w0) :
 NewC Tryz.prog 135 [.slice (some ⟨b, 0, none⟩) xs.length c, .func (.func 90) #[] [].toArray] w0 (fun i : { i : Int // i < 0 ↔ ∀ x ∈ xs, x = 0 } => .int .i64 i.1) (fun _ => none_) := by
 refine c_enter [(0, .slice (some ⟨b, 0, none⟩) xs.length c), (1, .func (.func 90) #[] [].toArray)] [oldA W0] noB Tryz.func135 rfl Tryz.ntmps135 ⟨rfl, rfl, trivial⟩ rfl (okC (old_ok ho) okN) dis1 (mineC rfl mineN) ?_
 intro a hS
 refine cS (cR ?_)
 refine L_e hS (e_assign rfl) rfl ?_; clear hS a; intro a hS
 refine nL (nT (cS (cS (cR ?_))))
 refine Rn hS (.m rfl <| .c (e_len rfl rfl ty_sl121) <| .m rfl .n) ?_; clear hS a; intro a hS
 refine nL (nT (wB ?_))
 skip
 refine c_loop (γ := Nat) (fun k a w => St 19 noB w0 a w [(8, .int .i64 (k : Int)), (7, .int .i64 (xs.length : Int)), (0, .slice (some ⟨b, 0, none⟩) xs.length c), (1, .func (.func 90) #[] [].toArray)] [oldA W0] ∧ k ≤ xs.length ∧ ∀ (j : Nat) (x : Int), j < k → xs[j]? = some x → x = 0) (fun k => xs.length - k) 0 ⟨hS.slots (by repeat (first | exact trivial | refine ⟨rfl, ?_⟩)), Nat.zero_le _, fun j _ hj => by omega⟩ ?_
 clear hS a; intro k a w hI
 obtain ⟨hS, hk, hno⟩ := hI
 refine cS (cR ?_)
 refine L_e hS (e_bin rfl rfl rfl) rfl ?_; clear hS a; intro a hS
 refine nL (nT (cS ?_))
 (first | refine c_ifD hS rfl ?_ ?_ | refine c_if hS rfl ?_ ?_) <;> intro hc9
 ·
  have hkn : k < xs.length := by omega
  obtain ⟨y, hy⟩ : ∃ x, xs[k]? = some x := ⟨_, List.getElem?_eq_getElem hkn⟩
  refine wS (nT (cS (wB (cS (cR ?_)))))
  refine Rn hS (.m rfl <| .a rfl .n) ?_; clear hS a; intro a hS
  refine nL (nT (cS (cR ?_)))
  refine Rn hS (.m rfl <| .m rfl <| .m rfl <| .c (e_ixN rfl rfl ty_sl121 ty_sz3 (by omega)) <| .c (e_loadC rfl ty_sc3 (fun w hh => by rw [Nat.mul_one, Nat.zero_add]; exact old_cell (hh (oldA W0) (by repeat constructor)) (hx k y hy))) .n) ?_; clear hS a; intro a hS
  refine L_op (s_callvP hS rfl (.cons rfl .nil) cf90 rfl (fEmptyF_P y _) ?_); clear hS a; intro a w hS
  refine nL (nT ?_)
  (first | refine c_ifD hS rfl ?_ ?_ | refine c_if hS rfl ?_ ?_) <;> intro hc16
  ·
   refine cS (cR ?_)
   refine Rn hS (.m rfl <| .a rfl .n) ?_; clear hS a; intro a hS
   refine nL (nT (wp_ret ?_))
   refine r_block (r_then (r_then (r_block (r_then ?_))))
   refine c_ret1 hS Tryz.results135 (.tmp rfl) ?_
   exact ⟨⟨(k : Int), fun h => absurd h (by omega), fun h => by rw [h y (List.mem_of_getElem? hy)] at hc16; simp at hc16⟩, rfl, hS.chg, none_ok _, fun b hb => hb.elim⟩
  refine wS (n_block (nT (cR ?_)))
  (first | refine L_e hS (e_binN rfl rfl rfl (by omega)) rfl ?_ | refine L_e hS (e_bin rfl rfl rfl) rfl ?_); clear hS a; intro a hS
  refine L_e hS (e_move rfl) rfl ?_; clear hS a; intro a hS
  refine nL ?_
  refine ⟨k + 1, by omega, hS.slots (by repeat (first | exact trivial | refine ⟨rfl, ?_⟩)), hkn, fun j x hj hx => ?_⟩
  by_cases e : j = k
  · subst e; rw [hy] at hx; cases hx; simpa using hc16
  · exact hno j x (by omega) hx
 refine wp_exit ?_
 refine x_then (x_then (x_hit ?_))
 refine nT (cS (cR ?_))
 refine L_e hS (e_assign rfl) rfl ?_; clear hS a; intro a hS
 refine nL (nT (wp_ret ?_))
 refine c_ret1 hS Tryz.results135 (.tmp rfl) ?_
 refine ⟨⟨-1, fun _ x hx => ?_, fun _ => by decide⟩, rfl, hS.chg, none_ok _, fun b hb => hb.elim⟩
 obtain ⟨j, hj⟩ := List.getElem?_of_mem hx
 exact hno j x (by have := (List.getElem?_eq_some_iff.1 hj).1; omega) hj
set_option maxRecDepth 100000 in
theorem fContI_N (W0 : World) (b c : Nat) (xs : List Int) (hlen : xs.length ≤ 1000) (hx : ∀ (i : Nat) (x : Int), xs[i]? = some x → W0.cell? ⟨b, i, none⟩ = some (.int .i64 x)) (w0 : World) (ho : oldφ W0 w0) :
 NewC Tryz.prog 89 [.slice (some ⟨b, 0, none⟩) xs.length c, .func (.func 90) #[] [].toArray] w0 (fun b : { b : Bool // b = false ↔ ∀ x ∈ xs, x = 0 } => .bool b.1) (fun _ => none_) := by
 refine c_enter [(0, .slice (some ⟨b, 0, none⟩) xs.length c), (1, .func (.func 90) #[] [].toArray)] [oldA W0] noB Tryz.func89 rfl Tryz.ntmps89 ⟨rfl, rfl, trivial⟩ rfl (okC (old_ok ho) okN) dis1 (mineC rfl mineN) ?_
 intro a hS
 refine cS (cR ?_)
 refine L_e hS (e_assign rfl) rfl ?_; clear hS a; intro a hS
 refine nL (nT (cS (cR ?_)))
 refine Rn hS (.m rfl <| .m rfl .n) ?_; clear hS a; intro a hS
 refine L_op (s_callN hS (.cons rfl (.cons rfl .nil)) cf135 rfl (fIndexI_N W0 b c xs hlen hx _ (hS.gg (X := oldA W0))) ?_); clear hS a; intro x7 a w hS
 refine Rn hS (.c (e_bin rfl rfl rfl) <| .a rfl .n) ?_; clear hS a; intro a hS
 refine nL (nT (wp_ret ?_))
 refine c_ret1 hS Tryz.results89 (.tmp rfl) ?_
 obtain ⟨i, hi⟩ := x7
 exact ⟨⟨decide (0 ≤ i), by rw [← hi, decide_eq_false_iff_not]; omega⟩, rfl, hS.chg, none_ok _, fun b hb => hb.elim⟩
def txsOf (c : Cd) : ByteArray := tx (c.t 1) ++ tx (c.t 2) ++ tx (c.t 3) ++ tx (c.t 4) ++ tx (c.t 5) ++ tx (c.t 6)
theorem txs_nil (c : Cd) : txsOf c = ⟨#[]⟩ ↔ c.t 1 = [] ∧ c.t 2 = [] ∧ c.t 3 = [] ∧ c.t 4 = [] ∧ c.t 5 = [] ∧ c.t 6 = [] := by
 unfold txsOf
 simp only [tx_app]
 rw [show (⟨#[]⟩ : ByteArray) = tx [] from rfl]
 constructor
 · intro h
   have := congrArg (fun x : ByteArray => x.data.toList) h
   simpa [and_assoc, tx] using this
 · rintro ⟨h1, h2, h3, h4, h5, h6⟩
   rw [h1, h2, h3, h4, h5, h6]; rfl
theorem tx_sz (l : List UInt8) : (tx l).size = l.length := by simp [tx, ByteArray.size]
theorem bapp_sz (a b : ByteArray) : (a ++ b).size = a.size + b.size := ByteArray.size_append
def numsOf (c : Cd) : List Int := [c.n 7, c.n 8, c.n 9, c.n 10, c.n 11, c.n 12, c.n 13]
theorem nums_nil (c : Cd) : (∀ x ∈ numsOf c, x = 0) ↔ c.n 7 = 0 ∧ c.n 8 = 0 ∧ c.n 9 = 0 ∧ c.n 10 = 0 ∧ c.n 11 = 0 ∧ c.n 12 = 0 ∧ c.n 13 = 0 := by
 simp [numsOf]
theorem empty_y (c : Cd) (x : { b : Bool // b = false ↔ ∀ x ∈ numsOf c, x = 0 }) (h : txsOf c = ⟨#[]⟩) (hf : c.fx.length = 0) : (!x.1) = true ↔ emptyC c := by
 have h1 := (txs_nil c).1 h
 have h2 : c.fx = [] := List.length_eq_zero_iff.1 hf
 rw [Bool.not_eq_true', x.2, nums_nil]
 unfold emptyC
 exact ⟨fun h3 => ⟨h1.1, h1.2.1, h1.2.2.1, h1.2.2.2.1, h1.2.2.2.2.1, h1.2.2.2.2.2, h2, h3⟩, fun h3 => h3.2.2.2.2.2.2.2⟩
theorem empty_n1 (c : Cd) (h : ¬ txsOf c = ⟨#[]⟩) : ¬ emptyC c := fun he => h ((txs_nil c).2 ⟨he.1, he.2.1, he.2.2.1, he.2.2.2.1, he.2.2.2.2.1, he.2.2.2.2.2.1⟩)
theorem empty_n2 (c : Cd) (h : ¬ (c.fx.length : Int) = 0) : ¬ emptyC c := fun he => h (by rw [he.2.2.2.2.2.2.1]; rfl)
set_option maxRecDepth 100000 in
theorem fEmpty_N (c : Cd) (hc : c.ok) (fa : Option Addr) (fc : Nat) (hfl : c.fx.length ≤ 1000000) (w0 : World) : NewC Tryz.prog 30 [.agg (cellsC c (.slice fa c.fx.length fc)).toArray] w0 (fun b : { b : Bool // b = true ↔ emptyC c } => .bool b.1) (fun _ => none_) := by
 have z1 := hc.t 1 (by omega) (by omega)
 have z2 := hc.t 2 (by omega) (by omega)
 have z3 := hc.t 3 (by omega) (by omega)
 have z4 := hc.t 4 (by omega) (by omega)
 have z5 := hc.t 5 (by omega) (by omega)
 have z6 := hc.t 6 (by omega) (by omega)
 refine c_enter [(0, .agg (cellsC c (.slice fa c.fx.length fc)).toArray)] [] noB Tryz.func30 rfl Tryz.ntmps30 ⟨rfl, trivial⟩ rfl (by simp) (by simp) (by simp) ?_
 intro a hS
 refine cS (cR ?_)
 refine L_op (s_boxA hS rfl rfl ?_); clear hS a; intro a w b1 hS
 refine L_e hS (e_assign rfl) rfl ?_; clear hS a; intro a hS
 refine nL (nT (cS (cR ?_)))
 (first | refine L_e hS (e_fa0 rfl ty_fo24_1) rfl ?_ | refine L_e hS (e_faK rfl ty_fo24_1) rfl ?_); clear hS a; intro a hS
 refine L_e hS (e_load rfl (by repeat constructor) ty_sc9 (by rfl)) rfl ?_; clear hS a; intro a hS
 (first | refine L_e hS (e_fa0 rfl ty_fo24_2) rfl ?_ | refine L_e hS (e_faK rfl ty_fo24_2) rfl ?_); clear hS a; intro a hS
 refine Rn hS (.c (e_load rfl (by repeat constructor) ty_sc9 (by rfl)) <| .c (e_cat rfl rfl (by simp only [tx_sz]; omega)) .n) ?_; clear hS a; intro a hS
 (first | refine L_e hS (e_fa0 rfl ty_fo24_3) rfl ?_ | refine L_e hS (e_faK rfl ty_fo24_3) rfl ?_); clear hS a; intro a hS
 refine Rn hS (.c (e_load rfl (by repeat constructor) ty_sc9 (by rfl)) <| .c (e_cat rfl rfl (by simp only [tx_sz, bapp_sz]; omega)) .n) ?_; clear hS a; intro a hS
 (first | refine L_e hS (e_fa0 rfl ty_fo24_4) rfl ?_ | refine L_e hS (e_faK rfl ty_fo24_4) rfl ?_); clear hS a; intro a hS
 refine Rn hS (.c (e_load rfl (by repeat constructor) ty_sc9 (by rfl)) <| .c (e_cat rfl rfl (by simp only [tx_sz, bapp_sz]; omega)) .n) ?_; clear hS a; intro a hS
 (first | refine L_e hS (e_fa0 rfl ty_fo24_5) rfl ?_ | refine L_e hS (e_faK rfl ty_fo24_5) rfl ?_); clear hS a; intro a hS
 refine Rn hS (.c (e_load rfl (by repeat constructor) ty_sc9 (by rfl)) <| .c (e_cat rfl rfl (by simp only [tx_sz, bapp_sz]; omega)) .n) ?_; clear hS a; intro a hS
 (first | refine L_e hS (e_fa0 rfl ty_fo24_6) rfl ?_ | refine L_e hS (e_faK rfl ty_fo24_6) rfl ?_); clear hS a; intro a hS
 refine Rn hS (.c (e_load rfl (by repeat constructor) ty_sc9 (by rfl)) <| .c (e_cat rfl rfl (by simp only [tx_sz, bapp_sz]; omega)) <| .a rfl .n) ?_; clear hS a; intro a hS
 refine nL (nT (cS (cR ?_)))
 (first | refine L_e hS (e_fa0 rfl ty_fo24_7) rfl ?_ | refine L_e hS (e_faK rfl ty_fo24_7) rfl ?_); clear hS a; intro a hS
 refine L_e hS (e_load rfl (by repeat constructor) ty_sc3 (by rfl)) rfl ?_; clear hS a; intro a hS
 (first | refine L_e hS (e_fa0 rfl ty_fo24_8) rfl ?_ | refine L_e hS (e_faK rfl ty_fo24_8) rfl ?_); clear hS a; intro a hS
 refine L_e hS (e_load rfl (by repeat constructor) ty_sc3 (by rfl)) rfl ?_; clear hS a; intro a hS
 (first | refine L_e hS (e_fa0 rfl ty_fo24_9) rfl ?_ | refine L_e hS (e_faK rfl ty_fo24_9) rfl ?_); clear hS a; intro a hS
 refine L_e hS (e_load rfl (by repeat constructor) ty_sc3 (by rfl)) rfl ?_; clear hS a; intro a hS
 (first | refine L_e hS (e_fa0 rfl ty_fo24_10) rfl ?_ | refine L_e hS (e_faK rfl ty_fo24_10) rfl ?_); clear hS a; intro a hS
 refine L_e hS (e_load rfl (by repeat constructor) ty_sc3 (by rfl)) rfl ?_; clear hS a; intro a hS
 (first | refine L_e hS (e_fa0 rfl ty_fo24_11) rfl ?_ | refine L_e hS (e_faK rfl ty_fo24_11) rfl ?_); clear hS a; intro a hS
 refine L_e hS (e_load rfl (by repeat constructor) ty_sc3 (by rfl)) rfl ?_; clear hS a; intro a hS
 (first | refine L_e hS (e_fa0 rfl ty_fo24_12) rfl ?_ | refine L_e hS (e_faK rfl ty_fo24_12) rfl ?_); clear hS a; intro a hS
 refine L_e hS (e_load rfl (by repeat constructor) ty_sc3 (by rfl)) rfl ?_; clear hS a; intro a hS
 (first | refine L_e hS (e_fa0 rfl ty_fo24_13) rfl ?_ | refine L_e hS (e_faK rfl ty_fo24_13) rfl ?_); clear hS a; intro a hS
 refine L_e hS (e_load rfl (by repeat constructor) ty_sc3 (by rfl)) rfl ?_; clear hS a; intro a hS
 refine L_op (s_bslice hS ty_sl121 ty_sz3 ty_z3 rfl rfl rfl rfl (.one rfl rfl rfl (.one rfl rfl rfl (.one rfl rfl rfl (.one rfl rfl rfl (.one rfl rfl rfl (.one rfl rfl rfl (.one rfl rfl rfl .nil))))))) rfl ?_); clear hS a; intro a w b36 hS
 refine L_e hS (e_assign rfl) rfl ?_; clear hS a; intro a hS
 refine nL (nT (cS (cR ?_)))
 refine Rn hS (.m rfl <| .c (e_binS rfl rfl rfl) <| .m rfl .n) ?_; clear hS a; intro a hS
 (first | refine g_splitD (t := 39) hS rfl ?_ ?_ | refine g_split (t := 39) hS rfl ?_ ?_) <;> (clear hS; intro hg39 hS)
 ·
  (first | refine L_ge hS rfl rfl (e_fa0 rfl ty_fo24_14) rfl ?_ | refine L_ge hS rfl rfl (e_faK rfl ty_fo24_14) rfl ?_); clear hS a; intro a hS
  refine Rn hS (.g rfl rfl (e_load rfl (by repeat constructor) ty_sc22 (by rfl)) <| .g rfl rfl (e_len rfl rfl ty_sl22) <| .g rfl rfl (e_bin rfl rfl rfl) <| .c (e_pk rfl rfl) <| .m rfl .n) ?_; clear hS a; intro a hS
  (first | refine g_splitD (t := 45) hS rfl ?_ ?_ | refine g_split (t := 45) hS rfl ?_ ?_) <;> (clear hS; intro hg45 hS)
  ·
   refine L_ge hS rfl rfl (e_move rfl) rfl ?_; clear hS a; intro a hS
   have hb36 := hS.gg (X := .blk b36 ((numsOf c).map (Value.int .i64)) 3)
   refine L_go hS rfl rfl (s_callN hS (.cons rfl (.cons rfl .nil)) cf89 rfl (fContI_N w b36 7 (numsOf c) (by show 7 ≤ 1000; omega) (fun i x hx => cell_of_blk hb36 (by rw [List.getElem?_map, hx]; rfl)) _ (old_refl w)) ?_); clear hS a; intro x47 a w hS
   refine Rn hS (.g rfl rfl (e_not rfl) <| .c (e_pk rfl rfl) <| .a rfl .n) ?_; clear hS a; intro a hS
   refine nL (nT (wp_ret ?_))
   refine c_ret1 hS Tryz.results30 (.tmp rfl) ?_
   first
    | exact ⟨⟨!x47.1, empty_y c x47 hg39 (by omega)⟩, rfl, hS.chg, none_ok _, fun b hb => hb.elim⟩
    | exact ⟨⟨false, iff_of_false Bool.false_ne_true (empty_n2 c hg45)⟩, rfl, hS.chg, none_ok _, fun b hb => hb.elim⟩
    | exact ⟨⟨false, iff_of_false Bool.false_ne_true (empty_n1 c hg39)⟩, rfl, hS.chg, none_ok _, fun b hb => hb.elim⟩
  refine L_skip_t hS rfl rfl rfl ?_; clear hS a; intro a hS
  have hb36 := hS.gg (X := .blk b36 ((numsOf c).map (Value.int .i64)) 3)
  refine Rn hS (.t rfl rfl <| .t rfl rfl <| .c (e_pk rfl rfl) <| .a rfl .n) ?_; clear hS a; intro a hS
  refine nL (nT (wp_ret ?_))
  refine c_ret1 hS Tryz.results30 (.tmp rfl) ?_
  first
   | exact ⟨⟨!x47.1, empty_y c x47 hg39 (by omega)⟩, rfl, hS.chg, none_ok _, fun b hb => hb.elim⟩
   | exact ⟨⟨false, iff_of_false Bool.false_ne_true (empty_n2 c hg45)⟩, rfl, hS.chg, none_ok _, fun b hb => hb.elim⟩
   | exact ⟨⟨false, iff_of_false Bool.false_ne_true (empty_n1 c hg39)⟩, rfl, hS.chg, none_ok _, fun b hb => hb.elim⟩
 refine Rn hS (.t rfl rfl <| .t rfl rfl <| .t rfl rfl <| .t rfl rfl <| .c (e_pk rfl rfl) <| .m rfl <| .t rfl rfl .n) ?_; clear hS a; intro a hS
 have hb36 := hS.gg (X := .blk b36 ((numsOf c).map (Value.int .i64)) 3)
 refine Rn hS (.t rfl rfl <| .t rfl rfl <| .c (e_pk rfl rfl) <| .a rfl .n) ?_; clear hS a; intro a hS
 refine nL (nT (wp_ret ?_))
 refine c_ret1 hS Tryz.results30 (.tmp rfl) ?_
 first
  | exact ⟨⟨!x47.1, empty_y c x47 hg39 (by omega)⟩, rfl, hS.chg, none_ok _, fun b hb => hb.elim⟩
  | exact ⟨⟨false, iff_of_false Bool.false_ne_true (empty_n2 c hg45)⟩, rfl, hS.chg, none_ok _, fun b hb => hb.elim⟩
  | exact ⟨⟨false, iff_of_false Bool.false_ne_true (empty_n1 c hg39)⟩, rfl, hS.chg, none_ok _, fun b hb => hb.elim⟩
def rtRow (f : Nat → Nat) (k : Nat) (x : List UInt8 × List Fg) : List Value := [.string (tx x.1), .int .i64 ((k : Int) + 1), .slice (some ⟨f k, 0, none⟩) x.2.length x.2.length]
theorem rt_cell (f : Nat → Nat) : ∀ (k : Nat) (x : List UInt8 × List Fg), rtG[k]? = some x → ∀ (j : Nat) (v : Value), (rtRow f k x)[j]? = some v → (rtCells f)[k * 3 + j]? = some v := by
 intro k x hx j v hv
 rcases k with _ | _ | _ | _ | _ | _ | _ | _ | _ | _ | _ | _ | k
 case succ.succ.succ.succ.succ.succ.succ.succ.succ.succ.succ.succ => exact absurd (List.getElem?_eq_some_iff.1 hx).1 (by show ¬ k + 12 < 12; omega)
 all_goals
  obtain rfl : _ = x := by injection hx
  rcases j with _ | _ | _ | j
  · exact hv
  · exact hv
  · exact hv
  · cases hv
theorem rts_row {lo b : Nat} {f : Nat → Nat} {W : World} (h : RtsAt lo b f W) {k : Nat} {x : List UInt8 × List Fg} (hx : rtG[k]? = some x) : ∀ (j : Nat) (v : Value), (rtRow f k x)[j]? = some v → W.cell? ⟨b, 0 + k * 3 + j, none⟩ = some v := fun j v hv => by
 rw [Nat.zero_add]
 exact cell_of_blk h.c (rt_cell f k x hx j v hv)
theorem rts_fds {lo b : Nat} {f : Nat → Nat} {W : World} (h : RtsAt lo b f W) {k : Nat} {x : List UInt8 × List Fg} (hx : rtG[k]? = some x) : FdsAt W (f k) 0 x.2 := by
 have hg := rtG_ok x (List.mem_of_getElem? hx)
 refine ⟨fun i y hy j u hu => ?_, hg.ok, hg.nm, hg.n⟩
 rw [Nat.zero_add]
 refine cell_of_blk (h.r k x hx).2 ?_
 clear h hg hx
 generalize x.2 = l at *
 induction l generalizing i with
 | nil => cases hy
 | cons z l ih =>
   have hz : (fgV z).length = 3 := rfl
   rw [List.flatMap_cons]
   cases i with
   | zero =>
     obtain rfl : z = y := by simpa using hy
     have hj : j < 3 := by have := (List.getElem?_eq_some_iff.1 hu).1; omega
     rw [List.getElem?_append_left (by omega)]
     simpa using hu
   | succ i =>
     rw [List.getElem?_append_right (by omega), hz, show (i + 1) * 3 + j - 3 = i * 3 + j by omega]
     exact ih i (by simpa using hy)
theorem rt_kth {k : Nat} (h : k < 12) : ∃ x, rtG[k]? = some x := ⟨_, List.getElem?_eq_getElem (show k < rtG.length from h)⟩
def IdxOk (p : Nat → Bool) (i : Int) : Prop := (∃ k : Nat, i = k ∧ k < 12 ∧ p k = true ∧ ∀ j, j < k → p j = false) ∨ (i = -1 ∧ ∀ j, j < 12 → p j = false)
set_option maxRecDepth 100000 in
theorem fIndexRt_N (W0 : World) (lo b : Nat) (f : Nat → Nat) (hR : RtsAt lo b f W0) (cl : Nat) (caps : List Value) (p : Nat → Bool) (hcl : CallsTo Tryz.prog cl)
 (hp : ∀ (k : Nat) (x : List UInt8 × List Fg) (w : World), rtG[k]? = some x → oldφ W0 w → PureC Tryz.prog cl ([.agg (rtRow f k x).toArray] ++ caps) w (.bool (p k))) (w0 : World) (ho : oldφ W0 w0) :
 NewC Tryz.prog 27 [.slice (some ⟨b, 0, none⟩) 12 12, .func (.func cl) #[] caps.toArray] w0 (fun i : { i : Int // IdxOk p i } => .int .i64 i.1) (fun _ => none_) := by
 refine c_enter [(0, .slice (some ⟨b, 0, none⟩) 12 12), (1, .func (.func cl) #[] caps.toArray)] [oldA W0] noB Tryz.func27 rfl Tryz.ntmps27 ⟨rfl, rfl, trivial⟩ rfl (okC (old_ok ho) okN) dis1 (mineC rfl mineN) ?_
 intro a hS
 refine cS (cR ?_)
 refine L_e hS (e_assign rfl) rfl ?_; clear hS a; intro a hS
 refine nL (nT (cS (cS (cR ?_))))
 refine Rn hS (.m rfl <| .c (e_len rfl rfl ty_sl78) <| .m rfl .n) ?_; clear hS a; intro a hS
 refine nL (nT (wB ?_))
 skip
 refine c_loop (γ := Nat) (fun k a w => St 19 noB w0 a w [(8, .int .i64 (k : Int)), (7, .int .i64 ((12 : Nat) : Int)), (0, .slice (some ⟨b, 0, none⟩) 12 12), (1, .func (.func cl) #[] caps.toArray)] [oldA W0] ∧ k ≤ 12 ∧ ∀ j, j < k → p j = false) (fun k => 12 - k) 0 ⟨hS.slots (by repeat (first | exact trivial | refine ⟨rfl, ?_⟩)), Nat.zero_le _, fun j hj => by omega⟩ ?_
 clear hS a; intro k a w hI
 obtain ⟨hS, hk, hno⟩ := hI
 refine cS (cR ?_)
 refine L_e hS (e_bin rfl rfl rfl) rfl ?_; clear hS a; intro a hS
 refine nL (nT (cS ?_))
 (first | refine c_ifD hS rfl ?_ ?_ | refine c_if hS rfl ?_ ?_) <;> intro hc9
 ·
  have hkn : k < 12 := by omega
  obtain ⟨x, hx⟩ := rt_kth hkn
  refine wS (nT (cS (wB (cS (cR ?_)))))
  refine Rn hS (.m rfl <| .a rfl .n) ?_; clear hS a; intro a hS
  refine nL (nT (cS (cR ?_)))
  refine Rn hS (.m rfl <| .m rfl <| .m rfl <| .c (e_ixN rfl rfl ty_sl78 ty_sz83 (by omega)) <| .c (e_loadAC (l := rtRow f k x) rfl ty_st83 ty_sz83 (fun w hh j u hj => old_cell (hh (oldA W0) (by repeat constructor)) (rts_row hR hx j u hj))) .n) ?_; clear hS a; intro a hS
  refine L_op (s_callvP hS rfl (.cons rfl .nil) hcl rfl (hp k x _ hx (hS.gg (X := oldA W0))) ?_); clear hS a; intro a w hS
  refine nL (nT ?_)
  (first | refine c_ifD hS rfl ?_ ?_ | refine c_if hS rfl ?_ ?_) <;> intro hc16
  ·
   refine cS (cR ?_)
   refine Rn hS (.m rfl <| .a rfl .n) ?_; clear hS a; intro a hS
   refine nL (nT (wp_ret ?_))
   refine r_block (r_then (r_then (r_block (r_then ?_))))
   refine c_ret1 hS Tryz.results27 (.tmp rfl) ?_
   exact ⟨⟨(k : Int), .inl ⟨k, rfl, hkn, hc16, hno⟩⟩, rfl, hS.chg, none_ok _, fun b hb => hb.elim⟩
  refine wS (n_block (nT (cR ?_)))
  (first | refine L_e hS (e_binN rfl rfl rfl (by omega)) rfl ?_ | refine L_e hS (e_bin rfl rfl rfl) rfl ?_); clear hS a; intro a hS
  refine L_e hS (e_move rfl) rfl ?_; clear hS a; intro a hS
  refine nL ?_
  refine ⟨k + 1, by omega, hS.slots (by repeat (first | exact trivial | refine ⟨rfl, ?_⟩)), hkn, fun j hj => ?_⟩
  by_cases e : j = k
  · subst e; exact hc16
  · exact hno j (by omega)
 refine wp_exit ?_
 refine x_then (x_then (x_hit ?_))
 refine nT (cS (cR ?_))
 refine L_e hS (e_assign rfl) rfl ?_; clear hS a; intro a hS
 refine nL (nT (wp_ret ?_))
 refine c_ret1 hS Tryz.results27 (.tmp rfl) ?_
 exact ⟨⟨-1, .inr ⟨rfl, fun j hj => hno j (by omega)⟩⟩, rfl, hS.chg, none_ok _, fun b hb => hb.elim⟩
set_option maxRecDepth 100000 in
theorem fRequestF_P (f : Nat → Nat) (k : Nat) (x : List UInt8 × List Fg) (cb : Nat) (kd : Int) (W0 : World) (hc : W0.cell? ⟨cb, 0, none⟩ = some (.int .i64 kd)) (w0 : World) (ho : oldφ W0 w0) :
 PureC Tryz.prog 28 [.agg (rtRow f k x).toArray, .pointer (some ⟨cb, 0, none⟩)] w0 (.bool (decide ((k : Int) + 1 = kd))) := by
 refine c_enter [(0, .agg (rtRow f k x).toArray), (1, .pointer (some ⟨cb, 0, none⟩))] [oldA W0] noB Tryz.func28 rfl Tryz.ntmps28 ⟨rfl, rfl, trivial⟩ rfl (okC (old_ok ho) okN) dis1 (mineC rfl mineN) ?_
 intro a hS
 refine cS (cR ?_)
 refine L_op (s_boxA hS rfl rfl ?_); clear hS a; intro a w b2 hS
 refine L_e hS (e_assign rfl) rfl ?_; clear hS a; intro a hS
 refine nL (nT (cS (cR ?_)))
 (first | refine L_e hS (e_fa0 rfl ty_fo83_1) rfl ?_ | refine L_e hS (e_faK rfl ty_fo83_1) rfl ?_); clear hS a; intro a hS
 refine L_e hS (e_load rfl (by repeat constructor) ty_sc3 (by rfl)) rfl ?_; clear hS a; intro a hS
 (first | refine L_e hS (e_fa0 rfl ty_fo24_0) rfl ?_ | refine L_e hS (e_faK rfl ty_fo24_0) rfl ?_); clear hS a; intro a hS
 refine Rn hS (.c (e_loadC rfl ty_sc3 (fun w hh => old_cell (hh (oldA W0) (by repeat constructor)) hc)) <| .c (e_bin rfl rfl rfl) <| .a rfl .n) ?_; clear hS a; intro a hS
 refine nL (nT (wp_ret ?_))
 refine c_ret1 hS Tryz.results28 (.tmp rfl) ?_
 exact ⟨rfl, hS.chg⟩
set_option maxRecDepth 100000 in
theorem fBindF_P (f : Nat → Nat) (k : Nat) (x : List UInt8 × List Fg) (rb : Nat) (path : ByteArray) (W0 : World) (hc : W0.cell? ⟨rb, 1, none⟩ = some (.string path)) (w0 : World) (ho : oldφ W0 w0) :
 PureC Tryz.prog 43 [.agg (rtRow f k x).toArray, .pointer (some ⟨rb, 0, none⟩)] w0 (.bool (decide (tx x.1 = path))) := by
 refine c_enter [(0, .agg (rtRow f k x).toArray), (1, .pointer (some ⟨rb, 0, none⟩))] [oldA W0] noB Tryz.func43 rfl Tryz.ntmps43 ⟨rfl, rfl, trivial⟩ rfl (okC (old_ok ho) okN) dis1 (mineC rfl mineN) ?_
 intro a hS
 refine cS (cR ?_)
 refine L_op (s_boxA hS rfl rfl ?_); clear hS a; intro a w b2 hS
 refine L_e hS (e_assign rfl) rfl ?_; clear hS a; intro a hS
 refine nL (nT (cS (cR ?_)))
 (first | refine L_e hS (e_fa0 rfl ty_fo83_0) rfl ?_ | refine L_e hS (e_faK rfl ty_fo83_0) rfl ?_); clear hS a; intro a hS
 refine L_e hS (e_load rfl (by repeat constructor) ty_sc9 (by rfl)) rfl ?_; clear hS a; intro a hS
 (first | refine L_e hS (e_fa0 rfl ty_fo29_1) rfl ?_ | refine L_e hS (e_faK rfl ty_fo29_1) rfl ?_); clear hS a; intro a hS
 refine Rn hS (.c (e_loadC rfl ty_sc9 (fun w hh => old_cell (hh (oldA W0) (by repeat constructor)) hc)) <| .c (e_binS rfl rfl rfl) <| .a rfl .n) ?_; clear hS a; intro a hS
 refine nL (nT (wp_ret ?_))
 refine c_ret1 hS Tryz.results43 (.tmp rfl) ?_
 exact ⟨rfl, hS.chg⟩
def oddN (r : Nat) : Bool := decide ((r < 33 ∨ 126 < r) ∨ r = 47)
set_option maxRecDepth 100000 in
theorem fIsNameF_P (r : Nat) (hr : r ≤ 1114111) (w0 : World) : PureC Tryz.prog 132 [.int .i32 (r : Int)] w0 (.bool (oddN r)) := by
 refine c_enter [(0, .int .i32 (r : Int))] [] noB Tryz.func132 rfl Tryz.ntmps132 ⟨rfl, trivial⟩ rfl (by simp) (by simp) (by simp) ?_
 intro a hS
 refine cS (cR ?_)
 refine L_e hS (e_assign rfl) rfl ?_; clear hS a; intro a hS
 refine nL (nT (cS (cR ?_)))
 refine Rn hS (.m rfl <| .c (e_bin rfl rfl rfl) <| .m rfl .n) ?_; clear hS a; intro a hS
 refine L_merge 3 8 (.bool (decide (r < 33 ∨ 126 < r))) hS ?_ ?_
 · intro hcM8
   (first | refine g_splitD (t := 5) hS rfl ?_ ?_ | refine g_split (t := 5) hS rfl ?_ ?_) <;> (clear hS; intro hg5 hS)
   ·
    refine Rn hS (.f rfl rfl <| .f rfl rfl <| .c (e_pk rfl rfl) .n) ?_; clear hS a; intro a hS
    exact hcM8 _ _ (hS.ends 4 8 5 rfl (congrArg Value.bool (by exact (decide_eq_true (.inl (by omega))).symm)) rfl rfl (by first | exact congrArg Value.bool (decide_eq_true hg5).symm | exact congrArg Value.bool hg5.symm | simp [hg5]) rfl)
   refine Rn hS (.g rfl rfl (e_move rfl) <| .g rfl rfl (e_bin rfl rfl rfl) <| .c (e_pk rfl rfl) .n) ?_; clear hS a; intro a hS
   exact hcM8 _ _ (hS.ends 4 8 5 rfl (congrArg Value.bool (by exact decide_eq_decide.2 (by omega))) rfl rfl (by first | exact congrArg Value.bool (decide_eq_false hg5).symm | exact congrArg Value.bool hg5.symm | simp [hg5]) rfl)
 · clear hS a; intro a w hS
   simp only [List.drop_succ_cons, List.drop_zero]
   refine L_e hS (e_move rfl) rfl ?_; clear hS a; intro a hS
   refine L_merge 3 12 (.bool (decide ((r < 33 ∨ 126 < r) ∨ r = 47))) hS ?_ ?_
   · intro hcM12
     (first | refine g_splitD (t := 9) hS rfl ?_ ?_ | refine g_split (t := 9) hS rfl ?_ ?_) <;> (clear hS; intro hg9 hS)
     ·
      refine Rn hS (.f rfl rfl <| .f rfl rfl <| .c (e_pk rfl rfl) .n) ?_; clear hS a; intro a hS
      exact hcM12 _ _ (hS.ends 4 12 9 rfl (congrArg Value.bool (by exact (decide_eq_true (.inl (by omega))).symm)) rfl rfl (by first | exact congrArg Value.bool (decide_eq_true hg9).symm | exact congrArg Value.bool hg9.symm | simp [hg9]) rfl)
     refine Rn hS (.g rfl rfl (e_move rfl) <| .g rfl rfl (e_bin rfl rfl rfl) <| .c (e_pk rfl rfl) .n) ?_; clear hS a; intro a hS
     exact hcM12 _ _ (hS.ends 4 12 9 rfl (congrArg Value.bool (by exact decide_eq_decide.2 (by omega))) rfl rfl (by first | exact congrArg Value.bool (decide_eq_false hg9).symm | exact congrArg Value.bool hg9.symm | simp [hg9]) rfl)
   · clear hS a; intro a w hS
     simp only [List.drop_succ_cons, List.drop_zero]
     refine L_e hS (e_assign rfl) rfl ?_; clear hS a; intro a hS
     refine nL (nT (wp_ret ?_))
     refine c_ret1 hS Tryz.results132 (.tmp rfl) ?_
     exact ⟨rfl, hS.chg⟩
def isNameB (s : List UInt8) : Bool := decide (s ≠ []) && decide (s.length ≤ 100) && !(s.any fun b => oddN b.toNat)
theorem name_t {s : List UInt8} {p : Prop} [Decidable p] (h : tx s ≠ ⟨#[]⟩) (hp : p ↔ s.length ≤ 100) : decide p = (decide (s ≠ []) && decide (s.length ≤ 100)) := by
 rw [decide_eq_true (show s ≠ [] from fun e => h (tx_nil.2 e)), Bool.true_and]
 exact decide_eq_decide.2 hp
theorem name_f {s : List UInt8} (h : ¬ tx s ≠ ⟨#[]⟩) : false = (decide (s ≠ []) && decide (s.length ≤ 100)) := by
 rw [tx_nil.1 (Classical.not_not.1 h)]; rfl
theorem name_t2 {s : List UInt8} (h : (decide (s ≠ []) && decide (s.length ≤ 100)) = true) : (!(s.any fun b => oddN b.toNat)) = isNameB s := by
 unfold isNameB; rw [h, Bool.true_and]
theorem name_f2 {s : List UInt8} (h : (decide (s ≠ []) && decide (s.length ≤ 100)) = false) : false = isNameB s := by
 unfold isNameB; rw [h, Bool.false_and]
set_option maxRecDepth 100000 in
theorem fIsName_P (s : List UInt8) (hs : s.length ≤ 10000000) (w0 : World) : PureC Tryz.prog 70 [.string (tx s)] w0 (.bool (isNameB s)) := by
 have hsz := tx_size s
 refine c_enter [(0, .string (tx s))] [] noB Tryz.func70 rfl Tryz.ntmps70 ⟨rfl, trivial⟩ rfl (by simp) (by simp) (by simp) ?_
 intro a hS
 refine cS (cR ?_)
 refine L_e hS (e_assign rfl) rfl ?_; clear hS a; intro a hS
 refine nL (nT (cS (cR ?_)))
 refine L_e hS (e_assign rfl) rfl ?_; clear hS a; intro a hS
 refine nL (nT (cS (cR ?_)))
 refine Rn hS (.m rfl <| .c (e_binS rfl rfl rfl) <| .m rfl .n) ?_; clear hS a; intro a hS
 refine L_merge 4 10 (.bool (decide (s ≠ []) && decide (s.length ≤ 100))) hS ?_ ?_
 · intro hcM10
   (first | refine g_splitD (t := 6) hS rfl ?_ ?_ | refine g_split (t := 6) hS rfl ?_ ?_) <;> (clear hS; intro hg6 hS)
   ·
    refine Rn hS (.g rfl rfl (e_move rfl) <| .g rfl rfl (e_lenS rfl rfl ty_u9) <| .g rfl rfl (e_bin rfl rfl rfl) <| .c (e_pk rfl rfl) .n) ?_; clear hS a; intro a hS
    exact hcM10 _ _ (hS.ends 5 10 6 rfl (congrArg Value.bool (by exact name_t hg6 (by omega))) rfl rfl (by first | exact congrArg Value.bool (decide_eq_true hg6).symm | exact congrArg Value.bool hg6.symm | simp [hg6]) rfl)
   refine Rn hS (.t rfl rfl <| .t rfl rfl <| .t rfl rfl <| .c (e_pk rfl rfl) .n) ?_; clear hS a; intro a hS
   exact hcM10 _ _ (hS.ends 5 10 6 rfl (congrArg Value.bool (by exact name_f hg6)) rfl rfl (by first | exact congrArg Value.bool (decide_eq_false hg6).symm | exact congrArg Value.bool hg6.symm | simp [hg6]) rfl)
 · clear hS a; intro a w hS
   simp only [List.drop_succ_cons, List.drop_zero]
   refine L_e hS (e_move rfl) rfl ?_; clear hS a; intro a hS
   refine L_merge 5 16 (.bool (isNameB s)) hS ?_ ?_
   · intro hcM16
     (first | refine g_splitD (t := 11) hS rfl ?_ ?_ | refine g_split (t := 11) hS rfl ?_ ?_) <;> (clear hS; intro hg11 hS)
     ·
      refine Rn hS (.g rfl rfl (e_move rfl) <| .g rfl rfl (e_move rfl) .n) ?_; clear hS a; intro a hS
      refine L_go hS rfl rfl (s_callP hS (.cons rfl (.cons rfl .nil)) cf133 rfl (Contains_P 132 oddN cf132 (fun r w hr => fIsNameF_P r hr w) (fun r hr => decide_eq_true (by omega)) (tx s) _) ?_); clear hS a; intro a w hS
      refine Rn hS (.g rfl rfl (e_not rfl) <| .c (e_pk rfl rfl) .n) ?_; clear hS a; intro a hS
      exact hcM16 _ _ (hS.ends 6 16 11 rfl (congrArg Value.bool (by exact name_t2 hg11)) rfl rfl (by first | exact congrArg Value.bool (decide_eq_true hg11).symm | exact congrArg Value.bool hg11.symm | simp [hg11]) rfl)
     refine Rn hS (.t rfl rfl <| .t rfl rfl <| .t rfl rfl <| .t rfl rfl <| .c (e_pk rfl rfl) .n) ?_; clear hS a; intro a hS
     exact hcM16 _ _ (hS.ends 6 16 11 rfl (congrArg Value.bool (by exact name_f2 hg11)) rfl rfl (by first | exact congrArg Value.bool (decide_eq_false hg11).symm | exact congrArg Value.bool hg11.symm | simp [hg11]) rfl)
   · clear hS a; intro a w hS
     simp only [List.drop_succ_cons, List.drop_zero]
     refine L_e hS (e_assign rfl) rfl ?_; clear hS a; intro a hS
     refine nL (nT (wp_ret ?_))
     refine c_ret1 hS Tryz.results70 (.tmp rfl) ?_
     exact ⟨rfl, hS.chg⟩
theorem AtoiOk_P (t : List UInt8) (v : Int) (h : Lib.atoiAll t = .ok v) (hl : t.length ≤ 10000000) (w0 : World) : PureC Tryz.prog 153 [.string (tx t)] w0 (.tuple [.int .i64 v, .nilIface].toArray) := by
 have hs := tx_size t
 refine (Tryz.strconv_Atoi_ok (tx t) (by omega) v h w0).mono fun e w' ⟨he, hw⟩ => ⟨he, ?_⟩
 rcases hw with rfl | ⟨s, rfl⟩
 · exact Chg.refl _ _
 · exact Chg.of_below (Lib.bytesWorld_below _ _ _)
set_option maxRecDepth 100000 in
theorem fNumber_P (W0 : World) (hG : Gj W0) (t : List UInt8) (v : Int) (h : Lib.atoiAll t = .ok v) (h0 : -9223372036854775808 ≤ v) (h1 : v ≤ 9223372036854775807) (hl : t.length ≤ 10000000) (w0 : World) (ho : oldφ W0 w0) : PureC Tryz.prog 111 [.string (tx t)] w0 (.tuple [.int .i64 v, .bool (decide (tx (Lib.itoa v) = tx t))].toArray) := by
 refine c_enter [(0, .string (tx t))] [oldA W0] noB Tryz.func111 rfl Tryz.ntmps111 ⟨rfl, trivial⟩ rfl (okC (old_ok ho) okN) dis1 (mineC rfl mineN) ?_
 intro a hS
 refine cS (cR ?_)
 refine Rn hS (.a rfl <| .a rfl .n) ?_; clear hS a; intro a hS
 refine nL (nT (cS (cR ?_)))
 refine L_e hS (e_move rfl) rfl ?_; clear hS a; intro a hS
 refine L_op (s_callP hS (.cons rfl .nil) cf153 rfl (AtoiOk_P t v h hl _) ?_); clear hS a; intro a w hS
 refine Rn hS (.m rfl <| .c (e_extract rfl rfl) <| .c (e_extract rfl rfl) <| .a rfl <| .a rfl .n) ?_; clear hS a; intro a hS
 refine nL (nT (cS (cR ?_)))
 refine Rn hS (.m rfl <| .m rfl <| .c (e_ifEqN rfl (by kernel_rfl)) <| .m rfl .n) ?_; clear hS a; intro a hS
 replace hS := hS.is (t := 14) (c := true) rfl (rfl)
 refine L_ge hS rfl rfl (e_move rfl) rfl ?_; clear hS a; intro a hS
 refine L_go hS rfl rfl (s_callP hS (.cons rfl .nil) cf69 rfl (Itoa_P W0 hG v h0 h1 _ (hS.gg (X := oldA W0))) ?_); clear hS a; intro a w hS
 refine Rn hS (.g rfl rfl (e_move rfl) <| .g rfl rfl (e_binS rfl rfl rfl) <| .c (e_pk rfl rfl) <| .a rfl <| .a rfl .n) ?_; clear hS a; intro a hS
 refine nL (nT (wp_ret ?_))
 refine c_retN hS Tryz.results111 (.cons (.tmp rfl) (.cons (.tmp rfl) .nil)) rfl ?_
 exact ⟨rfl, hS.chg⟩
open Classical in
noncomputable def emptyB (c : Cd) : Bool := decide (emptyC c)
open Classical in
theorem emptyB_t {c : Cd} : emptyB c = true ↔ emptyC c := by unfold emptyB; exact decide_eq_true_iff
theorem fEmpty_P (c : Cd) (hc : c.ok) (fa : Option Addr) (fc : Nat) (hfl : c.fx.length ≤ 1000000) (w0 : World) : PureC Tryz.prog 30 [.agg (cellsC c (.slice fa c.fx.length fc)).toArray] w0 (.bool (emptyB c)) := by
 refine (fEmpty_N c hc fa fc hfl w0).mono ?_
 rintro e w' ⟨⟨b, hb⟩, he, h1, h2, h3⟩
 refine ⟨?_, h1⟩
 have : b = emptyB c := by
  rw [Bool.eq_iff_iff, hb, emptyB_t]
 rw [he]
 exact congrArg (fun x => Ending.returned (Value.bool x)) this
def pathC (c : Cd) : Cd := if c.kind = 14 then (c.putT 1 []).putN 8 0 else c.putN 11 0
noncomputable def pathF (c : Cd) : List UInt8 × Bool :=
 if c.kind = 14 then ([47, 98, 97, 108, 97, 110, 99, 101, 115, 47] ++ c.t 1 ++ [47] ++ Lib.itoa (c.n 8), isNameB (c.t 1) && emptyB (pathC c))
 else ([47, 105, 110, 118, 111, 105, 99, 101, 115, 47] ++ Lib.itoa (c.n 11), emptyB (pathC c))
theorem path14 {c : Cd} (h : c.kind = 14) {b : Bool} (hb : b = (isNameB (c.t 1) && emptyB ((c.putT 1 []).putN 8 0))) : Value.tuple #[.string ((⟨#[47, 98, 97, 108, 97, 110, 99, 101, 115, 47]⟩ : ByteArray) ++ tx (c.t 1) ++ ⟨#[47]⟩ ++ tx (Lib.itoa (c.n 8))), .bool b] = .tuple [.string (tx (pathF c).1), .bool (pathF c).2].toArray := by
 unfold pathF pathC
 rw [if_pos h, if_pos h, hb]
 simp only [← tx_app]
 rfl
theorem path13 {c : Cd} (h : ¬ c.kind = 14) : Value.tuple #[.string ((⟨#[47, 105, 110, 118, 111, 105, 99, 101, 115, 47]⟩ : ByteArray) ++ tx (Lib.itoa (c.n 11))), .bool (emptyB (c.putN 11 0))] = .tuple [.string (tx (pathF c).1), .bool (pathF c).2].toArray := by
 unfold pathF pathC
 rw [if_neg h, if_neg h]
 simp only [← tx_app]
 rfl
theorem Cd.ok.putT {c : Cd} (h : c.ok) (i : Nat) : (c.putT i []).ok := ⟨fun k h1 h2 => by
  show (if k = i then [] else c.t k).length ≤ 1100000
  split
  · exact Nat.zero_le _
  · exact h.t k h1 h2, h.n⟩
theorem Cd.ok.putN {c : Cd} (h : c.ok) (i : Nat) : (c.putN i 0).ok := ⟨h.t, fun k h1 h2 => by
  show -9223372036854775808 ≤ (if k = i then 0 else c.n k) ∧ (if k = i then 0 else c.n k) ≤ 9223372036854775807
  split
  · omega
  · exact h.n k h1 h2⟩
theorem itoa_len {n : Int} (h0 : -9223372036854775808 ≤ n) (h1 : n ≤ 9223372036854775807) : (Lib.itoa n).length ≤ 20 := by
 unfold Lib.itoa
 split
 · rename_i h
   simp only [List.length_cons]
   have := dec_len (u := n.natAbs) (k := 18) (by omega)
   omega
 · have := dec_len (u := n.toNat) (k := 18) (by omega)
   omega
set_option maxRecDepth 100000 in
theorem fPath14_M (W0 : World) (hG : Gj W0) (c : Cd) (hc : c.ok) (fa : Option Addr) (fc : Nat) (hfl : c.fx.length ≤ 1000000) (hk : c.kind = 14) (cb : Nat) (hcb : W0.heap.size ≤ cb) (w0 : World) (hold : oldφ W0 w0) (h : (Asn.blk cb (cellsC c (.slice fa c.fx.length fc)) 24).ok w0) :
 MutC Tryz.prog 25 [.pointer (some ⟨cb, 0, none⟩)] w0 (.blk cb (cellsC c (.slice fa c.fx.length fc)) 24) (fun _ : Unit => .tuple [.string (tx (pathF c).1), .bool (pathF c).2].toArray) (fun _ => .blk cb (cellsC (pathC c) (.slice fa c.fx.length fc)) 24) := by
 have hn8 := hc.n 8 (by omega) (by omega)
 have hn11 := hc.n 11 (by omega) (by omega)
 have hz8 := itoa_len hn8.1 hn8.2
 have hz11 := itoa_len hn11.1 hn11.2
 have hz1 := hc.t 1 (by omega) (by omega)
 refine c_enter [(0, .pointer (some ⟨cb, 0, none⟩))] [.blk cb (cellsC c (.slice fa c.fx.length fc)) 24, oldA W0] (fun k => k = cb) Tryz.func25 rfl Tryz.ntmps25 ⟨rfl, trivial⟩ rfl (okC h (okC (old_ok hold) okN)) (disC (sepC (fun k h1 h2 => by have h1 : k = cb := h1; have h2 : k < W0.heap.size := h2; omega) sepN) dis1) (mineO (fun _ hb => hb) (mineC rfl mineN)) ?_
 intro a hS
 refine cS (cR ?_)
 refine Rn hS (.a rfl <| .a rfl .n) ?_; clear hS a; intro a hS
 refine nL (nT (cS (cR ?_)))
 refine Rn hS (.m rfl <| .c (e_nilCheck rfl) .n) ?_; clear hS a; intro a hS
 (first | refine L_e hS (e_fa0 rfl ty_fo24_11) rfl ?_ | refine L_e hS (e_faK rfl ty_fo24_11) rfl ?_); clear hS a; intro a hS
 refine L_e hS (e_load rfl (by repeat constructor) ty_sc3 (by rfl)) rfl ?_; clear hS a; intro a hS
 refine L_op (s_callP hS (.cons rfl .nil) cf69 rfl (Itoa_P W0 hG (c.n 11) hn11.1 hn11.2 _ (hS.gg (X := oldA W0))) ?_); clear hS a; intro a w hS
 refine Rn hS (.c (e_cat rfl rfl (by simp only [tx_size]; show 10 + _ ≤ _; omega)) <| .a rfl <| .a rfl .n) ?_; clear hS a; intro a hS
 refine nL (nT (cS (cS (cR ?_))))
 refine Rn hS (.m rfl <| .c (e_nilCheck rfl) .n) ?_; clear hS a; intro a hS
 (first | refine L_e hS (e_fa0 rfl ty_fo24_0) rfl ?_ | refine L_e hS (e_faK rfl ty_fo24_0) rfl ?_); clear hS a; intro a hS
 refine Rn hS (.c (e_load rfl (by repeat constructor) ty_sc3 (by rfl)) <| .c (e_bin rfl rfl rfl) .n) ?_; clear hS a; intro a hS
 refine nL (nT ?_)
 replace hS := hS.is (t := 16) (c := true) rfl (decide_eq_true hk)
 refine c_if_t hS rfl ?_
 refine cS ?_
 refine c_drawS [] (by kernel_rfl) hS (sub_cons (X := .blk cb (cellsC c (.slice fa c.fx.length fc)) 24) (by repeat constructor) (sub_cons (X := oldA W0) (by repeat constructor) sub_nil)) ?_; clear hS; intro w hS
 simp only [List.length_cons, List.length_nil, Nat.zero_add, Nat.reduceAdd, List.replicate]
 refine Ry hS (.o 0 (tf 1 18) rfl wN (e_move rfl) rfl <| .o 1 (tf 2 17) rfl wN (e_nilCheck rfl) rfl .n) ?_; clear hS a; intro a hS
 (first | refine Zt0 2 (tf 3 16) hS rfl want_none (e_fa0 rfl ty_fo24_1) rfl (by kernel_rfl) rfl ?_ | refine Zt0 2 (tf 3 16) hS rfl want_none (e_faK rfl ty_fo24_1) rfl (by kernel_rfl) rfl ?_); clear hS a; intro a hS
 refine Rz hS (sub_cons (by repeat constructor) (sub_cons (by repeat constructor) sub_nil)) (.y 3 (tf 4 15) rfl wN (e_load rfl (by repeat constructor) ty_sc9 (by rfl)) rfl <| .o 4 (tf 5 14) rfl wN (e_cat rfl rfl (by simp only [tx_size]; show 10 + _ ≤ _; omega)) rfl <| .o 5 (tf 6 13) rfl wN (e_cat rfl rfl (by simp only [bapp_sz, tx_size]; show 10 + _ + 1 ≤ _; omega)) rfl <| .o 6 (tf 7 12) rfl wN (e_move rfl) rfl <| .o 7 (tf 8 11) rfl wN (e_nilCheck rfl) rfl .n) ?_; clear hS a; intro a hS
 (first | refine Zt0 8 (tf 9 10) hS rfl want_none (e_fa0 rfl ty_fo24_8) rfl (by kernel_rfl) rfl ?_ | refine Zt0 8 (tf 9 10) hS rfl want_none (e_faK rfl ty_fo24_8) rfl (by kernel_rfl) rfl ?_); clear hS a; intro a hS
 refine Rz hS (sub_cons (by repeat constructor) (sub_cons (by repeat constructor) sub_nil)) (.y 9 (tf 10 9) rfl wN (e_load rfl (by repeat constructor) ty_sc3 (by rfl)) rfl <| .o 12 [true, true, true, true, true, true, true, true, true, true, false, false, true, false, false, false, false, false, false] rfl wN (e_move rfl) rfl <| .o 13 [true, true, true, true, true, true, true, true, true, true, false, false, true, true, false, false, false, false, false] rfl wN (e_nilCheck rfl) rfl .n) ?_; clear hS a; intro a hS
 (first | refine Zt0 14 [true, true, true, true, true, true, true, true, true, true, false, false, true, true, true, false, false, false, false] hS rfl want_none (e_fa0 rfl ty_fo24_1) rfl (by kernel_rfl) rfl ?_ | refine Zt0 14 [true, true, true, true, true, true, true, true, true, true, false, false, true, true, true, false, false, false, false] hS rfl want_none (e_faK rfl ty_fo24_1) rfl (by kernel_rfl) rfl ?_); clear hS a; intro a hS
 refine Zt 15 [true, true, true, true, true, true, true, true, true, true, false, false, true, true, true, true, false, false, false] hS rfl want_none (e_load rfl (by repeat constructor) ty_sc9 (by rfl)) rfl (by kernel_rfl) (sub_cons (by repeat constructor) (sub_cons (by repeat constructor) sub_nil)) rfl ?_; clear hS a; intro a hS
 refine Zo 10 [true, true, true, true, true, true, true, true, true, true, true, false, true, true, true, true, false, false, false] hS rfl wN rfl (s_callP hS (.cons rfl .nil) cf69 rfl (Itoa_P W0 hG (c.n 8) hn8.1 hn8.2 _ (hS.gg (X := oldA W0))) ?_); clear hS a; intro a w hS
 refine Z_and hS (sub_cons (by repeat constructor) (sub_cons (by repeat constructor) sub_nil)) ?_
 refine Zt0 11 (tf 16 3) hS rfl want_none (e_cat rfl rfl (by simp only [bapp_sz, tx_size]; show 10 + _ + 1 + _ ≤ _; omega)) rfl (by kernel_rfl) rfl ?_; clear hS a; intro a hS
 refine Zo 16 (tf 17 2) hS rfl wN rfl (s_callP hS (.cons rfl .nil) cf70 rfl (fIsName_P (c.t 1) (by omega) _) ?_); clear hS a; intro a w hS
 refine Z_and hS (sub_cons (by repeat constructor) (sub_cons (by repeat constructor) sub_nil)) ?_
 refine Ry hS (.o 17 (tf 18 1) rfl wN (e_assign rfl) rfl <| .o 18 (tf 19 0) rfl wN (e_assign rfl) rfl .n) ?_; clear hS a; intro a hS
 refine Z_done (by kernel_rfl) ?_
 refine nT (cR ?_)
 refine Rn hS (.m rfl <| .m rfl <| .c (e_nilCheck rfl) .n) ?_; clear hS a; intro a hS
 (first | refine L_e hS (e_fa0 rfl ty_fo24_1) rfl ?_ | refine L_e hS (e_faK rfl ty_fo24_1) rfl ?_); clear hS a; intro a hS
 refine L_op (s_store hS rfl rfl rfl ty_sz9 (by repeat constructor) (upd_putT c (.slice fa c.fx.length fc) (i := 1) [] (by omega)) ?_); clear hS; intro w hS
 refine L_e hS (e_nilCheck rfl) rfl ?_; clear hS a; intro a hS
 (first | refine L_e hS (e_fa0 rfl ty_fo24_8) rfl ?_ | refine L_e hS (e_faK rfl ty_fo24_8) rfl ?_); clear hS a; intro a hS
 refine L_op (s_store hS rfl rfl rfl ty_sz3 (by repeat constructor) (upd_putN (c.putT 1 []) (.slice fa c.fx.length fc) (i := 8) 0 (by omega)) ?_); clear hS; intro w hS
 refine nL (nT (cS (cR ?_)))
 refine Rn hS (.m rfl <| .m rfl <| .m rfl .n) ?_; clear hS a; intro a hS
 (first | refine g_splitD (t := 45) hS rfl ?_ ?_ | refine g_split (t := 45) hS rfl ?_ ?_) <;> (clear hS; intro hg45 hS)
 ·
  refine Rn hS (.g rfl rfl (e_move rfl) <| .g rfl rfl (e_nilCheck rfl) <| .g rfl rfl (e_loadA rfl (by repeat constructor) ty_st24 ty_sz24 (by rfl)) .n) ?_; clear hS a; intro a hS
  refine L_go hS rfl rfl (s_callP hS (.cons rfl .nil) cf30 rfl (fEmpty_P ((c.putT 1 []).putN 8 0) ((hc.putT 1).putN 8) fa fc hfl _) ?_); clear hS a; intro a w hS
  refine Rn hS (.c (e_pk rfl rfl) <| .a rfl <| .a rfl .n) ?_; clear hS a; intro a hS
  refine nL (nT (wp_ret ?_))
  refine c_retN hS Tryz.results25 (.cons (.tmp rfl) (.cons (.tmp rfl) .nil)) rfl ?_
  have e1 : pathC c = (c.putT 1 []).putN 8 0 := by unfold pathC; rw [if_pos hk]
  rw [e1]
  exact ⟨(), congrArg Ending.returned (path14 hk (by simp [hg45])), hS.chg, hS.ok (.blk cb (cellsC ((c.putT 1 []).putN 8 0) (.slice fa c.fx.length fc)) 24) (by repeat constructor), fun b hb => .inl hb⟩
 refine Rn hS (.t rfl rfl <| .t rfl rfl <| .t rfl rfl <| .t rfl rfl <| .c (e_pk rfl rfl) <| .a rfl <| .a rfl .n) ?_; clear hS a; intro a hS
 refine nL (nT (wp_ret ?_))
 refine c_retN hS Tryz.results25 (.cons (.tmp rfl) (.cons (.tmp rfl) .nil)) rfl ?_
 have e1 : pathC c = (c.putT 1 []).putN 8 0 := by unfold pathC; rw [if_pos hk]
 rw [e1]
 exact ⟨(), congrArg Ending.returned (path14 hk (by simp [hg45])), hS.chg, hS.ok (.blk cb (cellsC ((c.putT 1 []).putN 8 0) (.slice fa c.fx.length fc)) 24) (by repeat constructor), fun b hb => .inl hb⟩
set_option maxRecDepth 100000 in
theorem fPath13_M (W0 : World) (hG : Gj W0) (c : Cd) (hc : c.ok) (fa : Option Addr) (fc : Nat) (hfl : c.fx.length ≤ 1000000) (hk : ¬ c.kind = 14) (cb : Nat) (hcb : W0.heap.size ≤ cb) (w0 : World) (hold : oldφ W0 w0) (h : (Asn.blk cb (cellsC c (.slice fa c.fx.length fc)) 24).ok w0) :
 MutC Tryz.prog 25 [.pointer (some ⟨cb, 0, none⟩)] w0 (.blk cb (cellsC c (.slice fa c.fx.length fc)) 24) (fun _ : Unit => .tuple [.string (tx (pathF c).1), .bool (pathF c).2].toArray) (fun _ => .blk cb (cellsC (pathC c) (.slice fa c.fx.length fc)) 24) := by
 have hn8 := hc.n 8 (by omega) (by omega)
 have hn11 := hc.n 11 (by omega) (by omega)
 have hz8 := itoa_len hn8.1 hn8.2
 have hz11 := itoa_len hn11.1 hn11.2
 have hz1 := hc.t 1 (by omega) (by omega)
 refine c_enter [(0, .pointer (some ⟨cb, 0, none⟩))] [.blk cb (cellsC c (.slice fa c.fx.length fc)) 24, oldA W0] (fun k => k = cb) Tryz.func25 rfl Tryz.ntmps25 ⟨rfl, trivial⟩ rfl (okC h (okC (old_ok hold) okN)) (disC (sepC (fun k h1 h2 => by have h1 : k = cb := h1; have h2 : k < W0.heap.size := h2; omega) sepN) dis1) (mineO (fun _ hb => hb) (mineC rfl mineN)) ?_
 intro a hS
 refine cS (cR ?_)
 refine Rn hS (.a rfl <| .a rfl .n) ?_; clear hS a; intro a hS
 refine nL (nT (cS (cR ?_)))
 refine Rn hS (.m rfl <| .c (e_nilCheck rfl) .n) ?_; clear hS a; intro a hS
 (first | refine L_e hS (e_fa0 rfl ty_fo24_11) rfl ?_ | refine L_e hS (e_faK rfl ty_fo24_11) rfl ?_); clear hS a; intro a hS
 refine L_e hS (e_load rfl (by repeat constructor) ty_sc3 (by rfl)) rfl ?_; clear hS a; intro a hS
 refine L_op (s_callP hS (.cons rfl .nil) cf69 rfl (Itoa_P W0 hG (c.n 11) hn11.1 hn11.2 _ (hS.gg (X := oldA W0))) ?_); clear hS a; intro a w hS
 refine Rn hS (.c (e_cat rfl rfl (by simp only [tx_size]; show 10 + _ ≤ _; omega)) <| .a rfl <| .a rfl .n) ?_; clear hS a; intro a hS
 refine nL (nT (cS (cS (cR ?_))))
 refine Rn hS (.m rfl <| .c (e_nilCheck rfl) .n) ?_; clear hS a; intro a hS
 (first | refine L_e hS (e_fa0 rfl ty_fo24_0) rfl ?_ | refine L_e hS (e_faK rfl ty_fo24_0) rfl ?_); clear hS a; intro a hS
 refine Rn hS (.c (e_load rfl (by repeat constructor) ty_sc3 (by rfl)) <| .c (e_bin rfl rfl rfl) .n) ?_; clear hS a; intro a hS
 refine nL (nT ?_)
 replace hS := hS.is (t := 16) (c := false) rfl (decide_eq_false hk)
 refine c_if_f hS rfl ?_
 refine cR ?_
 refine Rn hS (.m rfl <| .c (e_nilCheck rfl) .n) ?_; clear hS a; intro a hS
 (first | refine L_e hS (e_fa0 rfl ty_fo24_11) rfl ?_ | refine L_e hS (e_faK rfl ty_fo24_11) rfl ?_); clear hS a; intro a hS
 refine L_op (s_store hS rfl rfl rfl ty_sz3 (by repeat constructor) (upd_putN c (.slice fa c.fx.length fc) (i := 11) 0 (by omega)) ?_); clear hS; intro w hS
 refine nL (nT (cS (cR ?_)))
 refine Rn hS (.m rfl <| .m rfl <| .m rfl .n) ?_; clear hS a; intro a hS
 replace hS := hS.is (t := 45) (c := true) rfl (rfl)
 refine Rn hS (.g rfl rfl (e_move rfl) <| .g rfl rfl (e_nilCheck rfl) <| .g rfl rfl (e_loadA rfl (by repeat constructor) ty_st24 ty_sz24 (by rfl)) .n) ?_; clear hS a; intro a hS
 refine L_go hS rfl rfl (s_callP hS (.cons rfl .nil) cf30 rfl (fEmpty_P (c.putN 11 0) (hc.putN 11) fa fc hfl _) ?_); clear hS a; intro a w hS
 refine Rn hS (.c (e_pk rfl rfl) <| .a rfl <| .a rfl .n) ?_; clear hS a; intro a hS
 refine nL (nT (wp_ret ?_))
 refine c_retN hS Tryz.results25 (.cons (.tmp rfl) (.cons (.tmp rfl) .nil)) rfl ?_
 have e1 : pathC c = c.putN 11 0 := by unfold pathC; rw [if_neg hk]
 rw [e1]
 exact ⟨(), congrArg Ending.returned (path13 hk), hS.chg, hS.ok (.blk cb (cellsC (c.putN 11 0) (.slice fa c.fx.length fc)) 24) (by repeat constructor), fun b hb => .inl hb⟩
theorem fPath_M (W0 : World) (hG : Gj W0) (c : Cd) (hc : c.ok) (fa : Option Addr) (fc : Nat) (hfl : c.fx.length ≤ 1000000) (cb : Nat) (hcb : W0.heap.size ≤ cb) (w0 : World) (hold : oldφ W0 w0) (h : (Asn.blk cb (cellsC c (.slice fa c.fx.length fc)) 24).ok w0) :
 MutC Tryz.prog 25 [.pointer (some ⟨cb, 0, none⟩)] w0 (.blk cb (cellsC c (.slice fa c.fx.length fc)) 24) (fun _ : Unit => .tuple [.string (tx (pathF c).1), .bool (pathF c).2].toArray) (fun _ => .blk cb (cellsC (pathC c) (.slice fa c.fx.length fc)) 24) := by
 by_cases hk : c.kind = 14
 · exact fPath14_M W0 hG c hc fa fc hfl hk cb hcb w0 hold h
 · exact fPath13_M W0 hG c hc fa fc hfl hk cb hcb w0 hold h
def nmsF (fl : List Fg) (k : Nat) : List (List UInt8) := (fl.take k).map fun x => x.f.nm
theorem nmsF_next {fl : List Fg} {k : Nat} {x : Fg} (h : fl[k]? = some x) : nmsF fl (k + 1) = nmsF fl k ++ [x.f.nm] := by
 unfold nmsF; rw [take_next h, List.map_append]; rfl
theorem reqL_step {fl : List Fg} {k : Nat} {x : Fg} (c : Cd) (ns : List (List UInt8)) (l : List JV) (h : fl[k]? = some x) : reqL (fdsOf (fl.drop k)) c ns l = match valC x.f c with
 | (none, _) => none
 | (some y, c') => reqL (fdsOf (fl.drop (k + 1))) c' (ns ++ [x.f.nm]) (l ++ [y]) := by
 unfold fdsOf
 rw [List.drop_eq_getElem_cons (List.getElem?_eq_some_iff.1 h).1, (List.getElem?_eq_some_iff.1 h).2, List.map_cons]
 conv => lhs; unfold reqL
 generalize valC x.f c = p
 rcases p with ⟨_ | y, c'⟩ <;> rfl
theorem reqL_some {fl : List Fg} {k : Nat} {x : Fg} {c : Cd} {y : JV} (ns : List (List UInt8)) (l : List JV) (h : fl[k]? = some x) (hy : (valC x.f c).1 = some y) : reqL (fdsOf (fl.drop k)) c ns l = reqL (fdsOf (fl.drop (k + 1))) (valC x.f c).2 (ns ++ [x.f.nm]) (l ++ [y]) := by
 rw [reqL_step c ns l h]
 generalize valC x.f c = p at *
 obtain ⟨p1, p2⟩ := p
 simp only at hy
 subst hy
 rfl
theorem reqL_done (c : Cd) (ns : List (List UInt8)) (l : List JV) (fl : List Fg) : reqL (fdsOf (fl.drop fl.length)) c ns l = some (.mk 6 [] ns l, c) := by
 rw [List.drop_length]; rfl
theorem valC_ok {f : Fd} {c : Cd} (h : c.ok) : (valC f c).2.ok := by
 unfold valC
 split
 · exact h.putT _
 · split
   · exact h.putN _
   · exact ⟨h.t, h.n⟩
def fvA (f : Fd) (fa : Option Addr) : Option Addr := if f.kd = 2 then none else fa
def fvC (f : Fd) (fc : Nat) : Nat := if f.kd = 2 then 0 else fc
theorem valC_fv {f : Fd} (hf : f.ok) (c : Cd) (fa : Option Addr) (fc : Nat) : (if f.kd = 2 then Value.slice none 0 0 else .slice fa c.fx.length fc) = .slice (fvA f fa) (valC f c).2.fx.length (fvC f fc) := by
 unfold fvA fvC valC
 rcases hf.kd with h | h | h <;> simp [h, Cd.putT, Cd.putN]
theorem fct_nil (W : World) : FctAt W none [] := ⟨fun h => absurd rfl h, Nat.zero_le _, fun x h => by cases h⟩
theorem valC_fct {f : Fd} (hf : f.ok) {c : Cd} {fa : Option Addr} {W : World} (h : FctAt W fa c.fx) : FctAt W (fvA f fa) (valC f c).2.fx := by
 unfold fvA valC
 rcases hf.kd with h2 | h2 | h2
 · rw [if_neg (by omega), if_pos h2]; exact h
 · rw [if_neg (by omega), if_neg (by omega), if_pos h2]; exact h
 · rw [if_pos h2, if_neg (by omega), if_neg (by omega)]; exact fct_nil W
theorem vl_open {f : Fd} {c : Cd} {cb : Nat} {fv : Value} {w : World} (r : VlR f c) (h : (vlY f c cb fv r).ok w) : ∃ (k : Int) (s : ByteArray) (a1 : Option Addr) (a2 a3 : Nat) (a4 : Option Addr) (a5 a6 : Nat) (b : Bool), vlV f c r = .tuple [.agg [.int .i64 k, .string s, .slice a1 a2 a3, .slice a4 a5 a6].toArray, .bool b].toArray ∧
 ((b = true ∧ ∃ x : { x : JX // (valC f c).1 = some x.v }, r = .inl x ∧ x.1.cs = [.int .i64 k, .string s, .slice a1 a2 a3, .slice a4 a5 a6]) ∨ (b = false ∧ ∃ p, r = .inr p)) := by
 rcases r with x | p
 · have hd : (jxA 2 x.1).ok w := ((show (duo _ (jxA 2 x.1)).ok w from h).now).2.1
   obtain ⟨lv, nv, ⟨a1, a2, a3, rfl⟩, ⟨a4, a5, a6, rfl⟩, hcs⟩ := JAt.four hd.now
   exact ⟨_, _, a1, a2, a3, a4, a5, a6, true, by show Value.tuple [.agg x.1.cs.toArray, .bool true].toArray = _; rw [hcs], .inl ⟨rfl, x, rfl, hcs⟩⟩
 · obtain ⟨p0, h0, k, s, a1, a2, a3, a4, a5, a6, rfl⟩ := p
   exact ⟨k, s, a1, a2, a3, a4, a5, a6, false, rfl, .inr ⟨rfl, _, rfl⟩⟩
theorem pr_open {n : Nat} {v : JV} (r : PrR n v) : ∃ (q : Option Addr) (m c : Nat) (e : Int), prV n v r = .tuple [.slice q m c, .int .i64 e].toArray ∧
 ((e = 0 ∧ ∃ x : { x : (Nat × Nat) × JV × List UInt8 // okF n 0 v ∧ PJ n v x.2.1 x.2.2 ∧ x.2.2.length ≤ 65536 ∧ x.2.2.length ≤ x.1.2 }, r = .inl x ∧ q = some ⟨x.1.1.1, 0, none⟩ ∧ m = x.1.2.2.length ∧ c = x.1.1.2) ∨ e ≠ 0) := by
 rcases r with x | x
 · exact ⟨_, _, _, 0, rfl, .inl ⟨rfl, x, rfl, rfl, rfl, rfl⟩⟩
 · exact ⟨none, 0, 0, x.1, rfl, .inr x.2.1⟩
theorem fRoutes_L (w0 : World) (lo : Nat) (h : lo = w0.heap.size) : NewC Tryz.prog 26 [] w0 (fun x : Nat × Nat × (Nat → Nat) => .slice (some ⟨x.2.1, 0, none⟩) 12 12) (fun x => rtsA lo x.1 x.2.1 x.2.2) := by
 rw [h]; exact fRoutes_N w0
structure RqOk (c : Cd) (path s : List UInt8) (v r : JV) (k : Nat) (fl : List Fg) (c' : Cd) : Prop where
 x : rtG[k]? = some (path, fl)
 kd : (k : Int) + 1 = c.kind
 q : reqL (fdsOf fl) c [] [] = some (v, c')
 e : emptyC c'
 f : okF 3 0 v
 p : PJ 3 v r s
 n : s.length ≤ 32768
def RqR (c : Cd) : Type := { q : (Nat × Nat) × List UInt8 × List UInt8 // (∃ v r k fl c', RqOk c q.2.1 q.2.2 v r k fl c') ∧ q.2.2.length ≤ q.1.2 } ⊕ ({ _s : List UInt8 // c.kind = 13 ∨ c.kind = 14 } ⊕ { e : Int // e ≠ 0 })
def rqV (c : Cd) : RqR c → Value
 | .inl q => .tuple [.agg [.string ⟨#[80, 79, 83, 84]⟩, .string (tx q.1.2.1), .slice (some ⟨q.1.1.1, 0, none⟩) q.1.2.2.length q.1.1.2, .bool false].toArray, .int .i64 0].toArray
 | .inr (.inl s) => .tuple [.agg [.string ⟨#[71, 69, 84]⟩, .string (tx s.1), .slice none 0 0, .bool false].toArray, .int .i64 0].toArray
 | .inr (.inr e) => .tuple [.agg [.string ⟨#[]⟩, .string ⟨#[]⟩, .slice none 0 0, .bool false].toArray, .int .i64 e.1].toArray
def rqY (c : Cd) : RqR c → Asn
 | .inl q => bbA 5 q.1.1.1 (bsI q.1.2.2)
 | .inr _ => none_
def apart (f g : Fd) : Prop := f.kd ≠ g.kd ∨ (f.kd < 2 ∧ f.off ≠ g.off)
instance (f g : Fd) : Decidable (apart f g) := by unfold apart; infer_instance
theorem valC_apart {f g : Fd} (hf : f.ok) (hg : g.ok) (h : apart f g) (c : Cd) : (valC g (valC f c).2).1 = (valC g c).1 := by
 unfold valC
 rcases hf.kd with h1 | h1 | h1 <;> rcases hg.kd with h2 | h2 | h2 <;> simp only [h1, h2] <;> simp [Cd.putT, Cd.putN]
 · have ho : ¬ g.off = f.off := by
    rcases h with h | h
    · exact absurd (h1.trans h2.symm) h
    · exact fun e => h.2 e.symm
   simp [ho]
 · have ho : ¬ g.off = f.off := by
    rcases h with h | h
    · exact absurd (h1.trans h2.symm) h
    · exact fun e => h.2 e.symm
   simp [ho]
 · rcases h with h | h
   · exact absurd (h1.trans h2.symm) h
   · omega
def clearC (fs : List Fd) (c : Cd) : Cd := fs.foldl (fun c f => (valC f c).2) c
theorem reqL_all : ∀ (fs : List Fd) (c : Cd) (ns : List (List UInt8)) (l : List JV) (v : JV) (c' : Cd), (∀ f ∈ fs, f.ok) → fs.Pairwise apart → reqL fs c ns l = some (v, c') →
 ∃ vals : List JV, vals.length = fs.length ∧ v = .mk 6 [] (ns ++ fs.map Fd.nm) (l ++ vals) ∧ c' = clearC fs c ∧ ∀ (i : Nat) (f : Fd) (y : JV), fs[i]? = some f → vals[i]? = some y → (valC f c).1 = some y
 | [], c, ns, l, v, c', _, _, h => by
   injection h with h
   injection h with h1 h2
   exact ⟨[], rfl, by rw [← h1]; simp, h2.symm, fun i f y hf => by cases hf⟩
 | f :: fs, c, ns, l, v, c', hok, hp, h => by
   obtain ⟨hp1, hp2⟩ := List.pairwise_cons.1 hp
   unfold reqL at h
   cases hv : valC f c with
   | mk o c1 =>
     rw [hv] at h
     cases o with
     | none => cases h
     | some y =>
       simp only at h
       obtain ⟨vals, h1, h2, h3, h4⟩ := reqL_all fs c1 (ns ++ [f.nm]) (l ++ [y]) v c' (fun g hg => hok g (.tail _ hg)) hp2 h
       have hc1 : c1 = (valC f c).2 := by rw [hv]
       refine ⟨y :: vals, by simp [h1], by rw [h2]; simp, by rw [h3, hc1]; rfl, fun i g z hg hz => ?_⟩
       cases i with
       | zero =>
         obtain rfl : f = g := by simpa using hg
         obtain rfl : y = z := by simpa using hz
         rw [hv]
       | succ i =>
         have hg' : fs[i]? = some g := by simpa using hg
         have hgm := List.mem_of_getElem? hg'
         have := h4 i g z hg' (by simpa using hz)
         rw [hc1, valC_apart (hok f (.head _)) (hok g (.tail _ hgm)) (hp1 g hgm)] at this
         exact this
theorem rt_apart : ∀ x ∈ rtG, (fdsOf x.2).Pairwise apart := by
 intro x hx
 have h : ∀ y ∈ rtG.map (fun x => fdsOf x.2), y.Pairwise apart := by decide +kernel
 exact h _ (List.mem_map.2 ⟨x, hx, rfl⟩)
theorem rt_fdok {x : List UInt8 × List Fg} (hx : x ∈ rtG) : ∀ f ∈ fdsOf x.2, f.ok := fun f hf => by
 obtain ⟨y, hy, rfl⟩ := List.mem_map.1 hf
 exact ((rtG_ok x hx).ok y hy).fd
theorem jInt_k {v : JV} (h : (intOfF v).2 = 0) : v.k = 3 := by
 apply Classical.byContradiction
 intro hk
 have e : (jIntF v).2 = 13 := by unfold jIntF; rw [if_pos hk]
 unfold intOfF at h
 rw [if_neg (by rw [e]; decide), e] at h
 exact absurd h (by decide)
theorem rdE_val {f : Fd} {c : Cd} {y : JV} (hf : f.ok) (hc : c.ok) (h : (valC f c).1 = some y) : rdE f y = 0 := by
 unfold valC at h
 unfold rdE
 rcases hf.kd with h1 | h1 | h1
 · rw [if_pos h1] at h ⊢
   simp only at h
   split at h
   · injection h with h; rw [← h]; rfl
   · cases h
 · rw [if_neg (by omega), if_pos h1] at h ⊢
   injection h with h
   obtain ⟨n0, n1⟩ := hc.n f.off (hf.n h1).1 (hf.n h1).2
   rw [← h]
   unfold intOfF
   rw [int_itoa n0 n1]
   rfl
 · rw [if_neg (by omega), if_neg (by omega)] at h ⊢
   simp only at h
   have hk : ∀ (fs : List Fct) (ns : List (List UInt8)) (l : List JV) (v : JV), factsJ fs ns l = some v → v.k = 6 := by
    intro fs
    induction fs with
    | nil => intro ns l v h; injection h with h; rw [← h]; rfl
    | cons x r ih =>
      intro ns l v h
      unfold factsJ at h
      cases hx : factJ x with
      | none => rw [hx] at h; cases h
      | some z =>
        rw [hx] at h
        simp only at h
        split at h
        · split at h
          · exact ih _ _ _ h
          · cases h
        · split at h
          · exact ih _ _ _ h
          · cases h
   rw [if_pos (hk _ _ _ _ h)]
theorem rdE_pj {f : Fd} {n : Nat} {y r : JV} {t : List UInt8} (hf : f.ok) (h : rdE f y = 0) (hp : PJ n y r t) : rdE f r = 0 := by
 cases n with
 | zero => exact hp.elim
 | succ n =>
   obtain ⟨k, s, ns, l⟩ := y
   unfold rdE at h ⊢
   rcases hf.kd with h1 | h1 | h1
   · rw [if_pos h1] at h ⊢
     have hk : k = 4 := by
      apply Classical.byContradiction
      intro hk
      rw [if_neg (show ¬ (JV.mk k s ns l).k = 4 from hk)] at h
      exact absurd h (by decide)
     rcases (show _ ∨ _ ∨ _ ∨ _ from hp) with ⟨h2, _⟩ | ⟨_, hr, _⟩ | ⟨h2, _⟩ | ⟨h2, _⟩
     · omega
     · rw [hr]; rfl
     · omega
     · omega
   · rw [if_neg (by omega), if_pos h1] at h ⊢
     have hk : k = 3 := jInt_k h
     rcases (show _ ∨ _ ∨ _ ∨ _ from hp) with ⟨_, hr, _⟩ | ⟨h2, _⟩ | ⟨h2, _⟩ | ⟨h2, _⟩
     · rw [hr, ← h, hk]; rfl
     · omega
     · omega
     · omega
   · rw [if_neg (by omega), if_neg (by omega)] at h ⊢
     have hk : k = 6 := by
      apply Classical.byContradiction
      intro hk
      rw [if_neg (show ¬ (JV.mk k s ns l).k = 6 from hk)] at h
      exact absurd h (by decide)
     rcases (show _ ∨ _ ∨ _ ∨ _ from hp) with ⟨h2, _⟩ | ⟨h2, _⟩ | ⟨h2, _⟩ | ⟨_, ms, _, _, _, hr, _⟩
     · omega
     · omega
     · omega
     · rw [hr]; rfl
theorem find_key {α : Type} {l : List (List UInt8 × α)} {nm : List UInt8} {y : α} (hn : (l.map (·.1)).Nodup) (h : (nm, y) ∈ l) : l.find? (fun p => p.1 == nm) = some (nm, y) := by
 induction l with
 | nil => cases h
 | cons p l ih =>
   rw [List.map_cons, List.nodup_cons] at hn
   rcases List.mem_cons.1 h with rfl | h
   · simp
   · have : (p.1 == nm) = false := by
      rw [beq_eq_false_iff_ne]
      intro e
      exact hn.1 (e ▸ List.mem_map.2 ⟨_, h, rfl⟩)
     rw [List.find?_cons, this]
     exact ih hn.2 h
theorem zip_map_n (ms : List Mem) : (ms.map (·.n)).zip (ms.map (·.r)) = ms.map fun m => (m.n, m.r) := by
 induction ms with
 | nil => rfl
 | cons m ms ih => rw [List.map_cons, List.map_cons, List.zip_cons_cons, ih]; rfl
theorem getF_pj {n : Nat} {t : List UInt8} {ns : List (List UInt8)} {l : List JV} {r : JV} {s nm : List UInt8} (hn : ns.Nodup) (hl : ns.length = l.length) (hp : PJ (n + 1) (.mk 6 t ns l) r s) :
 (∀ y, getF (.mk 6 t ns l) nm = some y → ∃ y' s', getF r nm = some y' ∧ PJ n y y' s') ∧ (getF (.mk 6 t ns l) nm = none → getF r nm = none) := by
 rcases (show _ ∨ _ ∨ _ ∨ _ from hp) with ⟨h2, _⟩ | ⟨h2, _⟩ | ⟨h2, _⟩ | ⟨_, ms, hpm, hs, hm, hr, _⟩
 · exact absurd h2 (by decide)
 · exact absurd h2 (by decide)
 · exact absurd h2 (by decide)
 have hkeys : (ms.map (·.n)).Nodup := by
  have e := (hpm.map (·.1))
  rw [List.map_map, List.map_fst_zip (by omega)] at e
  exact (e.nodup_iff).2 hn
 have hkeys2 : ((ms.map fun m => (m.n, m.r)).map (·.1)).Nodup := by rw [List.map_map]; exact hkeys
 subst hr
 have e1 : getF (.mk 6 t ns l) nm = ((ns.zip l).find? fun p => p.1 == nm).map (·.2) := by unfold getF; rw [if_pos (show (JV.mk 6 t ns l).k = 6 from rfl)]; rfl
 have e2 : getF (.mk 6 [] (ms.map (·.n)) (ms.map (·.r))) nm = ((ms.map fun m => (m.n, m.r)).find? fun p => p.1 == nm).map (·.2) := by
  unfold getF; rw [if_pos (show (JV.mk 6 [] (ms.map (·.n)) (ms.map (·.r))).k = 6 from rfl)]; show (((ms.map (·.n)).zip (ms.map (·.r))).find? _).map _ = _; rw [zip_map_n]
 constructor
 · intro y hy
   rw [e1] at hy
   obtain ⟨p, hp1, hp2⟩ := Option.map_eq_some_iff.1 hy
   have hpk : p.1 = nm := by simpa using List.find?_some hp1
   have hpm2 := (hpm.mem_iff).2 (List.mem_of_find?_eq_some hp1)
   obtain ⟨m, hmm, hme⟩ := List.mem_map.1 hpm2
   have hmn : m.n = nm := by rw [← hpk, ← hme]
   have hmv : m.v = y := by rw [← hp2, ← hme]
   refine ⟨m.r, m.t, ?_, hmv ▸ hm m hmm⟩
   rw [e2, find_key hkeys2 (List.mem_map.2 ⟨m, hmm, by rw [hmn]⟩)]
   rfl
 · intro h
   rw [e1] at h
   rw [e2]
   cases hf : (ms.map fun m => (m.n, m.r)).find? fun p => p.1 == nm with
   | none => rfl
   | some p =>
     exfalso
     have hpk : p.1 = nm := by simpa using List.find?_some hf
     obtain ⟨m, hmm, hme⟩ := List.mem_map.1 (List.mem_of_find?_eq_some hf)
     have hz := (hpm.mem_iff).1 (List.mem_map.2 ⟨m, hmm, rfl⟩)
     have hno := List.find?_eq_none.1 (Option.map_eq_none_iff.1 h) _ hz
     exact hno (by show (m.n == nm) = true; rw [← hpk, ← hme]; simp)
end Go.Proofs.YtlccmgeclhdegaaGreatDoor
