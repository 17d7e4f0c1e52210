/- FrontBack: for every argument the law returns true, and each argument reads afterwards as it read before. No conditions. (text 5 of 6) -/
import Derived.Test.YtlccmgeclhdegaaGreatDoorLFaC4
namespace Go.Proofs.YtlccmgeclhdegaaGreatDoor
open Go.RowKit
structure FctC (W0 : World) (fa : Option Addr) (fs : List Fct) : Prop where
 c : fs ≠ [] → ∃ nb no, fa = some ⟨nb, no, none⟩ ∧ ∀ (i : Nat) (x : Fct), fs[i]? = some x → ∀ (j : Nat) (u : Value), (encF x)[j]? = some u → W0.cell? ⟨nb, no + i * 4 + j, none⟩ = some u
def fctSm (x : Fct) : Prop := x.nm.length ≤ 300 ∧ x.s.length ≤ 300
def fewFx (fs : List Fct) : Prop := fs.length ≤ 110 ∧ ∀ x ∈ fs, fctSm x
set_option maxRecDepth 100000 in
theorem fFew11_N (W0 : World) (fa : Option Addr) (fc : Nat) (fs : List Fct) (hF : FctC W0 fa fs) (w0 : World) (ho : oldφ W0 w0) :
 NewC Tryz.prog 68 [.slice fa fs.length fc] w0 (fun b : { b : Bool // b = true ↔ fewFx fs } => .bool b.1) (fun _ => none_) := by
 refine c_enter [(0, .slice fa fs.length fc)] [oldA W0] noB Tryz.func68 rfl Tryz.ntmps68 ⟨rfl, trivial⟩ rfl (okC (old_ok ho) okN) dis1 (mineC rfl mineN) ?_
 intro a hS
 refine cS (cR ?_)
 refine L_e hS (e_assign rfl) rfl ?_; clear hS a; intro a hS
 refine nL (nT (cS (cS (cR ?_))))
 refine L_e hS (e_assign rfl) rfl ?_; clear hS a; intro a hS
 refine nL (nT (wB ?_))
 skip
 refine c_loop (γ := Nat) (fun k a w => St 33 noB w0 a w [(3, .int .i64 (k : Int)), (0, .slice fa fs.length fc)] [oldA W0] ∧ k ≤ fs.length ∧ k ≤ 111 ∧ ∀ (j : Nat) (x : Fct), j < k → fs[j]? = some x → fctSm x) (fun k => fs.length - k) 0 ⟨hS.slots (by repeat (first | exact trivial | refine ⟨rfl, ?_⟩)), Nat.zero_le _, Nat.zero_le _, fun j _ hj => by omega⟩ ?_
 clear hS a; intro k a w hI
 obtain ⟨hS, hk, hk2, hno⟩ := hI
 refine cS (cS (cR ?_))
 refine Rn hS (.m rfl <| .m rfl <| .c (e_len rfl rfl ty_sl22) <| .c (e_bin rfl rfl rfl) <| .m rfl .n) ?_; clear hS a; intro a hS
 refine L_merge 3 11 (.bool (decide (k < fs.length ∧ k ≤ 110))) hS ?_ ?_
 · intro hcM11
   refine g_splitD (t := 8) hS rfl ?_ ?_ <;> (clear hS; intro hg8 hS)
   ·
    refine Rn hS (.g rfl rfl (e_move rfl) <| .g rfl rfl (e_bin rfl rfl rfl) <| .c (e_pick_t rfl rfl) .n) ?_; clear hS a; intro a hS
    exact hcM11 _ _ (hS.ends 4 11 8 rfl (congrArg Value.bool (by exact decide_eq_decide.2 ⟨fun h => ⟨by omega, by omega⟩, fun h => by omega⟩)) rfl rfl (by first | exact congrArg Value.bool (decide_eq_true hg8).symm | exact congrArg Value.bool hg8.symm | simp [hg8]) rfl)
   refine Rn hS (.t rfl rfl <| .t rfl rfl <| .c (e_pick_f rfl rfl) .n) ?_; clear hS a; intro a hS
   exact hcM11 _ _ (hS.ends 4 11 8 rfl (congrArg Value.bool (by exact (decide_eq_false (fun h => hg8 (by omega))).symm)) rfl rfl (by first | exact congrArg Value.bool (decide_eq_false hg8).symm | exact congrArg Value.bool hg8.symm | simp [hg8]) rfl)
 · clear hS a; intro a w hS
   simp only [List.drop_succ_cons, List.drop_zero]
   refine nL (nT ?_)
   refine c_ifD hS rfl (fun hc11 => ?_) (fun hc11 => ?_)
   ·
    obtain ⟨x, hx⟩ : ∃ x, fs[k]? = some x := ⟨_, List.getElem?_eq_getElem hc11.1⟩
    obtain ⟨nb, no, rfl, hcell⟩ := hF.c (fun e => by rw [e] at hc11; exact absurd hc11.1 (Nat.not_lt_zero _))
    have hz1 := tx_size x.nm
    have hz2 := tx_size x.s
    refine wS (nT (cS (wB (cS (cR ?_)))))
    refine Rn hS (.m rfl <| .m rfl <| .c (e_ixN rfl rfl ty_sl22 ty_sz160 (by omega)) <| .c (e_faK rfl ty_fo160_0) <| .c (e_loadC (v := .string (tx x.nm)) rfl ty_sc9 (fun w hh => old_cell (hh (oldA W0) (by repeat constructor)) (hcell k x hx 0 _ rfl))) <| .c (e_lenS rfl rfl ty_u9) <| .c (e_bin rfl rfl rfl) <| .m rfl .n) ?_; clear hS a; intro a hS
    refine L_merge 8 29 (.bool (decide (300 < x.nm.length ∨ 300 < x.s.length))) hS ?_ ?_
    · intro hcM29
      refine g_splitD (t := 21) hS rfl ?_ ?_ <;> (clear hS; intro hg21 hS)
      ·
       refine Rn hS (.f rfl rfl <| .f rfl rfl <| .f rfl rfl <| .f rfl rfl <| .f rfl rfl <| .f rfl rfl <| .f rfl rfl <| .c (e_pick_t rfl rfl) .n) ?_; clear hS a; intro a hS
       exact hcM29 _ _ (hS.ends 9 29 21 rfl (congrArg Value.bool (by exact (decide_eq_true (.inl (by omega))).symm)) rfl rfl (by first | exact congrArg Value.bool (decide_eq_true hg21).symm | exact congrArg Value.bool hg21.symm | simp [hg21]) rfl)
      refine Rn hS (.g rfl rfl (e_move rfl) <| .g rfl rfl (e_move rfl) <| .g rfl rfl (e_ixN rfl rfl ty_sl22 ty_sz160 (by omega)) <| .g rfl rfl (e_faK rfl ty_fo160_3) <| .g rfl rfl (e_loadC (v := .string (tx x.s)) rfl ty_sc9 (fun w hh => old_cell (hh (oldA W0) (by repeat constructor)) (hcell k x hx 3 _ rfl))) <| .g rfl rfl (e_lenS rfl rfl ty_u9) <| .g rfl rfl (e_bin rfl rfl rfl) <| .c (e_pick_f rfl rfl) .n) ?_; clear hS a; intro a hS
      exact hcM29 _ _ (hS.ends 9 29 21 rfl (congrArg Value.bool (by exact decide_eq_decide.2 ⟨fun h => .inr (by omega), fun h => by have := h.resolve_left (fun h => hg21 (by omega)); omega⟩)) rfl rfl (by first | exact congrArg Value.bool (decide_eq_false hg21).symm | exact congrArg Value.bool hg21.symm | simp [hg21]) rfl)
    · clear hS a; intro a w hS
      simp only [List.drop_succ_cons, List.drop_zero]
      refine nL (nT ?_)
      refine c_ifD hS rfl (fun hc29 => ?_) (fun hc29 => ?_)
      ·
       refine cS (cR ?_)
       refine L_e hS (e_assign rfl) rfl ?_; clear hS a; intro a hS
       refine nL (nT (wp_ret ?_))
       refine r_block (r_then (r_then (r_block (r_then ?_))))
       refine c_ret1 hS Tryz.results68 (.tmp rfl) ?_
       have hbad : ¬ fewFx fs := fun h => by have := h.2 x (List.mem_of_getElem? hx); unfold fctSm at this; omega
       exact ⟨⟨false, iff_of_false Bool.false_ne_true hbad⟩, rfl, hS.chg, none_ok _, fun b hb => hb.elim⟩
      refine wS (n_block (nT (cR ?_)))
      refine Rn hS (.m rfl <| .c (e_binN rfl rfl rfl (by omega)) <| .a rfl .n) ?_; clear hS a; intro a hS
      refine nL ?_
      refine ⟨k + 1, by omega, hS.slots (by repeat (first | exact trivial | refine ⟨rfl, ?_⟩)), hc11.1, by omega, fun j y hj hy => ?_⟩
      by_cases e : j = k
      · subst e; rw [hx] at hy; cases hy; exact ⟨by omega, by omega⟩
      · exact hno j y (by omega) hy
   refine wp_exit ?_
   refine x_then (x_then (x_hit ?_))
   refine nT (cS (cR ?_))
   refine Rn hS (.m rfl <| .c (e_len rfl rfl ty_sl22) <| .c (e_bin rfl rfl rfl) <| .a rfl .n) ?_; clear hS a; intro a hS
   refine nL (nT (wp_ret ?_))
   refine c_ret1 hS Tryz.results68 (.tmp rfl) ?_
   refine ⟨⟨decide ((fs.length : Int) ≤ 110), ?_⟩, rfl, hS.chg, none_ok _, fun b hb => hb.elim⟩
   rw [decide_eq_true_iff]
   refine ⟨fun h => ⟨by omega, fun x hx => ?_⟩, fun h => by have := h.1; omega⟩
   obtain ⟨j, hj⟩ := List.getElem?_of_mem hx
   exact hno j x (by have := (List.getElem?_eq_some_iff.1 hj).1; omega) hj
def mnI (i j : Int) : Int := if j < i then j else i
section
variable {P : Program} {n : NN} {a : Act} {L : List (Nat × Value)} {Γ : List Asn} {dst : Option Nat} {ty : Nat} {pos : String} {af : Array Edge} {g : Option (Nat × Bool)}
theorem e_min2 {x y : Operand} {i j : Int} {k k' : IntKind} {ts : Array TypeId} (hx : ev L x = some (.int k i)) (hy : ev L y = some (.int k' j)) : Ex P n a L Γ ⟨dst, .call ⟨.builtin .min, #[x, y], ts⟩, ty, pos, af, g⟩ (.int k (mnI i j)) := fun hs w hh => by
 have h : ∀ t, (Builtin.min_ ts t #[.int k i, .int k' j]).run P w = .ok (.int k (mnI i j)) w := fun t => by rw [run_min_int2]; rfl
 simp [execOp, resolve, invoke, builtin, hs.ev hx, hs.ev hy, h]
end
theorem mn_c (u : Nat) : 0 ≤ mnI (u : Int) 30000 ∧ mnI (u : Int) 30000 ≤ 30000 := by
 unfold mnI; split <;> omega
def mnT (x : List UInt8) : Int := mnI ((tx x).size : Int) 30000
def sumT (c : Cd) : Int := mnI (0 + mnT (c.t 1) + mnT (c.t 2) + mnT (c.t 3) + mnT (c.t 4) + mnT (c.t 5) + mnT (c.t 6)) 60000
def fewC (c : Cd) : Prop := fewFx c.fx ∧ sumT c ≤ 30000
set_option maxRecDepth 100000 in
theorem fFew21_N (W0 : World) (fa : Option Addr) (fc : Nat) (c : Cd) (hF : FctC W0 fa c.fx) (b : Nat) (hc : ∀ (j : Nat) (v : Value), (cellsC c (.slice fa c.fx.length fc))[j]? = some v → W0.cell? ⟨b, 0 + 0 * 15 + j, none⟩ = some v) (w0 : World) (ho : oldφ W0 w0) :
 NewC Tryz.prog 24 [.slice (some ⟨b, 0, none⟩) 1 1, .int .i64 1] w0 (fun b : { b : Bool // b = true ↔ fewC c } => .bool b.1) (fun _ => none_) := by
 refine c_enter [(0, .slice (some ⟨b, 0, none⟩) 1 1), (1, .int .i64 1)] [oldA W0] noB Tryz.func24 rfl Tryz.ntmps24 ⟨rfl, rfl, trivial⟩ rfl (okC (old_ok ho) okN) dis1 (mineC rfl mineN) ?_
 intro a hS
 refine cS (cR ?_)
 refine L_e hS (e_assign rfl) rfl ?_; clear hS a; intro a hS
 refine nL (nT (cS (cR ?_)))
 refine L_e hS (e_assign rfl) rfl ?_; clear hS a; intro a hS
 refine nL (nT (cS (cS (cR ?_))))
 refine L_e hS (e_assign rfl) rfl ?_; clear hS a; intro a hS
 refine nL (nT (wB ?_))
 skip
 refine c_loop (γ := Nat × Int) (fun G a w => St 67 noB w0 a w [(6, .int .i64 (G.1 : Int)), (5, .int .i64 G.2), (0, .slice (some ⟨b, 0, none⟩) 1 1), (1, .int .i64 1)] [oldA W0] ∧ G.1 ≤ 1 ∧ (G.1 = 0 → G.2 = 0) ∧ (G.1 = 1 → G.2 = sumT c ∧ fewFx c.fx)) (fun G => 1 - G.1) (0, 0) ⟨hS.slots (by repeat (first | exact trivial | refine ⟨rfl, ?_⟩)), Nat.zero_le _, fun _ => rfl, fun h => by cases h⟩ ?_
 clear hS a; intro G a w hI
 obtain ⟨k, nn⟩ := G
 obtain ⟨hS, hk, h0, h1⟩ := hI
 simp only at hS hk h0 h1
 refine cS (cS (cR ?_))
 refine Rn hS (.m rfl <| .m rfl <| .c (e_len rfl rfl ty_sl74) <| .c (e_bin rfl rfl rfl) <| .m rfl .n) ?_; clear hS a; intro a hS
 refine L_merge 4 16 (.bool (decide (k = 0))) hS ?_ ?_
 · intro hcM16
   refine g_splitD (t := 12) hS rfl ?_ ?_ <;> (clear hS; intro hg12 hS)
   ·
    refine Rn hS (.g rfl rfl (e_move rfl) <| .g rfl rfl (e_move rfl) <| .g rfl rfl (e_bin rfl rfl rfl) <| .c (e_pick_t rfl rfl) .n) ?_; clear hS a; intro a hS
    exact hcM16 _ _ (hS.ends 5 16 12 rfl (congrArg Value.bool (by exact decide_eq_decide.2 ⟨fun h => by omega, fun h => by omega⟩)) rfl rfl (by first | exact congrArg Value.bool (decide_eq_true hg12).symm | exact congrArg Value.bool hg12.symm | simp [hg12]) rfl)
   refine Rn hS (.t rfl rfl <| .t rfl rfl <| .t rfl rfl <| .c (e_pick_f rfl rfl) .n) ?_; clear hS a; intro a hS
   exact hcM16 _ _ (hS.ends 5 16 12 rfl (congrArg Value.bool (by exact (decide_eq_false (fun h => hg12 (by omega))).symm)) rfl rfl (by first | exact congrArg Value.bool (decide_eq_false hg12).symm | exact congrArg Value.bool hg12.symm | simp [hg12]) rfl)
 · clear hS a; intro a w hS
   simp only [List.drop_succ_cons, List.drop_zero]
   refine nL (nT ?_)
   refine c_ifD hS rfl (fun hc16 => ?_) (fun hc16 => ?_)
   ·
    obtain rfl : k = 0 := hc16
    obtain rfl := h0 rfl
    have z1 := mn_c (tx (c.t 1)).size
    have z2 := mn_c (tx (c.t 2)).size
    have z3 := mn_c (tx (c.t 3)).size
    have z4 := mn_c (tx (c.t 4)).size
    have z5 := mn_c (tx (c.t 5)).size
    have z6 := mn_c (tx (c.t 6)).size
    refine wS (nT (cS (wB (cS (cR ?_)))))
    refine Rn hS (.m rfl <| .m rfl <| .c (e_ixN rfl rfl ty_sl74 ty_sz24 (by omega)) <| .c (e_loadAC (l := cellsC c (.slice fa c.fx.length fc)) rfl ty_st24 ty_sz24 (fun w hh j u hj => old_cell (hh (oldA W0) (by repeat constructor)) (hc j u hj))) .n) ?_; clear hS a; intro a hS
    refine L_op (s_alloc hS ty_z24 rfl ?_); clear hS a; intro a w b7 hS
    refine L_op (s_storeA hS rfl rfl ty_sz24 (by repeat constructor) (by rfl) (by rfl) (by rfl) ?_); clear hS; intro w hS
    refine nL (nT (cS (cR ?_)))
    refine Rn hS (.m rfl <| .c (e_fa0 rfl ty_fo24_1) <| .c (e_load rfl (by repeat constructor) ty_sc9 (by rfl)) <| .c (e_lenS rfl rfl ty_u9) <| .c (e_min2 rfl rfl) <| .c (e_binN rfl rfl rfl (by omega)) <| .c (e_fa0 rfl ty_fo24_2) <| .c (e_load rfl (by repeat constructor) ty_sc9 (by rfl)) <| .c (e_lenS rfl rfl ty_u9) <| .c (e_min2 rfl rfl) <| .c (e_binN rfl rfl rfl (by omega)) <| .c (e_fa0 rfl ty_fo24_3) <| .c (e_load rfl (by repeat constructor) ty_sc9 (by rfl)) <| .c (e_lenS rfl rfl ty_u9) <| .c (e_min2 rfl rfl) <| .c (e_binN rfl rfl rfl (by omega)) <| .c (e_fa0 rfl ty_fo24_4) <| .c (e_load rfl (by repeat constructor) ty_sc9 (by rfl)) <| .c (e_lenS rfl rfl ty_u9) <| .c (e_min2 rfl rfl) <| .c (e_binN rfl rfl rfl (by omega)) <| .c (e_fa0 rfl ty_fo24_5) <| .c (e_load rfl (by repeat constructor) ty_sc9 (by rfl)) <| .c (e_lenS rfl rfl ty_u9) <| .c (e_min2 rfl rfl) <| .c (e_binN rfl rfl rfl (by omega)) <| .c (e_fa0 rfl ty_fo24_6) <| .c (e_load rfl (by repeat constructor) ty_sc9 (by rfl)) <| .c (e_lenS rfl rfl ty_u9) <| .c (e_min2 rfl rfl) <| .c (e_binN rfl rfl rfl (by omega)) <| .c (e_min2 rfl rfl) .n) ?_; clear hS a; intro a hS
    rw [show mnI (0 + mnI ((tx (c.t 1)).size : Int) 30000 + mnI ((tx (c.t 2)).size : Int) 30000 + mnI ((tx (c.t 3)).size : Int) 30000 + mnI ((tx (c.t 4)).size : Int) 30000 + mnI ((tx (c.t 5)).size : Int) 30000 + mnI ((tx (c.t 6)).size : Int) 30000) 60000 = sumT c from rfl] at hS
    refine L_e hS (e_assign rfl) rfl ?_; clear hS a; intro a hS
    refine nL (nT (cS (cR ?_)))
    refine Rn hS (.c (e_fa0 rfl ty_fo24_14) <| .c (e_load rfl (by repeat constructor) ty_sc22 (by rfl)) .n) ?_; clear hS a; intro a hS
    refine L_op (s_callN hS (.cons rfl .nil) cf68 rfl (fFew11_N W0 fa fc c.fx hF _ (hS.gg (X := oldA W0))) ?_); clear hS a; intro x57 a w hS
    refine L_e hS (e_not rfl) rfl ?_; clear hS a; intro a hS
    refine nL (nT ?_)
    refine c_if hS rfl (fun hc58 => ?_) (fun hc58 => ?_)
    ·
     refine cS (cR ?_)
     refine L_e hS (e_assign rfl) rfl ?_; clear hS a; intro a hS
     refine nL (nT (wp_ret ?_))
     refine r_block (r_then (r_then (r_block (r_then ?_))))
     refine c_ret1 hS Tryz.results24 (.tmp rfl) ?_
     have hb : x57.1 = false := by simpa using hc58
     exact ⟨⟨false, iff_of_false Bool.false_ne_true (fun h => by rw [x57.2.2 h.1] at hb; cases hb)⟩, rfl, hS.chg, none_ok _, fun b hb => hb.elim⟩
    refine wS (n_block (nT (cR ?_)))
    refine Rn hS (.m rfl <| .c (e_binN rfl rfl rfl (by omega)) <| .a rfl .n) ?_; clear hS a; intro a hS
    refine nL ?_
    have hb : x57.1 = true := by simpa using hc58
    have e1 : ((1 : Nat) : Int) = ((0 : Nat) : Int) + 1 := rfl
    refine ⟨(1, sumT c), (by decide : (1 : Nat) - 1 < 1 - 0), (by show St _ _ _ _ _ [(6, .int .i64 ((1 : Nat) : Int)), (5, .int .i64 (sumT c)), (0, .slice (some ⟨b, 0, none⟩) 1 1), (1, .int .i64 1)] [oldA W0]; rw [e1]; exact (hS.slots (by repeat (first | exact trivial | refine ⟨rfl, ?_⟩))).pick (by repeat (first | exact Pick.nil | (refine Pick.cons (by repeat (first | exact Rem.head | apply Rem.tail)) ?_)))), Nat.le_refl _, (fun h => absurd (show (1 : Nat) = 0 from h) (by decide)), fun _ => ⟨rfl, x57.2.1 hb⟩⟩
   obtain rfl : k = 1 := by omega
   obtain ⟨rfl, hfx⟩ := h1 rfl
   refine wp_exit ?_
   refine x_then (x_then (x_hit ?_))
   refine nT (cS (cR ?_))
   refine Rn hS (.m rfl <| .c (e_len rfl rfl ty_sl74) <| .m rfl <| .c (e_bin rfl rfl rfl) <| .m rfl .n) ?_; clear hS a; intro a hS
   replace hS := hS.is (t := 63) (c := true) rfl (decide_eq_true (by decide))
   refine Rn hS (.g rfl rfl (e_move rfl) <| .g rfl rfl (e_bin rfl rfl rfl) <| .c (e_pick_t rfl rfl) <| .a rfl .n) ?_; clear hS a; intro a hS
   refine nL (nT (wp_ret ?_))
   refine c_ret1 hS Tryz.results24 (.tmp rfl) ?_
   refine ⟨⟨decide (sumT c ≤ 30000), ?_⟩, rfl, hS.chg, none_ok _, fun b hb => hb.elim⟩
   rw [decide_eq_true_iff]
   exact ⟨fun h => ⟨hfx, h⟩, fun h => h.2⟩
end Go.Proofs.YtlccmgeclhdegaaGreatDoor
namespace Go.Proofs.YtlccmgeclhdegaaGreatDoor
open Go.RowKit
theorem FctC.keep {W w : World} {fa : Option Addr} {fs : List Fct} (h : FctC W fa fs) (ho : oldφ W w) : FctC w fa fs := ⟨fun hne => by
  obtain ⟨nb, no, e, hc⟩ := h.c hne
  exact ⟨nb, no, e, fun i x hx j u hu => old_cell ho (hc i x hx j u hu)⟩⟩
def smallC (c : Cd) : Prop := fewC c ∧ (c.t 6).length ≤ 10000
set_option maxRecDepth 100000 in
theorem frFew_N (W0 : World) (fa : Option Addr) (fc : Nat) (c : Cd) (hF : FctC W0 fa c.fx) (w0 : World) (ho : oldφ W0 w0) :
 NewC Tryz.prog 8 [.agg (cellsC c (.slice fa c.fx.length fc)).toArray] w0 (fun b : { b : Bool // b = true ↔ smallC c } => .bool b.1) (fun _ => none_) := by
 have hz := tx_size (c.t 6)
 refine c_enter [(0, .agg (cellsC c (.slice fa c.fx.length fc)).toArray)] [oldA W0] noB Tryz.func8 rfl Tryz.ntmps8 ⟨rfl, trivial⟩ rfl (okC (old_ok ho) okN) dis1 (mineC rfl mineN) ?_
 intro a hS
 refine cS (cR ?_)
 refine L_op (s_boxA hS rfl rfl ?_); clear hS a; intro a w b1 hS
 refine L_e hS (e_assign rfl) rfl ?_; clear hS a; intro a hS
 refine nL (nT (cS (cR ?_)))
 refine L_e hS (e_loadA rfl (by repeat constructor) ty_st24 ty_sz24 (by rfl)) rfl ?_; clear hS a; intro a hS
 refine L_op (s_bslice hS ty_sl74 ty_sz24 ty_z24 rfl rfl rfl rfl (.agg rfl rfl .nil) rfl ?_); clear hS a; intro a w b4 hS
 have hb4 := hS.gg (X := .blk b4 (cellsC c (.slice fa c.fx.length fc) ++ []) 24)
 refine L_op (s_callN hS (.cons rfl (.cons rfl .nil)) cf24 rfl (fFew21_N w fa fc c (hF.keep (hS.gg (X := oldA W0))) b4 (fun j v hv => cell_of_blk hb4 (by rw [List.append_nil, show 0 + 0 * 15 + j = j by omega]; exact hv)) _ (old_refl w)) ?_); clear hS a; intro x5 a w hS
 refine L_e hS (e_move rfl) rfl ?_; clear hS a; intro a hS
 refine g_split (t := 6) hS rfl ?_ ?_ <;> (clear hS; intro hg6 hS)
 ·
  refine Rn hS (.g rfl rfl (e_fa0 rfl ty_fo24_6) <| .g rfl rfl (e_load rfl (by repeat constructor) ty_sc9 (by rfl)) <| .g rfl rfl (e_lenS rfl rfl ty_u9) <| .g rfl rfl (e_bin rfl rfl rfl) <| .c (e_pick_t rfl rfl) <| .a rfl .n) ?_; clear hS a; intro a hS
  refine nL (nT (wp_ret ?_))
  refine c_ret1 hS Tryz.results8 (.tmp rfl) ?_
  first
   | exact ⟨⟨decide (((tx (c.t 6)).size : Int) ≤ 10000), by rw [decide_eq_true_iff]; exact ⟨fun h => ⟨x5.2.1 hg6, by omega⟩, fun h => by have := h.2; omega⟩⟩, rfl, hS.chg, none_ok _, fun b hb => hb.elim⟩
   | exact ⟨⟨false, iff_of_false Bool.false_ne_true (fun h => by rw [x5.2.2 h.1] at hg6; cases hg6)⟩, rfl, hS.chg, none_ok _, fun b hb => hb.elim⟩
 refine Rn hS (.t rfl rfl <| .t rfl rfl <| .t rfl rfl <| .t rfl rfl <| .c (e_pick_f rfl rfl) <| .a rfl .n) ?_; clear hS a; intro a hS
 refine nL (nT (wp_ret ?_))
 refine c_ret1 hS Tryz.results8 (.tmp rfl) ?_
 first
  | exact ⟨⟨decide (((tx (c.t 6)).size : Int) ≤ 10000), by rw [decide_eq_true_iff]; exact ⟨fun h => ⟨x5.2.1 hg6, by omega⟩, fun h => by have := h.2; omega⟩⟩, rfl, hS.chg, none_ok _, fun b hb => hb.elim⟩
  | exact ⟨⟨false, iff_of_false Bool.false_ne_true (fun h => by rw [x5.2.2 h.1] at hg6; cases hg6)⟩, rfl, hS.chg, none_ok _, fun b hb => hb.elim⟩
def FxB (fs : List Fct) : Prop := ∀ x ∈ fs, -9223372036854775808 ≤ x.n ∧ x.n ≤ 9223372036854775807
theorem fact_good {x : Fct} {y : JV} {n : Nat} (hb : -9223372036854775808 ≤ x.n ∧ x.n ≤ 9223372036854775807) (h : factJ x = some y) : goodV (n + 1) y := by
 unfold factJ at h
 split at h
 · split at h
   · injection h with h; rw [← h]; exact num_good (itoa_lit hb.1 hb.2) n
   · cases h
 · split at h
   · split at h
     · injection h with h
       rw [← h]
       split <;> exact ⟨by omega, by omega, fun h => absurd h (by decide), fun h => absurd h (by decide)⟩
     · cases h
   · split at h
     · injection h with h; rw [← h]; exact ⟨by omega, by omega, fun h => absurd h (by decide), fun h => absurd h (by decide)⟩
     · cases h
theorem factsJ_all : ∀ (fs : List Fct) (ns : List (List UInt8)) (l : List JV) (v : JV), factsJ fs ns l = some v → ∃ ys : List JV, v = .mk 6 [] (ns ++ fs.map Fct.nm) (l ++ ys) ∧ ys.length = fs.length ∧ ∀ (i : Nat) (x : Fct) (y : JV), fs[i]? = some x → ys[i]? = some y → factJ x = some y
 | [], ns, l, v, h => by
   injection h with h
   exact ⟨[], by rw [← h]; simp, rfl, fun i x y hx => by cases hx⟩
 | x :: r, ns, l, v, h => by
   unfold factsJ at h
   cases hx : factJ x with
   | none => rw [hx] at h; cases h
   | some y =>
     rw [hx] at h
     have hgo : factsJ r (ns ++ [x.nm]) (l ++ [y]) = some v := by
      simp only at h
      split at h
      · split at h
        · exact h
        · cases h
      · split at h
        · exact h
        · cases h
     obtain ⟨ys, h1, h2, h3⟩ := factsJ_all r _ _ v hgo
     refine ⟨y :: ys, by rw [h1]; simp, by simp [h2], fun i z w hz hw => ?_⟩
     cases i with
     | zero =>
       obtain rfl : x = z := by simpa using hz
       obtain rfl : y = w := by simpa using hw
       exact hx
     | succ i => exact h3 i z w (by simpa using hz) (by simpa using hw)
theorem val_good {f : Fd} {c : Cd} {y : JV} (hf : f.ok) (hc : c.ok) (hx : FxB c.fx) (h : (valC f c).1 = some y) : goodV 2 y := by
 unfold valC at h
 rcases hf.kd with h1 | h1 | h1
 · rw [if_pos h1] at h
   simp only at h
   split at h
   · injection h with h; rw [← h]; exact ⟨by omega, by omega, fun h => absurd h (by decide), fun h => absurd h (by decide)⟩
   · cases h
 · rw [if_neg (by omega), if_pos h1] at h
   injection h with h
   obtain ⟨n0, n1⟩ := hc.n f.off (hf.n h1).1 (hf.n h1).2
   rw [← h]; exact num_good (itoa_lit n0 n1) 1
 · rw [if_neg (by omega), if_neg (by omega)] at h
   obtain ⟨ys, h2, h3, h4⟩ := factsJ_all c.fx [] [] y h
   rw [h2]
   refine ⟨by omega, by omega, fun h => absurd h (by decide), fun _ z hz => ?_⟩
   obtain ⟨i, hi⟩ := List.getElem?_of_mem (show z ∈ ys by simpa using hz)
   have hil := (List.getElem?_eq_some_iff.1 hi).1
   obtain ⟨x, hxi⟩ : ∃ x, c.fx[i]? = some x := ⟨_, List.getElem?_eq_getElem (by omega)⟩
   exact fact_good (hx x (List.mem_of_getElem? hxi)) (h4 i x z hxi hi)
theorem req_good {c : Cd} {k : Nat} {x : List UInt8 × List Fg} {v : JV} {c' : Cd} (hc : c.ok) (hfx : FxB c.fx) (hx : rtG[k]? = some x) (h : reqL (fdsOf x.2) c [] [] = some (v, c')) : goodV 3 v := by
 have hm := List.mem_of_getElem? hx
 obtain ⟨vals, h1, h2, _, h4⟩ := reqL_all (fdsOf x.2) c [] [] v c' (rt_fdok hm) (rt_apart _ hm) h
 rw [h2]
 refine ⟨by omega, by omega, fun h => absurd h (by decide), fun _ z hz => ?_⟩
 obtain ⟨i, hi⟩ := List.getElem?_of_mem (show z ∈ vals by simpa using hz)
 have hil := (List.getElem?_eq_some_iff.1 hi).1
 obtain ⟨f, hf⟩ : ∃ f, (fdsOf x.2)[i]? = some f := ⟨_, List.getElem?_eq_getElem (by omega)⟩
 exact val_good (rt_fdok hm f (List.mem_of_getElem? hf)) hc hfx (h4 i f z hf hi)
theorem qB_le6 (c : UInt8) : (qB c).length ≤ 6 := by
 have h : ∀ n : Fin 256, (qB (UInt8.ofNat n.val)).length ≤ 6 := by decide +kernel
 have := h ⟨c.toNat, c.toNat_lt⟩
 simpa using this
theorem quote_le6 (l : List UInt8) : (quoteL l).length ≤ 6 * l.length + 2 := by
 have h : (l.flatMap qB).length ≤ 6 * l.length := by
  induction l with
  | nil => simp
  | cons c l ih =>
    rw [List.flatMap_cons, List.length_append, List.length_cons]
    have := qB_le6 c
    omega
 unfold quoteL
 rw [List.cons_append, List.length_cons, List.length_append]
 simp only [List.length_cons, List.length_nil]
 omega
theorem fact_sm {x : Fct} {y : JV} {n : Nat} (hb : -9223372036854775808 ≤ x.n ∧ x.n ≤ 9223372036854775807) (hs : fctSm x) (h : factJ x = some y) : smV (n + 1) y ∧ lenJ (n + 1) y ≤ 1802 := by
 have hi := itoa_len hb.1 hb.2
 have hq := quote_le6 x.s
 have hs2 := hs.2
 unfold factJ at h
 split at h
 · split at h
   · injection h with h
     rw [← h]
     exact ⟨⟨by omega, Nat.zero_le _, (fun x h => by cases h), Nat.zero_le _, (fun x h => by cases h)⟩, by show (Lib.itoa x.n).length ≤ 1802; omega⟩
   · cases h
 · split at h
   · split at h
     · injection h with h
       rw [← h]
       exact ⟨⟨Nat.zero_le _, Nat.zero_le _, (fun x h => by cases h), Nat.zero_le _, (fun x h => by cases h)⟩, by
         split
         · exact (by decide : (wordsJ.getD 2 []).length ≤ 1802)
         · exact (by decide : (wordsJ.getD 1 []).length ≤ 1802)⟩
     · cases h
   · split at h
     · injection h with h
       rw [← h]
       exact ⟨⟨by show x.s.length ≤ 1100000; omega, Nat.zero_le _, (fun x h => by cases h), Nat.zero_le _, (fun x h => by cases h)⟩, Nat.le_trans hq (show 6 * x.s.length + 2 ≤ 1802 by omega)⟩
     · cases h
theorem sum_le {α : Type} (f : α → Nat) (b : Nat) (l : List α) (h : ∀ x ∈ l, f x ≤ b) : (l.map f).sum ≤ l.length * b := by
 induction l with
 | nil => simp
 | cons x l ih =>
   rw [List.map_cons, List.sum_cons, List.length_cons, Nat.succ_mul]
   have := h x (.head _)
   have := ih (fun y hy => h y (.tail _ hy))
   omega
theorem facts_sm {fs : List Fct} {v : JV} (hb : FxB fs) (hs : fewFx fs) (h : factsJ fs [] [] = some v) : smV 2 v ∧ lenJ 2 v ≤ 410000 := by
 obtain ⟨ys, h1, h2, h3⟩ := factsJ_all fs [] [] v h
 have hl := hs.1
 have hall : ∀ p ∈ (fs.map Fct.nm).zip ys, p.1.length ≤ 300 ∧ smV 1 p.2 ∧ lenJ 1 p.2 ≤ 1802 := by
  intro p hp
  obtain ⟨i, hi⟩ := List.getElem?_of_mem hp
  rw [List.getElem?_zip_eq_some] at hi
  obtain ⟨hi1, hi2⟩ := hi
  rw [List.getElem?_map] at hi1
  obtain ⟨x, hx1, hx2⟩ := Option.map_eq_some_iff.1 hi1
  have hxm := List.mem_of_getElem? hx1
  have := fact_sm (n := 0) (hb x hxm) (hs.2 x hxm) (h3 i x p.2 hx1 hi2)
  exact ⟨by rw [← hx2]; exact (hs.2 x hxm).1, this.1, this.2⟩
 have hz : ((fs.map Fct.nm).zip ys).length ≤ 110 := by rw [List.length_zip, List.length_map]; omega
 rw [h1]
 simp only [List.nil_append]
 rw [objP_zip (by rw [List.length_map]; exact h2.symm)]
 refine ⟨sm_ps.2 ⟨by omega, fun p hp => ⟨by have := (hall p hp).1; omega, (hall p hp).2.1⟩⟩, ?_⟩
 have e : lenJ 2 (objP ((fs.map Fct.nm).zip ys)) ≤ _ := (lenJ_le 1 ((fs.map Fct.nm).zip ys)).1
 have e2 : lenP 1 ((fs.map Fct.nm).zip ys) ≤ ((fs.map Fct.nm).zip ys).length * (1802 + 2 + 1802) := by
  unfold lenP
  refine sum_le _ (1802 + 2 + 1802) _ fun p hp => ?_
  have h1 := hall p hp
  have h2 : (quoteL p.1).length ≤ 1802 := Nat.le_trans (quote_le6 p.1) (show 6 * p.1.length + 2 ≤ 1802 by omega)
  exact Nat.add_le_add (Nat.add_le_add h2 (Nat.le_refl 2)) h1.2.2
 omega
theorem sum_le2 {α β : Type} (f : α → Nat) (g : β → Nat) : ∀ (l : List α) (r : List β), l.length = r.length → (∀ (i : Nat) (x : α) (y : β), l[i]? = some x → r[i]? = some y → f x ≤ g y) → (l.map f).sum ≤ (r.map g).sum
 | [], [], _, _ => Nat.le_refl _
 | [], _ :: _, h, _ => by cases h
 | _ :: _, [], h, _ => by cases h
 | x :: l, y :: r, h, hh => by
   rw [List.map_cons, List.map_cons, List.sum_cons, List.sum_cons]
   exact Nat.add_le_add (hh 0 x y rfl rfl) (sum_le2 f g l r (by simpa using h) (fun i a b ha hb => hh (i + 1) a b (by simpa using ha) (by simpa using hb)))
def wgt (c : Cd) (f : Fd) : Nat := if f.kd = 0 then 6 * (c.t f.off).length + 2 else 410000
theorem val_sm {f : Fd} {c : Cd} {y : JV} (hf : f.ok) (hc : c.ok) (hx : FxB c.fx) (hs : fewFx c.fx) (h : (valC f c).1 = some y) : smV 2 y ∧ lenJ 2 y ≤ wgt c f := by
 unfold valC at h
 unfold wgt
 rcases hf.kd with h1 | h1 | h1
 · rw [if_pos h1] at h ⊢
   simp only at h
   have ho := hf.t h1
   split at h
   · injection h with h; rw [← h]
     exact ⟨⟨hc.t f.off ho.1 ho.2, Nat.zero_le _, (fun x h => by cases h), Nat.zero_le _, (fun x h => by cases h)⟩, quote_le6 (c.t f.off)⟩
   · cases h
 · rw [if_neg (by omega), if_pos h1] at h
   rw [if_neg (by omega)]
   injection h with h
   obtain ⟨n0, n1⟩ := hc.n f.off (hf.n h1).1 (hf.n h1).2
   have hi := itoa_len n0 n1
   rw [← h]
   exact ⟨⟨Nat.le_trans hi (by decide), Nat.zero_le _, (fun x h => by cases h), Nat.zero_le _, (fun x h => by cases h)⟩, Nat.le_trans hi (by decide)⟩
 · rw [if_neg (by omega), if_neg (by omega)] at h
   rw [if_neg (by omega)]
   exact facts_sm hx hs h
theorem rt_nms : ∀ x ∈ rtG, (fdsOf x.2).length ≤ 5 ∧ ∀ f ∈ fdsOf x.2, f.nm.length ≤ 6 := by
 intro x hx
 have h : ∀ y ∈ rtG.map (fun x => (fdsOf x.2).map Fd.nm), y.length ≤ 5 ∧ ∀ z ∈ y, z.length ≤ 6 := by decide +kernel
 obtain ⟨h1, h2⟩ := h _ (List.mem_map.2 ⟨x, hx, rfl⟩)
 exact ⟨by simpa using h1, fun f hf => h2 _ (List.mem_map.2 ⟨f, hf, rfl⟩)⟩
def totT (c : Cd) : Nat := (c.t 1).length + (c.t 2).length + (c.t 3).length + (c.t 4).length + (c.t 5).length + (c.t 6).length
def wgtB (b : Nat) (c : Cd) (f : Fd) : Nat := if f.kd = 0 then 6 * (c.t f.off).length + 2 else b
theorem rt_wgtB (b : Nat) (c : Cd) {k : Nat} {x : List UInt8 × List Fg} (hx : rtG[k]? = some x) : ((fdsOf x.2).map (wgtB b c)).sum ≤ 6 * totT c + 5 * b + 10 := by
 have hk : k < 12 := (List.getElem?_eq_some_iff.1 hx).1
 unfold totT
 rcases k with _ | _ | _ | _ | _ | _ | _ | _ | _ | _ | _ | _ | k
 case succ.succ.succ.succ.succ.succ.succ.succ.succ.succ.succ.succ => omega
 all_goals
  obtain rfl : _ = x := by injection hx
  simp [fdsOf, wgtB, fgSet, fgName, fgCur, fgKey, fgMeter, fgSource, fgText, fgAt, fgFrom, fgTo, fgQty, fgNumber, fgUnits, fgNano, fgFacts, fdSet, fdName, fdCur, fdKey, fdMeter, fdSource, fdText, fdAt, fdFrom, fdTo, fdQty, fdNumber, fdUnits, fdNano, fdFacts]
  try omega
theorem rt_wgt (c : Cd) {k : Nat} {x : List UInt8 × List Fg} (hx : rtG[k]? = some x) : ((fdsOf x.2).map (wgt c)).sum ≤ 6 * totT c + 2050010 := rt_wgtB 410000 c hx
theorem req_sm {c : Cd} {k : Nat} {x : List UInt8 × List Fg} {v : JV} {c' : Cd} (hc : c.ok) (hfx : FxB c.fx) (hs : fewFx c.fx) (ht : totT c ≤ 1048576) (hx : rtG[k]? = some x) (h : reqL (fdsOf x.2) c [] [] = some (v, c')) : smV 3 v ∧ lenJ 3 v ≤ 9000000 := by
 have hm := List.mem_of_getElem? hx
 obtain ⟨hl5, hnm⟩ := rt_nms _ hm
 obtain ⟨vals, h1, h2, _, h4⟩ := reqL_all (fdsOf x.2) c [] [] v c' (rt_fdok hm) (rt_apart _ hm) h
 simp only [List.nil_append] at h2
 have hlen : ((fdsOf x.2).map Fd.nm).length = vals.length := by rw [List.length_map]; exact h1.symm
 obtain ⟨ps, hps⟩ : ∃ ps, ((fdsOf x.2).map Fd.nm).zip vals = ps := ⟨_, rfl⟩
 rw [h2, objP_zip hlen, hps]
 have hpl : ps.length = (fdsOf x.2).length := by rw [← hps, List.length_zip, List.length_map]; omega
 have hat : ∀ (i : Nat) (p : List UInt8 × JV) (f : Fd), ps[i]? = some p → (fdsOf x.2)[i]? = some f → p.1 = f.nm ∧ (valC f c).1 = some p.2 := by
  intro i p f hp hf
  rw [← hps, List.getElem?_zip_eq_some] at hp
  obtain ⟨hp1, hp2⟩ := hp
  rw [List.getElem?_map, hf] at hp1
  injection hp1 with hp1
  exact ⟨hp1.symm, h4 i f p.2 hf hp2⟩
 constructor
 · refine sm_ps.2 ⟨by omega, fun p hp => ?_⟩
   obtain ⟨i, hi⟩ := List.getElem?_of_mem hp
   have hil := (List.getElem?_eq_some_iff.1 hi).1
   obtain ⟨f, hf⟩ : ∃ f, (fdsOf x.2)[i]? = some f := ⟨_, List.getElem?_eq_getElem (by omega)⟩
   obtain ⟨e1, e2⟩ := hat i p f hi hf
   have hfm := List.mem_of_getElem? hf
   refine ⟨by rw [e1]; have := hnm f hfm; omega, (val_sm (rt_fdok hm f hfm) hc hfx hs e2).1⟩
 · have e : lenJ 3 (objP ps) ≤ lenP 2 ps + 2 := (lenJ_le 2 ps).1
   have e2 : lenP 2 ps ≤ ((fdsOf x.2).map fun f => 40 + wgt c f).sum := by
    unfold lenP
    refine sum_le2 _ _ _ _ hpl fun i p f hp hf => ?_
    obtain ⟨e1, e2⟩ := hat i p f hp hf
    have hfm := List.mem_of_getElem? hf
    have h6 := hnm f hfm
    have hq : (quoteL p.1).length ≤ 38 := Nat.le_trans (quote_le6 p.1) (by rw [e1]; omega)
    exact Nat.add_le_add (Nat.add_le_add hq (Nat.le_refl 2)) (val_sm (rt_fdok hm f hfm) hc hfx hs e2).2
   have e3 : ∀ l : List Fd, (l.map fun f => 40 + wgt c f).sum = l.length * 40 + (l.map (wgt c)).sum := by
    intro l
    induction l with
    | nil => rfl
    | cons f l ih => rw [List.map_cons, List.sum_cons, ih, List.map_cons, List.sum_cons, List.length_cons]; omega
   have e4 := e3 (fdsOf x.2)
   have e5 := rt_wgt c hx
   omega
set_option maxHeartbeats 4000000 in
set_option maxRecDepth 100000 in
theorem fRequest_N (W0 : World) (hG : Gj W0) (c : Cd) (hc : c.ok) (fa : Option Addr) (fc : Nat) (hF : FctAt W0 fa c.fx) (w0 : World) (hold : oldφ W0 w0)
 (hb : ∀ (k : Nat) (x : List UInt8 × List Fg) (v : JV) (c' : Cd), rtG[k]? = some x → reqL (fdsOf x.2) c [] [] = some (v, c') → goodV 3 v ∧ smV 3 v ∧ lenJ 3 v ≤ 9000000) :
 NewC Tryz.prog 9 [.agg (cellsC c (.slice fa c.fx.length fc)).toArray] w0 (rqV c) (rqY c) := by
 have hfl0 := hF.n
 refine c_enter [(0, .agg (cellsC c (.slice fa c.fx.length fc)).toArray)] [oldA W0] noB Tryz.func9 rfl Tryz.ntmps9 ⟨rfl, trivial⟩ rfl (okC (old_ok hold) okN) dis1 (mineC rfl mineN) ?_
 intro a hS
 refine cS (cR ?_)
 refine L_op (s_boxA hS rfl rfl ?_); clear hS a; intro a w b1 hS
 refine L_op (s_alloc hS ty_z29 rfl ?_); clear hS a; intro a w b2 hS
 refine L_e hS (e_assign rfl) rfl ?_; clear hS a; intro a hS
 refine nL (nT (cS (cS (cR ?_))))
 have hcb : W0.heap.size ≤ b1 := Nat.le_trans hold.1 ((hS.mine (.blk b1 (cellsC c (.slice fa c.fx.length fc)) 24) (by repeat constructor) rfl b1 rfl).resolve_right id)
 refine Rn hS (.c (e_fa0 rfl ty_fo24_0) <| .c (e_load rfl (by repeat constructor) ty_sc3 (by rfl)) <| .c (e_bin rfl rfl rfl) <| .m rfl .n) ?_; clear hS a; intro a hS
 refine L_merge 4 22 (.bool (decide (c.kind = 13 ∨ c.kind = 14))) hS ?_ ?_
 · intro hcM22
   refine g_splitD (t := 18) hS rfl ?_ ?_ <;> (clear hS; intro hg18 hS)
   ·
    refine Rn hS (.f rfl rfl <| .f rfl rfl <| .f rfl rfl <| .c (e_pick_t rfl rfl) .n) ?_; clear hS a; intro a hS
    exact hcM22 _ _ (hS.ends 5 22 18 rfl (congrArg Value.bool (by exact (decide_eq_true (.inl hg18)).symm)) rfl rfl (by first | exact congrArg Value.bool (decide_eq_true hg18).symm | exact congrArg Value.bool hg18.symm | simp [hg18]) rfl)
   refine Rn hS (.g rfl rfl (e_fa0 rfl ty_fo24_0) <| .g rfl rfl (e_load rfl (by repeat constructor) ty_sc3 (by rfl)) <| .g rfl rfl (e_bin rfl rfl rfl) <| .c (e_pick_f rfl rfl) .n) ?_; clear hS a; intro a hS
   exact hcM22 _ _ (hS.ends 5 22 18 rfl (congrArg Value.bool (by exact decide_eq_decide.2 ⟨.inr, fun h => h.resolve_left hg18⟩)) rfl rfl (by first | exact congrArg Value.bool (decide_eq_false hg18).symm | exact congrArg Value.bool hg18.symm | simp [hg18]) rfl)
 · clear hS a; intro a w hS
   simp only [List.drop_succ_cons, List.drop_zero]
   refine nL (nT ?_)
   refine c_ifD hS rfl (fun hc22 => ?_) (fun hc22 => ?_)
   ·
    refine cS (cR ?_)
    refine L_op (s_callM hS (.cons rfl .nil) cf25 rfl (fPath_M W0 hG c hc fa fc (by omega) b1 hcb _ (hS.gg (X := oldA W0)) (hS.ok (.blk b1 (cellsC c (.slice fa c.fx.length fc)) 24) (by repeat constructor))) (fun x => (by repeat constructor)) rfl ?_); clear hS a; intro x24 a w hS
    refine Rn hS (.m rfl <| .c (e_extract rfl rfl) <| .c (e_extract rfl rfl) <| .a rfl <| .a rfl .n) ?_; clear hS a; intro a hS
    refine nL (nT (cS (cS (cR ?_))))
    refine Rn hS (.m rfl <| .c (e_not rfl) .n) ?_; clear hS a; intro a hS
    refine nL (nT ?_)
    refine c_if hS rfl (fun hc28 => ?_) (fun hc28 => ?_)
    ·
     refine cS (cR ?_)
     refine L_e hS (e_build ty_z29 ty_pl29 .nil) rfl ?_; clear hS a; intro a hS
     refine L_op (s_storeA hS rfl rfl ty_sz29 (by repeat constructor) (by rfl) (by rfl) (by rfl) ?_); clear hS; intro w hS
     refine L_e hS (e_assign rfl) rfl ?_; clear hS a; intro a hS
     refine nL (nT (wp_ret ?_))
     refine r_then (r_then ?_)
     refine c_retN hS Tryz.results9 (.cons (.cellA rfl (by repeat constructor) ty_st29 ty_sz29 (by rfl)) (.cons (.tmp rfl) .nil)) rfl ?_
     exact ⟨.inr (.inr ⟨10, by decide, err_path hc22 (by simpa using hc28)⟩), rfl, hS.chg, none_ok _, fun b h => h.elim⟩
    refine wS (nT (cS (cR ?_)))
    refine Rn hS (.m rfl <| .c (e_build ty_z29 ty_pl29 (.one rfl rfl rfl (by repeat constructor) (.one rfl rfl rfl (by repeat constructor) .nil))) .n) ?_; clear hS a; intro a hS
    refine L_op (s_storeA hS rfl rfl ty_sz29 (by repeat constructor) (by rfl) (by rfl) (by rfl) ?_); clear hS; intro w hS
    refine L_e hS (e_assign rfl) rfl ?_; clear hS a; intro a hS
    refine nL (nT (wp_ret (r_then ?_)))
    refine c_retN hS Tryz.results9 (.cons (.cellA rfl (by repeat constructor) ty_st29 ty_sz29 (by rfl)) (.cons (.tmp rfl) .nil)) rfl ?_
    exact ⟨.inr (.inl ⟨(pathF c).1, hc22, rfl, by simpa using hc28⟩), rfl, hS.chg, none_ok _, fun b h => h.elim⟩
   refine wS (nT (cS (cR ?_)))
   obtain ⟨lo, hlo⟩ : ∃ lo, lo = w.heap.size := ⟨_, rfl⟩
   refine L_op (s_callN hS .nil cf26 rfl (fRoutes_L _ lo hlo) ?_); clear hS a; intro x32 a w hS
   obtain ⟨N, rb, f⟩ := x32
   refine L_e hS (e_assign rfl) rfl ?_; clear hS a; intro a hS
   refine nL (nT (cS (cR ?_)))
   refine Rn hS (.m rfl <| .c (e_makeFunc .nil (.cons rfl .nil)) .n) ?_; clear hS a; intro a hS
   have hcell := cell_of_blk (k := 0) (v := .int .i64 c.kind) (hS.gg (X := .blk b1 (cellsC c (.slice fa c.fx.length fc)) 24)) rfl
   have hrt : RtsAt lo rb f w := hS.gg (X := rtsA lo N rb f)
   refine L_op (s_callN hS (.cons rfl (.cons rfl .nil)) cf27 rfl (fIndexRt_N w lo rb f hrt 28 [.pointer (some ⟨b1, 0, none⟩)] (fun k => decide ((k : Int) + 1 = c.kind)) cf28 (fun k x w' _ ho => fRequestF_P f k x b1 c.kind w hcell w' ho) _ (old_refl w)) ?_); clear hS a; intro x35 a w hS
   obtain ⟨ix, hix⟩ := x35
   refine L_e hS (e_assign rfl) rfl ?_; clear hS a; intro a hS
   refine nL (nT (cS (cS (cR ?_))))
   refine Rn hS (.m rfl <| .c (e_bin rfl rfl rfl) .n) ?_; clear hS a; intro a hS
   refine nL (nT ?_)
   refine c_ifD hS rfl (fun hc37 => ?_) (fun hc37 => ?_)
   ·
    refine cS (cR ?_)
    refine L_e hS (e_build ty_z29 ty_pl29 .nil) rfl ?_; clear hS a; intro a hS
    refine L_op (s_storeA hS rfl rfl ty_sz29 (by repeat constructor) (by rfl) (by rfl) (by rfl) ?_); clear hS; intro w hS
    refine L_e hS (e_assign rfl) rfl ?_; clear hS a; intro a hS
    refine nL (nT (wp_ret (r_then ?_)))
    refine c_retN hS Tryz.results9 (.cons (.cellA rfl (by repeat constructor) ty_st29 ty_sz29 (by rfl)) (.cons (.tmp rfl) .nil)) rfl ?_
    have hnk : ∀ j : Nat, j < 12 → decide ((j : Int) + 1 = c.kind) = false := by
     rcases hix with ⟨k, h1, _⟩ | ⟨_, h⟩
     · have h2 : ix < 0 := hc37
       have h1 : ix = k := h1
       omega
     · exact h
    exact ⟨.inr (.inr ⟨7, by decide, err_kind hc22 hnk⟩), rfl, hS.chg, none_ok _, fun b h => h.elim⟩
   obtain ⟨kx, rfl, hkx, hkd⟩ : ∃ kx : Nat, ix = kx ∧ kx < 12 ∧ (kx : Int) + 1 = c.kind := by
    rcases hix with ⟨kx, h1, h2, h3, _⟩ | ⟨h1, _⟩
    · exact ⟨kx, h1, h2, of_decide_eq_true h3⟩
    · exact absurd (show ix < 0 by omega) hc37
   obtain ⟨⟨path, fl⟩, hx⟩ := rt_kth hkx
   have hgx := rtG_ok _ (List.mem_of_getElem? hx)
   have hfn := hgx.n
   simp only at hfn
   refine wS (nT (cS (cR ?_)))
   refine L_e hS (e_build ty_z37 ty_pl37 (.one rfl rfl rfl (by repeat constructor) .nil)) rfl ?_; clear hS a; intro a hS
   refine L_op (s_alloc hS ty_z37 rfl ?_); clear hS a; intro a w b8 hS
   refine L_op (s_storeA hS rfl rfl ty_sz37 (by repeat constructor) (by rfl) (by rfl) (by rfl) ?_); clear hS; intro w hS
   refine nL (nT (cS (cS (cR ?_))))
   refine Rn hS (.m rfl <| .m rfl <| .c (e_ixN rfl rfl ty_sl78 ty_sz83 (by omega)) <| .c (e_faK rfl ty_fo83_2) <| .c (e_loadC rfl ty_sc81 (fun w hh => rts_row (show RtsAt lo rb f w from hh (rtsA lo N rb f) (by repeat constructor)) hx 2 (.slice (some ⟨f kx, 0, none⟩) fl.length fl.length) rfl)) <| .c (e_len rfl rfl ty_sl81) <| .m rfl .n) ?_; clear hS a; intro a hS
   refine nL (nT (wB ?_))
   skip
   refine c_loop (γ := List JX × Value × Value × Cd × Option Addr × Nat) (fun G a w => St 105 noB w0 a w [(46, .int .i64 (G.1.length : Int)), (45, .int .i64 (fl.length : Int)), (44, .slice (some ⟨f kx, 0, none⟩) fl.length fl.length), (6, .slice (some ⟨rb, 0, none⟩) 12 12), (7, .int .i64 (kx : Int)), (1, .pointer (some ⟨b1, 0, none⟩)), (2, .pointer (some ⟨b2, 0, none⟩)), (8, .pointer (some ⟨b8, 0, none⟩)), (3, .int .i64 0)] [ownA 37 4 G.2.1 G.1.length (G.1.flatMap JX.cs), ownA 9 1 G.2.2.1 G.1.length ((nmsF fl G.1.length).flatMap encS), kidsA 2 G.1, .blk b8 [.int .i64 6, .string ⟨#[]⟩, G.2.1, G.2.2.1] 37, .blk b2 [.string ⟨#[]⟩, .string ⟨#[]⟩, .slice none 0 0, .bool false] 29, .blk b1 (cellsC G.2.2.2.1 (.slice G.2.2.2.2.1 G.2.2.2.1.fx.length G.2.2.2.2.2)) 24, rtsA lo N rb f, oldA W0] ∧ G.1.length ≤ fl.length ∧ reqL (fdsOf (fl.drop G.1.length)) G.2.2.2.1 (nmsF fl G.1.length) (G.1.map JX.v) = reqL (fdsOf fl) c [] [] ∧ G.2.2.2.1.ok ∧ FctAt W0 G.2.2.2.2.1 G.2.2.2.1.fx) (fun G => fl.length - G.1.length) ([], .slice none 0 0, .slice none 0 0, c, fa, fc) ⟨((((hS.own_nil 9 1).own_nil 37 4).more (Y := kidsA 2 []) (kids_ok (fun x hx => by cases hx)) (fun b ⟨x, hx, _⟩ => by cases hx)).slots (by repeat (first | exact trivial | refine ⟨rfl, ?_⟩))).pick (by repeat (first | exact Pick.nil | (refine Pick.cons (by repeat (first | exact Rem.head | apply Rem.tail)) ?_))), Nat.zero_le _, rfl, hc, hF⟩ ?_
   clear hS a; intro G a w hI
   obtain ⟨kids, lv, nv, c2, fa2, fc2⟩ := G
   obtain ⟨hS, hk, hgo, hc2, hF2⟩ := hI
   simp only at hS hk hgo hc2 hF2
   obtain ⟨ql, cl, rfl⟩ := own_slice (hS.gg (X := ownA 37 4 lv kids.length (kids.flatMap JX.cs)))
   obtain ⟨qn, cn, rfl⟩ := own_slice (hS.gg (X := ownA 9 1 nv kids.length ((nmsF fl kids.length).flatMap encS)))
   refine cS (cR ?_)
   refine L_e hS (e_bin rfl rfl rfl) rfl ?_; clear hS a; intro a hS
   refine nL (nT (cS ?_))
   refine c_ifD hS rfl (fun hc47 => ?_) (fun hc47 => ?_)
   ·
    have hkn : kids.length < fl.length := by omega
    obtain ⟨y, hy⟩ : ∃ y, fl[kids.length]? = some y := ⟨_, List.getElem?_eq_getElem hkn⟩
    have hym := List.mem_of_getElem? hy
    have hyo := hgx.ok y hym
    obtain ⟨u1, u2, hfg, o1, o2⟩ := fg_three y
    refine wS (nT (cS (wB (cS (cR ?_)))))
    refine Rn hS (.c (e_ixN rfl rfl ty_sl81 ty_sz88 (by omega)) <| .c (e_loadAC (l := [.string (tx y.f.nm), u1, u2]) rfl ty_st88 ty_sz88 (fun w hh j u hj => (rts_fds (show RtsAt lo rb f w from hh (rtsA lo N rb f) (by repeat constructor)) hx).c kids.length y hy j u (by rw [hfg]; exact hj))) .n) ?_; clear hS a; intro a hS
    refine L_op (s_alloc hS ty_z88 rfl ?_); clear hS a; intro a w b10 hS
    refine L_op (s_storeB hS rfl rfl ty_sz88 (cs' := [.string (tx y.f.nm), u1, u2]) (by repeat constructor) rfl (.cons .z (.cons (.s .z) (.cons (.s (.s .z)) .nil))) (by have h1 : isOne (Value.string (tx y.f.nm)) = true := rfl; simp [o1, o2, h1]) ?_); clear hS; intro w hS
    refine nL (nT (cS (cR ?_)))
    refine L_e hS (e_loadA rfl (by repeat constructor) ty_st88 ty_sz88 (by rfl)) rfl ?_; clear hS a; intro a hS
    refine L_op (s_callM hS (.cons rfl (.cons rfl .nil)) cf29 rfl ((by have := fValue_M W0 hG y hyo c2 hc2 fa2 fc2 hF2 b1 hcb _ (hS.gg (X := oldA W0)) (hS.ok (.blk b1 (cellsC c2 (.slice fa2 c2.fx.length fc2)) 24) (by repeat constructor)); rw [hfg] at this; exact this)) (fun x => (by repeat constructor)) rfl ?_); clear hS a; intro x52 a w hS
    obtain ⟨jk, js, a1, a2, a3, a4, a5, a6, bv, hvt, hcase⟩ := vl_open x52 (hS.ok (vlY y.f c2 b1 (.slice fa2 c2.fx.length fc2) x52) (by repeat constructor))
    rw [hvt] at hS
    refine Rn hS (.m rfl <| .c (e_extract rfl rfl) <| .c (e_extract rfl rfl) .n) ?_; clear hS a; intro a hS
    refine L_op (s_alloc hS ty_z37 rfl ?_); clear hS a; intro a w b11 hS
    refine L_op (s_storeA hS rfl rfl ty_sz37 (by repeat constructor) (by rfl) (by rfl) (by rfl) ?_); clear hS; intro w hS
    refine L_e hS (e_assign rfl) rfl ?_; clear hS a; intro a hS
    refine nL (nT (cS (cS (cR ?_))))
    refine Rn hS (.m rfl <| .c (e_not rfl) .n) ?_; clear hS a; intro a hS
    refine nL (nT ?_)
    refine c_if hS rfl (fun hc56 => ?_) (fun hc56 => ?_)
    ·
     refine cS (cR ?_)
     refine L_e hS (e_build ty_z29 ty_pl29 .nil) rfl ?_; clear hS a; intro a hS
     refine L_op (s_storeA hS rfl rfl ty_sz29 (by repeat constructor) (by rfl) (by rfl) (by rfl) ?_); clear hS; intro w hS
     refine L_e hS (e_assign rfl) rfl ?_; clear hS a; intro a hS
     refine nL (nT (wp_ret ?_))
     refine r_then (r_block (r_then (r_then (r_block (r_then ?_)))))
     refine c_retN hS Tryz.results9 (.cons (.cellA rfl (by repeat constructor) ty_st29 ty_sz29 (by rfl)) (.cons (.tmp rfl) .nil)) rfl ?_
     have hvn : (valC y.f c2).1 = none := by
      rcases hcase with ⟨hb1, _⟩ | ⟨_, h⟩
      · rw [hb1] at hc56; exact absurd hc56 (by decide)
      · exact vl_none h
     have hno := hgo.symm.trans (reqL_none _ _ hy hvn)
     exact ⟨.inr (.inr ⟨10, by decide, err_body hc22 hx hkd (fun v c' h => by rw [hno] at h; cases h)⟩), rfl, hS.chg, none_ok _, fun b h => h.elim⟩
    have hbv : bv = true := by simpa using hc56
    obtain ⟨xj, rfl, hxcs⟩ : ∃ x : { x : JX // (valC y.f c2).1 = some x.v }, x52 = .inl x ∧ x.1.cs = [.int .i64 jk, .string js, .slice a1 a2 a3, .slice a4 a5 a6] := by
     rcases hcase with ⟨_, h⟩ | ⟨h, _⟩
     · exact h
     · rw [h] at hbv; cases hbv
    rw [reqL_some _ _ hy xj.2] at hgo
    have e52 : vlY y.f c2 b1 (.slice fa2 c2.fx.length fc2) (.inl xj) = duo (.blk b1 (cellsC (valC y.f c2).2 (if y.f.kd = 2 then .slice none 0 0 else .slice fa2 c2.fx.length fc2)) 24) (jxA 2 xj.1) := rfl
    rw [e52, valC_fv hyo.fd] at hS
    have hc3 := valC_ok (f := y.f) hc2
    have hF3 := valC_fct hyo.fd hF2
    obtain ⟨c3, hc3e⟩ : ∃ c3, (valC y.f c2).2 = c3 := ⟨_, rfl⟩
    rw [hc3e] at hS hgo hc3 hF3
    replace hS := (hS.pick (Γ' := [duo (.blk b1 (cellsC c3 (.slice (fvA y.f fa2) c3.fx.length (fvC y.f fc2))) 24) (jxA 2 xj.1), .blk b11 [.int .i64 jk, .string js, .slice a1 a2 a3, .slice a4 a5 a6] 37, .blk b10 [.string (tx y.f.nm), u1, u2] 88, ownA 37 4 (.slice ql kids.length cl) kids.length (kids.flatMap JX.cs), ownA 9 1 (.slice qn kids.length cn) kids.length ((nmsF fl kids.length).flatMap encS), kidsA 2 kids, .blk b8 [.int .i64 6, .string ⟨#[]⟩, .slice ql kids.length cl, .slice qn kids.length cn] 37, .blk b2 [.string ⟨#[]⟩, .string ⟨#[]⟩, .slice none 0 0, .bool false] 29, rtsA lo N rb f, oldA W0]) (by repeat (first | exact Pick.nil | (refine Pick.cons (by repeat (first | exact Rem.head | apply Rem.tail)) ?_)))).unduo
    refine wS (nT ?_)
    refine c_drawS [12, 14] (by kernel_rfl) hS (sub_cons (X := .blk b8 [.int .i64 6, .string ⟨#[]⟩, .slice ql kids.length cl, .slice qn kids.length cn] 37) (by repeat constructor) (sub_cons (X := .blk b10 [.string (tx y.f.nm), u1, u2] 88) (by repeat constructor) (sub_cons (X := .blk b11 [.int .i64 jk, .string js, .slice a1 a2 a3, .slice a4 a5 a6] 37) (by repeat constructor) sub_nil))) ?_; clear hS; intro w hS
    simp only [List.length_cons, List.length_nil, Nat.zero_add, Nat.reduceAdd, List.replicate]
    refine Rz hS (sub_cons (by repeat constructor) (sub_cons (by repeat constructor) (sub_cons (by repeat constructor) sub_nil))) (.o 0 (tf 1 14) rfl wN (e_fa0 rfl ty_fo37_3) rfl <| .y 1 (tf 2 13) rfl wN (e_load rfl (by repeat constructor) ty_sc35 (by rfl)) rfl <| .o 2 (tf 3 12) rfl wN (e_fa0 rfl ty_fo88_0) rfl <| .y 3 (tf 4 11) rfl wN (e_load rfl (by repeat constructor) ty_sc9 (by rfl)) rfl <| .o 6 [true, true, true, true, false, false, true, false, false, false, false, false, false, false, false] rfl wN (e_fa0 rfl ty_fo37_2) rfl <| .y 7 [true, true, true, true, false, false, true, true, false, false, false, false, false, false, false] rfl wN (e_load rfl (by repeat constructor) ty_sc34 (by rfl)) rfl <| .y 8 [true, true, true, true, false, false, true, true, true, false, false, false, false, false, false] rfl wN (e_loadA rfl (by repeat constructor) ty_st37 ty_sz37 (by rfl)) rfl .n) ?_; clear hS a; intro a hS
    refine Z_many (j := 4) (js := [9]) (by kernel_rfl) ⟨?_, ?_, trivial⟩
    ·
     refine Z_op (i := 4) rfl (want_none a hS.sl) (listed' := [true, true, true, true, true, false, true, true, true, false, false, false, false, false, false]) rfl (s_bslice hS ty_sl35 ty_sz9 ty_z9 rfl rfl rfl rfl (.one rfl rfl rfl .nil) rfl ?_); clear hS a; intro a w b62 hS
     refine Z_and hS (sub_cons (by repeat constructor) (sub_cons (by repeat constructor) (sub_cons (by repeat constructor) sub_nil))) ?_
     refine Z_many (j := 5) (js := [9]) (by kernel_rfl) ⟨?_, ?_, trivial⟩
     ·
      refine Z_op (i := 5) rfl (want_none a hS.sl) (listed' := (tf 9 6)) rfl (s_append1 hS rfl rfl ty_sl35 ty_sz9 ty_by9 ty_z9 rfl rfl rfl (by repeat constructor) (by repeat constructor) (by rfl) (by rfl) (fun _ => (by repeat constructor)) (by omega) ?_); clear hS a; intro v63 a w hv63 hS
      obtain ⟨q63, c63, rfl⟩ := own_slice (hS.gg (X := ownA 9 1 v63 (kids.length + 1) ((nmsF fl kids.length).flatMap encS ++ [.string (tx y.f.nm)])))
      refine Z_and hS (sub_cons (by repeat constructor) (sub_cons (by repeat constructor) (sub_cons (by repeat constructor) sub_nil))) ?_
      refine Zt0 11 [true, true, true, true, true, true, true, true, true, false, false, true, false, false, false] hS rfl want_none (e_fa0 rfl ty_fo37_3) rfl (by kernel_rfl) rfl ?_; clear hS a; intro a hS
      refine Zo 9 [true, true, true, true, true, true, true, true, true, true, false, true, false, false, false] hS rfl wN rfl (s_bslice hS ty_sl34 ty_sz37 ty_z37 rfl rfl rfl rfl (.agg rfl rfl .nil) rfl ?_); clear hS a; intro a w b67 hS
      refine Z_and hS (sub_cons (by repeat constructor) (sub_cons (by repeat constructor) (sub_cons (by repeat constructor) sub_nil))) ?_
      refine Zo 10 (tf 12 3) hS rfl wN rfl (s_append1 hS rfl rfl ty_sl34 ty_sz37 ty_by37 ty_z37 rfl rfl rfl (by repeat constructor) (by repeat constructor) (by rfl) (by rfl) (fun _ => (by repeat constructor)) (by omega) ?_); clear hS a; intro v68 a w hv68 hS
      obtain ⟨q68, c68, rfl⟩ := own_slice (hS.gg (X := ownA 37 4 v68 (kids.length + 1) _))
      refine Z_and hS (sub_cons (by repeat constructor) (sub_cons (by repeat constructor) (sub_cons (by repeat constructor) sub_nil))) ?_
      refine Zo 12 (tf 13 2) hS rfl wN rfl (s_store hS rfl rfl rfl ty_sz35 (by repeat constructor) (by repeat constructor) ?_); clear hS; intro w hS
      refine Z_last (by simp) ?_
      refine Zt0 13 (tf 14 1) hS rfl want_none (e_fa0 rfl ty_fo37_2) rfl (by kernel_rfl) rfl ?_; clear hS a; intro a hS
      refine Zo 14 (tf 15 0) hS rfl wN rfl (s_store hS rfl rfl rfl ty_sz34 (by repeat constructor) (by repeat constructor) ?_); clear hS; intro w hS
      refine Z_last (by simp) ?_
      refine Z_done (by kernel_rfl) ?_
      refine n_block (nT (cR ?_))
      refine Rn hS (.c (e_binN rfl rfl rfl (by omega)) <| .m rfl .n) ?_; clear hS a; intro a hS
      refine nL ?_
      have hfl2 : (kids ++ [xj.1]).flatMap JX.cs = kids.flatMap JX.cs ++ ([.int .i64 jk, .string js, .slice a1 a2 a3, .slice a4 a5 a6] ++ []) := by rw [List.flatMap_append, ← hxcs]; simp
      have hkl1 : (kids ++ [xj.1]).length = kids.length + 1 := by simp
      have hns := nmsF_next hy
      have hnf : (nmsF fl (kids.length + 1)).flatMap encS = (nmsF fl kids.length).flatMap encS ++ [.string (tx y.f.nm)] := by rw [hns, List.flatMap_append]; rfl
      replace hS := kids_add (hS.pick (Γ' := [jxA 2 xj.1, kidsA 2 kids, ownA 37 4 (.slice q68 (kids.length + 1) c68) (kids.length + 1) (kids.flatMap JX.cs ++ ([.int .i64 jk, .string js, .slice a1 a2 a3, .slice a4 a5 a6] ++ [])), ownA 9 1 (.slice q63 (kids.length + 1) c63) (kids.length + 1) ((nmsF fl kids.length).flatMap encS ++ [.string (tx y.f.nm)]), .blk b8 [.int .i64 6, .string ⟨#[]⟩, .slice q68 (kids.length + 1) c68, .slice q63 (kids.length + 1) c63] 37, .blk b2 [.string ⟨#[]⟩, .string ⟨#[]⟩, .slice none 0 0, .bool false] 29, .blk b1 (cellsC c3 (.slice (fvA y.f fa2) c3.fx.length (fvC y.f fc2))) 24, rtsA lo N rb f, oldA W0]) (by repeat (first | exact Pick.nil | (refine Pick.cons (by repeat (first | exact Rem.head | apply Rem.tail)) ?_))))
      rw [← hfl2, ← hnf] at hS
      refine ⟨(kids ++ [xj.1], .slice q68 (kids.length + 1) c68, .slice q63 (kids.length + 1) c63, c3, fvA y.f fa2, fvC y.f fc2), by show fl.length - (kids ++ [xj.1]).length < fl.length - kids.length; omega, ?_, by show (kids ++ [xj.1]).length ≤ fl.length; omega, by show reqL (fdsOf (fl.drop (kids ++ [xj.1]).length)) c3 (nmsF fl (kids ++ [xj.1]).length) ((kids ++ [xj.1]).map JX.v) = _; rw [hkl1, hns, List.map_append, List.map_singleton]; exact hgo, hc3, hF3⟩
      show St _ _ _ _ _ [(46, .int .i64 ((kids ++ [xj.1]).length : Int)), _, _, _, _, _, _, _, _] [ownA _ _ _ (kids ++ [xj.1]).length _, ownA _ _ _ (kids ++ [xj.1]).length ((nmsF fl (kids ++ [xj.1]).length).flatMap encS), _, _, _, _, _, _]
      rw [hkl1]
      exact (hS.slots (by repeat (first | exact trivial | refine ⟨rfl, ?_⟩))).pick (by repeat (first | exact Pick.nil | (refine Pick.cons (by repeat (first | exact Rem.head | apply Rem.tail)) ?_)))
     refine Z_op (i := 9) rfl (want_none a hS.sl) (listed' := [true, true, true, true, true, false, true, true, true, true, false, false, false, false, false]) rfl (s_bslice hS ty_sl34 ty_sz37 ty_z37 rfl rfl rfl rfl (.agg rfl rfl .nil) rfl ?_); clear hS a; intro a w b67 hS
     refine Z_and hS (sub_cons (by repeat constructor) (sub_cons (by repeat constructor) (sub_cons (by repeat constructor) sub_nil))) ?_
     refine Zo 5 (tf 10 5) hS rfl wN rfl (s_append1 hS rfl rfl ty_sl35 ty_sz9 ty_by9 ty_z9 rfl rfl rfl (by repeat constructor) (by repeat constructor) (by rfl) (by rfl) (fun _ => (by repeat constructor)) (by omega) ?_); clear hS a; intro v63 a w hv63 hS
     obtain ⟨q63, c63, rfl⟩ := own_slice (hS.gg (X := ownA 9 1 v63 (kids.length + 1) ((nmsF fl kids.length).flatMap encS ++ [.string (tx y.f.nm)])))
     refine Z_and hS (sub_cons (by repeat constructor) (sub_cons (by repeat constructor) (sub_cons (by repeat constructor) sub_nil))) ?_
     refine Zt0 11 [true, true, true, true, true, true, true, true, true, true, false, true, false, false, false] hS rfl want_none (e_fa0 rfl ty_fo37_3) rfl (by kernel_rfl) rfl ?_; clear hS a; intro a hS
     refine Zo 10 (tf 12 3) hS rfl wN rfl (s_append1 hS rfl rfl ty_sl34 ty_sz37 ty_by37 ty_z37 rfl rfl rfl (by repeat constructor) (by repeat constructor) (by rfl) (by rfl) (fun _ => (by repeat constructor)) (by omega) ?_); clear hS a; intro v68 a w hv68 hS
     obtain ⟨q68, c68, rfl⟩ := own_slice (hS.gg (X := ownA 37 4 v68 (kids.length + 1) _))
     refine Z_and hS (sub_cons (by repeat constructor) (sub_cons (by repeat constructor) (sub_cons (by repeat constructor) sub_nil))) ?_
     refine Zo 12 (tf 13 2) hS rfl wN rfl (s_store hS rfl rfl rfl ty_sz35 (by repeat constructor) (by repeat constructor) ?_); clear hS; intro w hS
     refine Z_last (by simp) ?_
     refine Zt0 13 (tf 14 1) hS rfl want_none (e_fa0 rfl ty_fo37_2) rfl (by kernel_rfl) rfl ?_; clear hS a; intro a hS
     refine Zo 14 (tf 15 0) hS rfl wN rfl (s_store hS rfl rfl rfl ty_sz34 (by repeat constructor) (by repeat constructor) ?_); clear hS; intro w hS
     refine Z_last (by simp) ?_
     refine Z_done (by kernel_rfl) ?_
     refine n_block (nT (cR ?_))
     refine Rn hS (.c (e_binN rfl rfl rfl (by omega)) <| .m rfl .n) ?_; clear hS a; intro a hS
     refine nL ?_
     have hfl2 : (kids ++ [xj.1]).flatMap JX.cs = kids.flatMap JX.cs ++ ([.int .i64 jk, .string js, .slice a1 a2 a3, .slice a4 a5 a6] ++ []) := by rw [List.flatMap_append, ← hxcs]; simp
     have hkl1 : (kids ++ [xj.1]).length = kids.length + 1 := by simp
     have hns := nmsF_next hy
     have hnf : (nmsF fl (kids.length + 1)).flatMap encS = (nmsF fl kids.length).flatMap encS ++ [.string (tx y.f.nm)] := by rw [hns, List.flatMap_append]; rfl
     replace hS := kids_add (hS.pick (Γ' := [jxA 2 xj.1, kidsA 2 kids, ownA 37 4 (.slice q68 (kids.length + 1) c68) (kids.length + 1) (kids.flatMap JX.cs ++ ([.int .i64 jk, .string js, .slice a1 a2 a3, .slice a4 a5 a6] ++ [])), ownA 9 1 (.slice q63 (kids.length + 1) c63) (kids.length + 1) ((nmsF fl kids.length).flatMap encS ++ [.string (tx y.f.nm)]), .blk b8 [.int .i64 6, .string ⟨#[]⟩, .slice q68 (kids.length + 1) c68, .slice q63 (kids.length + 1) c63] 37, .blk b2 [.string ⟨#[]⟩, .string ⟨#[]⟩, .slice none 0 0, .bool false] 29, .blk b1 (cellsC c3 (.slice (fvA y.f fa2) c3.fx.length (fvC y.f fc2))) 24, rtsA lo N rb f, oldA W0]) (by repeat (first | exact Pick.nil | (refine Pick.cons (by repeat (first | exact Rem.head | apply Rem.tail)) ?_))))
     rw [← hfl2, ← hnf] at hS
     refine ⟨(kids ++ [xj.1], .slice q68 (kids.length + 1) c68, .slice q63 (kids.length + 1) c63, c3, fvA y.f fa2, fvC y.f fc2), by show fl.length - (kids ++ [xj.1]).length < fl.length - kids.length; omega, ?_, by show (kids ++ [xj.1]).length ≤ fl.length; omega, by show reqL (fdsOf (fl.drop (kids ++ [xj.1]).length)) c3 (nmsF fl (kids ++ [xj.1]).length) ((kids ++ [xj.1]).map JX.v) = _; rw [hkl1, hns, List.map_append, List.map_singleton]; exact hgo, hc3, hF3⟩
     show St _ _ _ _ _ [(46, .int .i64 ((kids ++ [xj.1]).length : Int)), _, _, _, _, _, _, _, _] [ownA _ _ _ (kids ++ [xj.1]).length _, ownA _ _ _ (kids ++ [xj.1]).length ((nmsF fl (kids ++ [xj.1]).length).flatMap encS), _, _, _, _, _, _]
     rw [hkl1]
     exact (hS.slots (by repeat (first | exact trivial | refine ⟨rfl, ?_⟩))).pick (by repeat (first | exact Pick.nil | (refine Pick.cons (by repeat (first | exact Rem.head | apply Rem.tail)) ?_)))
    refine Z_op (i := 9) rfl (want_none a hS.sl) (listed' := [true, true, true, true, false, false, true, true, true, true, false, false, false, false, false]) rfl (s_bslice hS ty_sl34 ty_sz37 ty_z37 rfl rfl rfl rfl (.agg rfl rfl .nil) rfl ?_); clear hS a; intro a w b67 hS
    refine Z_and hS (sub_cons (by repeat constructor) (sub_cons (by repeat constructor) (sub_cons (by repeat constructor) sub_nil))) ?_
    refine Zo 4 [true, true, true, true, true, false, true, true, true, true, false, false, false, false, false] hS rfl wN rfl (s_bslice hS ty_sl35 ty_sz9 ty_z9 rfl rfl rfl rfl (.one rfl rfl rfl .nil) rfl ?_); clear hS a; intro a w b62 hS
    refine Z_and hS (sub_cons (by repeat constructor) (sub_cons (by repeat constructor) (sub_cons (by repeat constructor) sub_nil))) ?_
    refine Zo 5 (tf 10 5) hS rfl wN rfl (s_append1 hS rfl rfl ty_sl35 ty_sz9 ty_by9 ty_z9 rfl rfl rfl (by repeat constructor) (by repeat constructor) (by rfl) (by rfl) (fun _ => (by repeat constructor)) (by omega) ?_); clear hS a; intro v63 a w hv63 hS
    obtain ⟨q63, c63, rfl⟩ := own_slice (hS.gg (X := ownA 9 1 v63 (kids.length + 1) ((nmsF fl kids.length).flatMap encS ++ [.string (tx y.f.nm)])))
    refine Z_and hS (sub_cons (by repeat constructor) (sub_cons (by repeat constructor) (sub_cons (by repeat constructor) sub_nil))) ?_
    refine Zt0 11 [true, true, true, true, true, true, true, true, true, true, false, true, false, false, false] hS rfl want_none (e_fa0 rfl ty_fo37_3) rfl (by kernel_rfl) rfl ?_; clear hS a; intro a hS
    refine Zo 10 (tf 12 3) hS rfl wN rfl (s_append1 hS rfl rfl ty_sl34 ty_sz37 ty_by37 ty_z37 rfl rfl rfl (by repeat constructor) (by repeat constructor) (by rfl) (by rfl) (fun _ => (by repeat constructor)) (by omega) ?_); clear hS a; intro v68 a w hv68 hS
    obtain ⟨q68, c68, rfl⟩ := own_slice (hS.gg (X := ownA 37 4 v68 (kids.length + 1) _))
    refine Z_and hS (sub_cons (by repeat constructor) (sub_cons (by repeat constructor) (sub_cons (by repeat constructor) sub_nil))) ?_
    refine Zo 12 (tf 13 2) hS rfl wN rfl (s_store hS rfl rfl rfl ty_sz35 (by repeat constructor) (by repeat constructor) ?_); clear hS; intro w hS
    refine Z_last (by simp) ?_
    refine Zt0 13 (tf 14 1) hS rfl want_none (e_fa0 rfl ty_fo37_2) rfl (by kernel_rfl) rfl ?_; clear hS a; intro a hS
    refine Zo 14 (tf 15 0) hS rfl wN rfl (s_store hS rfl rfl rfl ty_sz34 (by repeat constructor) (by repeat constructor) ?_); clear hS; intro w hS
    refine Z_last (by simp) ?_
    refine Z_done (by kernel_rfl) ?_
    refine n_block (nT (cR ?_))
    refine Rn hS (.c (e_binN rfl rfl rfl (by omega)) <| .m rfl .n) ?_; clear hS a; intro a hS
    refine nL ?_
    have hfl2 : (kids ++ [xj.1]).flatMap JX.cs = kids.flatMap JX.cs ++ ([.int .i64 jk, .string js, .slice a1 a2 a3, .slice a4 a5 a6] ++ []) := by rw [List.flatMap_append, ← hxcs]; simp
    have hkl1 : (kids ++ [xj.1]).length = kids.length + 1 := by simp
    have hns := nmsF_next hy
    have hnf : (nmsF fl (kids.length + 1)).flatMap encS = (nmsF fl kids.length).flatMap encS ++ [.string (tx y.f.nm)] := by rw [hns, List.flatMap_append]; rfl
    replace hS := kids_add (hS.pick (Γ' := [jxA 2 xj.1, kidsA 2 kids, ownA 37 4 (.slice q68 (kids.length + 1) c68) (kids.length + 1) (kids.flatMap JX.cs ++ ([.int .i64 jk, .string js, .slice a1 a2 a3, .slice a4 a5 a6] ++ [])), ownA 9 1 (.slice q63 (kids.length + 1) c63) (kids.length + 1) ((nmsF fl kids.length).flatMap encS ++ [.string (tx y.f.nm)]), .blk b8 [.int .i64 6, .string ⟨#[]⟩, .slice q68 (kids.length + 1) c68, .slice q63 (kids.length + 1) c63] 37, .blk b2 [.string ⟨#[]⟩, .string ⟨#[]⟩, .slice none 0 0, .bool false] 29, .blk b1 (cellsC c3 (.slice (fvA y.f fa2) c3.fx.length (fvC y.f fc2))) 24, rtsA lo N rb f, oldA W0]) (by repeat (first | exact Pick.nil | (refine Pick.cons (by repeat (first | exact Rem.head | apply Rem.tail)) ?_))))
    rw [← hfl2, ← hnf] at hS
    refine ⟨(kids ++ [xj.1], .slice q68 (kids.length + 1) c68, .slice q63 (kids.length + 1) c63, c3, fvA y.f fa2, fvC y.f fc2), by show fl.length - (kids ++ [xj.1]).length < fl.length - kids.length; omega, ?_, by show (kids ++ [xj.1]).length ≤ fl.length; omega, by show reqL (fdsOf (fl.drop (kids ++ [xj.1]).length)) c3 (nmsF fl (kids ++ [xj.1]).length) ((kids ++ [xj.1]).map JX.v) = _; rw [hkl1, hns, List.map_append, List.map_singleton]; exact hgo, hc3, hF3⟩
    show St _ _ _ _ _ [(46, .int .i64 ((kids ++ [xj.1]).length : Int)), _, _, _, _, _, _, _, _] [ownA _ _ _ (kids ++ [xj.1]).length _, ownA _ _ _ (kids ++ [xj.1]).length ((nmsF fl (kids ++ [xj.1]).length).flatMap encS), _, _, _, _, _, _]
    rw [hkl1]
    exact (hS.slots (by repeat (first | exact trivial | refine ⟨rfl, ?_⟩))).pick (by repeat (first | exact Pick.nil | (refine Pick.cons (by repeat (first | exact Rem.head | apply Rem.tail)) ?_)))
   have hk2 : kids.length = fl.length := by omega
   have hgo' : reqL (fdsOf fl) c [] [] = some (.mk 6 [] (nmsF fl kids.length) (kids.map JX.v), c2) := by rw [← hgo, hk2]; exact reqL_done _ _ _ fl
   have hnl : (nmsF fl kids.length).length = kids.length := by unfold nmsF; rw [List.length_map, List.length_take, hk2, Nat.min_self]
   refine wp_exit ?_
   refine x_then (x_then (x_hit ?_))
   refine nT (cS (cS (cR ?_)))
   refine L_e hS (e_loadA (cs := cellsC c2 (.slice fa2 c2.fx.length fc2)) rfl (by repeat constructor) ty_st24 ty_sz24 rfl) rfl ?_; clear hS a; intro a hS
   refine L_op (s_callP hS (.cons rfl .nil) cf30 rfl (fEmpty_P c2 hc2 fa2 fc2 (by have := hF2.n; omega) _) ?_); clear hS a; intro a w hS
   refine L_e hS (e_not rfl) rfl ?_; clear hS a; intro a hS
   refine nL (nT ?_)
   refine c_if hS rfl (fun hc74 => ?_) (fun hc74 => ?_)
   ·
    refine cS (cR ?_)
    refine L_e hS (e_build ty_z29 ty_pl29 .nil) rfl ?_; clear hS a; intro a hS
    refine L_op (s_storeA hS rfl rfl ty_sz29 (by repeat constructor) (by rfl) (by rfl) (by rfl) ?_); clear hS; intro w hS
    refine L_e hS (e_assign rfl) rfl ?_; clear hS a; intro a hS
    refine nL (nT (wp_ret (r_then ?_)))
    refine c_retN hS Tryz.results9 (.cons (.cellA rfl (by repeat constructor) ty_st29 ty_sz29 (by rfl)) (.cons (.tmp rfl) .nil)) rfl ?_
    have hnem : ¬ emptyC c2 := fun h => by rw [emptyB_t.2 h] at hc74; exact absurd hc74 (by decide)
    exact ⟨.inr (.inr ⟨10, by decide, err_body hc22 hx hkd (fun v c' h he => by rw [hgo'] at h; injection h with h; injection h with _ h; subst h; exact absurd he hnem)⟩), rfl, hS.chg, none_ok _, fun b h => h.elim⟩
   have hem : emptyC c2 := emptyB_t.1 (by simpa using hc74)
   obtain ⟨g1, g2, g3⟩ := hb kx (path, fl) _ c2 hx hgo'
   replace hS := jx_node (d := 2) (k := 6) (t := []) (ns := nmsF fl kids.length) (kids := kids) (by rw [hnl]; exact hS.pick (Γ' := [ownA 37 4 (.slice ql kids.length cl) kids.length (kids.flatMap JX.cs), ownA 9 1 (.slice qn kids.length cn) kids.length ((nmsF fl kids.length).flatMap encS), kidsA 2 kids, .blk b8 [.int .i64 6, .string ⟨#[]⟩, .slice ql kids.length cl, .slice qn kids.length cn] 37, .blk b2 [.string ⟨#[]⟩, .string ⟨#[]⟩, .slice none 0 0, .bool false] 29, rtsA lo N rb f, oldA W0]) (by repeat (first | exact Pick.nil | (refine Pick.cons (by repeat (first | exact Rem.head | apply Rem.tail)) ?_))))
   have hj : JAt 3 (.mk 6 [] (nmsF fl kids.length) (kids.map JX.v)) [.int .i64 6, .string ⟨#[]⟩, .slice ql kids.length cl, .slice qn kids.length cn] w := hS.get (.head _)
   obtain ⟨v, hv⟩ : ∃ v, JV.mk 6 [] (nmsF fl kids.length) (kids.map JX.v) = v := ⟨_, rfl⟩
   rw [hv] at hgo' g1 g2 g3 hj
   refine wS (nT (cS (cR ?_)))
   refine L_e hS (e_loadA rfl (by repeat constructor) ty_st37 ty_sz37 (by rfl)) rfl ?_; clear hS a; intro a hS
   refine L_op (s_callN hS (.cons rfl .nil) cf12 rfl (jPrint_N 3 v _ _ (hG.keep (hS.gg (X := oldA W0))).u8 g1 g2 hj g3) ?_); clear hS a; intro x78 a w hS
   obtain ⟨pq, pm, pc, pe, hpv, hpc⟩ := pr_open x78
   rw [hpv] at hS
   refine Rn hS (.m rfl <| .c (e_extract rfl rfl) <| .c (e_extract rfl rfl) <| .a rfl <| .a rfl .n) ?_; clear hS a; intro a hS
   refine nL (nT (cS (wB (cS (cR ?_)))))
   refine Rn hS (.m rfl <| .c (e_bin rfl rfl rfl) <| .m rfl .n) ?_; clear hS a; intro a hS
   refine L_merge 3 87 (.bool (decide (pe ≠ 0 ∧ pe ≠ 8))) hS ?_ ?_
   · intro hcM87
     refine g_splitD (t := 84) hS rfl ?_ ?_ <;> (clear hS; intro hg84 hS)
     ·
      refine Rn hS (.g rfl rfl (e_move rfl) <| .g rfl rfl (e_bin rfl rfl rfl) <| .c (e_pick_t rfl rfl) .n) ?_; clear hS a; intro a hS
      exact hcM87 _ _ (hS.ends 4 87 84 rfl (congrArg Value.bool (by exact decide_eq_decide.2 ⟨fun h => ⟨hg84, h⟩, fun h => h.2⟩)) rfl rfl (by first | exact congrArg Value.bool (decide_eq_true hg84).symm | exact congrArg Value.bool hg84.symm | simp [hg84]) rfl)
     refine Rn hS (.t rfl rfl <| .t rfl rfl <| .c (e_pick_f rfl rfl) .n) ?_; clear hS a; intro a hS
     exact hcM87 _ _ (hS.ends 4 87 84 rfl (congrArg Value.bool (by exact (decide_eq_false (fun h => hg84 h.1)).symm)) rfl rfl (by first | exact congrArg Value.bool (decide_eq_false hg84).symm | exact congrArg Value.bool hg84.symm | simp [hg84]) rfl)
   · clear hS a; intro a w hS
     simp only [List.drop_succ_cons, List.drop_zero]
     refine L_e hS (e_assign rfl) rfl ?_; clear hS a; intro a hS
     refine nL (nT ?_)
     refine c_ifD hS rfl (fun hc81 => ?_) (fun hc81 => ?_)
     ·
      refine cS (cR ?_)
      refine L_e hS (e_build ty_z29 ty_pl29 .nil) rfl ?_; clear hS a; intro a hS
      refine L_op (s_storeA hS rfl rfl ty_sz29 (by repeat constructor) (by rfl) (by rfl) (by rfl) ?_); clear hS; intro w hS
      refine L_e hS (e_assign rfl) rfl ?_; clear hS a; intro a hS
      refine nL (nT (wp_ret ?_))
      refine r_block (r_then ?_)
      refine c_retN hS Tryz.results9 (.cons (.cellA rfl (by repeat constructor) ty_st29 ty_sz29 (by rfl)) (.cons (.tmp rfl) .nil)) rfl ?_
      have hpe2 : okF 3 0 v → False := fun h => by
       rcases hpc with ⟨h0, _⟩ | ⟨_, h0⟩
       · exact hc81.1 h0
       · exact hc81.2 (h0 h).1
      exact ⟨.inr (.inr ⟨10, by decide, err_body hc22 hx hkd (fun v2 c' h _ ho => by rw [hgo'] at h; injection h with h; injection h with h _; subst h; exact (hpe2 ho).elim)⟩), rfl, hS.chg, none_ok _, fun b h => h.elim⟩
     refine cS (cR ?_)
     refine Rn hS (.m rfl <| .c (e_bin rfl rfl rfl) <| .m rfl .n) ?_; clear hS a; intro a hS
     refine L_merge 4 96 (.bool (decide (pe = 8 ∨ 32768 < pm))) hS ?_ ?_
     · intro hcM96
       refine g_splitD (t := 92) hS rfl ?_ ?_ <;> (clear hS; intro hg92 hS)
       ·
        refine Rn hS (.f rfl rfl <| .f rfl rfl <| .f rfl rfl <| .c (e_pick_t rfl rfl) .n) ?_; clear hS a; intro a hS
        exact hcM96 _ _ (hS.ends 5 96 92 rfl (congrArg Value.bool (by exact (decide_eq_true (.inl hg92)).symm)) rfl rfl (by first | exact congrArg Value.bool (decide_eq_true hg92).symm | exact congrArg Value.bool hg92.symm | simp [hg92]) rfl)
       refine Rn hS (.g rfl rfl (e_move rfl) <| .g rfl rfl (e_len rfl rfl ty_sl27) <| .g rfl rfl (e_bin rfl rfl rfl) <| .c (e_pick_f rfl rfl) .n) ?_; clear hS a; intro a hS
       exact hcM96 _ _ (hS.ends 5 96 92 rfl (congrArg Value.bool (by exact decide_eq_decide.2 ⟨fun h => .inr (by omega), fun h => by have := h.resolve_left hg92; omega⟩)) rfl rfl (by first | exact congrArg Value.bool (decide_eq_false hg92).symm | exact congrArg Value.bool hg92.symm | simp [hg92]) rfl)
     · clear hS a; intro a w hS
       simp only [List.drop_succ_cons, List.drop_zero]
       refine L_e hS (e_assign rfl) rfl ?_; clear hS a; intro a hS
       refine nL (nT ?_)
       refine c_ifD hS rfl (fun hc89 => ?_) (fun hc89 => ?_)
       ·
        refine cS (cR ?_)
        refine L_e hS (e_build ty_z29 ty_pl29 .nil) rfl ?_; clear hS a; intro a hS
        refine L_op (s_storeA hS rfl rfl ty_sz29 (by repeat constructor) (by rfl) (by rfl) (by rfl) ?_); clear hS; intro w hS
        refine L_e hS (e_assign rfl) rfl ?_; clear hS a; intro a hS
        refine nL (nT (wp_ret ?_))
        refine r_block (r_then ?_)
        refine c_retN hS Tryz.results9 (.cons (.cellA rfl (by repeat constructor) ty_st29 ty_sz29 (by rfl)) (.cons (.tmp rfl) .nil)) rfl ?_
        have hln : okF 3 0 v → 32768 < lenJ 3 v := fun h => by
         rcases hpc with ⟨h0, x, _, _, hm, _⟩ | ⟨_, h0⟩
         · have := pj_len 3 v _ _ x.2.2.1
           omega
         · have := (h0 h).2; omega
        exact ⟨.inr (.inr ⟨8, by decide, err_body hc22 hx hkd (fun v2 c' h _ ho => by rw [hgo'] at h; injection h with h; injection h with h _; subst h; exact ⟨rfl, hln ho⟩)⟩), rfl, hS.chg, none_ok _, fun b h => h.elim⟩
       have hpe : pe = 0 := by omega
       obtain ⟨px, rfl, rfl, rfl, rfl⟩ : ∃ x : { x : (Nat × Nat) × JV × List UInt8 // okF 3 0 v ∧ PJ 3 v x.2.1 x.2.2 ∧ x.2.2.length ≤ 65536 ∧ x.2.2.length ≤ x.1.2 }, x78 = .inl x ∧ pq = some ⟨x.1.1.1, 0, none⟩ ∧ pm = x.1.2.2.length ∧ pc = x.1.1.2 := by
        rcases hpc with ⟨_, h⟩ | h
        · exact h
        · exact absurd hpe h.1
       refine wS (n_block (nT (cS (cR ?_))))
       refine Rn hS (.m rfl <| .m rfl <| .c (e_ixN rfl rfl ty_sl78 ty_sz83 (by omega)) <| .c (e_faK rfl ty_fo83_0) <| .c (e_loadC rfl ty_sc9 (fun w hh => rts_row (show RtsAt lo rb f w from hh (rtsA lo N rb f) (by repeat constructor)) hx 0 (.string (tx path)) rfl)) <| .m rfl <| .c (e_build ty_z29 ty_pl29 (.one rfl rfl rfl (by repeat constructor) (.one rfl rfl rfl (by repeat constructor) (.one rfl rfl rfl (by repeat constructor) .nil)))) .n) ?_; clear hS a; intro a hS
       refine L_op (s_storeA hS rfl rfl ty_sz29 (by repeat constructor) (by rfl) (by rfl) (by rfl) ?_); clear hS; intro w hS
       refine L_e hS (e_assign rfl) rfl ?_; clear hS a; intro a hS
       refine nL (nT (wp_ret ?_))
       refine c_retN hS Tryz.results9 (.cons (.cellA rfl (by repeat constructor) ty_st29 ty_sz29 (by rfl)) (.cons (.tmp rfl) .nil)) rfl ?_
       obtain ⟨⟨⟨pb, pcap⟩, pr, ps⟩, h1, h2, h3, h4⟩ := px
       exact ⟨.inl ⟨((pb, pcap), path, ps), ⟨v, pr, kx, fl, c2, ⟨hx, hkd, hgo', hem, h1, h2, Nat.not_lt.1 (fun h => hc89 (.inr h))⟩⟩, h4⟩, rfl, hS.chg, hS.ok (bbA 5 pb (bsI ps)) (by repeat constructor), fun b hb => (hS.mine (bbA 5 pb (bsI ps)) (by repeat constructor) rfl b hb).resolve_right id⟩
theorem fRequest_S (W0 : World) (hG : Gj W0) (c : Cd) (hc : c.ok) (hfx : FxB c.fx) (hs : fewFx c.fx) (ht : totT c ≤ 1048576) (fa : Option Addr) (fc : Nat) (hF : FctC W0 fa c.fx) (w0 : World) (hold : oldφ W0 w0) :
 NewC Tryz.prog 9 [.agg (cellsC c (.slice fa c.fx.length fc)).toArray] w0 (rqV c) (rqY c) :=
 fRequest_N W0 hG c hc fa fc ⟨hF.c, by have := hs.1; omega, hfx⟩ w0 hold fun _ _ _ _ hx h => ⟨req_good hc hfx hx h, req_sm hc hfx hs ht hx h⟩
theorem req_parse {c : Cd} {path s : List UInt8} {v r : JV} {k : Nat} {fl : List Fg} {c' : Cd} (hc : c.ok) (hfx : FxB c.fx) (h : RqOk c path s v r k fl c') : parseF s = some r := by
 have hg : goodV 3 v := req_good hc hfx h.x h.q
 exact pj_parse hg h.f h.p (Nat.le_trans h.n (by decide))
def putC (f : Fd) (c cc : Cd) : Cd := if f.kd = 0 then cc.putT f.off (c.t f.off) else if f.kd = 1 then cc.putN f.off (c.n f.off) else cc
theorem rdC_val {f : Fd} {c : Cd} {y : JV} (hf : f.ok) (hc : c.ok) (h : (valC f c).1 = some y) (cc : Cd) : rdC f y cc = putC f c cc := by
 unfold valC at h
 unfold rdC putC
 rcases hf.kd with h1 | h1 | h1
 · rw [if_pos h1] at h ⊢
   rw [if_pos h1]
   simp only at h
   split at h
   · injection h with h; rw [← h]; rfl
   · cases h
 · rw [if_neg (by omega), if_pos h1] at h ⊢
   rw [if_neg (by omega), if_pos h1]
   injection h with h
   obtain ⟨n0, n1⟩ := hc.n f.off (hf.n h1).1 (hf.n h1).2
   rw [← h]
   unfold intOfF
   rw [int_itoa n0 n1]
   rfl
 · rw [if_neg (by omega), if_neg (by omega), if_neg (by omega), if_neg (by omega)]
theorem rdC_pj {f : Fd} {n : Nat} {y r : JV} {t : List UInt8} (hf : f.ok) (h : rdE f y = 0) (hp : PJ n y r t) (cc : Cd) : rdC f r cc = rdC f y cc := by
 cases n with
 | zero => exact hp.elim
 | succ n =>
   obtain ⟨k, s, ns, l⟩ := y
   unfold rdE at h
   unfold rdC
   rcases hf.kd with h1 | h1 | h1
   · rw [if_pos h1] at h
     rw [if_pos h1, if_pos h1]
     have hk : k = 4 := by
      apply Classical.byContradiction
      intro hk
      rw [if_neg (show ¬ (JV.mk k s ns l).k = 4 from hk)] at h
      exact absurd h (by decide)
     rcases (show _ ∨ _ ∨ _ ∨ _ from hp) with ⟨h2, _⟩ | ⟨_, hr, _⟩ | ⟨h2, _⟩ | ⟨h2, _⟩
     · omega
     · rw [hr]; rfl
     · omega
     · omega
   · rw [if_neg (by omega), if_pos h1] at h
     rw [if_neg (by omega), if_pos h1, if_neg (by omega), if_pos h1]
     have hk : k = 3 := jInt_k h
     rcases (show _ ∨ _ ∨ _ ∨ _ from hp) with ⟨_, hr, _⟩ | ⟨h2, _⟩ | ⟨h2, _⟩ | ⟨h2, _⟩
     · rw [hr, hk]; rfl
     · omega
     · omega
     · omega
   · rw [if_neg (by omega), if_neg (by omega), if_neg (by omega), if_neg (by omega)]
def putL (fs : List Fd) (c cc : Cd) : Cd := fs.foldl (fun cc f => putC f c cc) cc
theorem bindL_put {fs : List Fd} {v : JV} {c : Cd} (h : ∀ f ∈ fs, ∃ y, getF v f.nm = some y ∧ rdE f y = 0 ∧ ∀ cc, rdC f y cc = putC f c cc) : ∀ (cc : Cd) (fx : JV), (bindL fs v cc fx).1 = 0 ∧ (bindL fs v cc fx).2.1 = putL fs c cc := by
 induction fs with
 | nil => exact fun cc fx => ⟨rfl, rfl⟩
 | cons f fs ih =>
   intro cc fx
   obtain ⟨y, h1, h2, h3⟩ := h f (.head _)
   unfold bindL
   rw [h1]; simp only
   rw [if_neg (fun h => h h2), h3 cc]
   exact ih (fun f hf => h f (.tail _ hf)) _ _
def InvT (c d cc : Cd) (i : Nat) : Prop := (d.t i = c.t i ∧ (cc.t i = [] ∨ cc.t i = c.t i)) ∨ (d.t i = [] ∧ cc.t i = c.t i)
def InvN (c d cc : Cd) (i : Nat) : Prop := (d.n i = c.n i ∧ (cc.n i = 0 ∨ cc.n i = c.n i)) ∨ (d.n i = 0 ∧ cc.n i = c.n i)
theorem invT_step {c d cc : Cd} {f : Fd} (hf : f.ok) {i : Nat} (h : InvT c d cc i) : InvT c (valC f d).2 (putC f c cc) i := by
 unfold valC putC
 rcases hf.kd with h1 | h1 | h1
 · rw [if_pos h1, if_pos h1]
   by_cases e : i = f.off
   · refine .inr ⟨?_, ?_⟩
     · show (if i = f.off then [] else d.t i) = []
       rw [if_pos e]
     · show (if i = f.off then c.t f.off else cc.t i) = c.t i
       rw [if_pos e, e]
   · unfold InvT
     rw [show (d.putT f.off []).t i = d.t i from if_neg e, show (cc.putT f.off (c.t f.off)).t i = cc.t i from if_neg e]
     exact h
 · rw [if_neg (by omega), if_pos h1, if_neg (by omega), if_pos h1]; exact h
 · rw [if_neg (by omega), if_neg (by omega), if_neg (by omega), if_neg (by omega)]; exact h
theorem invN_step {c d cc : Cd} {f : Fd} (hf : f.ok) {i : Nat} (h : InvN c d cc i) : InvN c (valC f d).2 (putC f c cc) i := by
 unfold valC putC
 rcases hf.kd with h1 | h1 | h1
 · rw [if_pos h1, if_pos h1]; exact h
 · rw [if_neg (by omega), if_pos h1, if_neg (by omega), if_pos h1]
   by_cases e : i = f.off
   · refine .inr ⟨?_, ?_⟩
     · show (if i = f.off then 0 else d.n i) = 0
       rw [if_pos e]
     · show (if i = f.off then c.n f.off else cc.n i) = c.n i
       rw [if_pos e, e]
   · unfold InvN
     rw [show (d.putN f.off 0).n i = d.n i from if_neg e, show (cc.putN f.off (c.n f.off)).n i = cc.n i from if_neg e]
     exact h
 · rw [if_neg (by omega), if_neg (by omega), if_neg (by omega), if_neg (by omega)]; exact h
theorem inv_all (c : Cd) : ∀ (fs : List Fd) (d cc : Cd), (∀ f ∈ fs, f.ok) → (∀ i, InvT c d cc i) → (∀ i, InvN c d cc i) → (∀ i, InvT c (clearC fs d) (putL fs c cc) i) ∧ ∀ i, InvN c (clearC fs d) (putL fs c cc) i
 | [], _, _, _, h1, h2 => ⟨h1, h2⟩
 | f :: fs, _, _, hok, h1, h2 => inv_all c fs _ _ (fun g hg => hok g (.tail _ hg)) (fun i => invT_step (hok f (.head _)) (h1 i)) (fun i => invN_step (hok f (.head _)) (h2 i))
theorem putL_kind (c : Cd) : ∀ (fs : List Fd) (cc : Cd), (putL fs c cc).kind = cc.kind
 | [], _ => rfl
 | f :: fs, cc => by
   show (putL fs c (putC f c cc)).kind = cc.kind
   rw [putL_kind c fs]
   unfold putC
   split
   · rfl
   · split <;> rfl
theorem putL_same {fs : List Fd} {c : Cd} (hok : ∀ f ∈ fs, f.ok) (he : emptyC (clearC fs c)) (fv : Value) : cellsC (putL fs c (zCd c.kind)) fv = cellsC c fv := by
 obtain ⟨h1, h2⟩ := inv_all c fs c (zCd c.kind) hok (fun i => .inl ⟨rfl, .inl rfl⟩) (fun i => .inl ⟨rfl, .inl rfl⟩)
 have ht : ∀ i, (clearC fs c).t i = [] → (putL fs c (zCd c.kind)).t i = c.t i := fun i hi => by
  rcases h1 i with ⟨e1, e2 | e2⟩ | ⟨_, e2⟩
  · rw [e2, ← e1, hi]
  · exact e2
  · exact e2
 have hn : ∀ i, (clearC fs c).n i = 0 → (putL fs c (zCd c.kind)).n i = c.n i := fun i hi => by
  rcases h2 i with ⟨e1, e2 | e2⟩ | ⟨_, e2⟩
  · rw [e2, ← e1, hi]
  · exact e2
  · exact e2
 obtain ⟨t1, t2, t3, t4, t5, t6, _, n7, n8, n9, n10, n11, n12, n13⟩ := he
 unfold cellsC
 rw [putL_kind, ht 1 t1, ht 2 t2, ht 3 t3, ht 4 t4, ht 5 t5, ht 6 t6, hn 7 n7, hn 8 n8, hn 9 n9, hn 10 n10, hn 11 n11, hn 12 n12, hn 13 n13]
 rfl
theorem factF_back {x : Fct} {y r : JV} {t : List UInt8} {n : Nat} (hb : -9223372036854775808 ≤ x.n ∧ x.n ≤ 9223372036854775807) (h : factJ x = some y) (hp : PJ (n + 1) y r t) : factF x.nm r = (0, x) := by
 obtain ⟨nm, ty, m, s⟩ := x
 simp only at hb
 unfold factJ at h
 simp only at h
 split at h
 · rename_i hty
   split at h
   · rename_i hs
     injection h with h
     subst h hty hs
     rcases (show _ ∨ _ ∨ _ ∨ _ from hp) with ⟨_, hr, _⟩ | ⟨h2, _⟩ | ⟨h2, _⟩ | ⟨h2, _⟩
     · rw [hr]
       unfold factF
       rw [if_pos (show (jNum (Lib.itoa m)).k = 3 from rfl)]
       unfold intOfF
       rw [int_itoa hb.1 hb.2]
       rfl
     · exact absurd h2 (by decide)
     · exact absurd h2 (by decide)
     · exact absurd h2 (by decide)
   · cases h
 · split at h
   · rename_i hty
     split at h
     · rename_i hs
       injection h with h
       obtain ⟨hs1, hs2⟩ := hs
       subst h hty hs1
       rcases hs2 with rfl | rfl
       · rcases (show _ ∨ _ ∨ _ ∨ _ from hp) with ⟨h2, _⟩ | ⟨h2, _⟩ | ⟨_, hr, _⟩ | ⟨h2, _⟩
         · exact absurd h2 (by simp)
         · exact absurd h2 (by simp)
         · rw [hr]; rfl
         · exact absurd h2 (by simp)
       · rcases (show _ ∨ _ ∨ _ ∨ _ from hp) with ⟨h2, _⟩ | ⟨h2, _⟩ | ⟨_, hr, _⟩ | ⟨h2, _⟩
         · exact absurd h2 (by simp)
         · exact absurd h2 (by simp)
         · rw [hr]; rfl
         · exact absurd h2 (by simp)
     · cases h
   · split at h
     · rename_i hs
       injection h with h
       obtain ⟨hs1, hs2⟩ := hs
       subst h hs1 hs2
       rcases (show _ ∨ _ ∨ _ ∨ _ from hp) with ⟨h2, _⟩ | ⟨_, hr, _⟩ | ⟨h2, _⟩ | ⟨h2, _⟩
       · exact absurd h2 (by decide)
       · rw [hr]; rfl
       · exact absurd h2 (by decide)
       · exact absurd h2 (by decide)
     · cases h
theorem factsJ_rise : ∀ (fs : List Fct) (ns : List (List UInt8)) (l : List JV) (v : JV), factsJ fs ns l = some v → ns.Pairwise (· < ·) → (∀ p, ns.getLast? = some p → ∀ q ∈ ns, q = p ∨ q < p) → (ns ++ fs.map Fct.nm).Pairwise (· < ·)
 | [], ns, l, v, _, hp, _ => by simpa using hp
 | x :: r, ns, l, v, h, hp, hl => by
   unfold factsJ at h
   cases hx : factJ x with
   | none => rw [hx] at h; cases h
   | some y =>
     rw [hx] at h
     simp only at h
     have hlt : ∀ q ∈ ns, q < x.nm := by
      intro q hq
      cases hg : ns.getLast? with
      | none => rw [List.getLast?_eq_none_iff.1 hg] at hq; cases hq
      | some p =>
        rw [hg] at h
        simp only at h
        by_cases hpx : p < x.nm
        · rcases hl p hg q hq with rfl | e
          · exact hpx
          · exact List.lt_trans e hpx
        · rw [if_neg (by simpa using hpx)] at h; cases h
     have hgo : factsJ r (ns ++ [x.nm]) (l ++ [y]) = some v := by
      split at h
      · split at h
        · exact h
        · cases h
      · split at h
        · exact h
        · cases h
     have := factsJ_rise r (ns ++ [x.nm]) (l ++ [y]) v hgo (List.pairwise_append.2 ⟨hp, List.pairwise_singleton _ _, fun a ha b hb => by rw [List.mem_singleton.1 hb]; exact hlt a ha⟩) (fun p hpl q hq => by
       rw [List.getLast?_append, List.getLast?_singleton] at hpl
       have e : x.nm = p := by simpa using hpl
       rcases List.mem_append.1 hq with h1 | h1
       · exact .inr (e ▸ hlt q h1)
       · exact .inl ((List.mem_singleton.1 h1).trans e))
     simpa using this
theorem factsL_all {r : JV} : ∀ (fs acc : List Fct), (∀ x ∈ fs, ∃ y, getF r x.nm = some y ∧ factF x.nm y = (0, x)) → factsL r (fs.map Fct.nm) acc = (0, acc ++ fs)
 | [], acc, _ => by simp [factsL]
 | x :: fs, acc, h => by
   obtain ⟨y, h1, h2⟩ := h x (.head _)
   rw [List.map_cons]
   unfold factsL
   rw [h1, show (some y).getD jz = y from rfl, h2]
   rw [if_neg (fun h => h rfl), factsL_all fs _ (fun z hz => h z (.tail _ hz))]
   simp
theorem factsF_back {fs : List Fct} {y r : JV} {t : List UInt8} {n : Nat} (hb : FxB fs) (h : factsJ fs [] [] = some y) (hp : PJ (n + 2) y r t) : factsF r = (0, fs) := by
 have hr := factsJ_rise fs [] [] y h List.Pairwise.nil (fun p hp => by cases hp)
 simp only [List.nil_append] at hr
 obtain ⟨ys, h1, h2, h3⟩ := factsJ_all fs [] [] y h
 simp only [List.nil_append] at h1
 have hnd : (fs.map Fct.nm).Nodup := hr.imp (fun h e => by rw [e] at h; exact List.lt_irrefl _ h)
 have hlen : (fs.map Fct.nm).length = ys.length := by rw [List.length_map]; exact h2.symm
 subst h1
 have hns : sortL r.ns = fs.map Fct.nm := by
  rcases (show _ ∨ _ ∨ _ ∨ _ from hp) with ⟨h2, _⟩ | ⟨h2, _⟩ | ⟨h2, _⟩ | ⟨_, ms, hpm, _, _, hrr, _⟩
  · exact absurd h2 (by simp)
  · exact absurd h2 (by simp)
  · exact absurd h2 (by simp)
  have e := hpm.map (·.1)
  rw [List.map_map, List.map_fst_zip (by omega)] at e
  have e2 : r.ns.Perm (fs.map Fct.nm) := by rw [hrr]; exact e
  have e3 : (sortL r.ns).Perm (fs.map Fct.nm) := (List.mergeSort_perm _ _).trans e2
  refine List.Perm.eq_of_pairwise (le := (· ≤ ·)) (fun a b _ _ h1 h2 => List.le_antisymm h1 h2) ?_ (hr.imp (fun h => List.le_of_lt h)) e3
  have := List.pairwise_mergeSort (le := fun x y : List UInt8 => decide (x ≤ y)) (fun a b c h1 h2 => by simp only [decide_eq_true_eq] at *; exact List.le_trans h1 h2) (fun a b => by simp only [Bool.or_eq_true, decide_eq_true_eq]; exact List.le_total a b) r.ns
  exact this.imp (fun h => by simpa using h)
 unfold factsF
 rw [hns, factsL_all fs [] ?_]
 · rfl
 · intro x hx
   obtain ⟨i, hi⟩ := List.getElem?_of_mem hx
   have hil := (List.getElem?_eq_some_iff.1 hi).1
   obtain ⟨z, hz⟩ : ∃ z, ys[i]? = some z := ⟨_, List.getElem?_eq_getElem (by omega)⟩
   have hm : (x.nm, z) ∈ (fs.map Fct.nm).zip ys := by
    refine List.mem_of_getElem? (i := i) ?_
    rw [List.getElem?_zip_eq_some]
    exact ⟨by rw [List.getElem?_map, hi]; rfl, hz⟩
   have hg : getF (.mk 6 [] (fs.map Fct.nm) ys) x.nm = some z := by
    rw [objP_zip hlen]
    exact getF_in (by rw [List.map_fst_zip (by omega)]; exact hnd) hm
   obtain ⟨z', s', h4, h5⟩ := (getF_pj (nm := x.nm) hnd hlen hp).1 z hg
   exact ⟨z', h4, factF_back (hb x hx) (h3 i x z hi hz) h5⟩
theorem bindL_fx {X : List Fct} {v : JV} : ∀ (fs : List Fd), (∀ f ∈ fs, ∃ y, getF v f.nm = some y ∧ rdE f y = 0 ∧ (f.kd = 2 → factsF y = (0, X))) → ∀ (cc : Cd) (fx : JV), ((∀ f ∈ fs, f.kd ≠ 2) ∧ (bindL fs v cc fx).2.2 = fx) ∨ factsF (bindL fs v cc fx).2.2 = (0, X)
 | [], _, _, _ => .inl ⟨fun f hf => (by cases hf), rfl⟩
 | f :: fs, h, cc, fx => by
   obtain ⟨y, h1, h2, h3⟩ := h f (.head _)
   have ih := bindL_fx fs (fun g hg => h g (.tail _ hg)) (rdC f y cc) (if f.kd = 2 then y else fx)
   unfold bindL
   rw [h1]; simp only
   rw [if_neg (fun h => h h2)]
   rcases ih with ⟨i1, i2⟩ | i
   · by_cases hk : f.kd = 2
     · right
       rw [i2, if_pos hk]
       exact h3 hk
     · left
       rw [if_neg hk] at i2
       refine ⟨fun g hg => ?_, by rw [if_neg hk]; exact i2⟩
       rcases List.mem_cons.1 hg with rfl | hg
       · exact hk
       · exact i1 g hg
   · exact .inr i
theorem clearC_fx (c : Cd) : ∀ (fs : List Fd) (d : Cd), (∀ f ∈ fs, f.ok) → (∀ f ∈ fs, f.kd ≠ 2) → (clearC fs d).fx = d.fx
 | [], _, _, _ => rfl
 | f :: fs, d, hok, h => by
   show (clearC fs (valC f d).2).fx = d.fx
   rw [clearC_fx c fs _ (fun g hg => hok g (.tail _ hg)) (fun g hg => h g (.tail _ hg))]
   have hk := h f (.head _)
   unfold valC
   split
   · rfl
   · split
     · rfl
     · rcases (hok f (.head _)).kd with h1 | h1 | h1 <;> omega
structure Tells (c : Cd) (f : Fd) (y : JV) : Prop where
 e : rdE f y = 0
 p : ∀ cc, rdC f y cc = putC f c cc
 x : f.kd = 2 → factsF y = (0, c.fx)
theorem bind_tells {fs : List Fd} {c : Cd} {o : JV} (hok : ∀ f ∈ fs, f.ok) (he : emptyC (clearC fs c)) (h : ∀ f ∈ fs, ∃ y, getF o f.nm = some y ∧ Tells c f y) (hl : ¬ fs.length < o.ns.length) :
 (bindF fs c.kind o).1 = 0 ∧ (bindF fs c.kind o).2.fx = c.fx ∧ ∀ fv, cellsC (bindF fs c.kind o).2 fv = cellsC c fv := by
 obtain ⟨b1, b2⟩ := bindL_put (c := c) (fun f hf => by obtain ⟨y, h1, h2⟩ := h f hf; exact ⟨y, h1, h2.e, h2.p⟩) (zCd c.kind) jz
 have hfx : factsF (bindL fs o (zCd c.kind) jz).2.2 = (0, c.fx) := by
  rcases bindL_fx (X := c.fx) fs (fun f hf => by obtain ⟨y, h1, h2⟩ := h f hf; exact ⟨y, h1, h2.e, h2.x⟩) (zCd c.kind) jz with ⟨h1, h2⟩ | h2
  · rw [h2]
    have e := clearC_fx c fs c hok h1
    rw [he.2.2.2.2.2.2.1] at e
    rw [← e]
    simp [factsF, jz, JV.ns, sortL, factsL]
  · exact h2
 have e : bindF fs c.kind o = (0, { putL fs c (zCd c.kind) with fx := c.fx }) := by
  unfold bindF
  rw [if_neg (fun h => h b1), if_neg hl, hfx, b2]
  rw [if_neg (fun h => h rfl)]
 rw [e]
 exact ⟨rfl, rfl, fun fv => putL_same hok he fv⟩
theorem tells_val {c : Cd} {f : Fd} {y r : JV} {t : List UInt8} {n : Nat} (hf : f.ok) (hc : c.ok) (hb : FxB c.fx) (h : (valC f c).1 = some y) (hp : PJ (n + 2) y r t) : Tells c f r := by
 have he := rdE_val hf hc h
 refine ⟨rdE_pj hf he hp, fun cc => by rw [rdC_pj hf he hp, rdC_val hf hc h], fun hk => ?_⟩
 unfold valC at h
 rw [if_neg (by omega), if_neg (by omega)] at h
 exact factsF_back hb h hp
theorem back_tells {c : Cd} {path s : List UInt8} {v r : JV} {k : Nat} {fl : List Fg} {c' : Cd} (hc : c.ok) (hfx : FxB c.fx) (h : RqOk c path s v r k fl c') : ∃ rs, r = objP rs ∧ Back (fdsOf fl) rs ∧ emptyC (clearC (fdsOf fl) c) ∧ ∀ f ∈ fdsOf fl, ∃ y, (f.nm, y) ∈ rs ∧ Tells c f y := by
 obtain ⟨ps, rs, hv, hr, hb1, hb2⟩ := req_back hc h
 have hm := List.mem_of_getElem? h.x
 have hok : ∀ f ∈ fdsOf fl, f.ok := rt_fdok hm
 obtain ⟨vals, h1, h2, h3, h4⟩ := reqL_all (fdsOf fl) c [] [] v c' hok (rt_apart _ hm) h.q
 refine ⟨rs, hr, hb2, h3 ▸ h.e, fun f hfm => ?_⟩
 have hnd : ((fdsOf fl).map Fd.nm).Nodup := rt_names _ hm
 simp only [List.nil_append] at h2
 have hlen : ((fdsOf fl).map Fd.nm).length = vals.length := by rw [List.length_map]; exact h1.symm
 obtain ⟨i, hi⟩ := List.getElem?_of_mem hfm
 have hil := (List.getElem?_eq_some_iff.1 hi).1
 obtain ⟨y, hy⟩ : ∃ y, vals[i]? = some y := ⟨_, List.getElem?_eq_getElem (by omega)⟩
 have hz : (f.nm, y) ∈ ((fdsOf fl).map Fd.nm).zip vals := by
  refine List.mem_of_getElem? (i := i) ?_
  rw [List.getElem?_zip_eq_some]
  exact ⟨by rw [List.getElem?_map, hi]; rfl, hy⟩
 have hg : getF v f.nm = some y := by
  rw [h2, objP_zip hlen]
  exact getF_in (by rw [List.map_fst_zip (by omega)]; exact hnd) hz
 have hp : PJ 3 (.mk 6 [] ((fdsOf fl).map Fd.nm) vals) r s := h2 ▸ h.p
 obtain ⟨y', s', g1, g2⟩ := (getF_pj (nm := f.nm) hnd hlen hp).1 y (by rw [← h2]; exact hg)
 have hin : (f.nm, y') ∈ rs := by
  rw [hr] at g1
  rw [getF_ps] at g1
  obtain ⟨p, hp1, hp2⟩ := Option.map_eq_some_iff.1 g1
  have hpk : p.1 = f.nm := by simpa using List.find?_some hp1
  have := List.mem_of_find?_eq_some hp1
  rw [← hpk, ← hp2]; exact this
 exact ⟨y', hin, tells_val (hok f hfm) hc hfx (h4 i f y hi hy) g2⟩
section
variable {P : Program} {n : NN} {a : Act} {L : List (Nat × Value)} {Γ : List Asn} {dst : Option Nat} {ty : Nat} {pos : String} {af : Array Edge} {g : Option (Nat × Bool)}
theorem e_ifEq {t t' : TypeId} {x : Operand} {v : Value} {c : Bool} (hx : ev L x = some v) (hu : P.underlying t = some (.interface (P.methodsAt t))) (hv : (v = .nilIface ∧ c = true) ∨ ((∃ u p, v = .iface u p) ∧ c = false)) : Ex P n a L Γ ⟨dst, .binOp .eql t x (.const .nilIface) t', ty, pos, af, g⟩ (.bool c) := by
 rcases hv with ⟨rfl, rfl⟩ | ⟨⟨u, p, rfl⟩, rfl⟩
 · exact e_ifEqN hx hu
 · exact e_ifEqS hx hu
end
structure Sy (W : World) : Prop where
 c : ∃ ev, W.cell? ⟨4, 0, none⟩ = some ev ∧ (ev = .nilIface ∨ ∃ te pe, ev = .iface te pe)
theorem Sy.keep {W w : World} (h : Sy W) (ho : oldφ W w) : Sy w := by
 obtain ⟨ev, h1, h2⟩ := h.c
 exact ⟨ev, old_cell ho h1, h2⟩
def isAtoiG (t : List UInt8) (x : Int × Value) : Prop := (Lib.atoiAll t = .ok x.1 ∧ x.2 = .nilIface) ∨ ((∀ v, Lib.atoiAll t ≠ .ok v) ∧ ∃ u p, x.2 = .iface u p)
theorem AtoiG_N (W0 : World) (hG : Gj W0) (hY : Sy W0) (t : List UInt8) (hl : t.length ≤ 10000000) (w0 : World) (ho : oldφ W0 w0) : NewC Tryz.prog 153 [.string (tx t)] w0 (fun x : { x : Int × Value // isAtoiG t x } => .tuple [.int .i64 x.1.1, x.1.2].toArray) (fun _ => none_) := by
 have hs := tx_size t
 cases h : Lib.atoiAll t
 · rename_i v
   refine (Tryz.strconv_Atoi_ok (tx t) (by omega) v h w0).mono fun e w' ⟨he, hw⟩ => ⟨⟨(v, .nilIface), .inl ⟨h, rfl⟩⟩, he, ?_, none_ok _, fun b hb => hb.elim⟩
   rcases hw with rfl | ⟨s, rfl⟩
   · exact Chg.refl _ _
   · exact Chg.of_below (Lib.bytesWorld_below _ _ _)
 · obtain ⟨ev, he, he2⟩ := (hY.keep ho).c
   exact (Any.strconv_Atoi_syntax Tryz.laysC172 (tx t) (by omega) h ev w0 he he2).mono fun e w' ⟨N, he, _, _, hb⟩ => ⟨⟨(_, _), .inr ⟨fun v e => (by rw [h] at e; cases e), _, _, rfl⟩⟩, he, Chg.of_below hb, none_ok _, fun b hb => hb.elim⟩
 · obtain ⟨ev, he, he2⟩ := (hG.keep ho).er
   exact (Tryz.strconv_Atoi_range (tx t) (by omega) h ev w0 he he2).mono fun e w' ⟨N, he, _, _, hb⟩ => ⟨⟨(_, _), .inr ⟨fun v e => (by rw [h] at e; cases e), _, _, rfl⟩⟩, he, Chg.of_below hb, none_ok _, fun b hb => hb.elim⟩
def isNumP (t : List UInt8) (n : Int) : Prop := Lib.atoiAll t = .ok n ∧ Lib.itoa n = t
theorem numP_one {t : List UInt8} {n m : Int} (h : isNumP t n) (h2 : isNumP t m) : n = m := by
 have := h.1.symm.trans h2.1
 injection this
set_option maxRecDepth 100000 in
theorem fNumberG_N (W0 : World) (hG : Gj W0) (hY : Sy W0) (t : List UInt8) (hl : t.length ≤ 10000000) (w0 : World) (ho : oldφ W0 w0) :
 NewC Tryz.prog 111 [.string (tx t)] w0 (fun x : { x : Int × Bool // (x.2 = true → isNumP t x.1) ∧ (x.2 = false → ∀ k, ¬ isNumP t k) } => .tuple [.int .i64 x.1.1, .bool x.1.2].toArray) (fun _ => none_) := by
 refine c_enter [(0, .string (tx t))] [oldA W0] noB Tryz.func111 rfl Tryz.ntmps111 ⟨rfl, trivial⟩ rfl (okC (old_ok ho) okN) dis1 (mineC rfl mineN) ?_
 intro a hS
 refine cS (cR ?_)
 refine Rn hS (.a rfl <| .a rfl .n) ?_; clear hS a; intro a hS
 refine nL (nT (cS (cR ?_)))
 refine L_e hS (e_move rfl) rfl ?_; clear hS a; intro a hS
 refine L_op (s_callN hS (.cons rfl .nil) cf153 rfl (AtoiG_N W0 hG hY t hl _ (hS.gg (X := oldA W0))) ?_); clear hS a; intro x8 a w hS
 obtain ⟨⟨n, ev⟩, hx⟩ := x8
 simp only at hS
 obtain ⟨c, hc⟩ : ∃ c : Bool, (ev = .nilIface ∧ c = true) ∨ ((∃ u p, ev = .iface u p) ∧ c = false) := by
  rcases hx with ⟨_, h⟩ | ⟨_, h⟩
  · exact ⟨true, .inl ⟨h, rfl⟩⟩
  · exact ⟨false, .inr ⟨h, rfl⟩⟩
 have hok : c = true → Lib.atoiAll t = .ok n := fun h => by
  rcases hx with ⟨h1, _⟩ | ⟨_, u, p, h2⟩
  · exact h1
  · have h2 : ev = .iface u p := h2
    rcases hc with ⟨h3, _⟩ | ⟨_, h3⟩
    · rw [h2] at h3; cases h3
    · rw [h] at h3; cases h3
 have hno : c = false → ∀ v, Lib.atoiAll t ≠ .ok v := fun h => by
  rcases hx with ⟨_, h2⟩ | ⟨h1, _⟩
  · have h2 : ev = .nilIface := h2
    rcases hc with ⟨_, h3⟩ | ⟨⟨u, p, h3⟩, _⟩
    · rw [h] at h3; cases h3
    · rw [h2] at h3; cases h3
  · exact h1
 refine Rn hS (.m rfl <| .c (e_extract rfl rfl) <| .c (e_extract rfl rfl) <| .a rfl <| .a rfl .n) ?_; clear hS a; intro a hS
 refine nL (nT (cS (cR ?_)))
 refine Rn hS (.m rfl <| .m rfl <| .c (e_ifEq rfl ty_if111 hc) <| .m rfl .n) ?_; clear hS a; intro a hS
 refine L_merge 5 19 (.bool (c && decide (Lib.itoa n = t))) hS ?_ ?_
 · intro hcM19
   refine g_split (t := 14) hS rfl ?_ ?_ <;> (clear hS; intro hg14 hS)
   ·
    obtain ⟨hn0, hn1⟩ := Lib.atoiAll_bounds (hok hg14)
    refine L_ge hS rfl rfl (e_move rfl) rfl ?_; clear hS a; intro a hS
    refine L_go hS rfl rfl (s_callP hS (.cons rfl .nil) cf69 rfl (Itoa_P W0 hG n hn0 hn1 _ (hS.gg (X := oldA W0))) ?_); clear hS a; intro a w hS
    refine Rn hS (.g rfl rfl (e_move rfl) <| .g rfl rfl (e_binS rfl rfl rfl) <| .c (e_pick_t rfl rfl) .n) ?_; clear hS a; intro a hS
    exact hcM19 _ _ (hS.ends 6 19 14 rfl (congrArg Value.bool (by rw [hg14, Bool.true_and]; exact decide_eq_decide.2 ⟨fun h => tx_inj' h, fun h => congrArg tx h⟩)) rfl rfl (by first | exact congrArg Value.bool (decide_eq_true hg14).symm | exact congrArg Value.bool hg14.symm | simp [hg14]) rfl)
   refine Rn hS (.t rfl rfl <| .t rfl rfl <| .t rfl rfl <| .t rfl rfl <| .c (e_pick_f rfl rfl) .n) ?_; clear hS a; intro a hS
   exact hcM19 _ _ (hS.ends 6 19 14 rfl (congrArg Value.bool (by rw [hg14]; rfl)) rfl rfl (by first | exact congrArg Value.bool (decide_eq_false hg14).symm | exact congrArg Value.bool hg14.symm | simp [hg14]) rfl)
 · clear hS a; intro a w hS
   simp only [List.drop_succ_cons, List.drop_zero]
   refine Rn hS (.a rfl <| .a rfl .n) ?_; clear hS a; intro a hS
   refine nL (nT (wp_ret ?_))
   refine c_retN hS Tryz.results111 (.cons (.tmp rfl) (.cons (.tmp rfl) .nil)) rfl ?_
   refine ⟨⟨(n, c && decide (Lib.itoa n = t)), fun h => ?_, fun h k hk => ?_⟩, rfl, hS.chg, none_ok _, fun b h => h.elim⟩
   · have h : (c && decide (Lib.itoa n = t)) = true := h
     rw [Bool.and_eq_true, decide_eq_true_eq] at h
     exact ⟨hok h.1, h.2⟩
   · have h : (c && decide (Lib.itoa n = t)) = false := h
     cases c with
     | false => exact hno rfl k hk.1
     | true =>
       have e := (hok rfl).symm.trans hk.1
       injection e with e
       rw [Bool.true_and, decide_eq_false_iff_not, e] at h
       exact h hk.2
theorem Cut_P (m : Int) (s p : List UInt8) (w : World) (hs : s.length ≤ 10000000) (hm : w.cell? ⟨2, 0, none⟩ = some (.int .i64 m)) : PureC Tryz.prog 62 [.string (tx s), .string (tx p)] w (.tuple [.string (tx (Lib.cut s p).1), .string (tx (Lib.cut s p).2.1), .bool (Lib.cut s p).2.2].toArray) :=
 (Tryz.strings_Cut (tx s) (tx p) m w (by rw [tx_size]; omega) hm).mono fun e w' ⟨he, n, hw⟩ => ⟨he, by rw [hw]; exact Chg.of_below (Go.Proofs.below_drewNg w n)⟩
theorem cut_len (s p : List UInt8) : (Lib.cut s p).1.length ≤ s.length ∧ (Lib.cut s p).2.1.length ≤ s.length := by
 unfold Lib.cut
 split
 · exact ⟨by rw [List.length_take]; omega, by rw [List.length_drop]; omega⟩
 · exact ⟨Nat.le_refl _, Nat.zero_le _⟩
theorem trim_len (t p : List UInt8) : (Lib.trimPrefix t p).length ≤ t.length := by
 unfold Lib.trimPrefix
 split
 · rw [List.length_drop]; omega
 · exact Nat.le_refl _
inductive AskP (t : List UInt8) : Cd → Prop
 | inv {n : Int} (h : Lib.hasPrefix t invP = true) (hn : isNumP (Lib.trimPrefix t invP) n) : AskP t ((zCd 13).putN 11 n)
 | bal {n : Int} (h0 : Lib.hasPrefix t invP = false) (h : Lib.hasPrefix t balP = true) (hn : isNumP (Lib.cut (Lib.trimPrefix t balP) [47]).2.1 n) (hm : isNameB (Lib.cut (Lib.trimPrefix t balP) [47]).1 = true) : AskP t (((zCd 14).putT 1 (Lib.cut (Lib.trimPrefix t balP) [47]).1).putN 8 n)
 | hea (h : t = heaP) : AskP t (zCd 0)
theorem hea_no : Lib.hasPrefix heaP invP = false ∧ Lib.hasPrefix heaP balP = false := ⟨by decide, by decide⟩
theorem AskP.one {t : List UInt8} {c d : Cd} (h : AskP t c) (h2 : AskP t d) : c = d := by
 cases h with
 | inv h hn => cases h2 with
   | inv _ hm => rw [numP_one hn hm]
   | bal h0 _ _ _ => rw [h] at h0; cases h0
   | hea e => subst e; rw [hea_no.1] at h; cases h
 | bal h0 h hn hm => cases h2 with
   | inv h1 _ => rw [h1] at h0; cases h0
   | bal _ _ hk _ => rw [numP_one hn hk]
   | hea e => subst e; rw [hea_no.2] at h; cases h
 | hea e => cases h2 with
   | inv h _ => subst e; rw [hea_no.1] at h; cases h
   | bal _ h _ _ => subst e; rw [hea_no.2] at h; cases h
   | hea _ => rfl
set_option maxRecDepth 100000 in
theorem fAskedG_N (W0 : World) (hG : Gj W0) (hY : Sy W0) (t : List UInt8) (hl : t.length ≤ 1000000) (w0 : World) (ho : oldφ W0 w0) :
 NewC Tryz.prog 44 [.string (tx t)] w0 (fun x : { x : Cd × Bool // x.1.fx = [] ∧ (x.2 = true → AskP t x.1) ∧ (x.2 = false → ∀ c, ¬ AskP t c) } => .tuple [.agg (cellsC x.1.1 (.slice none 0 0)).toArray, .bool x.1.2].toArray) (fun _ => none_) := by
 obtain ⟨m, hm⟩ := hG.m
 have hl1 := trim_len t invP
 have hl2 := trim_len t balP
 have hl3 := cut_len (Lib.trimPrefix t balP) [47]
 refine c_enter [(0, .string (tx t))] [oldA W0] noB Tryz.func44 rfl Tryz.ntmps44 ⟨rfl, trivial⟩ rfl (okC (old_ok ho) okN) dis1 (mineC rfl mineN) ?_
 intro a hS
 refine cS (cR ?_)
 refine L_op (s_alloc hS ty_z24 rfl ?_); clear hS a; intro a w b2 hS
 refine L_e hS (e_assign rfl) rfl ?_; clear hS a; intro a hS
 refine nL (nT (cS (cS (cR ?_))))
 refine L_e hS (e_move rfl) rfl ?_; clear hS a; intro a hS
 refine L_op (s_callP hS (.cons rfl (.cons rfl .nil)) cf110 rfl (CutP_P t invP _) ?_); clear hS a; intro a w hS
 refine Rn hS (.m rfl <| .c (e_extract rfl rfl) <| .c (e_extract rfl rfl) <| .a rfl <| .a rfl .n) ?_; clear hS a; intro a hS
 refine nL (nT (cS (cR ?_)))
 refine L_e hS (e_move rfl) rfl ?_; clear hS a; intro a hS
 refine nL (nT ?_)
 refine c_if hS rfl (fun hc20 => ?_) (fun hc20 => ?_)
 ·
  refine cS (cR ?_)
  refine L_e hS (e_move rfl) rfl ?_; clear hS a; intro a hS
  refine L_op (s_callN hS (.cons rfl .nil) cf111 rfl (fNumberG_N W0 hG hY (Lib.trimPrefix t invP) (by omega) _ (hS.gg (X := oldA W0))) ?_); clear hS a; intro x23 a w hS
  obtain ⟨⟨n, b⟩, hnb⟩ := x23
  simp only at hS hnb
  refine Rn hS (.m rfl <| .c (e_extract rfl rfl) <| .c (e_extract rfl rfl) <| .a rfl <| .a rfl .n) ?_; clear hS a; intro a hS
  refine nL (nT (cS (cR ?_)))
  refine Rn hS (.m rfl <| .c (e_build ty_z24 ty_pl24 (.one rfl rfl rfl (by repeat constructor) (.one rfl rfl rfl (by repeat constructor) .nil))) <| .m rfl .n) ?_; clear hS a; intro a hS
  refine L_op (s_storeA hS rfl rfl ty_sz24 (by repeat constructor) (by rfl) (by rfl) (by rfl) ?_); clear hS; intro w hS
  refine L_e hS (e_assign rfl) rfl ?_; clear hS a; intro a hS
  refine nL (nT (wp_ret (r_then ?_)))
  refine c_retN hS Tryz.results44 (.cons (.cellA rfl (by repeat constructor) ty_st24 ty_sz24 (by rfl)) (.cons (.tmp rfl) .nil)) rfl ?_
  refine ⟨⟨((zCd 13).putN 11 n, b), rfl, fun h => .inv hc20 (hnb.1 h), fun h c hA => ?_⟩, rfl, hS.chg, none_ok _, fun b h => h.elim⟩
  have hbf := hnb.2 h
  cases hA with
  | inv _ hk => exact hbf _ hk
  | bal h0 _ _ _ => rw [hc20] at h0; cases h0
  | hea e => subst e; rw [hea_no.1] at hc20; cases hc20
 refine wS (nT (cS (cS (cR ?_))))
 refine L_e hS (e_move rfl) rfl ?_; clear hS a; intro a hS
 refine L_op (s_callP hS (.cons rfl (.cons rfl .nil)) cf110 rfl (CutP_P t balP _) ?_); clear hS a; intro a w hS
 refine Rn hS (.m rfl <| .c (e_extract rfl rfl) <| .c (e_extract rfl rfl) <| .a rfl <| .a rfl .n) ?_; clear hS a; intro a hS
 refine nL (nT (cS (cR ?_)))
 refine L_e hS (e_move rfl) rfl ?_; clear hS a; intro a hS
 refine nL (nT ?_)
 refine c_if hS rfl (fun hc34 => ?_) (fun hc34 => ?_)
 ·
  refine cS (cR ?_)
  refine L_e hS (e_move rfl) rfl ?_; clear hS a; intro a hS
  refine L_op (s_callP hS (.cons rfl (.cons rfl .nil)) cf62 rfl (Cut_P m (Lib.trimPrefix t balP) [47] _ (by omega) (old_cell (hS.gg (X := oldA W0)) hm)) ?_); clear hS a; intro a w hS
  refine Rn hS (.m rfl <| .c (e_extract rfl rfl) <| .c (e_extract rfl rfl) <| .c (e_extract rfl rfl) <| .a rfl <| .a rfl <| .a rfl .n) ?_; clear hS a; intro a hS
  refine nL (nT (cS (cR ?_)))
  refine L_e hS (e_move rfl) rfl ?_; clear hS a; intro a hS
  refine L_op (s_callN hS (.cons rfl .nil) cf111 rfl (fNumberG_N W0 hG hY (Lib.cut (Lib.trimPrefix t balP) [47]).2.1 (by omega) _ (hS.gg (X := oldA W0))) ?_); clear hS a; intro x43 a w hS
  obtain ⟨⟨n, b⟩, hnb⟩ := x43
  simp only at hS hnb
  refine Rn hS (.m rfl <| .c (e_extract rfl rfl) <| .c (e_extract rfl rfl) <| .a rfl <| .a rfl .n) ?_; clear hS a; intro a hS
  refine nL (nT (cS (cR ?_)))
  refine Rn hS (.m rfl <| .m rfl <| .c (e_build ty_z24 ty_pl24 (.one rfl rfl rfl (by repeat constructor) (.one rfl rfl rfl (by repeat constructor) (.one rfl rfl rfl (by repeat constructor) .nil)))) <| .m rfl <| .m rfl .n) ?_; clear hS a; intro a hS
  refine L_merge 3 53 (.bool (b && isNameB (Lib.cut (Lib.trimPrefix t balP) [47]).1)) hS ?_ ?_
  · intro hcM53
    refine g_split (t := 50) hS rfl ?_ ?_ <;> (clear hS; intro hg50 hS)
    ·
     refine L_ge hS rfl rfl (e_move rfl) rfl ?_; clear hS a; intro a hS
     refine L_go hS rfl rfl (s_callP hS (.cons rfl .nil) cf70 rfl (fIsName_P (Lib.cut (Lib.trimPrefix t balP) [47]).1 (by omega) _) ?_); clear hS a; intro a w hS
     refine L_e hS (e_pick_t rfl rfl) rfl ?_; clear hS a; intro a hS
     exact hcM53 _ _ (hS.ends 4 53 50 rfl (congrArg Value.bool (by rw [hg50, Bool.true_and])) rfl rfl (by first | exact congrArg Value.bool (decide_eq_true hg50).symm | exact congrArg Value.bool hg50.symm | simp [hg50]) rfl)
    refine Rn hS (.t rfl rfl <| .t rfl rfl <| .c (e_pick_f rfl rfl) .n) ?_; clear hS a; intro a hS
    exact hcM53 _ _ (hS.ends 4 53 50 rfl (congrArg Value.bool (by rw [hg50]; rfl)) rfl rfl (by first | exact congrArg Value.bool (decide_eq_false hg50).symm | exact congrArg Value.bool hg50.symm | simp [hg50]) rfl)
  · clear hS a; intro a w hS
    simp only [List.drop_succ_cons, List.drop_zero]
    refine L_op (s_storeA hS rfl rfl ty_sz24 (by repeat constructor) (by rfl) (by rfl) (by rfl) ?_); clear hS; intro w hS
    refine L_e hS (e_assign rfl) rfl ?_; clear hS a; intro a hS
    refine nL (nT (wp_ret (r_then ?_)))
    refine c_retN hS Tryz.results44 (.cons (.cellA rfl (by repeat constructor) ty_st24 ty_sz24 (by rfl)) (.cons (.tmp rfl) .nil)) rfl ?_
    refine ⟨⟨(((zCd 14).putT 1 (Lib.cut (Lib.trimPrefix t balP) [47]).1).putN 8 n, b && isNameB (Lib.cut (Lib.trimPrefix t balP) [47]).1), rfl, fun h => ?_, fun h c hA => ?_⟩, rfl, hS.chg, none_ok _, fun b h => h.elim⟩
    · have h : (b && isNameB (Lib.cut (Lib.trimPrefix t balP) [47]).1) = true := h
      rw [Bool.and_eq_true] at h
      exact .bal hc20 hc34 (hnb.1 h.1) h.2
    · have h : (b && isNameB (Lib.cut (Lib.trimPrefix t balP) [47]).1) = false := h
      cases hA with
      | inv h1 _ => rw [h1] at hc20; cases hc20
      | bal _ _ hk hm2 =>
        cases b with
        | false => exact hnb.2 rfl _ hk
        | true => rw [Bool.true_and, hm2] at h; cases h
      | hea e => subst e; rw [hea_no.2] at hc34; cases hc34
 refine wS (nT (cS (cR ?_)))
 refine Rn hS (.c (e_build ty_z24 ty_pl24 .nil) <| .m rfl <| .c (e_binS rfl rfl rfl) .n) ?_; clear hS a; intro a hS
 refine L_op (s_storeA hS rfl rfl ty_sz24 (by repeat constructor) (by rfl) (by rfl) (by rfl) ?_); clear hS; intro w hS
 refine L_e hS (e_assign rfl) rfl ?_; clear hS a; intro a hS
 refine nL (nT (wp_ret ?_))
 refine c_retN hS Tryz.results44 (.cons (.cellA rfl (by repeat constructor) ty_st24 ty_sz24 (by rfl)) (.cons (.tmp rfl) .nil)) rfl ?_
 refine ⟨⟨(zCd 0, decide (tx t = tx heaP)), rfl, fun h => .hea (tx_inj' (of_decide_eq_true h)), fun h c hA => ?_⟩, rfl, hS.chg, none_ok _, fun b h => h.elim⟩
 cases hA with
 | inv h1 _ => rw [h1] at hc20; cases hc20
 | bal _ h1 _ _ => rw [h1] at hc34; cases hc34
 | hea e => exact absurd (congrArg tx e) (of_decide_eq_false h)
end Go.Proofs.YtlccmgeclhdegaaGreatDoor
namespace Go.Proofs.YtlccmgeclhdegaaGreatDoor
open Go.RowKit
def getM : List UInt8 := [71, 69, 84]
def postM : List UInt8 := [80, 79, 83, 84]
open Classical in
noncomputable def bindQ (me pa l : List UInt8) : Int × Cd :=
 if h : ∃ c, AskP pa c then (if me ≠ getM then (30, zCd 0) else if l ≠ [] then (10, zCd 0) else if pa = heaP then (25, zCd 0) else (0, Classical.choose h))
 else if h : ∃ x : Nat × List Fg, rtG[x.1]? = some (pa, x.2) then (if me ≠ postM then (30, zCd 0) else bindP (Classical.choose h).2 (((Classical.choose h).1 : Int) + 1) l) else (31, zCd 0)
theorem bindQ_ask {me pa l : List UInt8} {c : Cd} (h : AskP pa c) : bindQ me pa l = if me ≠ getM then (30, zCd 0) else if l ≠ [] then (10, zCd 0) else if pa = heaP then (25, zCd 0) else (0, c) := by
 have hx : ∃ c, AskP pa c := ⟨c, h⟩
 unfold bindQ
 rw [dif_pos hx, (Classical.choose_spec hx).one h]
theorem bindQ_post {me pa l : List UInt8} {k : Nat} {fl : List Fg} (hn : ∀ c, ¬ AskP pa c) (hx : rtG[k]? = some (pa, fl)) : bindQ me pa l = if me ≠ postM then (30, zCd 0) else bindP fl ((k : Int) + 1) l := by
 have h1 : ¬ ∃ c, AskP pa c := fun ⟨c, h⟩ => hn c h
 have h2 : ∃ x : Nat × List Fg, rtG[x.1]? = some (pa, x.2) := ⟨(k, fl), hx⟩
 obtain ⟨y, hy⟩ : ∃ y, Classical.choose h2 = y := ⟨_, rfl⟩
 have h3 := Classical.choose_spec h2
 unfold bindQ
 rw [dif_neg h1, dif_pos h2, hy]
 rw [hy] at h3
 obtain rfl : y.1 = k := rt_path h3 hx rfl
 rw [hx] at h3
 injection h3 with h3
 injection h3 with _ h3
 rw [← h3]
theorem bindQ_none {me pa l : List UInt8} (hn : ∀ c, ¬ AskP pa c) (hx : ∀ (k : Nat) (fl : List Fg), rtG[k]? ≠ some (pa, fl)) : bindQ me pa l = (31, zCd 0) := by
 unfold bindQ
 rw [dif_neg (fun ⟨c, h⟩ => hn c h), dif_neg (fun ⟨x, h⟩ => hx _ _ h)]
theorem not_path {pa : List UInt8} (h : ∀ j, j < 12 → pathIs (tx pa) j = false) (k : Nat) (fl : List Fg) : rtG[k]? ≠ some (pa, fl) := fun hx => by
 have hk12 : k < 12 := (List.getElem?_eq_some_iff.1 hx).1
 have h1 := h k hk12
 rw [pathIs_some hx] at h1
 exact of_decide_eq_false h1 rfl
set_option maxHeartbeats 4000000 in
set_option maxRecDepth 100000 in
theorem fBindG_N (W0 : World) (hG : Gj W0) (hY : Sy W0) (me pa : List UInt8) (hpl : pa.length ≤ 1000000) (q : Option Addr) (cap : Nat) (l : List UInt8) (ht : TxA W0 q cap l) (hsm : ∀ v, parseF l = some v → smV 33 v) (cl : Bool) (w0 : World) (hold : oldφ W0 w0) :
 NewC Tryz.prog 14 [.agg [.string (tx me), .string (tx pa), .slice q l.length cap, .bool cl].toArray] w0 (bnV (bindQ me pa l)) (bnY (bindQ me pa l)) := by
 have hln := ht.n
 obtain ⟨r, hr⟩ : ∃ r, bindQ me pa l = r := ⟨_, rfl⟩
 rw [hr]
 refine c_enter [(0, .agg [.string (tx me), .string (tx pa), .slice q l.length cap, .bool cl].toArray)] [oldA W0] noB Tryz.func14 rfl Tryz.ntmps14 ⟨rfl, trivial⟩ rfl (okC (old_ok hold) okN) dis1 (mineC rfl mineN) ?_
 intro a hS
 refine cS (cR ?_)
 refine L_op (s_boxA hS rfl rfl ?_); clear hS a; intro a w b1 hS
 refine L_op (s_alloc hS ty_z24 rfl ?_); clear hS a; intro a w b2 hS
 refine L_e hS (e_assign rfl) rfl ?_; clear hS a; intro a hS
 refine nL (nT (cS (cR ?_)))
 obtain ⟨lo, hlo⟩ : ∃ lo, lo = w.heap.size := ⟨_, rfl⟩
 refine L_op (s_callN hS .nil cf26 rfl (fRoutes_L _ lo hlo) ?_); clear hS a; intro x11 a w hS
 obtain ⟨N, rb, f⟩ := x11
 refine L_e hS (e_assign rfl) rfl ?_; clear hS a; intro a hS
 refine nL (nT (cS (cR ?_)))
 refine Rn hS (.m rfl <| .c (e_makeFunc .nil (.cons rfl .nil)) .n) ?_; clear hS a; intro a hS
 have hcell := cell_of_blk (k := 1) (v := .string (tx pa)) (hS.gg (X := .blk b1 [.string (tx me), .string (tx pa), .slice q l.length cap, .bool cl] 29)) rfl
 have hrt : RtsAt lo rb f w := hS.gg (X := rtsA lo N rb f)
 refine L_op (s_callN hS (.cons rfl (.cons rfl .nil)) cf27 rfl (fIndexRt_N w lo rb f hrt 43 [.pointer (some ⟨b1, 0, none⟩)] (pathIs (tx pa)) cf43 (fun j x w' hx ho => by rw [pathIs_some hx]; exact fBindF_P f j x b1 (tx pa) w hcell w' ho) _ (old_refl w)) ?_); clear hS a; intro x14 a w hS
 obtain ⟨ix, hix⟩ := x14
 simp only at hS
 refine L_e hS (e_assign rfl) rfl ?_; clear hS a; intro a hS
 refine nL (nT (cS (cR ?_)))
 refine Rn hS (.c (e_fa0 rfl ty_fo29_1) <| .c (e_load rfl (by repeat constructor) ty_sc9 (by rfl)) .n) ?_; clear hS a; intro a hS
 refine L_op (s_callN hS (.cons rfl .nil) cf44 rfl (fAskedG_N W0 hG hY pa hpl _ (hS.gg (X := oldA W0))) ?_); clear hS a; intro x18 a w hS
 obtain ⟨⟨ac, ab⟩, hafx, hat, haf⟩ := x18
 simp only at hS hafx hat haf
 refine Rn hS (.m rfl <| .c (e_extract rfl rfl) <| .c (e_extract rfl rfl) .n) ?_; clear hS a; intro a hS
 refine L_op (s_alloc hS ty_z24 rfl ?_); clear hS a; intro a w b6 hS
 refine L_op (s_storeA (l := cellsC ac (.slice none 0 0)) hS rfl rfl ty_sz24 (by repeat constructor) rfl rfl rfl ?_); clear hS; intro w hS
 refine L_e hS (e_assign rfl) rfl ?_; clear hS a; intro a hS
 refine nL (nT (cS (wB (cS (cR ?_)))))
 refine Rn hS (.m rfl <| .c (e_bin rfl rfl rfl) <| .m rfl .n) ?_; clear hS a; intro a hS
 refine L_merge 3 27 (.bool (decide (ix < 0) && !ab)) hS ?_ ?_
 · intro hcM27
   refine g_splitD (t := 24) hS rfl ?_ ?_ <;> (clear hS; intro hg24 hS)
   ·
    refine Rn hS (.g rfl rfl (e_move rfl) <| .g rfl rfl (e_not rfl) <| .c (e_pick_t rfl rfl) .n) ?_; clear hS a; intro a hS
    exact hcM27 _ _ (hS.ends 4 27 24 rfl (congrArg Value.bool (by rw [show decide (ix < 0) = true from decide_eq_true hg24]; rfl)) rfl rfl (by first | exact congrArg Value.bool (decide_eq_true hg24).symm | exact congrArg Value.bool hg24.symm | simp [hg24]) rfl)
   refine Rn hS (.t rfl rfl <| .t rfl rfl <| .c (e_pick_f rfl rfl) .n) ?_; clear hS a; intro a hS
   exact hcM27 _ _ (hS.ends 4 27 24 rfl (congrArg Value.bool (by rw [show decide (ix < 0) = false from decide_eq_false hg24]; rfl)) rfl rfl (by first | exact congrArg Value.bool (decide_eq_false hg24).symm | exact congrArg Value.bool hg24.symm | simp [hg24]) rfl)
 · clear hS a; intro a w hS
   simp only [List.drop_succ_cons, List.drop_zero]
   refine L_e hS (e_assign rfl) rfl ?_; clear hS a; intro a hS
   refine nL (nT ?_)
   refine c_if hS rfl (fun hc21 => ?_) (fun hc21 => ?_)
   ·
    refine cS (cR ?_)
    refine L_e hS (e_build ty_z24 ty_pl24 .nil) rfl ?_; clear hS a; intro a hS
    refine L_op (s_storeA hS rfl rfl ty_sz24 (by repeat constructor) (by rfl) (by rfl) (by rfl) ?_); clear hS; intro w hS
    refine L_e hS (e_assign rfl) rfl ?_; clear hS a; intro a hS
    refine nL (nT (wp_ret ?_))
    refine r_block (r_then ?_)
    refine c_retN hS Tryz.results14 (.cons (.cellA rfl (by repeat constructor) ty_st24 ty_sz24 (by rfl)) (.cons (.tmp rfl) .nil)) rfl ?_
    rw [Bool.and_eq_true, decide_eq_true_eq, Bool.not_eq_true'] at hc21
    have hnp : ∀ j, j < 12 → pathIs (tx pa) j = false := by
     rcases hix with ⟨k, h1, _⟩ | ⟨_, h⟩
     · exact absurd hc21.1 (by omega)
     · exact h
    obtain rfl : r = (31, zCd 0) := hr.symm.trans (bindQ_none (haf hc21.2) (not_path hnp))
    exact ⟨.inr ⟨(), by decide⟩, rfl, hS.chg, none_ok _, fun b h => h.elim⟩
   refine cS (cR ?_)
   refine Rn hS (.m rfl <| .m rfl .n) ?_; clear hS a; intro a hS
   refine L_merge 4 35 (.bool (ab && decide (tx me ≠ tx getM))) hS ?_ ?_
   · intro hcM35
     refine g_split (t := 31) hS rfl ?_ ?_ <;> (clear hS; intro hg31 hS)
     ·
      refine Rn hS (.g rfl rfl (e_fa0 rfl ty_fo29_0) <| .g rfl rfl (e_load rfl (by repeat constructor) ty_sc9 (by rfl)) <| .g rfl rfl (e_binS rfl rfl rfl) <| .c (e_pick_t rfl rfl) .n) ?_; clear hS a; intro a hS
      exact hcM35 _ _ (hS.ends 5 35 31 rfl (congrArg Value.bool (by rw [hg31, Bool.true_and]; rfl)) rfl rfl (by first | exact congrArg Value.bool (decide_eq_true hg31).symm | exact congrArg Value.bool hg31.symm | simp [hg31]) rfl)
     refine Rn hS (.t rfl rfl <| .t rfl rfl <| .t rfl rfl <| .c (e_pick_f rfl rfl) .n) ?_; clear hS a; intro a hS
     exact hcM35 _ _ (hS.ends 5 35 31 rfl (congrArg Value.bool (by rw [hg31]; rfl)) rfl rfl (by first | exact congrArg Value.bool (decide_eq_false hg31).symm | exact congrArg Value.bool hg31.symm | simp [hg31]) rfl)
   · clear hS a; intro a w hS
     simp only [List.drop_succ_cons, List.drop_zero]
     refine L_e hS (e_move rfl) rfl ?_; clear hS a; intro a hS
     refine L_merge 8 44 (.bool ((ab && decide (tx me ≠ tx getM)) || (!ab && decide (tx me ≠ tx postM)))) hS ?_ ?_
     · intro hcM44
       refine g_split (t := 36) hS rfl ?_ ?_ <;> (clear hS; intro hg36 hS)
       ·
        refine Rn hS (.f rfl rfl <| .f rfl rfl <| .f rfl rfl .n) ?_; clear hS a; intro a hS
        refine L_skip_u hS rfl rfl rfl ?_; clear hS a; intro a hS
        refine L_skip_u hS rfl rfl rfl ?_; clear hS a; intro a hS
        refine L_skip_u hS rfl rfl rfl ?_; clear hS a; intro a hS
        refine Rn hS (.f rfl rfl <| .c (e_pick_t rfl rfl) .n) ?_; clear hS a; intro a hS
        exact hcM44 _ _ (hS.ends 9 44 36 rfl (congrArg Value.bool (by rw [hg36]; rfl)) rfl rfl (by first | exact congrArg Value.bool (decide_eq_true hg36).symm | exact congrArg Value.bool hg36.symm | simp [hg36]) rfl)
       refine Rn hS (.g rfl rfl (e_move rfl) <| .g rfl rfl (e_not rfl) <| .g rfl rfl (e_move rfl) .n) ?_; clear hS a; intro a hS
       refine L_merge 4 43 (.bool (!ab && decide (tx me ≠ tx postM))) hS ?_ ?_
       · intro hcM43
         refine g_split (t := 39) hS rfl ?_ ?_ <;> (clear hS; intro hg39 hS)
         ·
          refine Rn hS (.g rfl rfl (e_fa0 rfl ty_fo29_0) <| .g rfl rfl (e_load rfl (by repeat constructor) ty_sc9 (by rfl)) <| .g rfl rfl (e_binS rfl rfl rfl) <| .g rfl rfl (e_pick_t rfl rfl) .n) ?_; clear hS a; intro a hS
          exact hcM43 _ _ (hS.ends 5 43 39 rfl (congrArg Value.bool (by rw [hg39, Bool.true_and]; rfl)) rfl rfl (by first | exact congrArg Value.bool (decide_eq_true hg39).symm | exact congrArg Value.bool hg39.symm | simp [hg39]) rfl)
         refine Rn hS (.t rfl rfl <| .t rfl rfl <| .t rfl rfl <| .g rfl rfl (e_pick_f rfl rfl) .n) ?_; clear hS a; intro a hS
         exact hcM43 _ _ (hS.ends 5 43 39 rfl (congrArg Value.bool (by rw [hg39]; rfl)) rfl rfl (by first | exact congrArg Value.bool (decide_eq_false hg39).symm | exact congrArg Value.bool hg39.symm | simp [hg39]) rfl)
       · clear hS a; intro a w hS
         simp only [List.drop_succ_cons, List.drop_zero]
         refine L_e hS (e_pick_f rfl rfl) rfl ?_; clear hS a; intro a hS
         exact hcM44 _ _ (hS.ends 6 44 36 rfl (congrArg Value.bool (by rw [hg36, Bool.false_or])) rfl rfl (by first | exact congrArg Value.bool (decide_eq_false hg36).symm | exact congrArg Value.bool hg36.symm | simp [hg36]) rfl)
     · clear hS a; intro a w hS
       simp only [List.drop_succ_cons, List.drop_zero]
       refine L_e hS (e_assign rfl) rfl ?_; clear hS a; intro a hS
       refine nL (nT ?_)
       refine c_if hS rfl (fun hc29 => ?_) (fun hc29 => ?_)
       ·
        refine cS (cR ?_)
        refine L_e hS (e_build ty_z24 ty_pl24 .nil) rfl ?_; clear hS a; intro a hS
        refine L_op (s_storeA hS rfl rfl ty_sz24 (by repeat constructor) (by rfl) (by rfl) (by rfl) ?_); clear hS; intro w hS
        refine L_e hS (e_assign rfl) rfl ?_; clear hS a; intro a hS
        refine nL (nT (wp_ret ?_))
        refine r_block (r_then ?_)
        refine c_retN hS Tryz.results14 (.cons (.cellA rfl (by repeat constructor) ty_st24 ty_sz24 (by rfl)) (.cons (.tmp rfl) .nil)) rfl ?_
        have hrz : r = (30, zCd 0) := by
         cases ab with
         | true =>
           have h1 : tx me ≠ tx getM := by simpa using hc29
           rw [← hr, bindQ_ask (hat rfl), if_pos (fun e => h1 (congrArg tx e))]
         | false =>
           have h1 : tx me ≠ tx postM := by simpa using hc29
           rcases hix with ⟨k, h1', h2, h3, _⟩ | ⟨h2, _⟩
           · obtain ⟨⟨pa2, fl⟩, hx⟩ := rt_kth h2
             have hpp : pa2 = pa := by
              rw [pathIs_some hx] at h3
              exact tx_inj' (of_decide_eq_true h3)
             subst hpp
             rw [← hr, bindQ_post (haf rfl) hx, if_pos (fun e => h1 (congrArg tx e))]
           · subst h2; exact absurd hc21 (by decide)
        subst hrz
        exact ⟨.inr ⟨(), by decide⟩, rfl, hS.chg, none_ok _, fun b h => h.elim⟩
       refine cS (cR ?_)
       refine Rn hS (.m rfl <| .m rfl .n) ?_; clear hS a; intro a hS
       refine L_merge 5 53 (.bool (ab && decide (0 < l.length))) hS ?_ ?_
       · intro hcM53
         refine g_split (t := 48) hS rfl ?_ ?_ <;> (clear hS; intro hg48 hS)
         ·
          refine Rn hS (.g rfl rfl (e_fa0 rfl ty_fo29_2) <| .g rfl rfl (e_load rfl (by repeat constructor) ty_sc27 (by rfl)) <| .g rfl rfl (e_len rfl rfl ty_sl27) <| .g rfl rfl (e_bin rfl rfl rfl) <| .c (e_pick_t rfl rfl) .n) ?_; clear hS a; intro a hS
          exact hcM53 _ _ (hS.ends 6 53 48 rfl (congrArg Value.bool (by rw [hg48, Bool.true_and]; exact decide_eq_decide.2 (by omega))) rfl rfl (by first | exact congrArg Value.bool (decide_eq_true hg48).symm | exact congrArg Value.bool hg48.symm | simp [hg48]) rfl)
         refine Rn hS (.t rfl rfl <| .t rfl rfl <| .t rfl rfl <| .t rfl rfl <| .c (e_pick_f rfl rfl) .n) ?_; clear hS a; intro a hS
         exact hcM53 _ _ (hS.ends 6 53 48 rfl (congrArg Value.bool (by rw [hg48]; rfl)) rfl rfl (by first | exact congrArg Value.bool (decide_eq_false hg48).symm | exact congrArg Value.bool hg48.symm | simp [hg48]) rfl)
       · clear hS a; intro a w hS
         simp only [List.drop_succ_cons, List.drop_zero]
         refine L_e hS (e_assign rfl) rfl ?_; clear hS a; intro a hS
         refine nL (nT ?_)
         refine c_if hS rfl (fun hc46 => ?_) (fun hc46 => ?_)
         ·
          refine cS (cR ?_)
          refine L_e hS (e_build ty_z24 ty_pl24 .nil) rfl ?_; clear hS a; intro a hS
          refine L_op (s_storeA hS rfl rfl ty_sz24 (by repeat constructor) (by rfl) (by rfl) (by rfl) ?_); clear hS; intro w hS
          refine L_e hS (e_assign rfl) rfl ?_; clear hS a; intro a hS
          refine nL (nT (wp_ret ?_))
          refine r_block (r_then ?_)
          refine c_retN hS Tryz.results14 (.cons (.cellA rfl (by repeat constructor) ty_st24 ty_sz24 (by rfl)) (.cons (.tmp rfl) .nil)) rfl ?_
          rw [Bool.and_eq_true, decide_eq_true_eq] at hc46
          have hme : me = getM := by
           have h1 := hc29
           rw [hc46.1] at h1
           exact tx_inj' (by simpa using h1)
          obtain rfl : r = (10, zCd 0) := by
           rw [← hr, bindQ_ask (hat hc46.1), if_neg (fun h => h hme), if_pos (fun e => by rw [e] at hc46; exact absurd hc46.2 (by decide))]
          exact ⟨.inr ⟨(), by decide⟩, rfl, hS.chg, none_ok _, fun b h => h.elim⟩
         refine cS (cR ?_)
         refine Rn hS (.c (e_fa0 rfl ty_fo29_1) <| .c (e_load rfl (by repeat constructor) ty_sc9 (by rfl)) <| .c (e_binS rfl rfl rfl) <| .a rfl .n) ?_; clear hS a; intro a hS
         refine nL (nT ?_)
         refine c_ifD hS rfl (fun hc55 => ?_) (fun hc55 => ?_)
         ·
          refine cS (cR ?_)
          refine L_e hS (e_build ty_z24 ty_pl24 .nil) rfl ?_; clear hS a; intro a hS
          refine L_op (s_storeA hS rfl rfl ty_sz24 (by repeat constructor) (by rfl) (by rfl) (by rfl) ?_); clear hS; intro w hS
          refine L_e hS (e_assign rfl) rfl ?_; clear hS a; intro a hS
          refine nL (nT (wp_ret ?_))
          refine r_block (r_then ?_)
          refine c_retN hS Tryz.results14 (.cons (.cellA rfl (by repeat constructor) ty_st24 ty_sz24 (by rfl)) (.cons (.tmp rfl) .nil)) rfl ?_
          have hpa : pa = heaP := tx_inj' hc55
          have hA : AskP pa (zCd 0) := .hea hpa
          have hab : ab = true := by
           cases ab with
           | true => rfl
           | false => exact absurd hA (haf rfl _)
          have hme : me = getM := by
           have h1 := hc29
           rw [hab] at h1
           exact tx_inj' (by simpa using h1)
          have hl0 : l = [] := by
           have h1 := hc46
           rw [hab, Bool.true_and, decide_eq_false_iff_not] at h1
           exact List.eq_nil_of_length_eq_zero (by omega)
          obtain rfl : r = (25, zCd 0) := by
           rw [← hr, bindQ_ask hA, if_neg (fun h => h hme), if_neg (fun h => h hl0), if_pos hpa]
          exact ⟨.inr ⟨(), by decide⟩, rfl, hS.chg, none_ok _, fun b h => h.elim⟩
         refine cS (cR ?_)
         refine Rn hS (.m rfl <| .a rfl .n) ?_; clear hS a; intro a hS
         refine nL (nT ?_)
         refine c_if hS rfl (fun hc60 => ?_) (fun hc60 => ?_)
         ·
          refine cS (cR ?_)
          refine L_e hS (e_loadA (cs := cellsC ac (.slice none 0 0)) rfl (by repeat constructor) ty_st24 ty_sz24 rfl) rfl ?_; clear hS a; intro a hS
          refine L_op (s_storeA (l := cellsC ac (.slice none 0 0)) hS rfl rfl ty_sz24 (by repeat constructor) rfl rfl rfl ?_); clear hS; intro w hS
          refine L_e hS (e_assign rfl) rfl ?_; clear hS a; intro a hS
          refine nL (nT (wp_ret ?_))
          refine r_block (r_then ?_)
          refine c_retN hS Tryz.results14 (.cons (.cellA rfl (by repeat constructor) ty_st24 ty_sz24 (by rfl)) (.cons (.tmp rfl) .nil)) rfl ?_
          have hme : me = getM := by
           have h1 := hc29
           rw [hc60] at h1
           exact tx_inj' (by simpa using h1)
          have hl0 : l = [] := by
           have h1 := hc46
           rw [hc60, Bool.true_and, decide_eq_false_iff_not] at h1
           exact List.eq_nil_of_length_eq_zero (by omega)
          obtain rfl : r = (0, ac) := by
           rw [← hr, bindQ_ask (hat hc60), if_neg (fun h => h hme), if_neg (fun h => h hl0), if_neg (show ¬ pa = heaP from fun e => hc55 (congrArg tx e))]
          refine ⟨.inl ⟨.slice none 0 0, rfl⟩, rfl, hS.chg, ?_, fun b hb => ?_⟩
          · show (ownA 160 4 (.slice none 0 0) ac.fx.length (ac.fx.flatMap encF)).ok w
            rw [hafx]; exact own_nil w 160 4
          · have hb : (ownA 160 4 (.slice none 0 0) ac.fx.length (ac.fx.flatMap encF)).F b := hb
            simp [ownA, Asn.F, Value.ownBlock] at hb
         have hme : me = postM := by
          have h1 := hc29
          rw [hc60] at h1
          exact tx_inj' (by simpa using h1)
         obtain ⟨kx, rfl, hkx, hpi⟩ : ∃ k : Nat, ix = k ∧ k < 12 ∧ pathIs (tx pa) k = true := by
          rcases hix with ⟨k, h1, h2, h3, _⟩ | ⟨h2, _⟩
          · exact ⟨k, h1, h2, h3⟩
          · subst h2; rw [hc60] at hc21; exact absurd hc21 (by decide)
         obtain ⟨fl, hx⟩ : ∃ fl, rtG[kx]? = some (pa, fl) := by
          obtain ⟨⟨pa2, fl⟩, hx⟩ := rt_kth hkx
          rw [pathIs_some hx] at hpi
          have hpp : pa2 = pa := tx_inj' (of_decide_eq_true hpi)
          exact ⟨fl, hpp ▸ hx⟩
         obtain rfl : r = bindP fl ((kx : Int) + 1) l := by
          rw [← hr, bindQ_post (haf hc60) hx, if_neg (fun h => h hme)]
         refine wS (n_block (nT (cS (cR ?_))))
         refine Rn hS (.c (e_fa0 rfl ty_fo29_2) <| .c (e_load rfl (by repeat constructor) ty_sc27 (by rfl)) .n) ?_; clear hS a; intro a hS
         refine L_op (s_callN hS (.cons rfl .nil) cf11 rfl (jParse_N q cap l _ (hG.keep (hS.gg (X := oldA W0))).u8 (txa_keep ht (hS.gg (X := oldA W0)))) ?_); clear hS a; intro x66 a w hS
         obtain ⟨jk, js, a1, a2, a3, a4, a5, a6, pp, pe, hpv, hpc⟩ := pa_open x66 (hS.ok (paY l x66) (by repeat constructor))
         rw [hpv] at hS
         refine Rn hS (.m rfl <| .c (e_extract rfl rfl) <| .c (e_extract rfl rfl) <| .c (e_extract rfl rfl) .n) ?_; clear hS a; intro a hS
         refine L_op (s_alloc hS ty_z37 rfl ?_); clear hS a; intro a w b8 hS
         refine L_op (s_storeA hS rfl rfl ty_sz37 (by repeat constructor) (by rfl) (by rfl) (by rfl) ?_); clear hS; intro w hS
         refine Rn hS (.a rfl <| .a rfl .n) ?_; clear hS a; intro a hS
         refine nL (nT (cS (wB (cS (cR ?_)))))
         refine Rn hS (.m rfl <| .c (e_bin rfl rfl rfl) <| .a rfl .n) ?_; clear hS a; intro a hS
         refine nL (nT ?_)
         refine c_ifD hS rfl (fun hc70 => ?_) (fun hc70 => ?_)
         ·
          refine cS (cR ?_)
          refine L_e hS (e_build ty_z24 ty_pl24 .nil) rfl ?_; clear hS a; intro a hS
          refine L_op (s_storeA hS rfl rfl ty_sz24 (by repeat constructor) (by rfl) (by rfl) (by rfl) ?_); clear hS; intro w hS
          refine L_e hS (e_assign rfl) rfl ?_; clear hS a; intro a hS
          refine nL (nT (wp_ret ?_))
          refine r_block (r_then ?_)
          refine c_retN hS Tryz.results14 (.cons (.cellA rfl (by repeat constructor) ty_st24 ty_sz24 (by rfl)) (.cons (.tmp rfl) .nil)) rfl ?_
          have hn : parseF l = none := by
           rcases hpc with ⟨h, _⟩ | ⟨_, h⟩
           · exact absurd h hc70
           · exact h
          have he := bindP_none (fl := fl) (kd := (kx : Int) + 1) hn
          exact ⟨.inr ⟨(), by rw [he]; decide⟩, by show _ = Ending.returned (Value.tuple [.agg (cellsC (zCd 0) (.slice none 0 0)).toArray, .int .i64 (bindP fl ((kx : Int) + 1) l).1].toArray); rw [he]; rfl, hS.chg, none_ok _, fun b h => h.elim⟩
         have hpe : pe = 0 := Classical.not_not.1 hc70
         obtain ⟨xj, rfl, hxcs, rfl⟩ : ∃ x : { x : JX // parseF l = some x.v }, x66 = .inl x ∧ x.1.cs = [.int .i64 jk, .string js, .slice a1 a2 a3, .slice a4 a5 a6] ∧ jk = (x.1.v.k : Int) := by
          rcases hpc with ⟨_, h⟩ | ⟨h, _⟩
          · exact h
          · exact absurd hpe h
         rw [show paY l (.inl xj) = jxA 33 xj.1 from rfl] at hS
         refine cS (cR ?_)
         refine Rn hS (.c (e_fa0 rfl ty_fo37_0) <| .c (e_load rfl (by repeat constructor) ty_sc3 (by rfl)) <| .c (e_bin rfl rfl rfl) <| .a rfl .n) ?_; clear hS a; intro a hS
         refine nL (nT ?_)
         refine c_ifD hS rfl (fun hc74 => ?_) (fun hc74 => ?_)
         ·
          refine cS (cR ?_)
          refine L_e hS (e_build ty_z24 ty_pl24 .nil) rfl ?_; clear hS a; intro a hS
          refine L_op (s_storeA hS rfl rfl ty_sz24 (by repeat constructor) (by rfl) (by rfl) (by rfl) ?_); clear hS; intro w hS
          refine L_e hS (e_assign rfl) rfl ?_; clear hS a; intro a hS
          refine nL (nT (wp_ret ?_))
          refine r_block (r_then ?_)
          refine c_retN hS Tryz.results14 (.cons (.cellA rfl (by repeat constructor) ty_st24 ty_sz24 (by rfl)) (.cons (.tmp rfl) .nil)) rfl ?_
          have he := bindP_kind (fl := fl) (kd := (kx : Int) + 1) xj.2 (by omega)
          exact ⟨.inr ⟨(), by rw [he]; decide⟩, by show _ = Ending.returned (Value.tuple [.agg (cellsC (zCd 0) (.slice none 0 0)).toArray, .int .i64 (bindP fl ((kx : Int) + 1) l).1].toArray); rw [he]; rfl, hS.chg, none_ok _, fun b h => h.elim⟩
         have hk6 : xj.1.v.k = 6 := by omega
         have hbp := bindP_some (fl := fl) (kd := (kx : Int) + 1) xj.2 hk6
         refine wS (n_block (nT (cS ?_)))
         refine c_drawS [8] (by kernel_rfl) hS (sub_cons (X := rtsA lo N rb f) (by repeat constructor) (sub_cons (X := .blk b8 [.int .i64 (xj.1.v.k : Int), .string js, .slice a1 a2 a3, .slice a4 a5 a6] 37) (by repeat constructor) sub_nil)) ?_; clear hS; intro w hS
         simp only [List.length_cons, List.length_nil, Nat.zero_add, Nat.reduceAdd, List.replicate]
         refine Rz hS (sub_cons (by repeat constructor) (sub_cons (by repeat constructor) sub_nil)) (.o 0 (tf 1 9) rfl wN (e_move rfl) rfl <| .o 1 (tf 2 8) rfl wN (e_move rfl) rfl <| .o 2 (tf 3 7) rfl wN (e_ixN rfl rfl ty_sl78 ty_sz83 (by omega)) rfl <| .y 3 (tf 4 6) rfl wN (e_loadAC (l := [.string (tx pa), .int .i64 ((kx : Int) + 1), .slice (some ⟨f kx, 0, none⟩) fl.length fl.length]) rfl ty_st83 ty_sz83 (fun w hh j u hj => rts_row (show RtsAt lo rb f w from hh (rtsA lo N rb f) (by repeat constructor)) hx j u hj)) rfl <| .y 4 (tf 5 5) rfl wN (e_loadA rfl (by repeat constructor) ty_st37 ty_sz37 (by rfl)) rfl .n) ?_; clear hS a; intro a hS
         refine Zo 5 (tf 6 4) hS rfl wN rfl (s_callN hS (.cons rfl (.cons rfl .nil)) cf45 rfl (fRouteBind_N w (hG.keep (hS.gg (X := oldA W0))) 31 (tx pa) ((kx : Int) + 1) (f kx) 0 fl.length fl (rts_fds (show RtsAt lo rb f w from hS.gg (X := rtsA lo N rb f)) hx) xj.1.v _ w (by rw [← hxcs]; exact hS.gg (X := jxA 33 xj.1)) (hsm _ xj.2) (old_refl w)) ?_); clear hS a; intro x84 a w hS
         obtain ⟨c9, a9, m9, p9, e9, hbv, hbc⟩ := bd_open x84 (hS.ok (bdY (fdsOf fl) ((kx : Int) + 1) xj.1.v x84) (by repeat constructor))
         rw [hbv] at hS
         refine Z_and hS (sub_cons (by repeat constructor) (sub_cons (by repeat constructor) sub_nil)) ?_
         refine Ry hS (.o 6 (tf 7 3) rfl wN (e_extract rfl rfl) rfl <| .o 7 (tf 8 2) rfl wN (e_extract rfl rfl) rfl .n) ?_; clear hS a; intro a hS
         refine Zo 8 (tf 9 1) hS rfl wN rfl (s_storeA (l := cellsC c9 (.slice a9 m9 p9)) hS rfl rfl ty_sz24 (by repeat constructor) rfl rfl rfl ?_); clear hS; intro w hS
         refine Z_last (by simp) ?_
         refine Zt0 9 (tf 10 0) hS rfl want_none (e_assign rfl) rfl (by kernel_rfl) rfl ?_; clear hS a; intro a hS
         refine Z_done (by kernel_rfl) ?_
         refine nT (wp_ret ?_)
         refine c_retN hS Tryz.results14 (.cons (.cellA rfl (by repeat constructor) ty_st24 ty_sz24 (by rfl)) (.cons (.tmp rfl) .nil)) rfl ?_
         rcases hbc with ⟨rfl, x, rfl, rfl, hxe⟩ | ⟨rfl, h, rfl, rfl, rfl, rfl⟩
         · exact ⟨.inl ⟨x.1, by rw [hbp]; exact x.2⟩, by show _ = Ending.returned (Value.tuple [.agg (cellsC (bindP fl ((kx : Int) + 1) l).2 x.1).toArray, .int .i64 0].toArray); rw [hbp, ← hxe], hS.chg, by show (ownA 160 4 x.1 (bindP fl ((kx : Int) + 1) l).2.fx.length ((bindP fl ((kx : Int) + 1) l).2.fx.flatMap encF)).ok w; rw [hbp]; exact hS.ok (bdY (fdsOf fl) ((kx : Int) + 1) xj.1.v (.inl x)) (by repeat constructor), by
             show ∀ b, (ownA 160 4 x.1 (bindP fl ((kx : Int) + 1) l).2.fx.length ((bindP fl ((kx : Int) + 1) l).2.fx.flatMap encF)).F b → w0.heap.size ≤ b
             rw [hbp]
             exact fun b hb => (hS.mine (bdY (fdsOf fl) ((kx : Int) + 1) xj.1.v (.inl x)) (by repeat constructor) rfl b hb).resolve_right id⟩
         · exact ⟨.inr ⟨(), by rw [hbp]; exact h⟩, by show _ = Ending.returned (Value.tuple [.agg (cellsC (zCd 0) (.slice none 0 0)).toArray, .int .i64 (bindP fl ((kx : Int) + 1) l).1].toArray); rw [hbp], hS.chg, none_ok _, fun b h => h.elim⟩
theorem mem_same2 : ∀ (ms' ms : List Mem), (ms'.map fun m => (m.n, m.v)) = (ms.map fun m => (m.n, m.v)) → (∀ m ∈ ms, ∀ m' ∈ ms', m'.v = m.v → m'.r = m.r ∧ m'.t = m.t) → ms'.map (·.n) = ms.map (·.n) ∧ ms'.map (·.r) = ms.map (·.r) ∧ joinM ms' = joinM ms
 | [], [], _, _ => ⟨rfl, rfl, rfl⟩
 | [], _ :: _, h, _ => by simp at h
 | _ :: _, [], h, _ => by simp at h
 | m' :: ms', m :: ms, h, hi => by
   rw [List.map_cons, List.map_cons] at h
   injection h with h1 h2
   injection h1 with hn hv
   obtain ⟨e1, e2⟩ := hi m (.head _) m' (.head _) hv
   obtain ⟨i1, i2, i3⟩ := mem_same2 ms' ms h2 (fun a ha b hb => hi a (.tail _ ha) b (.tail _ hb))
   have hle : ms'.isEmpty = ms.isEmpty := by
    have := congrArg List.length i1
    rw [List.length_map, List.length_map] at this
    cases ms' with
    | nil => cases ms with
      | nil => rfl
      | cons a b => simp at this
    | cons a b => cases ms with
      | nil => simp at this
      | cons a b => rfl
   refine ⟨by rw [List.map_cons, List.map_cons, hn, i1], by rw [List.map_cons, List.map_cons, e1, i2], ?_⟩
   rw [join_cons, join_cons, hle, i3]
   unfold memT
   rw [hn, e2]
theorem sorted_one {l1 l2 : List (List UInt8 × JV)} (hnd : (l2.map (·.1)).Nodup) (hp : l1.Perm l2) (h1 : l1.Pairwise (fun a b => a.1 ≤ b.1)) (h2 : l2.Pairwise (fun a b => a.1 ≤ b.1)) : l1 = l2 := by
 refine List.Perm.eq_of_pairwise (le := fun (a b : List UInt8 × JV) => a.1 ≤ b.1) (fun a b ha hb h3 h4 => ?_) h1 h2 hp
 have hab := List.le_antisymm h3 h4
 have f1 := find_key hnd (show (a.1, a.2) ∈ _ from (hp.mem_iff).1 ha)
 have f2 := find_key hnd (show (b.1, b.2) ∈ _ from hb)
 rw [← hab, f1] at f2
 injection f2 with f2
 have f3 := congrArg (fun p : List UInt8 × JV => p.2) f2
 exact Prod.ext hab f3
theorem pj_det : ∀ (n d : Nat) (v r : JV) (s : List UInt8) (r' : JV) (s' : List UInt8), okF n d v → PJ n v r s → PJ n v r' s' → r' = r ∧ s' = s
 | 0, _, _, _, _, _, _, h, _, _ => h.elim
 | n + 1, d, .mk k t ns l, r, s, r', s', ho, hp, hq => by
   rcases (show _ ∨ _ ∨ _ ∨ _ from hp) with ⟨hk, rfl, rfl⟩ | ⟨hk, rfl, rfl⟩ | ⟨hk, rfl, rfl⟩ | ⟨hk, ms, hpm, hs, hm, rfl, rfl⟩
   · rcases (show _ ∨ _ ∨ _ ∨ _ from hq) with ⟨_, h1, h2⟩ | ⟨h, _⟩ | ⟨h, _⟩ | ⟨h, _⟩
     · exact ⟨h1, h2⟩
     · omega
     · omega
     · omega
   · rcases (show _ ∨ _ ∨ _ ∨ _ from hq) with ⟨h, _⟩ | ⟨_, h1, h2⟩ | ⟨h, _⟩ | ⟨h, _⟩
     · omega
     · exact ⟨h1, h2⟩
     · omega
     · omega
   · rcases (show _ ∨ _ ∨ _ ∨ _ from hq) with ⟨h, _⟩ | ⟨h, _⟩ | ⟨_, h1, h2⟩ | ⟨h, _⟩
     · omega
     · omega
     · exact ⟨h1, h2⟩
     · omega
   · obtain ⟨_, _, h3⟩ := ho
     obtain ⟨g1, g2, g3, g4, g5, g6⟩ := h3 hk
     rcases (show _ ∨ _ ∨ _ ∨ _ from hq) with ⟨h, _⟩ | ⟨h, _⟩ | ⟨h, _⟩ | ⟨_, ms', hpm', hs', hm', rfl, rfl⟩
     · omega
     · omega
     · omega
     have hnd : ((ms.map fun m => (m.n, m.v)).map (·.1)).Nodup := by rw [List.map_map]; exact pj_nodup hpm g5 (by omega)
     have hw1 : (ms.map fun m => (m.n, m.v)).Pairwise (fun a b => a.1 ≤ b.1) := by rw [List.pairwise_map]; rw [List.pairwise_map] at hs; exact hs
     have hw2 : (ms'.map fun m => (m.n, m.v)).Pairwise (fun a b => a.1 ≤ b.1) := by rw [List.pairwise_map]; rw [List.pairwise_map] at hs'; exact hs'
     have heq := sorted_one hnd (hpm'.trans hpm.symm) hw2 hw1
     obtain ⟨i1, i2, i3⟩ := mem_same2 ms' ms heq (fun m hmm m' hmm' hv => pj_det n (d + 1) m.v m.r m.t m'.r m'.t (g6 _ (pj_mem hpm hmm).2) (hm m hmm) (hv ▸ hm' m' hmm'))
     exact ⟨by rw [i1, i2], by rw [i3]⟩
def okQ (c : Cd) (me pa s : List UInt8) : Prop := (me = postM ∧ ∃ v r k fl c', RqOk c pa s v r k fl c') ∨ (me = getM ∧ (c.kind = 13 ∨ c.kind = 14) ∧ pa = (pathF c).1 ∧ (pathF c).2 = true ∧ s = [])
theorem post_bind {c : Cd} {path s : List UInt8} {v r : JV} {k : Nat} {fl : List Fg} {c' : Cd} (hc : c.ok) (hfx : FxB c.fx) (h : RqOk c path s v r k fl c') : parseF s = some r ∧ (bindP fl ((k : Int) + 1) s).1 = 0 ∧ (bindP fl ((k : Int) + 1) s).2.fx = c.fx ∧ ∀ fv, cellsC (bindP fl ((k : Int) + 1) s).2 fv = cellsC c fv := by
 obtain ⟨rs, hr, hb, hem, htl⟩ := back_tells hc hfx h
 have hp := req_parse hc hfx h
 have hok : ∀ f ∈ fdsOf fl, f.ok := rt_fdok (List.mem_of_getElem? h.x)
 subst hr
 rw [bindP_some hp rfl, h.kd]
 refine ⟨hp, bind_tells hok hem (fun f hf => ?_) ?_⟩
 · obtain ⟨y, h1, h2⟩ := htl f hf
   exact ⟨y, getF_in hb.nd h1, h2⟩
 · have e : (objP rs).ns = rs.map (·.1) := rfl
   have := hb.pm.length_eq
   rw [e, this, List.length_map]
   omega
theorem name_len {s : List UInt8} (h : isNameB s = true) : s.length ≤ 100 := by
 unfold isNameB at h
 rw [Bool.and_eq_true, Bool.and_eq_true, decide_eq_true_eq, decide_eq_true_eq] at h
 exact h.1.2
theorem rt_noask {k : Nat} {pa : List UInt8} {fl : List Fg} (hx : rtG[k]? = some (pa, fl)) : ∀ c, ¬ AskP pa c := fun c h => by
 obtain ⟨h1, h2, h3⟩ := rt_asked pa (List.mem_map.2 ⟨_, List.mem_of_getElem? hx, rfl⟩)
 cases h with
 | inv h _ => rw [h1] at h; cases h
 | bal _ h _ _ => rw [h2] at h; cases h
 | hea h => exact h3 h
theorem pre_app (p x : List UInt8) : Lib.hasPrefix (p ++ x) p = true ∧ Lib.trimPrefix (p ++ x) p = x := by
 have h : Lib.hasPrefix (p ++ x) p = true := by unfold Lib.hasPrefix; rw [List.isPrefixOf_iff_prefix]; exact List.prefix_append _ _
 exact ⟨h, by unfold Lib.trimPrefix; rw [if_pos h, drop_app]⟩
theorem index_at {L R : List UInt8} {x : UInt8} (h : x ∉ L) : Lib.index (L ++ x :: R) [x] = (L.length : Int) := by
 refine Lib.index_first (by rw [List.length_append]; omega) ?_ fun j hj => ?_
 · unfold Lib.occAt; rw [drop_app]; simp [List.isPrefixOf]
 · unfold Lib.occAt
   rw [List.drop_append_of_le_length (by omega), List.drop_eq_getElem_cons hj]
   rw [List.cons_append]
   have : x ≠ L[j] := fun e => h (e ▸ List.getElem_mem hj)
   simp [List.isPrefixOf, this]
theorem cut_at {L R : List UInt8} {x : UInt8} (h : x ∉ L) : Lib.cut (L ++ x :: R) [x] = (L, R, true) := by
 unfold Lib.cut
 rw [index_at h, if_pos (by omega), Int.toNat_natCast, List.take_left, show ([x] : List UInt8).length = 1 from rfl]
 rw [show L ++ x :: R = (L ++ [x]) ++ R by simp, show L.length + 1 = (L ++ [x]).length by simp, drop_app]
theorem itoa_num {n : Int} (h0 : -9223372036854775808 ≤ n) (h1 : n ≤ 9223372036854775807) : isNumP (Lib.itoa n) n := ⟨atoi_itoa h0 h1, rfl⟩
theorem ask_back {c : Cd} (hc : c.ok) (hk : c.kind = 13 ∨ c.kind = 14) (hp : (pathF c).2 = true) : (pathF c).1 ≠ heaP ∧ ∃ d, AskP (pathF c).1 d ∧ d.fx = c.fx ∧ ∀ fv, cellsC d fv = cellsC c fv := by
 rcases hk with hk | hk
 · have hk14 : ¬ c.kind = 14 := by omega
   unfold pathF pathC at hp ⊢
   rw [if_neg hk14, if_neg hk14] at hp
   rw [if_neg hk14]
   obtain ⟨n0, n1⟩ := hc.n 11 (by omega) (by omega)
   obtain ⟨p1, p2⟩ := pre_app invP (Lib.itoa (c.n 11))
   obtain ⟨t1, t2, t3, t4, t5, t6, hf, n7, n8, n9, n10, n11, n12, n13⟩ := emptyB_t.1 hp
   refine ⟨fun e => ?_, (zCd 13).putN 11 (c.n 11), .inv p1 (by rw [show [47, 105, 110, 118, 111, 105, 99, 101, 115, 47] ++ Lib.itoa (c.n 11) = invP ++ Lib.itoa (c.n 11) from rfl, p2]; exact itoa_num n0 n1), ?_, fun fv => ?_⟩
   · have e : invP ++ Lib.itoa (c.n 11) = heaP := e
     rw [e, hea_no.1] at p1; cases p1
   · have hf : c.fx = [] := hf
     rw [hf]; rfl
   · have t1 : c.t 1 = [] := t1
     have t2 : c.t 2 = [] := t2
     have t3 : c.t 3 = [] := t3
     have t4 : c.t 4 = [] := t4
     have t5 : c.t 5 = [] := t5
     have t6 : c.t 6 = [] := t6
     have n7 : c.n 7 = 0 := n7
     have n8 : c.n 8 = 0 := n8
     have n9 : c.n 9 = 0 := n9
     have n10 : c.n 10 = 0 := n10
     have n12 : c.n 12 = 0 := n12
     have n13 : c.n 13 = 0 := n13
     unfold cellsC
     rw [t1, t2, t3, t4, t5, t6, n7, n8, n9, n10, n12, n13, hk]
     rfl
 · unfold pathF pathC at hp ⊢
   rw [if_pos hk, if_pos hk, Bool.and_eq_true] at hp
   rw [if_pos hk]
   obtain ⟨hnm, hp⟩ := hp
   obtain ⟨n0, n1⟩ := hc.n 8 (by omega) (by omega)
   have hx : [47, 98, 97, 108, 97, 110, 99, 101, 115, 47] ++ c.t 1 ++ [47] ++ Lib.itoa (c.n 8) = balP ++ (c.t 1 ++ 47 :: Lib.itoa (c.n 8)) := by simp [balP]
   rw [hx]
   obtain ⟨p1, p2⟩ := pre_app balP (c.t 1 ++ 47 :: Lib.itoa (c.n 8))
   have p0 : Lib.hasPrefix (balP ++ (c.t 1 ++ 47 :: Lib.itoa (c.n 8))) invP = false := rfl
   have hn47 : (47 : UInt8) ∉ c.t 1 := fun h => by
    unfold isNameB at hnm
    rw [Bool.and_eq_true, Bool.not_eq_true', List.any_eq_false] at hnm
    exact hnm.2 47 h (by decide)
   have hcut := cut_at (R := Lib.itoa (c.n 8)) hn47
   obtain ⟨t1, t2, t3, t4, t5, t6, hf, n7, n8, n9, n10, n11, n12, n13⟩ := emptyB_t.1 hp
   refine ⟨fun e => ?_, ((zCd 14).putT 1 (c.t 1)).putN 8 (c.n 8), ?_, ?_, fun fv => ?_⟩
   · have e : balP ++ (c.t 1 ++ 47 :: Lib.itoa (c.n 8)) = heaP := e
     rw [e, hea_no.2] at p1; cases p1
   · have hb := AskP.bal (n := c.n 8) p0 p1 (by rw [p2, hcut]; exact itoa_num n0 n1) (by rw [p2, hcut]; exact hnm)
     rw [p2, hcut] at hb
     exact hb
   · have hf : c.fx = [] := hf
     rw [hf]; rfl
   · have t2 : c.t 2 = [] := t2
     have t3 : c.t 3 = [] := t3
     have t4 : c.t 4 = [] := t4
     have t5 : c.t 5 = [] := t5
     have t6 : c.t 6 = [] := t6
     have n7 : c.n 7 = 0 := n7
     have n9 : c.n 9 = 0 := n9
     have n10 : c.n 10 = 0 := n10
     have n11 : c.n 11 = 0 := n11
     have n12 : c.n 12 = 0 := n12
     have n13 : c.n 13 = 0 := n13
     unfold cellsC
     rw [t2, t3, t4, t5, t6, n7, n9, n10, n11, n12, n13, hk]
     rfl
theorem okQ_bind {c : Cd} {me pa s : List UInt8} (hc : c.ok) (hfx : FxB c.fx) (h : okQ c me pa s) : (bindQ me pa s).1 = 0 ∧ (bindQ me pa s).2.fx = c.fx ∧ ∀ fv, cellsC (bindQ me pa s).2 fv = cellsC c fv := by
 rcases h with ⟨rfl, v, r, k, fl, c', h⟩ | ⟨rfl, hk, rfl, hp, rfl⟩
 · rw [bindQ_post (rt_noask h.x) h.x, if_neg (fun h => h rfl)]
   exact (post_bind hc hfx h).2
 · obtain ⟨h1, d, h2, h3, h4⟩ := ask_back hc hk hp
   rw [bindQ_ask h2, if_neg (fun h => h rfl), if_neg (fun h => h rfl), if_neg h1]
   exact ⟨rfl, h3, h4⟩
theorem okQ_one {c : Cd} {me pa s me' pa' s' : List UInt8} (h : okQ c me pa s) (h2 : okQ c me' pa' s') : me' = me ∧ pa' = pa ∧ s' = s := by
 rcases h with ⟨rfl, v, r, k, fl, c', h⟩ | ⟨rfl, hk, rfl, hp, rfl⟩
 · rcases h2 with ⟨rfl, v2, r2, k2, fl2, c2, h2⟩ | ⟨rfl, hk, _⟩
   · have e1 := h.kd
     have e2 := h2.kd
     obtain rfl : k2 = k := by omega
     have hx := h2.x
     rw [h.x] at hx
     injection hx with hx
     injection hx with hx1 hx2
     subst hx1 hx2
     have hq := h2.q
     rw [h.q] at hq
     injection hq with hq
     injection hq with hq1 _
     subst hq1
     exact ⟨rfl, rfl, (pj_det 3 0 v r s r2 s' h.f h.p h2.p).2⟩
   · have hk12 : k < 12 := (List.getElem?_eq_some_iff.1 h.x).1
     have e1 := h.kd
     omega
 · rcases h2 with ⟨_, v2, r2, k2, fl2, c2, h2⟩ | ⟨rfl, _, rfl, _, rfl⟩
   · have hk12 : k2 < 12 := (List.getElem?_eq_some_iff.1 h2.x).1
     have e1 := h2.kd
     omega
   · exact ⟨rfl, rfl, rfl⟩
theorem okQ_noerr {c : Cd} {me pa s : List UInt8} {e : Int} (h : okQ c me pa s) (he : errR c e) : False := by
 rcases h with ⟨rfl, v, r, k, fl, c', h⟩ | ⟨rfl, hk, rfl, hp, rfl⟩
 · obtain ⟨_, h2⟩ := he.2 k pa fl v c' h.x h.kd h.q h.e h.f
   have := pj_len 3 v r s h.p
   have := h.n
   omega
 · rw [he.1 hk] at hp; cases hp
theorem by_txt {b c : Nat} {l : List UInt8} {w : World} (h : (bbA 5 b (bsI l)).φ w) (hc : l.length ≤ c) : ByAt (.slice (some ⟨b, 0, none⟩) l.length c) (bsI l) w := by
 have h2 := bb_by h (c := c) (by rw [bsI_len]; exact hc)
 rwa [bsI_len] at h2
section
variable {P : Program} {n : NN} {a : Act} {L : List (Nat × Value)} {Γ : List Asn} {dst : Option Tmp} {ty : Nat} {pos : String} {af : Array Edge} {g : Option (Nat × Bool)}
theorem e_catT {t t' : TypeId} {x y : Operand} {i j : List UInt8} (hx : ev L x = some (.string (tx i))) (hy : ev L y = some (.string (tx j))) (hb : i.length + j.length ≤ 9223372036854775807) :
 Ex P n a L Γ ⟨dst, .binOp .add t x y t', ty, pos, af, g⟩ (.string (tx (i ++ j))) := by
 rw [← tx_app]
 exact e_cat hx hy (by rw [tx_size, tx_size]; exact hb)
end
end Go.Proofs.YtlccmgeclhdegaaGreatDoor
namespace Go.Proofs.YtlccmgeclhdegaaGreatDoor
open Go.RowKit
def lineB (me pa : List UInt8) : List UInt8 := me ++ [32] ++ pa ++ [10]
def encB (me pa s : List UInt8) : List UInt8 := lineB me pa ++ s
theorem path_len {c : Cd} (hc : c.ok) (hp : (pathF c).2 = true) : (pathF c).1.length ≤ 200 := by
 unfold pathF at hp ⊢
 split
 · rename_i hk
   rw [if_pos hk, Bool.and_eq_true] at hp
   have h1 := name_len hp.1
   obtain ⟨n0, n1⟩ := hc.n 8 (by omega) (by omega)
   have h2 := itoa_len n0 n1
   simp only [List.length_append, List.length_cons, List.length_nil]
   omega
 · obtain ⟨n0, n1⟩ := hc.n 11 (by omega) (by omega)
   have h2 := itoa_len n0 n1
   simp only [List.length_append, List.length_cons, List.length_nil]
   omega
theorem rt_plen : ∀ x ∈ rtG, x.1.length ≤ 20 := by
 intro x hx
 have h : ∀ y ∈ rtG.map (fun x => x.1.length), y ≤ 20 := by decide +kernel
 exact h _ (List.mem_map.2 ⟨x, hx, rfl⟩)
theorem okQ_len {c : Cd} {me pa s : List UInt8} (hc : c.ok) (h : okQ c me pa s) : me.length ≤ 4 ∧ pa.length ≤ 200 ∧ s.length ≤ 32768 := by
 rcases h with ⟨rfl, v, r, k, fl, c', h⟩ | ⟨rfl, hk, rfl, hp, rfl⟩
 · exact ⟨by decide, Nat.le_trans (rt_plen _ (List.mem_of_getElem? h.x)) (by decide), h.n⟩
 · exact ⟨by decide, path_len hc hp, Nat.zero_le _⟩
theorem rq_open2 {c : Cd} (hc : c.ok) (x : RqR c) : ∃ (me pa s : List UInt8) (q : Option Addr) (cp : Nat) (e : Int), rqV c x = .tuple [.agg [.string (tx me), .string (tx pa), .slice q s.length cp, .bool false].toArray, .int .i64 e].toArray ∧
 (∀ w, (rqY c x).φ w → ByAt (.slice q s.length cp) (bsI s) w) ∧ ((e = 0 ∧ okQ c me pa s) ∨ (e ≠ 0 ∧ errR c e ∧ s = [])) := by
 rcases x with ⟨⟨⟨pb, cap⟩, path, s⟩, ⟨v, r, k, fl, c', h⟩, hcp⟩ | ⟨p, h1, h2, h3⟩ | ⟨e, h1, h2⟩
 · exact ⟨postM, path, s, _, cap, 0, rfl, fun w hw => by_txt hw hcp, .inl ⟨rfl, .inl ⟨rfl, v, r, k, fl, c', h⟩⟩⟩
 · exact ⟨getM, p, [], _, _, 0, rfl, fun w _ => .inl ⟨rfl, _, _, rfl⟩, .inl ⟨rfl, .inr ⟨rfl, h1, h2, h3, rfl⟩⟩⟩
 · exact ⟨[], [], [], _, _, e, rfl, fun w _ => .inl ⟨rfl, _, _, rfl⟩, .inr ⟨h1, h2, rfl⟩⟩
def EnR (c : Cd) : Type := { x : (Option Addr × Nat) × List UInt8 × List UInt8 × List UInt8 // okQ c x.2.1 x.2.2.1 x.2.2.2 ∧ (encB x.2.1 x.2.2.1 x.2.2.2).length ≤ x.1.2 } ⊕ { e : Int // e ≠ 0 ∧ errR c e }
def enV (c : Cd) : EnR c → Value
 | .inl x => .tuple [.slice x.1.1.1 (encB x.1.2.1 x.1.2.2.1 x.1.2.2.2).length x.1.1.2, .int .i64 0].toArray
 | .inr e => .tuple [.slice none 0 0, .int .i64 e.1].toArray
def enY (c : Cd) : EnR c → Asn
 | .inl x => bmA (.slice x.1.1.1 (encB x.1.2.1 x.1.2.2.1 x.1.2.2.2).length x.1.1.2) (bsI (encB x.1.2.1 x.1.2.2.1 x.1.2.2.2))
 | .inr _ => none_
set_option maxRecDepth 100000 in
theorem fEncode_N (W0 : World) (hG : Gj W0) (c : Cd) (hc : c.ok) (fa : Option Addr) (fc : Nat) (hF : FctAt W0 fa c.fx) (w0 : World) (hold : oldφ W0 w0)
 (hb : ∀ (k : Nat) (x : List UInt8 × List Fg) (v : JV) (c' : Cd), rtG[k]? = some x → reqL (fdsOf x.2) c [] [] = some (v, c') → goodV 3 v ∧ smV 3 v ∧ lenJ 3 v ≤ 9000000) :
 NewC Tryz.prog 18 [.agg (cellsC c (.slice fa c.fx.length fc)).toArray] w0 (enV c) (enY c) := by
 refine c_enter [(0, .agg (cellsC c (.slice fa c.fx.length fc)).toArray)] [oldA W0] noB Tryz.func18 rfl Tryz.ntmps18 ⟨rfl, trivial⟩ rfl (okC (old_ok hold) okN) dis1 (mineC rfl mineN) ?_
 intro a hS
 refine cS (cR ?_)
 refine L_op (s_boxA hS rfl rfl ?_); clear hS a; intro a w b1 hS
 refine Rn hS (.a rfl <| .a rfl .n) ?_; clear hS a; intro a hS
 refine nL (nT (cS (cR ?_)))
 refine L_e hS (e_loadA (cs := cellsC c (.slice fa c.fx.length fc)) rfl (by repeat constructor) ty_st24 ty_sz24 rfl) rfl ?_; clear hS a; intro a hS
 refine L_op (s_callN hS (.cons rfl .nil) cf9 rfl (fRequest_N W0 hG c hc fa fc hF _ (hS.gg (X := oldA W0)) hb) ?_); clear hS a; intro x8 a w hS
 obtain ⟨me, pa, s, q, cp, e, hrv, hby, hrc⟩ := rq_open2 hc x8
 rw [hrv] at hS
 refine Rn hS (.m rfl <| .c (e_extract rfl rfl) <| .c (e_extract rfl rfl) .n) ?_; clear hS a; intro a hS
 refine L_op (s_alloc hS ty_z29 rfl ?_); clear hS a; intro a w b4 hS
 refine L_op (s_storeA hS rfl rfl ty_sz29 (by repeat constructor) (by rfl) (by rfl) (by rfl) ?_); clear hS; intro w hS
 refine L_e hS (e_assign rfl) rfl ?_; clear hS a; intro a hS
 refine nL (nT (cS (cS (cR ?_))))
 refine Rn hS (.m rfl <| .c (e_bin rfl rfl rfl) .n) ?_; clear hS a; intro a hS
 refine nL (nT ?_)
 refine c_ifD hS rfl (fun hc12 => ?_) (fun hc12 => ?_)
 ·
  refine cS (cR ?_)
  refine Rn hS (.m rfl <| .a rfl <| .a rfl .n) ?_; clear hS a; intro a hS
  refine nL (nT (wp_ret (r_then ?_)))
  refine c_retN hS Tryz.results18 (.cons (.tmp rfl) (.cons (.tmp rfl) .nil)) rfl ?_
  rcases hrc with ⟨h, _⟩ | ⟨_, h, _⟩
  · exact absurd h hc12
  · exact ⟨.inr ⟨e, hc12, h⟩, rfl, hS.chg, none_ok _, fun b h => h.elim⟩
 obtain ⟨rfl, hq⟩ : e = 0 ∧ okQ c me pa s := by
  rcases hrc with h | ⟨h, _⟩
  · exact h
  · exact absurd h hc12
 obtain ⟨l1, l2, l3⟩ := okQ_len hc hq
 have hll : (lineB me pa).length = me.length + 1 + pa.length + 1 := by unfold lineB; simp only [List.length_append, List.length_cons, List.length_nil]
 have hlne : bsI (lineB me pa) ≠ [] := fun e => by have := congrArg List.length e; rw [bsI_len, hll] at this; simp at this
 refine wS (nT (cS (cR ?_)))
 refine Rn hS (.c (e_fa0 rfl ty_fo29_0) <| .c (e_load rfl (by repeat constructor) ty_sc9 (by rfl)) <| .c (e_catT (j := [32]) rfl rfl (by simp only [List.length_cons, List.length_nil]; omega)) <| .c (e_fa0 rfl ty_fo29_1) <| .c (e_load rfl (by repeat constructor) ty_sc9 (by rfl)) <| .c (e_catT rfl rfl (by simp only [List.length_append, List.length_cons, List.length_nil]; omega)) <| .c (e_catT (j := [10]) rfl rfl (by simp only [List.length_append, List.length_cons, List.length_nil]; omega)) .n) ?_; clear hS a; intro a hS
 rw [show me ++ [32] ++ pa ++ [10] = lineB me pa from rfl] at hS
 refine L_op (s_toBytesC hS rfl (by rw [tx_size, hll]; omega) Tryz.underlying9 ty_sl27 ty_u5 rfl ?_)
 clear hS a; intro b21 c21 a w hc21 hm21 hS
 rw [show bytesI (tx (lineB me pa)) = bsI (lineB me pa) from rfl] at hS hc21
 refine Rn hS (.c (e_fa0 rfl ty_fo29_2) <| .c (e_load rfl (by repeat constructor) ty_sc27 (by rfl)) .n) ?_; clear hS a; intro a hS
 refine L_op (s_appendC (l := bsI (lineB me pa)) (ys := bsI s) hS rfl rfl ty_sl27 ty_sz5 ty_by5 ty_z5 rfl (by repeat constructor) hm21 hc21 (bsI_len s) (hby _ (hS.gg (X := rqY c x8))) hlne (by rw [bsI_len, hll]; omega) (fun _ => (by repeat constructor)) ?_)
 clear hS a; intro q24 c24 a w hc24 hS
 have eb : bsI (lineB me pa) ++ bsI s = bsI (encB me pa s) := (List.map_append ..).symm
 have el : (bsI (lineB me pa)).length + s.length = (encB me pa s).length := by rw [bsI_len]; exact (List.length_append ..).symm
 rw [eb, el] at hS
 rw [el] at hc24
 refine Rn hS (.a rfl <| .a rfl .n) ?_; clear hS a; intro a hS
 refine nL (nT (wp_ret ?_))
 refine c_retN hS Tryz.results18 (.cons (.tmp rfl) (.cons (.tmp rfl) .nil)) rfl ?_
 exact ⟨.inl ⟨((q24, c24), me, pa, s), hq, hc24⟩, rfl, hS.chg, hS.ok (bmA (.slice q24 (encB me pa s).length c24) (bsI (encB me pa s))) (by repeat constructor), fun b hb => (hS.mine (bmA (.slice q24 (encB me pa s).length c24) (bsI (encB me pa s))) (by repeat constructor) rfl b hb).resolve_right id⟩
section
variable {α : Type} {l : List α} {k wn : Nat} {x : α}
end
theorem bn_err {r : Int × Cd} (x : BnR r) {e : Int} (h : r.1 = e) (he : e ≠ 0) : bnV r x = .tuple [.agg (cellsC (zCd 0) (.slice none 0 0)).toArray, .int .i64 e].toArray ∧ bnY r x = none_ := by
 rcases x with ⟨_, h2⟩ | _
 · exact absurd (h.symm.trans h2) he
 · exact ⟨by show Value.tuple [.agg (cellsC (zCd 0) (.slice none 0 0)).toArray, .int .i64 r.1].toArray = _; rw [h], rfl⟩
section
variable {F : Nat → Prop} {nb no nc lb lo lc : Nat} {ns : List (List UInt8)} {ks : List JX} {w : World}
end
section
variable {rs : List (List UInt8 × JV)} {ks : List JX} {ns : List (List UInt8)} {wn : Nat}
end
end Go.Proofs.YtlccmgeclhdegaaGreatDoor
namespace Go.Proofs.YtlccmgeclhdegaaGreatDoor
open Go.RowKit
theorem facts_step {fs : List Fct} {k : Nat} {x : Fct} (h : fs[k]? = some x) : (fs.take (k + 1)).flatMap encF = (fs.take k).flatMap encF ++ (encF x ++ []) := by
 rw [take_next h, List.flatMap_append]; rfl
set_option maxHeartbeats 1000000 in
set_option maxRecDepth 100000 in
theorem frFacts11_N (W0 : World) (fa : Option Addr) (fc : Nat) (fs : List Fct) (hn : fs.length ≤ 1000) (hF : FctC W0 fa fs) (w0 : World) (ho : oldφ W0 w0) :
 NewC Tryz.prog 47 [.slice fa fs.length fc] w0 (fun v : Option Addr × Nat => .slice v.1 fs.length v.2) (fun v => ownA 139 4 (.slice v.1 fs.length v.2) fs.length (fs.flatMap encF)) := by
 refine c_enter [(0, .slice fa fs.length fc)] [oldA W0] noB Tryz.func47 rfl Tryz.ntmps47 ⟨rfl, trivial⟩ rfl (okC (old_ok ho) okN) dis1 (mineC rfl mineN) ?_
 intro a hS
 refine cS (cR ?_)
 refine L_e hS (e_assign rfl) rfl ?_; clear hS a; intro a hS
 refine nL (nT (cS (cR ?_)))
 refine L_e hS (e_assign rfl) rfl ?_; clear hS a; intro a hS
 refine nL (nT (cS (cS (cR ?_))))
 refine L_e hS (e_assign rfl) rfl ?_; clear hS a; intro a hS
 refine nL (nT (wB ?_))
 skip
 refine c_loop (γ := Nat × Value) (fun G a w => St 36 noB w0 a w [(4, .int .i64 (G.1 : Int)), (3, G.2), (0, .slice fa fs.length fc)] [ownA 139 4 G.2 G.1 ((fs.take G.1).flatMap encF), oldA W0] ∧ G.1 ≤ fs.length) (fun G => fs.length - G.1) (0, .slice none 0 0) ⟨((hS.own_nil 139 4).slots (by repeat (first | exact trivial | refine ⟨rfl, ?_⟩))).pick (by repeat (first | exact Pick.nil | (refine Pick.cons (by repeat (first | exact Rem.head | apply Rem.tail)) ?_))), Nat.zero_le _⟩ ?_
 clear hS a; intro G a w hI
 obtain ⟨k, lv⟩ := G
 obtain ⟨hS, hk⟩ := hI
 simp only at hS hk
 obtain ⟨ql, cl, rfl⟩ := own_slice (hS.gg (X := ownA 139 4 lv k ((fs.take k).flatMap encF)))
 refine cS (cS (cR ?_))
 refine Rn hS (.m rfl <| .m rfl <| .c (e_len rfl rfl ty_sl22) <| .c (e_bin rfl rfl rfl) .n) ?_; clear hS a; intro a hS
 refine nL (nT ?_)
 refine c_ifD hS rfl (fun hc8 => ?_) (fun hc8 => ?_)
 ·
  have hkn : k < fs.length := by omega
  obtain ⟨x, hx⟩ : ∃ x, fs[k]? = some x := ⟨_, List.getElem?_eq_getElem hkn⟩
  obtain ⟨nb, no, rfl, hcell⟩ := hF.c (fun e => by rw [e] at hkn; exact absurd hkn (Nat.not_lt_zero _))
  refine wS (nT (cS (wB ?_)))
  refine c_drawS [] (by kernel_rfl) hS (sub_cons (X := oldA W0) (by repeat constructor) sub_nil) ?_; clear hS; intro w hS
  simp only [List.length_cons, List.length_nil, Nat.zero_add, Nat.reduceAdd, List.replicate]
  refine Rz hS (sub_cons (by repeat constructor) sub_nil) (.o 0 (tf 1 24) rfl wN (e_move rfl) rfl <| .o 1 (tf 2 23) rfl wN (e_move rfl) rfl <| .o 2 (tf 3 22) rfl wN (e_move rfl) rfl <| .o 3 (tf 4 21) rfl wN (e_ixN rfl rfl ty_sl22 ty_sz160 (by omega)) rfl <| .o 4 (tf 5 20) rfl wN (e_faK rfl ty_fo160_0) rfl <| .y 5 (tf 6 19) rfl wN (e_loadC (v := .string (tx x.nm)) rfl ty_sc9 (fun w hh => old_cell (hh (oldA W0) (by repeat constructor)) (hcell k x hx 0 _ rfl))) rfl <| .o 6 (tf 7 18) rfl wN (e_move rfl) rfl <| .o 7 (tf 8 17) rfl wN (e_move rfl) rfl <| .o 8 (tf 9 16) rfl wN (e_ixN rfl rfl ty_sl22 ty_sz160 (by omega)) rfl <| .o 9 (tf 10 15) rfl wN (e_faK rfl ty_fo160_1) rfl <| .y 10 (tf 11 14) rfl wN (e_loadC (v := .int .i64 x.ty) rfl ty_sc3 (fun w hh => old_cell (hh (oldA W0) (by repeat constructor)) (hcell k x hx 1 _ rfl))) rfl <| .o 11 (tf 12 13) rfl wN (e_move rfl) rfl <| .o 12 (tf 13 12) rfl wN (e_move rfl) rfl <| .o 13 (tf 14 11) rfl wN (e_ixN rfl rfl ty_sl22 ty_sz160 (by omega)) rfl <| .o 14 (tf 15 10) rfl wN (e_faK rfl ty_fo160_2) rfl <| .y 15 (tf 16 9) rfl wN (e_loadC (v := .int .i64 x.n) rfl ty_sc3 (fun w hh => old_cell (hh (oldA W0) (by repeat constructor)) (hcell k x hx 2 _ rfl))) rfl <| .o 16 (tf 17 8) rfl wN (e_move rfl) rfl <| .o 17 (tf 18 7) rfl wN (e_move rfl) rfl <| .o 18 (tf 19 6) rfl wN (e_ixN rfl rfl ty_sl22 ty_sz160 (by omega)) rfl <| .o 19 (tf 20 5) rfl wN (e_faK rfl ty_fo160_3) rfl <| .y 20 (tf 21 4) rfl wN (e_loadC (v := .string (tx x.s)) rfl ty_sc9 (fun w hh => old_cell (hh (oldA W0) (by repeat constructor)) (hcell k x hx 3 _ rfl))) rfl <| .o 21 (tf 22 3) rfl wN (e_build ty_z139 ty_pl139 (.one rfl rfl rfl (by repeat constructor) (.one rfl rfl rfl (by repeat constructor) (.one rfl rfl rfl (by repeat constructor) (.one rfl rfl rfl (by repeat constructor) .nil))))) rfl .n) ?_; clear hS a; intro a hS
  refine Zo 22 (tf 23 2) hS rfl wN rfl (s_bslice hS ty_sl46 ty_sz139 ty_z139 rfl rfl rfl rfl (.agg rfl rfl .nil) rfl ?_); clear hS a; intro a w b33 hS
  refine Z_and hS (sub_cons (by repeat constructor) sub_nil) ?_
  refine Zo 23 (tf 24 1) hS rfl wN rfl (s_append1 hS rfl rfl ty_sl46 ty_sz139 ty_by139 ty_z139 rfl rfl rfl (by repeat constructor) (by repeat constructor) (by rfl) (by rfl) (fun _ => (by repeat constructor)) (by omega) ?_); clear hS a; intro v34 a w hv34 hS
  obtain ⟨q34, c34, rfl⟩ := own_slice (hS.gg (X := ownA 139 4 v34 (k + 1) _))
  refine Z_and hS (sub_cons (by repeat constructor) sub_nil) ?_
  refine Zt0 24 (tf 25 0) hS rfl want_none (e_assign rfl) rfl (by kernel_rfl) rfl ?_; clear hS a; intro a hS
  refine Z_done (by kernel_rfl) ?_
  refine n_block (nT (cR ?_))
  refine Rn hS (.m rfl <| .c (e_binN rfl rfl rfl (by omega)) <| .a rfl .n) ?_; clear hS a; intro a hS
  refine nL ?_
  have e := facts_step hx
  unfold encF at e
  refine ⟨(k + 1, .slice q34 (k + 1) c34), by show fs.length - (k + 1) < fs.length - k; omega, ?_, hkn⟩
  show St _ _ _ _ _ _ [ownA _ _ _ _ ((fs.take (k + 1)).flatMap encF), _]
  unfold encF
  rw [e]
  exact (hS.slots (by repeat (first | exact trivial | refine ⟨rfl, ?_⟩))).pick (by repeat (first | exact Pick.nil | (refine Pick.cons (by repeat (first | exact Rem.head | apply Rem.tail)) ?_)))
 obtain rfl : k = fs.length := by omega
 rw [List.take_length] at hS
 refine wp_exit ?_
 refine x_then (x_then (x_hit ?_))
 refine nT (cS (cR ?_))
 refine Rn hS (.m rfl <| .a rfl .n) ?_; clear hS a; intro a hS
 refine nL (nT (wp_ret ?_))
 refine c_ret1 hS Tryz.results47 (.tmp rfl) ?_
 exact ⟨(ql, cl), rfl, hS.chg, hS.ok (ownA 139 4 (.slice ql fs.length cl) fs.length (fs.flatMap encF)) (by repeat constructor), fun b hb => (hS.mine (ownA 139 4 (.slice ql fs.length cl) fs.length (fs.flatMap encF)) (by repeat constructor) rfl b hb).resolve_right id⟩
set_option maxRecDepth 100000 in
theorem frCommand_N (W0 : World) (fa : Option Addr) (fc : Nat) (c : Cd) (hn : c.fx.length ≤ 1000) (hF : FctC W0 fa c.fx) (w0 : World) (ho : oldφ W0 w0) :
 NewC Tryz.prog 16 [.agg (cellsC c (.slice fa c.fx.length fc)).toArray] w0 (fun v : Option Addr × Nat => .agg (cellsC c (.slice v.1 c.fx.length v.2)).toArray) (fun v => ownA 139 4 (.slice v.1 c.fx.length v.2) c.fx.length (c.fx.flatMap encF)) := by
 refine c_enter [(0, .agg (cellsC c (.slice fa c.fx.length fc)).toArray)] [oldA W0] noB Tryz.func16 rfl Tryz.ntmps16 ⟨rfl, trivial⟩ rfl (okC (old_ok ho) okN) dis1 (mineC rfl mineN) ?_
 intro a hS
 refine cS (cR ?_)
 refine L_op (s_boxA hS rfl rfl ?_); clear hS a; intro a w b1 hS
 refine L_op (s_alloc hS ty_z48 rfl ?_); clear hS a; intro a w b2 hS
 refine nL (nT (cS ?_))
 refine c_drawS [32] (by kernel_rfl) hS (sub_cons (X := .blk b1 (cellsC c (.slice fa c.fx.length fc)) 24) (by repeat constructor) (sub_cons (X := oldA W0) (by repeat constructor) sub_nil)) ?_; clear hS; intro w hS
 simp only [List.length_cons, List.length_nil, Nat.zero_add, Nat.reduceAdd, List.replicate]
 refine Rz hS (sub_cons (by repeat constructor) (sub_cons (by repeat constructor) sub_nil)) (.o 0 (tf 1 32) rfl wN (e_fa0 rfl ty_fo24_0) rfl <| .y 1 (tf 2 31) rfl wN (e_load rfl (by repeat constructor) ty_sc3 (by rfl)) rfl <| .o 2 (tf 3 30) rfl wN (e_fa0 rfl ty_fo24_1) rfl <| .y 3 (tf 4 29) rfl wN (e_load rfl (by repeat constructor) ty_sc9 (by rfl)) rfl <| .o 4 (tf 5 28) rfl wN (e_fa0 rfl ty_fo24_2) rfl <| .y 5 (tf 6 27) rfl wN (e_load rfl (by repeat constructor) ty_sc9 (by rfl)) rfl <| .o 6 (tf 7 26) rfl wN (e_fa0 rfl ty_fo24_3) rfl <| .y 7 (tf 8 25) rfl wN (e_load rfl (by repeat constructor) ty_sc9 (by rfl)) rfl <| .o 8 (tf 9 24) rfl wN (e_fa0 rfl ty_fo24_4) rfl <| .y 9 (tf 10 23) rfl wN (e_load rfl (by repeat constructor) ty_sc9 (by rfl)) rfl <| .o 10 (tf 11 22) rfl wN (e_fa0 rfl ty_fo24_5) rfl <| .y 11 (tf 12 21) rfl wN (e_load rfl (by repeat constructor) ty_sc9 (by rfl)) rfl <| .o 12 (tf 13 20) rfl wN (e_fa0 rfl ty_fo24_6) rfl <| .y 13 (tf 14 19) rfl wN (e_load rfl (by repeat constructor) ty_sc9 (by rfl)) rfl <| .o 14 (tf 15 18) rfl wN (e_fa0 rfl ty_fo24_7) rfl <| .y 15 (tf 16 17) rfl wN (e_load rfl (by repeat constructor) ty_sc3 (by rfl)) rfl <| .o 16 (tf 17 16) rfl wN (e_fa0 rfl ty_fo24_8) rfl <| .y 17 (tf 18 15) rfl wN (e_load rfl (by repeat constructor) ty_sc3 (by rfl)) rfl <| .o 18 (tf 19 14) rfl wN (e_fa0 rfl ty_fo24_9) rfl <| .y 19 (tf 20 13) rfl wN (e_load rfl (by repeat constructor) ty_sc3 (by rfl)) rfl <| .o 20 (tf 21 12) rfl wN (e_fa0 rfl ty_fo24_10) rfl <| .y 21 (tf 22 11) rfl wN (e_load rfl (by repeat constructor) ty_sc3 (by rfl)) rfl <| .o 22 (tf 23 10) rfl wN (e_fa0 rfl ty_fo24_11) rfl <| .y 23 (tf 24 9) rfl wN (e_load rfl (by repeat constructor) ty_sc3 (by rfl)) rfl <| .o 24 (tf 25 8) rfl wN (e_fa0 rfl ty_fo24_12) rfl <| .y 25 (tf 26 7) rfl wN (e_load rfl (by repeat constructor) ty_sc3 (by rfl)) rfl <| .o 26 (tf 27 6) rfl wN (e_fa0 rfl ty_fo24_13) rfl <| .y 27 (tf 28 5) rfl wN (e_load rfl (by repeat constructor) ty_sc3 (by rfl)) rfl <| .o 28 (tf 29 4) rfl wN (e_fa0 rfl ty_fo24_14) rfl <| .y 29 (tf 30 3) rfl wN (e_load rfl (by repeat constructor) ty_sc22 (by rfl)) rfl .n) ?_; clear hS a; intro a hS
 refine Zo 30 (tf 31 2) hS rfl wN rfl (s_callN hS (.cons rfl .nil) cf47 rfl (frFacts11_N W0 fa fc c.fx hn hF _ (hS.gg (X := oldA W0))) ?_); clear hS a; intro x33 a w hS
 obtain ⟨qv, cv⟩ := x33
 refine Z_and hS (sub_cons (by repeat constructor) (sub_cons (by repeat constructor) sub_nil)) ?_
 refine Zt0 31 (tf 32 1) hS rfl want_none (e_build ty_z48 ty_pl48 (.one rfl rfl rfl (by repeat constructor) (.one rfl rfl rfl (by repeat constructor) (.one rfl rfl rfl (by repeat constructor) (.one rfl rfl rfl (by repeat constructor) (.one rfl rfl rfl (by repeat constructor) (.one rfl rfl rfl (by repeat constructor) (.one rfl rfl rfl (by repeat constructor) (.one rfl rfl rfl (by repeat constructor) (.one rfl rfl rfl (by repeat constructor) (.one rfl rfl rfl (by repeat constructor) (.one rfl rfl rfl (by repeat constructor) (.one rfl rfl rfl (by repeat constructor) (.one rfl rfl rfl (by repeat constructor) (.one rfl rfl rfl (by repeat constructor) (.one rfl rfl rfl (by repeat constructor) .nil)))))))))))))))) rfl (by kernel_rfl) rfl ?_; clear hS a; intro a hS
 refine Zo 32 (tf 33 0) hS rfl wN rfl (s_storeA hS rfl rfl ty_sz48 (by repeat constructor) (by rfl) (by rfl) (by rfl) ?_); clear hS; intro w hS
 refine Z_last (by simp) ?_
 refine Z_done (by kernel_rfl) ?_
 refine nT (wp_ret ?_)
 refine c_ret1 hS Tryz.results16 (.cellA rfl (by repeat constructor) ty_st48 ty_sz48 (by rfl)) ?_
 exact ⟨(qv, cv), rfl, hS.chg, hS.ok (ownA 139 4 (.slice qv c.fx.length cv) c.fx.length (c.fx.flatMap encF)) (by repeat constructor), fun b hb => (hS.mine (ownA 139 4 (.slice qv c.fx.length cv) c.fx.length (c.fx.flatMap encF)) (by repeat constructor) rfl b hb).resolve_right id⟩
set_option maxHeartbeats 1000000 in
set_option maxRecDepth 100000 in
theorem frSame11_P (W0 : World) (fa wa : Option Addr) (fc wc : Nat) (fs : List Fct) (hn : fs.length ≤ 1000) (hF : FctC W0 fa fs) (hW : FctC W0 wa fs) (w0 : World) (ho : oldφ W0 w0) : PureC Tryz.prog 46 [.slice fa fs.length fc, .slice wa fs.length wc] w0 (.bool true) := by
 refine c_enter [(0, .slice fa fs.length fc), (1, .slice wa fs.length wc)] [oldA W0] noB Tryz.func46 rfl Tryz.ntmps46 ⟨rfl, rfl, trivial⟩ rfl (okC (old_ok ho) okN) dis1 (mineC rfl mineN) ?_
 intro a hS
 refine cS (cR ?_)
 refine L_e hS (e_assign rfl) rfl ?_; clear hS a; intro a hS
 refine nL (nT (cS (cS (cR ?_))))
 refine Rn hS (.m rfl <| .c (e_len rfl rfl ty_sl22) <| .m rfl <| .c (e_len rfl rfl ty_sl46) <| .c (e_bin rfl rfl rfl) .n) ?_; clear hS a; intro a hS
 refine nL (nT ?_)
 replace hS := hS.is (t := 10) (c := false) rfl (decide_eq_false (fun h => h rfl))
 refine c_if_f hS rfl ?_
 refine wS (nT (cS (cS (cR ?_))))
 refine L_e hS (e_assign rfl) rfl ?_; clear hS a; intro a hS
 refine nL (nT (wB ?_))
 skip
 refine c_loop (γ := Nat) (fun k a w => St 67 noB w0 a w [(5, .int .i64 (k : Int)), (0, .slice fa fs.length fc), (1, .slice wa fs.length wc)] [oldA W0] ∧ k ≤ fs.length) (fun k => fs.length - k) 0 ⟨hS.slots (by repeat (first | exact trivial | refine ⟨rfl, ?_⟩)), Nat.zero_le _⟩ ?_
 clear hS a; intro k a w hI
 obtain ⟨hS, hk⟩ := hI
 refine cS (cS (cR ?_))
 refine Rn hS (.m rfl <| .m rfl <| .c (e_len rfl rfl ty_sl22) <| .c (e_bin rfl rfl rfl) .n) ?_; clear hS a; intro a hS
 refine nL (nT ?_)
 refine c_ifD hS rfl (fun hc14 => ?_) (fun hc14 => ?_)
 ·
  have hkn : k < fs.length := by omega
  obtain ⟨x, hx⟩ : ∃ x, fs[k]? = some x := ⟨_, List.getElem?_eq_getElem hkn⟩
  obtain ⟨nb, no, rfl, hcell⟩ := hF.c (fun e => by rw [e] at hkn; exact absurd hkn (Nat.not_lt_zero _))
  obtain ⟨mb, mo, rfl, wcell⟩ := hW.c (fun e => by rw [e] at hkn; exact absurd hkn (Nat.not_lt_zero _))
  refine wS (nT (cS (wB (cS ?_))))
  refine c_drawS [] (by kernel_rfl) hS (sub_cons (X := oldA W0) (by repeat constructor) sub_nil) ?_; clear hS; intro w hS
  simp only [List.length_cons, List.length_nil, Nat.zero_add, Nat.reduceAdd, List.replicate]
  refine Rz hS (sub_cons (by repeat constructor) sub_nil) (.o 0 (tf 1 49) rfl wN (e_move rfl) rfl <| .o 1 (tf 2 48) rfl wN (e_move rfl) rfl <| .o 2 (tf 3 47) rfl wN (e_ixN rfl rfl ty_sl22 ty_sz160 (by omega)) rfl <| .o 3 (tf 4 46) rfl wN (e_faK rfl ty_fo160_0) rfl <| .y 4 (tf 5 45) rfl wN (e_loadC (v := .string (tx x.nm)) rfl ty_sc9 (fun w hh => old_cell (hh (oldA W0) (by repeat constructor)) (hcell k x hx 0 _ rfl))) rfl <| .o 5 (tf 6 44) rfl wN (e_move rfl) rfl <| .o 6 (tf 7 43) rfl wN (e_move rfl) rfl <| .o 7 (tf 8 42) rfl wN (e_ixN rfl rfl ty_sl46 ty_sz139 (by omega)) rfl <| .o 8 (tf 9 41) rfl wN (e_faK rfl ty_fo139_0) rfl <| .y 9 (tf 10 40) rfl wN (e_loadC (v := .string (tx x.nm)) rfl ty_sc9 (fun w hh => old_cell (hh (oldA W0) (by repeat constructor)) (wcell k x hx 0 _ rfl))) rfl <| .o 10 (tf 11 39) rfl wN (e_binS rfl rfl rfl) rfl <| .o 11 (tf 12 38) rfl wN (e_move rfl) rfl .n) ?_; clear hS a; intro a hS
  replace hS := hS.is (t := 28) (c := false) rfl (decide_eq_false (fun h => h rfl))
  refine Rz hS (sub_cons (by repeat constructor) sub_nil) (.o 12 (tf 13 37) rfl (want_go rfl rfl) (e_move rfl) rfl <| .o 13 (tf 14 36) rfl (want_go rfl rfl) (e_move rfl) rfl <| .o 14 (tf 15 35) rfl (want_go rfl rfl) (e_ixN rfl rfl ty_sl22 ty_sz160 (by omega)) rfl <| .o 15 (tf 16 34) rfl (want_go rfl rfl) (e_faK rfl ty_fo160_1) rfl <| .y 16 (tf 17 33) rfl (want_go rfl rfl) (e_loadC (v := .int .i64 x.ty) rfl ty_sc3 (fun w hh => old_cell (hh (oldA W0) (by repeat constructor)) (hcell k x hx 1 _ rfl))) rfl <| .o 17 (tf 18 32) rfl (want_go rfl rfl) (e_move rfl) rfl <| .o 18 (tf 19 31) rfl (want_go rfl rfl) (e_move rfl) rfl <| .o 19 (tf 20 30) rfl (want_go rfl rfl) (e_ixN rfl rfl ty_sl46 ty_sz139 (by omega)) rfl <| .o 20 (tf 21 29) rfl (want_go rfl rfl) (e_faK rfl ty_fo139_1) rfl <| .y 21 (tf 22 28) rfl (want_go rfl rfl) (e_loadC (v := .int .i64 x.ty) rfl ty_sc3 (fun w hh => old_cell (hh (oldA W0) (by repeat constructor)) (wcell k x hx 1 _ rfl))) rfl <| .o 22 (tf 23 27) rfl (want_go rfl rfl) (e_bin rfl rfl rfl) rfl <| .o 23 (tf 24 26) rfl wN (e_pick_f rfl rfl) rfl <| .o 24 (tf 25 25) rfl wN (e_move rfl) rfl .n) ?_; clear hS a; intro a hS
  replace hS := hS.is (t := 41) (c := false) rfl (decide_eq_false (fun h => h rfl))
  refine Rz hS (sub_cons (by repeat constructor) sub_nil) (.o 25 (tf 26 24) rfl (want_go rfl rfl) (e_move rfl) rfl <| .o 26 (tf 27 23) rfl (want_go rfl rfl) (e_move rfl) rfl <| .o 27 (tf 28 22) rfl (want_go rfl rfl) (e_ixN rfl rfl ty_sl22 ty_sz160 (by omega)) rfl <| .o 28 (tf 29 21) rfl (want_go rfl rfl) (e_faK rfl ty_fo160_2) rfl <| .y 29 (tf 30 20) rfl (want_go rfl rfl) (e_loadC (v := .int .i64 x.n) rfl ty_sc3 (fun w hh => old_cell (hh (oldA W0) (by repeat constructor)) (hcell k x hx 2 _ rfl))) rfl <| .o 30 (tf 31 19) rfl (want_go rfl rfl) (e_move rfl) rfl <| .o 31 (tf 32 18) rfl (want_go rfl rfl) (e_move rfl) rfl <| .o 32 (tf 33 17) rfl (want_go rfl rfl) (e_ixN rfl rfl ty_sl46 ty_sz139 (by omega)) rfl <| .o 33 (tf 34 16) rfl (want_go rfl rfl) (e_faK rfl ty_fo139_2) rfl <| .y 34 (tf 35 15) rfl (want_go rfl rfl) (e_loadC (v := .int .i64 x.n) rfl ty_sc3 (fun w hh => old_cell (hh (oldA W0) (by repeat constructor)) (wcell k x hx 2 _ rfl))) rfl <| .o 35 (tf 36 14) rfl (want_go rfl rfl) (e_bin rfl rfl rfl) rfl <| .o 36 (tf 37 13) rfl wN (e_pick_f rfl rfl) rfl <| .o 37 (tf 38 12) rfl wN (e_move rfl) rfl .n) ?_; clear hS a; intro a hS
  replace hS := hS.is (t := 54) (c := false) rfl (decide_eq_false (fun h => h rfl))
  refine Rz hS (sub_cons (by repeat constructor) sub_nil) (.o 38 (tf 39 11) rfl (want_go rfl rfl) (e_move rfl) rfl <| .o 39 (tf 40 10) rfl (want_go rfl rfl) (e_move rfl) rfl <| .o 40 (tf 41 9) rfl (want_go rfl rfl) (e_ixN rfl rfl ty_sl22 ty_sz160 (by omega)) rfl <| .o 41 (tf 42 8) rfl (want_go rfl rfl) (e_faK rfl ty_fo160_3) rfl <| .y 42 (tf 43 7) rfl (want_go rfl rfl) (e_loadC (v := .string (tx x.s)) rfl ty_sc9 (fun w hh => old_cell (hh (oldA W0) (by repeat constructor)) (hcell k x hx 3 _ rfl))) rfl <| .o 43 (tf 44 6) rfl (want_go rfl rfl) (e_move rfl) rfl <| .o 44 (tf 45 5) rfl (want_go rfl rfl) (e_move rfl) rfl <| .o 45 (tf 46 4) rfl (want_go rfl rfl) (e_ixN rfl rfl ty_sl46 ty_sz139 (by omega)) rfl <| .o 46 (tf 47 3) rfl (want_go rfl rfl) (e_faK rfl ty_fo139_3) rfl <| .y 47 (tf 48 2) rfl (want_go rfl rfl) (e_loadC (v := .string (tx x.s)) rfl ty_sc9 (fun w hh => old_cell (hh (oldA W0) (by repeat constructor)) (wcell k x hx 3 _ rfl))) rfl <| .o 48 (tf 49 1) rfl (want_go rfl rfl) (e_binS rfl rfl rfl) rfl <| .o 49 (tf 50 0) rfl wN (e_pick_f rfl rfl) rfl .n) ?_; clear hS a; intro a hS
  refine Z_done (by kernel_rfl) ?_
  refine nT ?_
  replace hS := hS.is (t := 66) (c := false) rfl (decide_eq_false (fun h => h rfl))
  refine c_if_f hS rfl ?_
  refine wS (n_block (nT (cR ?_)))
  refine Rn hS (.m rfl <| .c (e_binN rfl rfl rfl (by omega)) <| .a rfl .n) ?_; clear hS a; intro a hS
  refine nL ?_
  exact ⟨k + 1, by omega, hS.slots (by repeat (first | exact trivial | refine ⟨rfl, ?_⟩)), hkn⟩
 refine wp_exit ?_
 refine x_then (x_then (x_hit ?_))
 refine nT (cS (cR ?_))
 refine L_e hS (e_assign rfl) rfl ?_; clear hS a; intro a hS
 refine nL (nT (wp_ret ?_))
 refine c_ret1 hS Tryz.results46 (.tmp rfl) ?_
 exact ⟨rfl, hS.chg⟩
set_option maxHeartbeats 1000000 in
set_option maxRecDepth 100000 in
theorem frSame_P (W0 : World) (fa wa : Option Addr) (fc wc : Nat) (c : Cd) (hn : c.fx.length ≤ 1000) (hF : FctC W0 fa c.fx) (hW : FctC W0 wa c.fx) (w0 : World) (ho : oldφ W0 w0) : PureC Tryz.prog 15 [.agg (cellsC c (.slice fa c.fx.length fc)).toArray, .agg (cellsC c (.slice wa c.fx.length wc)).toArray] w0 (.bool true) := by
 refine c_enter [(0, .agg (cellsC c (.slice fa c.fx.length fc)).toArray), (1, .agg (cellsC c (.slice wa c.fx.length wc)).toArray)] [oldA W0] noB Tryz.func15 rfl Tryz.ntmps15 ⟨rfl, rfl, trivial⟩ rfl (okC (old_ok ho) okN) dis1 (mineC rfl mineN) ?_
 intro a hS
 refine cS (cR ?_)
 refine L_op (s_boxA hS rfl rfl ?_); clear hS a; intro a w b2 hS
 refine L_op (s_boxA hS rfl rfl ?_); clear hS a; intro a w b3 hS
 refine L_e hS (e_assign rfl) rfl ?_; clear hS a; intro a hS
 refine nL (nT (cS (cR ?_)))
 refine Rn hS (.c (e_fa0 rfl ty_fo24_1) <| .c (e_load rfl (by repeat constructor) ty_sc9 (by rfl)) <| .c (e_fa0 rfl ty_fo48_1) <| .c (e_load rfl (by repeat constructor) ty_sc9 (by rfl)) <| .c (e_binS rfl rfl rfl) <| .m rfl .n) ?_; clear hS a; intro a hS
 replace hS := hS.is (t := 12) (c := true) rfl ((by first | rfl | exact decide_eq_true rfl))
 refine Rn hS (.g rfl rfl (e_fa0 rfl ty_fo24_2) <| .g rfl rfl (e_load rfl (by repeat constructor) ty_sc9 (by rfl)) <| .g rfl rfl (e_fa0 rfl ty_fo48_2) <| .g rfl rfl (e_load rfl (by repeat constructor) ty_sc9 (by rfl)) <| .g rfl rfl (e_binS rfl rfl rfl) <| .c (e_pick_t rfl rfl) <| .m rfl .n) ?_; clear hS a; intro a hS
 replace hS := hS.is (t := 19) (c := true) rfl ((by first | rfl | exact decide_eq_true rfl))
 refine Rn hS (.g rfl rfl (e_fa0 rfl ty_fo24_3) <| .g rfl rfl (e_load rfl (by repeat constructor) ty_sc9 (by rfl)) <| .g rfl rfl (e_fa0 rfl ty_fo48_3) <| .g rfl rfl (e_load rfl (by repeat constructor) ty_sc9 (by rfl)) <| .g rfl rfl (e_binS rfl rfl rfl) <| .c (e_pick_t rfl rfl) <| .m rfl .n) ?_; clear hS a; intro a hS
 replace hS := hS.is (t := 26) (c := true) rfl ((by first | rfl | exact decide_eq_true rfl))
 refine Rn hS (.g rfl rfl (e_fa0 rfl ty_fo24_4) <| .g rfl rfl (e_load rfl (by repeat constructor) ty_sc9 (by rfl)) <| .g rfl rfl (e_fa0 rfl ty_fo48_4) <| .g rfl rfl (e_load rfl (by repeat constructor) ty_sc9 (by rfl)) <| .g rfl rfl (e_binS rfl rfl rfl) <| .c (e_pick_t rfl rfl) <| .m rfl .n) ?_; clear hS a; intro a hS
 replace hS := hS.is (t := 33) (c := true) rfl ((by first | rfl | exact decide_eq_true rfl))
 refine Rn hS (.g rfl rfl (e_fa0 rfl ty_fo24_5) <| .g rfl rfl (e_load rfl (by repeat constructor) ty_sc9 (by rfl)) <| .g rfl rfl (e_fa0 rfl ty_fo48_5) <| .g rfl rfl (e_load rfl (by repeat constructor) ty_sc9 (by rfl)) <| .g rfl rfl (e_binS rfl rfl rfl) <| .c (e_pick_t rfl rfl) <| .m rfl .n) ?_; clear hS a; intro a hS
 replace hS := hS.is (t := 40) (c := true) rfl ((by first | rfl | exact decide_eq_true rfl))
 refine Rn hS (.g rfl rfl (e_fa0 rfl ty_fo24_6) <| .g rfl rfl (e_load rfl (by repeat constructor) ty_sc9 (by rfl)) <| .g rfl rfl (e_fa0 rfl ty_fo48_6) <| .g rfl rfl (e_load rfl (by repeat constructor) ty_sc9 (by rfl)) <| .g rfl rfl (e_binS rfl rfl rfl) <| .c (e_pick_t rfl rfl) <| .a rfl .n) ?_; clear hS a; intro a hS
 refine nL (nT (cS (cR ?_)))
 refine Rn hS (.c (e_fa0 rfl ty_fo24_7) <| .c (e_load rfl (by repeat constructor) ty_sc3 (by rfl)) <| .c (e_fa0 rfl ty_fo48_7) <| .c (e_load rfl (by repeat constructor) ty_sc3 (by rfl)) <| .c (e_bin rfl rfl rfl) <| .m rfl .n) ?_; clear hS a; intro a hS
 replace hS := hS.is (t := 52) (c := true) rfl ((by first | rfl | exact decide_eq_true rfl))
 refine Rn hS (.g rfl rfl (e_fa0 rfl ty_fo24_8) <| .g rfl rfl (e_load rfl (by repeat constructor) ty_sc3 (by rfl)) <| .g rfl rfl (e_fa0 rfl ty_fo48_8) <| .g rfl rfl (e_load rfl (by repeat constructor) ty_sc3 (by rfl)) <| .g rfl rfl (e_bin rfl rfl rfl) <| .c (e_pick_t rfl rfl) <| .m rfl .n) ?_; clear hS a; intro a hS
 replace hS := hS.is (t := 59) (c := true) rfl ((by first | rfl | exact decide_eq_true rfl))
 refine Rn hS (.g rfl rfl (e_fa0 rfl ty_fo24_9) <| .g rfl rfl (e_load rfl (by repeat constructor) ty_sc3 (by rfl)) <| .g rfl rfl (e_fa0 rfl ty_fo48_9) <| .g rfl rfl (e_load rfl (by repeat constructor) ty_sc3 (by rfl)) <| .g rfl rfl (e_bin rfl rfl rfl) <| .c (e_pick_t rfl rfl) <| .m rfl .n) ?_; clear hS a; intro a hS
 replace hS := hS.is (t := 66) (c := true) rfl ((by first | rfl | exact decide_eq_true rfl))
 refine Rn hS (.g rfl rfl (e_fa0 rfl ty_fo24_10) <| .g rfl rfl (e_load rfl (by repeat constructor) ty_sc3 (by rfl)) <| .g rfl rfl (e_fa0 rfl ty_fo48_10) <| .g rfl rfl (e_load rfl (by repeat constructor) ty_sc3 (by rfl)) <| .g rfl rfl (e_bin rfl rfl rfl) <| .c (e_pick_t rfl rfl) <| .m rfl .n) ?_; clear hS a; intro a hS
 replace hS := hS.is (t := 73) (c := true) rfl ((by first | rfl | exact decide_eq_true rfl))
 refine Rn hS (.g rfl rfl (e_fa0 rfl ty_fo24_11) <| .g rfl rfl (e_load rfl (by repeat constructor) ty_sc3 (by rfl)) <| .g rfl rfl (e_fa0 rfl ty_fo48_11) <| .g rfl rfl (e_load rfl (by repeat constructor) ty_sc3 (by rfl)) <| .g rfl rfl (e_bin rfl rfl rfl) <| .c (e_pick_t rfl rfl) <| .m rfl .n) ?_; clear hS a; intro a hS
 replace hS := hS.is (t := 80) (c := true) rfl ((by first | rfl | exact decide_eq_true rfl))
 refine Rn hS (.g rfl rfl (e_fa0 rfl ty_fo24_12) <| .g rfl rfl (e_load rfl (by repeat constructor) ty_sc3 (by rfl)) <| .g rfl rfl (e_fa0 rfl ty_fo48_12) <| .g rfl rfl (e_load rfl (by repeat constructor) ty_sc3 (by rfl)) <| .g rfl rfl (e_bin rfl rfl rfl) <| .c (e_pick_t rfl rfl) <| .m rfl .n) ?_; clear hS a; intro a hS
 replace hS := hS.is (t := 87) (c := true) rfl ((by first | rfl | exact decide_eq_true rfl))
 refine Rn hS (.g rfl rfl (e_fa0 rfl ty_fo24_13) <| .g rfl rfl (e_load rfl (by repeat constructor) ty_sc3 (by rfl)) <| .g rfl rfl (e_fa0 rfl ty_fo48_13) <| .g rfl rfl (e_load rfl (by repeat constructor) ty_sc3 (by rfl)) <| .g rfl rfl (e_bin rfl rfl rfl) <| .c (e_pick_t rfl rfl) <| .a rfl .n) ?_; clear hS a; intro a hS
 refine nL (nT (cS (cR ?_)))
 refine Rn hS (.m rfl <| .m rfl .n) ?_; clear hS a; intro a hS
 replace hS := hS.is (t := 95) (c := true) rfl ((by first | rfl | exact decide_eq_true rfl))
 refine Rn hS (.g rfl rfl (e_move rfl) <| .c (e_pick_t rfl rfl) <| .m rfl .n) ?_; clear hS a; intro a hS
 replace hS := hS.is (t := 98) (c := true) rfl ((by first | rfl | exact decide_eq_true rfl))
 refine Rn hS (.g rfl rfl (e_fa0 rfl ty_fo24_0) <| .g rfl rfl (e_load rfl (by repeat constructor) ty_sc3 (by rfl)) <| .g rfl rfl (e_fa0 rfl ty_fo48_0) <| .g rfl rfl (e_load rfl (by repeat constructor) ty_sc3 (by rfl)) <| .g rfl rfl (e_bin rfl rfl rfl) <| .c (e_pick_t rfl rfl) <| .m rfl .n) ?_; clear hS a; intro a hS
 replace hS := hS.is (t := 105) (c := true) rfl ((by first | rfl | exact decide_eq_true rfl))
 refine Rn hS (.g rfl rfl (e_fa0 rfl ty_fo24_14) <| .g rfl rfl (e_load rfl (by repeat constructor) ty_sc22 (by rfl)) <| .g rfl rfl (e_fa0 rfl ty_fo48_14) <| .g rfl rfl (e_load rfl (by repeat constructor) ty_sc46 (by rfl)) .n) ?_; clear hS a; intro a hS
 refine L_go hS rfl rfl (s_callP hS (.cons rfl (.cons rfl .nil)) cf46 rfl (frSame11_P W0 fa wa fc wc c.fx hn hF hW _ (hS.gg (X := oldA W0))) ?_); clear hS a; intro a w hS
 refine Rn hS (.c (e_pick_t rfl rfl) <| .a rfl .n) ?_; clear hS a; intro a hS
 refine nL (nT (wp_ret ?_))
 refine c_ret1 hS Tryz.results15 (.tmp rfl) ?_
 exact ⟨rfl, hS.chg⟩
theorem fct_own {E m : Nat} {q : Option Addr} {c : Nat} {fs : List Fct} {w : World} (h : (ownA E 4 (.slice q m c) fs.length (fs.flatMap encF)).ok w) : FctC w q fs := ⟨fun hne => by
  have h2 := rw_of_own (enc := encF) (fun _ => rfl) h
  rcases h2 with ⟨h3, _⟩ | ⟨b, off, c', _, e, hr, _⟩
  · exact absurd (List.map_eq_nil_iff.1 h3) hne
  · injection e with e _ _
    refine ⟨b, off, e, fun i x hx j u hu => ?_⟩
    exact hr i (encF x) (by rw [List.getElem?_map, hx]; rfl) j u hu⟩
theorem bn_ok {r : Int × Cd} {c : Cd} (x : BnR r) (h : r.1 = 0) (hfx : r.2.fx = c.fx) (hc : ∀ fv, cellsC r.2 fv = cellsC c fv) {w : World} (hy : (bnY r x).ok w) : ∃ (q : Option Addr) (cp : Nat), bnV r x = .tuple [.agg (cellsC c (.slice q c.fx.length cp)).toArray, .int .i64 0].toArray ∧ bnY r x = ownA 160 4 (.slice q c.fx.length cp) c.fx.length (c.fx.flatMap encF) := by
 rcases x with x | x
 · have e1 : bnY r (.inl x) = ownA 160 4 x.1 r.2.fx.length (r.2.fx.flatMap encF) := rfl
   rw [e1] at hy
   rw [hfx] at hy
   obtain ⟨q, cp, e⟩ := own_slice hy.now
   refine ⟨q, cp, ?_, ?_⟩
   · show Value.tuple [.agg (cellsC r.2 x.1).toArray, .int .i64 0].toArray = _
     rw [hc, e]
   · rw [e1, hfx, e]
 · exact absurd h x.2
theorem bytes_bs (l : List UInt8) : Lib.bytesOf (bsI l) = l := by
 unfold Lib.bytesOf bsI
 rw [List.map_map]
 conv => rhs; rw [← List.map_id l]
 refine List.map_congr_left fun x _ => ?_
 show UInt8.ofNat ((x.toNat : Int)).toNat = x
 rw [Int.toNat_natCast]
 simp
theorem bs_range (l : List UInt8) : ∀ x ∈ bsI l, 0 ≤ x ∧ x < 256 := fun x hx => by
 obtain ⟨b, _, rfl⟩ := List.mem_map.1 hx
 have := b.toNat_lt
 exact ⟨by omega, by omega⟩
theorem by_in {q : Option Addr} {c : Nat} {l : List UInt8} {w : World} (h : ByAt (.slice q l.length c) (bsI l) w) : Lib.BytesIn w q l.length (bsI l) := fun hn => by
 rcases h with ⟨h, _⟩ | ⟨b, off, c', _, e, _, hc, _⟩
 · have this : (bsI l).length = 0 := by rw [h]; rfl
   rw [bsI_len] at this; omega
 · injection e with e _ _
   refine ⟨b, off, e, fun i hi => ?_⟩
   have hx : (bsI l)[i]? = some ((bsI l).getD i 0) := by rw [List.getD_eq_getElem?_getD, List.getElem?_eq_getElem (by rw [bsI_len]; exact hi)]; rfl
   exact hc i _ hx
theorem by_head {q : Option Addr} {n c k : Nat} {l : List Int} {w : World} (h : ByAt (.slice q n c) l w) (hk : k ≤ n) : ByAt (.slice q k c) (l.take k) w := by
 rcases h with ⟨rfl, a, c', e⟩ | ⟨b, off, c', h1, e, h2, h3, h4⟩
 · injection e with _ e _
   obtain rfl : k = 0 := by omega
   exact .inl ⟨rfl, _, _, rfl⟩
 · injection e with e1 e2 e3
   subst e1 e2 e3
   by_cases h0 : k = 0
   · subst h0; exact .inl ⟨rfl, _, _, rfl⟩
   · have hl : (l.take k).length = k := by rw [List.length_take]; omega
     exact .inr ⟨b, off, c, fun e => by rw [e] at hl; simp at hl; omega, by rw [hl], by omega, fun j x hj => h3 j x (by
       rw [List.getElem?_take] at hj
       split at hj
       · exact hj
       · cases hj), h4⟩
theorem by_rest {q : Option Addr} {n c : Nat} {l : List UInt8} {j : Nat} {w : World} (h : ByAt (.slice q n c) (bsI l) w) (hn : n = l.length) (hj : j ≤ n) : ByAt (.slice (tailP q j c 1) (n - j) (c - j)) (bsI (l.drop j)) w := by
 have h2 := h.piece (j := j) (k := n) hj (Nat.le_refl n)
 rw [List.take_of_length_le (by rw [bsI_len]; omega)] at h2
 have e : (bsI l).drop j = bsI (l.drop j) := (List.map_drop ..).symm
 rwa [e] at h2
theorem fromV_tail (q : Option Addr) (n c j : Nat) : Lib.fromV q n c j = .slice (tailP q j c 1) (n - j) (c - j) := by
 unfold Lib.fromV tailP
 rw [Nat.mul_one]
theorem Cutb_P (m : Int) (q : Option Addr) (cap : Nat) (L R : List UInt8) (x : UInt8) (hx : x ∉ L) (b2 : Nat) (w : World) (hl : (L ++ x :: R).length ≤ 1000000000) (hcap : (L ++ x :: R).length ≤ cap) (h1 : ByAt (.slice q (L ++ x :: R).length cap) (bsI (L ++ x :: R)) w) (h2 : w.cell? ⟨b2, 0, none⟩ = some (.int .u8 (x.toNat : Int))) (hm : w.cell? ⟨2, 0, none⟩ = some (.int .i64 m)) :
 PureC Tryz.prog 61 [.slice q (L ++ x :: R).length cap, .slice (some ⟨b2, 0, none⟩) 1 1] w (.tuple [.slice q L.length cap, .slice (tailP q (L.length + 1) cap 1) ((L ++ x :: R).length - (L.length + 1)) (cap - (L.length + 1)), .bool true].toArray) := by
 have hne : 0 < (L ++ x :: R).length := by rw [List.length_append, List.length_cons]; omega
 have hb2 : Lib.BytesIn w (some ⟨b2, 0, none⟩) 1 [(x.toNat : Int)] := fun _ => ⟨b2, 0, rfl, fun i hi => by
   obtain rfl : i = 0 := by omega
   exact h2⟩
 refine (Tryz.bytes_Cut_all q (some ⟨b2, 0, none⟩) _ cap 1 1 (bsI (L ++ x :: R)) [(x.toNat : Int)] m w (bsI_len _) rfl (bs_range _) (fun y hy => by rw [List.mem_singleton.1 hy]; have := x.toNat_lt; exact ⟨by omega, by omega⟩) (by_in h1) hb2 (fun hq => ?_) hcap (by omega) (by decide) hm).mono fun e w' ⟨he, n, hw⟩ => ⟨?_, by rw [hw]; exact Chg.of_below (Go.Proofs.below_drewNg w n)⟩
 · obtain ⟨b, o, e, _⟩ := by_in h1 hne
   rw [e] at hq; cases hq
 · rw [he, bytes_bs, show Lib.bytesOf [(x.toNat : Int)] = [x] from bytes_bs [x], index_at hx]
   unfold Lib.cutV
   rw [if_pos (by omega), Int.toNat_natCast, fromV_tail]
theorem Equal_P (q p : Option Addr) (c d : Nat) (l : List UInt8) (w : World) (h1 : ByAt (.slice q l.length c) (bsI l) w) (h2 : ByAt (.slice p l.length d) (bsI l) w) : PureC Tryz.prog 63 [.slice q l.length c, .slice p l.length d] w (.bool true) :=
 (Tryz.bytes_Equal_all q p l.length c l.length d (bsI l) (bsI l) w (bsI_len l) (bsI_len l) (by_in h1) (by_in h2)).mono fun e w' ⟨he, hw⟩ => ⟨by rw [he]; simp, by rw [hw]; exact Chg.refl _ _⟩
theorem dig_not {u : List UInt8} (h : ∀ x ∈ u, jDg x = true) {y : UInt8} (hy : y.toNat < 48) : y ∉ u := fun hm => by
 have := of_decide_eq_true (h y hm)
 omega
theorem itoa_not (n : Int) {y : UInt8} (hy : y.toNat < 45) : y ∉ Lib.itoa n := fun hm => by
 have hd := (itoa_canon n).2.1
 unfold noSign at hd
 split at hd
 · rename_i h; rw [h] at hm; cases hm
 · rename_i x r h
   rw [h] at hm
   split at hd
   · rcases List.mem_cons.1 hm with e | hm
     · subst e; omega
     · exact dig_not hd (y := y) (by omega) hm
   · exact dig_not hd (y := y) (by omega) hm
theorem rt_line : ∀ x ∈ rtG, (10 : UInt8) ∉ x.1 := by
 intro x hx
 have h : ∀ y ∈ rtG.map (fun x => x.1), (10 : UInt8) ∉ y := by decide +kernel
 exact h _ (List.mem_map.2 ⟨x, hx, rfl⟩)
theorem path_line {c : Cd} (hp : (pathF c).2 = true) : (10 : UInt8) ∉ (pathF c).1 := by
 unfold pathF at hp ⊢
 split
 · rename_i hk
   rw [if_pos hk, Bool.and_eq_true] at hp
   have hnm := hp.1
   unfold isNameB at hnm
   rw [Bool.and_eq_true, Bool.not_eq_true', List.any_eq_false] at hnm
   have h1 : (10 : UInt8) ∉ c.t 1 := fun h => hnm.2 10 h (by decide)
   have h2 := itoa_not (c.n 8) (y := 10) (by decide)
   simp only [List.mem_append, not_or]
   exact ⟨⟨⟨by decide, h1⟩, by decide⟩, h2⟩
 · have h2 := itoa_not (c.n 11) (y := 10) (by decide)
   simp only [List.mem_append, not_or]
   exact ⟨by decide, h2⟩
theorem okQ_line {c : Cd} {me pa s : List UInt8} (h : okQ c me pa s) : (10 : UInt8) ∉ me ++ 32 :: pa ∧ (32 : UInt8) ∉ me := by
 have hm : ∀ {me pa : List UInt8}, (10 : UInt8) ∉ me → (10 : UInt8) ∉ pa → (10 : UInt8) ∉ me ++ 32 :: pa := fun h1 h2 => by
  simp only [List.mem_append, List.mem_cons, not_or]
  exact ⟨h1, by decide, h2⟩
 rcases h with ⟨rfl, v, r, k, fl, c', h⟩ | ⟨rfl, hk, rfl, hp, rfl⟩
 · exact ⟨hm (by decide) (rt_line _ (List.mem_of_getElem? h.x)), by decide⟩
 · exact ⟨hm (by decide) (path_line hp), by decide⟩
set_option maxHeartbeats 2000000 in
set_option maxRecDepth 100000 in
theorem fDecode_N (W0 : World) (hG : Gj W0) (hY : Sy W0) (c : Cd) (hc : c.ok) (hfx : FxB c.fx) (hfl : c.fx.length ≤ 1000) (me pa s : List UInt8) (hq : okQ c me pa s) (q : Option Addr) (cap : Nat) (hcap : (encB me pa s).length ≤ cap) (ht : ByAt (.slice q (encB me pa s).length cap) (bsI (encB me pa s)) W0) (w0 : World) (hold : oldφ W0 w0)
  (hsm : ∀ v, parseF s = some v → smV 33 v) (hb : ∀ (k : Nat) (x : List UInt8 × List Fg) (v : JV) (c' : Cd), rtG[k]? = some x → reqL (fdsOf x.2) c [] [] = some (v, c') → goodV 3 v ∧ smV 3 v ∧ lenJ 3 v ≤ 9000000) :
  NewC Tryz.prog 22 [.slice q (encB me pa s).length cap] w0 (fun v : Option Addr × Nat => .tuple [.agg (cellsC c (.slice v.1 c.fx.length v.2)).toArray, .int .i64 0].toArray) (fun v => ownA 160 4 (.slice v.1 c.fx.length v.2) c.fx.length (c.fx.flatMap encF)) := by
  obtain ⟨m, hm⟩ := hG.m
  obtain ⟨l1, l2, l3⟩ := okQ_len hc hq
  obtain ⟨n10, n32⟩ := okQ_line hq
  obtain ⟨o1, o2, o3⟩ := okQ_bind hc hfx hq
  have he : encB me pa s = (me ++ 32 :: pa) ++ 10 :: s := by unfold encB lineB; simp
  rw [he] at ht hcap
  rw [he]
  have hLl : (me ++ 32 :: pa).length = me.length + 1 + pa.length := by rw [List.length_append, List.length_cons]; omega
  have hel : ((me ++ 32 :: pa) ++ 10 :: s).length = me.length + 1 + pa.length + 1 + s.length := by rw [List.length_append, hLl, List.length_cons]; omega
  refine c_enter [(0, .slice q ((me ++ 32 :: pa) ++ 10 :: s).length cap)] [oldA W0] noB Tryz.func22 rfl Tryz.ntmps22 ⟨rfl, trivial⟩ rfl (okC (old_ok hold) okN) dis1 (mineC rfl mineN) ?_
  intro a hS
  refine cS (cR ?_)
  refine L_op (s_alloc hS ty_z24 rfl ?_); clear hS a; intro a w b2 hS
  refine L_e hS (e_assign rfl) rfl ?_; clear hS a; intro a hS
  refine nL (nT (cS (cR ?_)))
  refine L_e hS (e_move rfl) rfl ?_; clear hS a; intro a hS
  refine L_op (s_bslice hS ty_sl27 ty_sz5 ty_z5 rfl rfl rfl rfl (.one rfl rfl rfl .nil) rfl ?_); clear hS a; intro a w b15 hS
  refine L_op (s_convConst hS rfl ty_sl27 ty_u5 rfl (by repeat constructor) ?_); clear hS a; intro a w hS
  have hc10 : w.cell? ⟨b15, 0, none⟩ = some (.int .u8 10) := by
   obtain ⟨f, hf⟩ := (hS.gg (X := rkA b15 [.int .u8 10] 5) : (rkA b15 [.int .u8 10] 5).φ w)
   unfold World.cell?
   rw [hf]; rfl
  refine L_op (s_callP hS (.cons rfl (.cons rfl .nil)) cf61 rfl (Cutb_P m q cap (me ++ 32 :: pa) s 10 n10 b15 _ (by omega) hcap (old_by (hS.gg (X := oldA W0)) ht) hc10 (old_cell (hS.gg (X := oldA W0)) hm)) ?_); clear hS a; intro a w hS
  rw [show ((me ++ 32 :: pa) ++ 10 :: s).length - ((me ++ 32 :: pa).length + 1) = s.length by omega] at hS
  refine Rn hS (.m rfl <| .c (e_extract rfl rfl) <| .c (e_extract rfl rfl) <| .c (e_extract rfl rfl) <| .a rfl <| .a rfl <| .a rfl .n) ?_; clear hS a; intro a hS
  refine nL (nT (cS (cR ?_)))
  refine L_e hS (e_move rfl) rfl ?_; clear hS a; intro a hS
  refine L_op (s_e hS (e_str rfl ty_sl27 ty_u5 ty_u9 (fun w hh => by
 have h1 := by_head (old_by (hh (oldA W0) (by repeat constructor)) ht) (k := (me ++ 32 :: pa).length) (by omega)
 have e1 : (bsI ((me ++ 32 :: pa) ++ 10 :: s)).take (me ++ 32 :: pa).length = bsI (me ++ 32 :: pa) := by
   show ((me ++ 32 :: pa ++ 10 :: s).map _).take _ = _
   rw [← List.map_take, List.take_left]; rfl
 rw [e1] at h1
 exact h1)) rfl ?_); clear hS a; intro a hS
  rw [str_bs] at hS
  refine L_op (s_callP hS (.cons rfl (.cons rfl .nil)) cf62 rfl (Cut_P m (me ++ 32 :: pa) [32] _ (by omega) (old_cell (hS.gg (X := oldA W0)) hm)) ?_); clear hS a; intro a w hS
  rw [cut_at n32] at hS
  refine Rn hS (.m rfl <| .c (e_extract rfl rfl) <| .c (e_extract rfl rfl) <| .c (e_extract rfl rfl) <| .a rfl <| .a rfl <| .a rfl .n) ?_; clear hS a; intro a hS
  refine nL (nT (cS (cR ?_)))
  refine Rn hS (.m rfl <| .m rfl <| .m rfl <| .c (e_build ty_z29 ty_pl29 (.one rfl rfl rfl (by repeat constructor) (.one rfl rfl rfl (by repeat constructor) (.one rfl rfl rfl (by repeat constructor) .nil)))) .n) ?_; clear hS a; intro a hS
  have hrest : ByAt (.slice (tailP q ((me ++ 32 :: pa).length + 1) cap 1) s.length (cap - ((me ++ 32 :: pa).length + 1))) (bsI s) w := by
   have h1 := by_rest (old_by (hS.gg (X := oldA W0)) ht) rfl (j := (me ++ 32 :: pa).length + 1) (by omega)
   have e1 : ((me ++ 32 :: pa) ++ 10 :: s).drop ((me ++ 32 :: pa).length + 1) = s := by
    rw [show (me ++ 32 :: pa) ++ 10 :: s = ((me ++ 32 :: pa) ++ [10]) ++ s by simp, show (me ++ 32 :: pa).length + 1 = ((me ++ 32 :: pa) ++ [10]).length from (by rw [List.length_append (bs := [10])]; rfl), drop_app]
   rw [e1, show ((me ++ 32 :: pa) ++ 10 :: s).length - ((me ++ 32 :: pa).length + 1) = s.length by omega] at h1
   exact h1
  refine L_op (s_callN hS (.cons rfl .nil) cf14 rfl (fBindG_N w (hG.keep (hS.gg (X := oldA W0))) (hY.keep (hS.gg (X := oldA W0))) me pa (by omega) (tailP q ((me ++ 32 :: pa).length + 1) cap 1) (cap - ((me ++ 32 :: pa).length + 1)) s ⟨hrest, by omega⟩ hsm false w (old_refl w)) ?_); clear hS a; intro x33 a w hS
  obtain ⟨bq, bc, f1, f2⟩ := bn_ok x33 o1 o2 o3 (hS.ok (bnY (bindQ me pa s) x33) (by repeat constructor))
  rw [f1, f2] at hS
  refine Rn hS (.m rfl <| .c (e_extract rfl rfl) <| .c (e_extract rfl rfl) .n) ?_; clear hS a; intro a hS
  refine L_op (s_alloc hS ty_z24 rfl ?_); clear hS a; intro a w b10 hS
  refine L_op (s_storeA (l := cellsC c (.slice bq c.fx.length bc)) hS rfl rfl ty_sz24 (by repeat constructor) rfl rfl rfl ?_); clear hS; intro w hS
  refine L_e hS (e_assign rfl) rfl ?_; clear hS a; intro a hS
  refine nL (nT (cS (cS (cR ?_))))
  refine Rn hS (.m rfl <| .c (e_bin rfl rfl rfl) .n) ?_; clear hS a; intro a hS
  refine nL (nT ?_)
  replace hS := hS.is (t := 37) (c := false) rfl (rfl)
  refine c_if_f hS rfl ?_
  refine wS (nT (cS (cR ?_)))
  refine L_e hS (e_loadA (cs := cellsC c (.slice bq c.fx.length bc)) rfl (by repeat constructor) ty_st24 ty_sz24 rfl) rfl ?_; clear hS a; intro a hS
  refine L_op (s_callN hS (.cons rfl .nil) cf18 rfl (fEncode_N w (hG.keep (hS.gg (X := oldA W0))) c hc bq bc ⟨(fct_own (hS.ok (ownA 160 4 (.slice bq c.fx.length bc) c.fx.length (c.fx.flatMap encF)) (by repeat constructor))).c, by omega, hfx⟩ w (old_refl w) hb) ?_); clear hS a; intro x41 a w hS
  obtain ⟨⟨⟨⟨q2, c2⟩, me2, pa2, s2⟩, hq2, hl2⟩, rfl⟩ : ∃ x, x41 = .inl x := by
   rcases x41 with x | ⟨e, _, h⟩
   · exact ⟨x, rfl⟩
   · exact (okQ_noerr hq h).elim
  obtain ⟨rfl, rfl, rfl⟩ := okQ_one hq hq2
  simp only [enV, enY] at hS
  rw [he] at hS
  refine Rn hS (.m rfl <| .c (e_extract rfl rfl) <| .c (e_extract rfl rfl) <| .a rfl <| .a rfl .n) ?_; clear hS a; intro a hS
  refine nL (nT (cS (cS (cR ?_))))
  refine Rn hS (.m rfl <| .c (e_bin rfl rfl rfl) <| .m rfl .n) ?_; clear hS a; intro a hS
  replace hS := hS.is (t := 46) (c := false) rfl (rfl)
  refine Rn hS (.g rfl rfl (e_move rfl) <| .g rfl rfl (e_move rfl) .n) ?_; clear hS a; intro a hS
  refine L_go hS rfl rfl (s_callP hS (.cons rfl (.cons rfl .nil)) cf63 rfl (Equal_P q2 q c2 cap ((me2 ++ 32 :: pa2) ++ 10 :: s2) _ (hS.gg (X := bmA (.slice q2 ((me2 ++ 32 :: pa2) ++ 10 :: s2).length c2) (bsI ((me2 ++ 32 :: pa2) ++ 10 :: s2)))) (old_by (hS.gg (X := oldA W0)) ht)) ?_); clear hS a; intro a w hS
  refine Rn hS (.g rfl rfl (e_not rfl) <| .c (e_pick_f rfl rfl) .n) ?_; clear hS a; intro a hS
  refine nL (nT ?_)
  replace hS := hS.is (t := 51) (c := false) rfl (rfl)
  refine c_if_f hS rfl ?_
  refine wS (nT (cS (cR ?_)))
  refine L_e hS (e_loadA (cs := cellsC c (.slice bq c.fx.length bc)) rfl (by repeat constructor) ty_st24 ty_sz24 rfl) rfl ?_; clear hS a; intro a hS
  refine L_op (s_storeA (l := cellsC c (.slice bq c.fx.length bc)) hS rfl rfl ty_sz24 (by repeat constructor) rfl rfl rfl ?_); clear hS; intro w hS
  refine L_e hS (e_assign rfl) rfl ?_; clear hS a; intro a hS
  refine nL (nT (wp_ret ?_))
  refine c_retN hS Tryz.results22 (.cons (.cellA rfl (by repeat constructor) ty_st24 ty_sz24 (by rfl)) (.cons (.tmp rfl) .nil)) rfl ?_
  exact ⟨(bq, bc), rfl, hS.chg, hS.ok (ownA 160 4 (.slice bq c.fx.length bc) c.fx.length (c.fx.flatMap encF)) (by repeat constructor), fun b hb => (hS.mine (ownA 160 4 (.slice bq c.fx.length bc) c.fx.length (c.fx.flatMap encF)) (by repeat constructor) rfl b hb).resolve_right id⟩
theorem dec_ascii {b : UInt8} {t : List UInt8} (h : b.toNat < 128) : Lib.decodeL (b :: t) = (b.toNat, 1) := by
 rw [Lib.decodeL_N]
 have h0 : ((b :: t).getD 0 0).toNat = b.toNat := rfl
 rw [h0]
 unfold Lib.decodeN
 rw [if_pos h]
theorem dec_good {b : UInt8} {t : List UInt8} (hv : ¬ ((Lib.decodeL (b :: t)).1 = 65533 ∧ (Lib.decodeL (b :: t)).2 = 1)) :
 1 ≤ (Lib.decodeL (b :: t)).2 ∧ (Lib.decodeL (b :: t)).2 ≤ (b :: t).length ∧ ∀ X, Lib.decodeL ((b :: t).take (Lib.decodeL (b :: t)).2 ++ X) = Lib.decodeL (b :: t) := by
 by_cases hb : b.toNat < 128
 · rw [dec_ascii hb]
   refine ⟨Nat.le_refl _, by simp, fun X => ?_⟩
   show Lib.decodeL (b :: ([] ++ X)) = _
   rw [dec_ascii hb]
 · have h1 : 2 ≤ (Lib.decodeL (b :: t)).2 := by
    have hp : 1 ≤ (Lib.decodeL (b :: t)).2 := by
     rw [Lib.decodeL_N]
     unfold Lib.decodeN
     repeat' split
     all_goals simp
    rcases dec_hiJ (t := t) (show 128 ≤ b.toNat by omega) with h | h
    · have : (Lib.decodeL (b :: t)).2 ≠ 1 := fun e => hv ⟨h, e⟩
      omega
    · exact h
   obtain ⟨h2, _, h3⟩ := dec_take (show 128 ≤ b.toNat by omega) h1
   exact ⟨by omega, h2, h3⟩
theorem valid_take {b : UInt8} {t : List UInt8} (hv : ¬ ((Lib.decodeL (b :: t)).1 = 65533 ∧ (Lib.decodeL (b :: t)).2 = 1)) : Lib.validD ((b :: t).take (Lib.decodeL (b :: t)).2) = true := by
 obtain ⟨h1, h2, h3⟩ := dec_good hv
 have h4 := h3 []
 rw [List.append_nil] at h4
 have hne : (b :: t).take (Lib.decodeL (b :: t)).2 ≠ [] := fun e => by
  have := congrArg List.length e
  rw [List.length_take] at this
  simp only [List.length_nil] at this
  omega
 rw [Lib.validD_step _ hne, h4, if_neg hv, List.drop_of_length_le (by rw [List.length_take]; omega)]
 rfl
theorem valid_app : ∀ (m : Nat) (a b : List UInt8), a.length ≤ m → Lib.validD a = true → Lib.validD b = true → Lib.validD (a ++ b) = true := by
 intro m
 induction m with
 | zero =>
   intro a b ha _ hb
   obtain rfl : a = [] := List.eq_nil_of_length_eq_zero (by omega)
   exact hb
 | succ m ih =>
   intro a b ha h hb
   cases a with
   | nil => exact hb
   | cons x t =>
     have hne : (x :: t) ≠ [] := by simp
     have h' := h
     rw [Lib.validD_step _ hne] at h'
     by_cases hv : (Lib.decodeL (x :: t)).1 = 65533 ∧ (Lib.decodeL (x :: t)).2 = 1
     · rw [if_pos hv] at h'; cases h'
     · rw [if_neg hv] at h'
       obtain ⟨h1, h2, h3⟩ := dec_good hv
       have e : x :: t ++ b = (x :: t).take (Lib.decodeL (x :: t)).2 ++ ((x :: t).drop (Lib.decodeL (x :: t)).2 ++ b) := by rw [← List.append_assoc, List.take_append_drop]
       have e2 : Lib.decodeL (x :: t ++ b) = Lib.decodeL (x :: t) := by rw [e]; exact h3 _
       rw [Lib.validD_step _ (by simp), e2, if_neg hv]
       have e3 : (x :: t ++ b).drop (Lib.decodeL (x :: t)).2 = (x :: t).drop (Lib.decodeL (x :: t)).2 ++ b := List.drop_append_of_le_length h2
       rw [e3]
       exact ih _ _ (by rw [List.length_drop]; omega) h' hb
theorem valid_of {l : List UInt8} {r k : Nat} (h : Lib.decodeL l = (r, k)) (hk : k = l.length) (h2 : 2 ≤ k) : Lib.validD l = true := by
 have hne : l ≠ [] := fun e => by rw [e] at hk; simp at hk; omega
 rw [Lib.validD_step _ hne, h, if_neg (by simp only; omega)]
 simp only
 rw [List.drop_of_length_le (by omega)]
 rfl
theorem toU8 {x : Int} (h0 : 0 ≤ x) (h1 : x < 256) : (x.toNat.toUInt8).toNat = x.toNat := by
 show x.toNat % 256 = x.toNat
 omega
theorem valid_two {x y : Int} (h1 : 194 ≤ x ∧ x ≤ 223) (h2 : 128 ≤ y ∧ y ≤ 191) : Lib.validD [x.toNat.toUInt8, y.toNat.toUInt8] = true := by
 refine valid_of (r := x.toNat % 32 * 64 + y.toNat % 64) (k := 2) ?_ rfl (by decide)
 rw [Lib.decodeL_N]
 show Lib.decodeN 2 (x.toNat.toUInt8).toNat (y.toNat.toUInt8).toNat 0 0 = _
 rw [toU8 (by omega) (by omega), toU8 (by omega) (by omega)]
 unfold Lib.decodeN
 rw [if_neg (by omega), if_pos (by omega), if_pos (by omega)]
theorem valid_three {x y z : Int} (h1 : 224 ≤ x ∧ x ≤ 239) (h2 : 128 ≤ y ∧ y ≤ 191) (h3 : 128 ≤ z ∧ z ≤ 191) (h4 : x = 224 → 160 ≤ y) (h5 : x = 237 → y ≤ 159) : Lib.validD [x.toNat.toUInt8, y.toNat.toUInt8, z.toNat.toUInt8] = true := by
 refine valid_of (r := x.toNat % 16 * 4096 + y.toNat % 64 * 64 + z.toNat % 64) (k := 3) ?_ rfl (by decide)
 rw [Lib.decodeL_N]
 show Lib.decodeN 3 (x.toNat.toUInt8).toNat (y.toNat.toUInt8).toNat (z.toNat.toUInt8).toNat 0 = _
 rw [toU8 (by omega) (by omega), toU8 (by omega) (by omega), toU8 (by omega) (by omega)]
 unfold Lib.decodeN
 rw [if_neg (by omega), if_neg (by omega), if_pos (by omega), if_pos (by omega)]
theorem valid_four {x y z u : Int} (h1 : 240 ≤ x ∧ x ≤ 244) (h2 : 128 ≤ y ∧ y ≤ 191) (h3 : 128 ≤ z ∧ z ≤ 191) (h6 : 128 ≤ u ∧ u ≤ 191) (h4 : x = 240 → 144 ≤ y) (h5 : x = 244 → y ≤ 143) : Lib.validD [x.toNat.toUInt8, y.toNat.toUInt8, z.toNat.toUInt8, u.toNat.toUInt8] = true := by
 refine valid_of (r := x.toNat % 8 * 262144 + y.toNat % 64 * 4096 + z.toNat % 64 * 64 + u.toNat % 64) (k := 4) ?_ rfl (by decide)
 rw [Lib.decodeL_N]
 show Lib.decodeN 4 (x.toNat.toUInt8).toNat (y.toNat.toUInt8).toNat (z.toNat.toUInt8).toNat (u.toNat.toUInt8).toNat = _
 rw [toU8 (by omega) (by omega), toU8 (by omega) (by omega), toU8 (by omega) (by omega), toU8 (by omega) (by omega)]
 unfold Lib.decodeN
 rw [if_neg (by omega), if_neg (by omega), if_neg (by omega), if_pos (by omega), if_pos (by omega)]
theorem valid_enc (r : Int) : Lib.validD (Lib.encodeRune r) = true := by
 unfold Lib.encodeRune
 by_cases h1 : 0 ≤ r ∧ r ≤ 127
 · rw [Lib.encodeRuneZ_one h1.1 h1.2]
   show Lib.validD [r.toNat.toUInt8] = true
   rw [Lib.validD_cons _ _ (by rw [toU8 h1.1 (by omega)]; omega)]
   rfl
 by_cases h2 : 128 ≤ r ∧ r ≤ 2047
 · rw [Lib.encodeRuneZ_two h2.1 h2.2]
   exact valid_two (by omega) (by omega)
 by_cases h3 : (2048 ≤ r ∧ r < 55296) ∨ (57343 < r ∧ r ≤ 65535)
 · rw [Lib.encodeRuneZ_three h3]
   exact valid_three (by omega) (by omega) (by omega) (by omega) (by omega)
 by_cases h4 : 65536 ≤ r ∧ r ≤ 1114111
 · rw [Lib.encodeRuneZ_four h4.1 h4.2]
   exact valid_four (by omega) (by omega) (by omega) (by omega) (by omega) (by omega)
 · rw [Lib.encodeRuneZ_bad (by omega)]
   decide +kernel
theorem enc_len (r : Int) : (Lib.encodeRune r).length ≤ 4 := by unfold Lib.encodeRune; rw [List.length_map]; exact (Lib.encodeRuneZ_length _).2
theorem esc_len {t : List UInt8} {r k : Nat} (h : escF t = some (r, k)) : (Lib.encodeRune (r : Int)).length ≤ k + 1 ∧ k ≤ t.length := by
 have h4 := enc_len (r : Int)
 unfold escF at h
 cases t with
 | nil => cases h
 | cons c t =>
   simp only at h
   split at h
   · rename_i i hi
     injection h with h
     injection h with h1 h2
     subst h1 h2
     refine ⟨?_, by simp⟩
     have hlt : (meantL.getD i 0).toNat < 128 := by
      obtain _ | _ | _ | _ | _ | _ | _ | _ | i := i <;> first | decide | skip
      simp [meantL]
     unfold Lib.encodeRune
     rw [Lib.encodeRuneZ_one (by omega) (by omega)]
     simp
   · split at h
     · split at h
       · cases h
       · rename_i x hx
         have hx4 : 4 ≤ t.length := by
          unfold fourF at hx
          split at hx
          · simp
          · cases hx
         split at h
         · injection h with h
           injection h with h1 h2
           subst h1 h2
           exact ⟨by omega, by rw [List.length_cons]; omega⟩
         · split at h
           · cases h
           · split at h
             · split at h
               · cases h
               · rename_i y hy
                 have hy4 : 4 ≤ (t.drop 6).length := by
                  unfold fourF at hy
                  split at hy
                  · rename_i heq; rw [heq]; simp
                  · cases hy
                 rw [List.length_drop] at hy4
                 split at h
                 · cases h
                 · injection h with h
                   injection h with h1 h2
                   subst h1 h2
                   exact ⟨by omega, by rw [List.length_cons]; omega⟩
             · cases h
     · cases h
theorem str_prop : ∀ (n : Nat) (l acc s : List UInt8) (u v : Nat), strF n l acc u = some (s, v) → (Lib.validD acc = true → Lib.validD s = true) ∧ s.length + u + 1 ≤ acc.length + v ∧ v ≤ u + l.length := by
 intro n
 induction n with
 | zero => intro l acc s u v h; cases h
 | succ n ih =>
   intro l acc s u v h
   unfold strF at h
   cases l with
   | nil => cases h
   | cons c t =>
     simp only at h
     split at h
     · cases h
     split at h
     · injection h with h
       injection h with h1 h2
       subst h1 h2
       exact ⟨id, by omega, by rw [List.length_cons]; omega⟩
     split at h
     · cases he : escF t with
       | none => rw [he] at h; cases h
       | some y =>
         obtain ⟨r, k⟩ := y
         rw [he] at h
         simp only at h
         obtain ⟨e1, e2⟩ := esc_len he
         obtain ⟨i1, i2, i3⟩ := ih _ _ _ _ _ h
         rw [List.length_append] at i2
         rw [List.length_drop] at i3
         exact ⟨fun ha => i1 (valid_app _ _ _ (Nat.le_refl _) ha (valid_enc _)), by omega, by rw [List.length_cons]; omega⟩
     · split at h
       · cases h
       · rename_i hv
         obtain ⟨d1, d2, _⟩ := dec_good hv
         obtain ⟨i1, i2, i3⟩ := ih _ _ _ _ _ h
         rw [List.length_append, List.length_take] at i2
         rw [List.length_drop] at i3
         exact ⟨fun ha => i1 (valid_app _ _ _ (Nat.le_refl _) ha (valid_take hv)), by omega, by omega⟩
def szJ : Nat → JV → Nat
 | 0, _ => 1
 | n + 1, .mk k t ns l => 1 + (if k = 4 then t.length else 0) + ((ns.zip l).map fun p => p.1.length + 4 + szJ n p.2).sum
def vdJ : Nat → JV → Prop
 | 0, _ => True
 | n + 1, .mk k t ns l => (k = 4 → Lib.validD t = true) ∧ (k = 6 → (∀ x ∈ ns, Lib.validD x = true) ∧ ns.length = l.length ∧ l.length ≤ 1000 ∧ ns.Nodup ∧ ∀ x ∈ l, vdJ n x)
theorem leaf_sz (n k : Nat) (t : List UInt8) (h : k ≠ 4) : szJ n (.mk k t [] []) = 1 := by
 cases n with
 | zero => rfl
 | succ n => unfold szJ; rw [if_neg h]; rfl
theorem leaf_vd (n k : Nat) (t : List UInt8) (h : k ≠ 4) (h6 : k ≠ 6) : vdJ n (.mk k t [] []) := by
 cases n with
 | zero => trivial
 | succ n => exact ⟨fun e => absurd e h, fun e => absurd e h6⟩
theorem word_prop {l : List UInt8} {v : JV} {k : Nat} (h : wordF l = some (v, k)) : (∃ i, i < 3 ∧ v = .mk i [] [] []) ∧ 1 ≤ k ∧ k ≤ l.length := by
 unfold wordF at h
 split at h
 · cases h
 · rename_i i hi
   have hi3 : i < 3 := by
    have := List.findIdx?_eq_some_iff_getElem.1 hi
    obtain ⟨h1, _⟩ := this
    exact h1
   split at h
   · rename_i hp
     injection h with h
     injection h with h1 h2
     subst h1 h2
     refine ⟨⟨i, hi3, rfl⟩, ?_, (List.isPrefixOf_iff_prefix.1 hp).length_le⟩
     obtain _ | _ | _ | i := i
     · decide
     · decide
     · decide
     · omega
   · cases h
theorem one_ltZ {p : UInt8 → Bool} {l : List UInt8} {i : Nat} (h : one p (l.drop i) = true) : i < l.length := by
 rcases Nat.lt_or_ge i l.length with g | g
 · exact g
 · rw [List.drop_eq_nil_of_le g] at h; cases h
theorem arr_sz (n : Nat) (l : List JV) : szJ n (.mk 5 [] [] l) = 1 := by
 cases n with
 | zero => rfl
 | succ n => unfold szJ; rw [if_neg (by decide)]; rfl
theorem arr_vd (n : Nat) (l : List JV) : vdJ n (.mk 5 [] [] l) := by
 cases n with
 | zero => trivial
 | succ n => exact ⟨fun e => absurd e (by decide), fun e => absurd e (by decide)⟩
theorem str_sz (n : Nat) (s : List UInt8) : szJ n (jStr s) ≤ 1 + s.length := by
 cases n with
 | zero => show 1 ≤ 1 + s.length; omega
 | succ n => show 1 + s.length + 0 ≤ 1 + s.length; omega
theorem str_vd (n : Nat) {s : List UInt8} (h : Lib.validD s = true) : vdJ n (jStr s) := by
 cases n with
 | zero => trivial
 | succ n => exact ⟨fun _ => h, fun e => absurd e (by decide)⟩
def ValP (m : Nat) : Prop := ∀ (d : Nat) (l : List UInt8) (v : JV) (k : Nat), valF m d l = some (v, k) → (∀ n, szJ n v ≤ k ∧ vdJ n v) ∧ 1 ≤ k ∧ k ≤ l.length
def ArrP (m : Nat) : Prop := ∀ (d : Nat) (l : List UInt8) (acc : List JV) (u : Nat) (v : JV) (k : Nat), arrL m d l acc u = some (v, k) → (∃ l', v = .mk 5 [] [] l') ∧ u ≤ k ∧ k ≤ u + l.length
def ObjP (m : Nat) : Prop := ∀ (d : Nat) (l : List UInt8) (ns : List (List UInt8)) (acc : List JV) (u : Nat) (v : JV) (k : Nat), objL m d l ns acc u = some (v, k) → ns.length = acc.length → (∀ x ∈ ns, Lib.validD x = true) → ns.Nodup → acc.length ≤ 1000 →
 (∀ n, ((ns.zip acc).map fun p => p.1.length + 4 + szJ n p.2).sum + 1 ≤ u) → (∀ x ∈ acc, ∀ n, vdJ n x) → (∀ n, szJ n v ≤ k ∧ vdJ n v) ∧ u ≤ k ∧ k ≤ u + l.length
theorem val_step {m : Nat} (hA : ArrP m) (hO : ObjP m) : ValP (m + 1) := by
 intro d l v k h
 cases l with
 | nil => unfold valF at h; cases h
 | cons c t =>
   unfold valF at h
   simp only at h
   split at h
   · split at h
     · cases h
     split at h
     · rename_i hb
       injection h with h
       injection h with h1 h2
       subst h1 h2
       have := one_ltZ hb
       refine ⟨fun n => ⟨by rw [leaf_sz n 6 [] (by decide)]; omega, ?_⟩, by omega, by rw [List.length_cons]; omega⟩
       cases n with
       | zero => trivial
       | succ n => exact ⟨fun e => absurd e (by decide), fun _ => ⟨fun x hx => (by cases hx), rfl, Nat.zero_le _, List.Pairwise.nil, fun x hx => (by cases hx)⟩⟩
     · obtain ⟨h1, h2, h3⟩ := hO _ _ _ _ _ _ _ h rfl (fun x hx => (by cases hx)) List.Pairwise.nil (Nat.zero_le _) (fun n => Nat.le_refl _) (fun x hx => (by cases hx))
       exact ⟨h1, h2, by rw [List.length_cons]; omega⟩
   split at h
   · split at h
     · cases h
     split at h
     · rename_i hb
       injection h with h
       injection h with h1 h2
       subst h1 h2
       have := one_ltZ hb
       exact ⟨fun n => ⟨by rw [arr_sz]; omega, arr_vd n []⟩, by omega, by rw [List.length_cons]; omega⟩
     · obtain ⟨⟨l', rfl⟩, h2, h3⟩ := hA _ _ _ _ _ _ h
       exact ⟨fun n => ⟨by rw [arr_sz]; omega, arr_vd n l'⟩, h2, by rw [List.length_cons]; omega⟩
   split at h
   · cases hs : strF t.length t [] 1 with
     | none => rw [hs] at h; cases h
     | some y =>
       obtain ⟨s, j⟩ := y
       rw [hs, Option.map_some] at h
       injection h with h
       injection h with h1 h2
       subst h1 h2
       obtain ⟨p1, p2, p3⟩ := str_prop _ _ _ _ _ _ hs
       simp only [List.length_nil] at p2
       exact ⟨fun n => ⟨Nat.le_trans (str_sz n s) (by omega), str_vd n (p1 rfl)⟩, by omega, by rw [List.length_cons]; omega⟩
   split at h
   · cases hn : numF (c :: t) with
     | none => rw [hn] at h; cases h
     | some j =>
       rw [hn, Option.map_some] at h
       injection h with h
       injection h with h1 h2
       subst h1 h2
       obtain ⟨p1, p2⟩ := num_le hn
       exact ⟨fun n => ⟨by rw [show jNum ((c :: t).take j) = .mk 3 ((c :: t).take j) [] [] from rfl, leaf_sz n 3 _ (by decide)]; exact p1, leaf_vd n 3 _ (by decide) (by decide)⟩, p1, p2⟩
   · obtain ⟨⟨i, hi, rfl⟩, p1, p2⟩ := word_prop h
     exact ⟨fun n => ⟨by rw [leaf_sz n i _ (by omega)]; exact p1, leaf_vd n i _ (by omega) (by omega)⟩, p1, p2⟩
theorem arr_stepP {m : Nat} (hV : ValP m) (hA : ArrP m) : ArrP (m + 1) := by
 intro d l acc u v k h
 unfold arrL at h
 split at h
 · cases h
 split at h
 · cases h
 · rename_i v0 k0 hv
   obtain ⟨_, p1, p2⟩ := hV _ _ _ _ hv
   split at h
   · rename_i hb
     injection h with h
     injection h with h1 h2
     subst h1 h2
     have := one_ltZ hb
     exact ⟨⟨_, rfl⟩, by omega, by omega⟩
   · split at h
     · rename_i hb
       have hlt := one_ltZ hb
       obtain ⟨q1, q2, q3⟩ := hA _ _ _ _ _ _ h
       rw [List.length_drop] at q3
       exact ⟨q1, by omega, by omega⟩
     · cases h
theorem obj_stepP {m : Nat} (hV : ValP m) (hO : ObjP m) : ObjP (m + 1) := by
 intro d l ns acc u v k h hl hvd hnd h1000 hsz hkv
 unfold objL at h
 split at h
 · cases h
 split at h
 · cases h
 rename_i hacc
 split at h
 · cases h
 · rename_i nm a hs
   obtain ⟨s1, s2, s3⟩ := str_prop _ _ _ _ _ _ hs
   simp only [List.length_nil] at s2
   split at h
   · cases h
   rename_i hnm
   split at h
   · cases h
   simp only at h
   split at h
   · cases h
   · rename_i v0 k0 hv
     obtain ⟨v1, v2, v3⟩ := hV _ _ _ _ hv
     have hzip : ∀ n, (((ns ++ [nm]).zip (acc ++ [v0])).map fun p => p.1.length + 4 + szJ n p.2).sum = ((ns.zip acc).map fun p => p.1.length + 4 + szJ n p.2).sum + (nm.length + 4 + szJ n v0) := fun n => by
      rw [List.zip_append hl, List.map_append, List.sum_append]; simp
     have hl2 : (ns ++ [nm]).length = (acc ++ [v0]).length := by simp [hl]
     have hvd2 : ∀ x ∈ ns ++ [nm], Lib.validD x = true := fun x hx => by
      rcases List.mem_append.1 hx with hx | hx
      · exact hvd x hx
      · rw [List.mem_singleton.1 hx]; exact s1 rfl
     have hnd2 : (ns ++ [nm]).Nodup := by
      rw [List.nodup_append]
      exact ⟨hnd, by simp, fun x hx y hy e => hnm (by rw [← List.mem_singleton.1 hy, ← e]; exact hx)⟩
     have h10002 : (acc ++ [v0]).length ≤ 1000 := by rw [List.length_append, List.length_singleton]; omega
     have hkv2 : ∀ x ∈ acc ++ [v0], ∀ n, vdJ n x := fun x hx n => by
      rcases List.mem_append.1 hx with hx | hx
      · exact hkv x hx n
      · rw [List.mem_singleton.1 hx]; exact (v1 n).2
     split at h
     · rename_i hb
       have hlt := one_ltZ hb
       injection h with h
       injection h with h1 h2
       subst h1 h2
       refine ⟨fun n => ?_, by omega, by omega⟩
       cases n with
       | zero => exact ⟨by show 1 ≤ _; omega, trivial⟩
       | succ n =>
         have e1 := hsz n
         have e2 := (v1 n).1
         have e3 := hzip n
         refine ⟨?_, ⟨fun e => absurd e (by decide), fun _ => ⟨hvd2, hl2, h10002, hnd2, fun x hx => hkv2 x hx n⟩⟩⟩
         show 1 + 0 + _ ≤ _
         rw [e3]
         omega
     · split at h
       · rename_i hb
         have hlt := one_ltZ hb
         obtain ⟨q1, q2, q3⟩ := hO _ _ _ _ _ _ _ h hl2 hvd2 hnd2 h10002 (fun n => by
           have e1 := hsz n
           have e2 := (v1 n).1
           rw [hzip n]
           omega) hkv2
         rw [List.length_drop] at q3
         exact ⟨q1, by omega, by omega⟩
       · cases h
theorem all_prop : ∀ m, ValP m ∧ ArrP m ∧ ObjP m
 | 0 => ⟨fun _ _ _ _ h => (by unfold valF at h; cases h), fun _ _ _ _ _ _ h => (by unfold arrL at h; cases h), fun _ _ _ _ _ _ _ h => (by unfold objL at h; cases h)⟩
 | m + 1 => by
   obtain ⟨h1, h2, h3⟩ := all_prop m
   exact ⟨val_step h2 h3, arr_stepP h1 h2, obj_stepP h1 h3⟩
theorem parse_prop {l : List UInt8} {v : JV} (h : parseF l = some v) (n : Nat) : szJ n v ≤ l.length ∧ vdJ n v := by
 unfold parseF at h
 split at h
 · cases h
 split at h
 · cases h
 · rename_i v0 k hv
   split at h
   · cases h
   · injection h with h
     subst h
     obtain ⟨h1, _, h3⟩ := (all_prop _).1 _ _ _ _ hv
     rw [List.length_drop] at h3
     exact ⟨Nat.le_trans (h1 n).1 (by omega), (h1 n).2⟩
theorem intOf_bd {v : JV} (h : (intOfF v).2 = 0) : -9223372036854775808 ≤ (intOfF v).1 ∧ (intOfF v).1 ≤ 9223372036854775807 := by
 unfold intOfF at h ⊢
 split at h
 · exact absurd (show (13 : Int) = 0 from h) (by decide)
 · rename_i h1
   rw [if_neg h1]
   unfold jIntF at h ⊢
   split at h
   · exact absurd h (by decide)
   · rename_i h2
     rw [if_neg h2]
     split at h
     · exact absurd h (by decide)
     · rename_i h3
       rw [if_neg h3]
       split at h
       · rename_i n hn
         exact Lib.atoiAll_bounds hn
       · exact absurd h (by decide)
theorem num_ok {n : Int} (h0 : -9223372036854775808 ≤ n) (h1 : n ≤ 9223372036854775807) (m d : Nat) : okF (m + 1) d (jNum (Lib.itoa n)) := by
 have h := num_read (itoa_lit h0 h1) [] end_nil
 rw [List.append_nil] at h
 exact ⟨fun _ => h, fun e => absurd e (by decide), fun e => absurd e (by decide)⟩
theorem word_ok {k : Nat} (hk : k < 3) (m d : Nat) : okF (m + 1) d (.mk k [] [] []) := ⟨fun e => by omega, fun e => by omega, fun e => by omega⟩
theorem str_ok {s : List UInt8} (h : Lib.validD s = true) (m d : Nat) : okF (m + 1) d (jStr s) := ⟨fun e => absurd e (by decide), fun _ => h, fun e => absurd e (by decide)⟩
structure FOk (x : Fct) (y : JV) : Prop where
 j : factJ x = some y
 b : -9223372036854775808 ≤ x.n ∧ x.n ≤ 9223372036854775807
 o : ∀ m d, okF (m + 1) d y
 s : ∀ m, smV (m + 1) y ∨ 1100000 < x.s.length
 l : lenJ 1 y ≤ 6 * x.s.length + 20
theorem factF_ok {nm : List UInt8} {m : JV} {x : Fct} (h : factF nm m = (0, x)) (hv : vdJ 1 m) : x.nm = nm ∧ x.s.length + 1 ≤ szJ 1 m ∧ ∃ y, FOk x y := by
 obtain ⟨k, t, ns, l⟩ := m
 unfold factF at h
 split at h
 · rename_i hk
   injection h with h1 h2
   subst h2
   have hb := intOf_bd h1
   have hi := itoa_len hb.1 hb.2
   refine ⟨rfl, by show 0 + 1 ≤ 1 + _ + _; omega, jNum (Lib.itoa _), by unfold factJ; rw [if_pos rfl, if_pos rfl], hb, num_ok hb.1 hb.2, fun m => .inl ⟨by show (Lib.itoa _).length ≤ 1100000; omega, Nat.zero_le _, (fun x h => by cases h), Nat.zero_le _, (fun x h => by cases h)⟩, by show (Lib.itoa _).length ≤ _; omega⟩
 · split at h
   · rename_i hk
     injection h with h1 h2
     subst h2
     have hk : k = 4 := hk
     have hval : Lib.validD t = true := hv.1 hk
     refine ⟨rfl, ?_, jStr t, by unfold factJ; rw [if_neg (show ¬ (3 : Int) = 1 by decide), if_neg (show ¬ (3 : Int) = 2 by decide), if_pos ⟨rfl, rfl⟩]; rfl, ⟨(by decide : (-9223372036854775808 : Int) ≤ 0), (by decide : (0 : Int) ≤ 9223372036854775807)⟩, str_ok hval, fun m => ?_, ?_⟩
     · subst hk
       show t.length + 1 ≤ 1 + t.length + _
       omega
     · rcases Nat.lt_or_ge 1100000 t.length with h3 | h3
       · exact .inr h3
       · exact .inl ⟨h3, Nat.zero_le _, (fun x h => by cases h), Nat.zero_le _, (fun x h => by cases h)⟩
     · have := quote_le6 t
       show (quoteL t).length ≤ 6 * t.length + 20
       omega
   · split at h
     · rename_i hk
       injection h with h1 h2
       subst h2
       have hk : k = 1 ∨ k = 2 := hk
       rcases hk with rfl | rfl
       · refine ⟨rfl, by show 0 + 1 ≤ 1 + _ + _; omega, .mk 1 [] [] [], rfl, ⟨(show (-9223372036854775808 : Int) ≤ (if (1 : Nat) = 2 then 1 else 0) by decide), (show (if (1 : Nat) = 2 then (1 : Int) else 0) ≤ 9223372036854775807 by decide)⟩, word_ok (by decide), fun m => .inl ⟨Nat.zero_le _, Nat.zero_le _, (fun x h => by cases h), Nat.zero_le _, (fun x h => by cases h)⟩, (show lenJ 1 (.mk 1 [] [] []) ≤ 6 * 0 + 20 by decide)⟩
       · refine ⟨rfl, by show 0 + 1 ≤ 1 + _ + _; omega, .mk 2 [] [] [], rfl, ⟨(show (-9223372036854775808 : Int) ≤ (if (2 : Nat) = 2 then 1 else 0) by decide), (show (if (2 : Nat) = 2 then (1 : Int) else 0) ≤ 9223372036854775807 by decide)⟩, word_ok (by decide), fun m => .inl ⟨Nat.zero_le _, Nat.zero_le _, (fun x h => by cases h), Nat.zero_le _, (fun x h => by cases h)⟩, (show lenJ 1 (.mk 2 [] [] []) ≤ 6 * 0 + 20 by decide)⟩
     · injection h with h1
       exact absurd h1 (by decide)
theorem factsL_ok {v : JV} : ∀ (names : List (List UInt8)) (acc : List Fct), (factsL v names acc).1 = 0 → ∃ xs, (factsL v names acc).2 = acc ++ xs ∧ xs.length = names.length ∧ ∀ (i : Nat) (nm : List UInt8) (x : Fct), names[i]? = some nm → xs[i]? = some x → factF nm ((getF v nm).getD jz) = (0, x)
 | [], acc, _ => ⟨[], by simp [factsL], rfl, fun i nm x h => by cases h⟩
 | nm :: r, acc, h => by
   unfold factsL at h ⊢
   split at h
   · rename_i h1; exact absurd h h1
   · rename_i h1
     rw [if_neg h1]
     obtain ⟨xs, e1, e2, e3⟩ := factsL_ok r _ h
     refine ⟨(factF nm ((getF v nm).getD jz)).2 :: xs, by rw [e1]; simp, by simp [e2], fun i n x hn hx => ?_⟩
     cases i with
     | zero =>
       obtain rfl : nm = n := by simpa using hn
       obtain rfl : _ = x := Option.some.inj hx
       exact Prod.ext (Classical.not_not.1 h1) rfl
     | succ i => exact e3 i n x (by simpa using hn) (by simpa using hx)
theorem factsJ_ok : ∀ (fs : List Fct) (ns : List (List UInt8)) (l : List JV), (∀ x ∈ fs, ∃ y, factJ x = some y) → (ns ++ fs.map Fct.nm).Pairwise (· < ·) → ∃ v, factsJ fs ns l = some v
 | [], ns, l, _, _ => ⟨_, rfl⟩
 | x :: r, ns, l, hy, hp => by
   obtain ⟨y, hxy⟩ := hy x (.head _)
   have hp2 : ((ns ++ [x.nm]) ++ r.map Fct.nm).Pairwise (· < ·) := by simpa using hp
   obtain ⟨v, hv⟩ := factsJ_ok r (ns ++ [x.nm]) (l ++ [y]) (fun z hz => hy z (.tail _ hz)) hp2
   refine ⟨v, ?_⟩
   unfold factsJ
   rw [hxy]
   simp only
   cases hg : ns.getLast? with
   | none => rw [if_pos rfl]; exact hv
   | some p =>
     have hlt : p < x.nm := (List.pairwise_append.1 hp).2.2 p (List.mem_of_getLast? hg) x.nm (.head _)
     simp only [decide_eq_true_eq]
     rw [if_pos hlt]; exact hv
theorem sort_rise {ns : List (List UInt8)} (h : ns.Nodup) : (sortL ns).Pairwise (· < ·) := by
 have hs : (sortL ns).Pairwise (· ≤ ·) := by
  have := List.pairwise_mergeSort (le := fun x y : List UInt8 => decide (x ≤ y)) (fun a b c h1 h2 => by simp only [decide_eq_true_eq] at *; exact List.le_trans h1 h2) (fun a b => by simp only [Bool.or_eq_true, decide_eq_true_eq]; exact List.le_total a b) ns
  exact this.imp (fun h => by simpa using h)
 have hn : (sortL ns).Nodup := ((List.mergeSort_perm _ _).nodup_iff).2 h
 refine List.Pairwise.imp₂ (fun a b h1 h2 => ?_) hs hn
 rcases List.le_iff_lt_or_eq.1 h1 with h3 | h3
 · exact h3
 · exact absurd h3 h2
theorem facts_bound {o : JV} {fx : List Fct} (h : factsF o = (0, fx)) (hk : o.k = 6) (hv : vdJ 2 o) : FxB fx ∧ fx.length ≤ 1000 ∧ (∀ x ∈ fx, Lib.validD x.nm = true ∧ ∃ y, FOk x y) ∧ (fx.map Fct.nm).Pairwise (· < ·) ∧ (fx.map fun x => x.nm.length + 4 + x.s.length).sum + 1 ≤ szJ 2 o := by
 obtain ⟨k, t, ns, l⟩ := o
 have hk : k = 6 := hk
 subst hk
 obtain ⟨hvn, hlen, h1000, hnd, hvl⟩ := hv.2 rfl
 have h0 : (factsL (.mk 6 t ns l) (sortL ns) []).1 = 0 := congrArg Prod.fst h
 obtain ⟨xs, e1, e2, e3⟩ := factsL_ok _ _ h0
 have hxs : xs = fx := by
  have h2 : (factsL (.mk 6 t ns l) (sortL ns) []).2 = fx := congrArg Prod.snd h
  rw [e1] at h2; simpa using h2
 subst hxs
 have hperm : (sortL ns).Perm ns := List.mergeSort_perm _ _
 have hget : ∀ p ∈ ns.zip l, getF (.mk 6 t ns l) p.1 = some p.2 := fun p hp => by
  unfold getF
  rw [if_pos (show (JV.mk 6 t ns l).k = 6 from rfl)]
  show ((ns.zip l).find? fun q => q.1 == p.1).map (·.2) = some p.2
  rw [find_key (by rw [List.map_fst_zip (by omega)]; exact hnd) (show (p.1, p.2) ∈ _ from hp)]
  rfl
 have hmem : ∀ nm ∈ ns, ∃ m, getF (.mk 6 t ns l) nm = some m ∧ m ∈ l := fun nm hn => by
  obtain ⟨i, hi⟩ := List.getElem?_of_mem hn
  have hil := (List.getElem?_eq_some_iff.1 hi).1
  obtain ⟨m, hm⟩ : ∃ m, l[i]? = some m := ⟨_, List.getElem?_eq_getElem (by omega)⟩
  have hz : (nm, m) ∈ ns.zip l := List.mem_of_getElem? (i := i) (by rw [List.getElem?_zip_eq_some]; exact ⟨hi, hm⟩)
  exact ⟨m, hget _ hz, List.mem_of_getElem? hm⟩
 have each : ∀ (i : Nat) (nm : List UInt8) (x : Fct), (sortL ns)[i]? = some nm → xs[i]? = some x → x.nm = nm ∧ nm ∈ ns ∧ x.s.length + 1 ≤ szJ 1 ((getF (.mk 6 t ns l) nm).getD jz) ∧ ∃ y, FOk x y := fun i nm x hn hx => by
  have hnm : nm ∈ ns := (hperm.mem_iff).1 (List.mem_of_getElem? hn)
  obtain ⟨m, hm1, hm2⟩ := hmem nm hnm
  have h2 := e3 i nm x hn hx
  rw [hm1] at h2 ⊢
  obtain ⟨g1, g2, g3⟩ := factF_ok h2 (hvl m hm2)
  exact ⟨g1, hnm, g2, g3⟩
 have hnms : xs.map Fct.nm = sortL ns := by
  refine List.ext_getElem? fun i => ?_
  rcases Nat.lt_or_ge i xs.length with hi | hi
  · obtain ⟨x, hx⟩ : ∃ x, xs[i]? = some x := ⟨_, List.getElem?_eq_getElem hi⟩
    obtain ⟨nm, hn⟩ : ∃ nm, (sortL ns)[i]? = some nm := ⟨_, List.getElem?_eq_getElem (by omega)⟩
    rw [List.getElem?_map, hx, hn, ← (each i nm x hn hx).1]; rfl
  · rw [List.getElem?_map, List.getElem?_eq_none hi, List.getElem?_eq_none (by omega)]; rfl
 have hall : ∀ x ∈ xs, x.nm ∈ ns ∧ ∃ y, FOk x y := fun x hx => by
  obtain ⟨i, hi⟩ := List.getElem?_of_mem hx
  have hil := (List.getElem?_eq_some_iff.1 hi).1
  obtain ⟨nm, hn⟩ : ∃ nm, (sortL ns)[i]? = some nm := ⟨_, List.getElem?_eq_getElem (by omega)⟩
  obtain ⟨g1, g2, _, g3⟩ := each i nm x hn hi
  exact ⟨g1 ▸ g2, g3⟩
 refine ⟨fun x hx => by obtain ⟨_, y, hy⟩ := hall x hx; exact hy.b, ?_, fun x hx => ⟨hvn _ (hall x hx).1, (hall x hx).2⟩, by rw [hnms]; exact sort_rise hnd, ?_⟩
 · rw [e2]; have := hperm.length_eq; omega
 · have s1 : (xs.map fun x => x.nm.length + 4 + x.s.length).sum ≤ ((sortL ns).map fun nm => nm.length + 4 + szJ 1 ((getF (.mk 6 t ns l) nm).getD jz)).sum := by
    refine sum_le2 _ _ _ _ e2 fun i x nm hx hn => ?_
    obtain ⟨g1, _, g2, _⟩ := each i nm x hn hx
    rw [g1]; omega
   have s2 : ((sortL ns).map fun nm => nm.length + 4 + szJ 1 ((getF (.mk 6 t ns l) nm).getD jz)).sum = (ns.map fun nm => nm.length + 4 + szJ 1 ((getF (.mk 6 t ns l) nm).getD jz)).sum := (hperm.map _).sum_nat
   have s3 : (ns.map fun nm => nm.length + 4 + szJ 1 ((getF (.mk 6 t ns l) nm).getD jz)).sum = ((ns.zip l).map fun p => p.1.length + 4 + szJ 1 p.2).sum := by
    have e : ns = (ns.zip l).map (·.1) := (List.map_fst_zip (by omega)).symm
    conv => lhs; rw [e]
    rw [List.map_map]
    congr 1
    refine List.map_congr_left fun p hp => ?_
    show p.1.length + 4 + szJ 1 ((getF (.mk 6 t ((ns.zip l).map (·.1)) l) p.1).getD jz) = _
    rw [← e, hget p hp]; rfl
   have s4 : szJ 2 (.mk 6 t ns l) = 1 + 0 + ((ns.zip l).map fun p => p.1.length + 4 + szJ 1 p.2).sum := rfl
   omega
theorem facts_told {fx : List Fct} {B : Nat} (hl : fx.length ≤ 1000) (hx : ∀ x ∈ fx, Lib.validD x.nm = true ∧ ∃ y, FOk x y) (hr : (fx.map Fct.nm).Pairwise (· < ·)) (hB : (fx.map fun x => x.nm.length + 4 + x.s.length).sum + 1 ≤ B) (hB2 : B ≤ 1000000) :
 ∃ v, factsJ fx [] [] = some v ∧ okF 2 1 v ∧ lenJ 2 v ≤ 6 * B ∧ smV 2 v := by
 obtain ⟨v, hv⟩ := factsJ_ok fx [] [] (fun x h => by obtain ⟨_, y, hy⟩ := hx x h; exact ⟨y, hy.j⟩) (by simpa using hr)
 obtain ⟨ys, h1, h2, h3⟩ := factsJ_all fx [] [] v hv
 simp only [List.nil_append] at h1
 have hlen : (fx.map Fct.nm).length = ys.length := by rw [List.length_map]; exact h2.symm
 have hmemB : ∀ x ∈ fx, x.nm.length + 4 + x.s.length ≤ B := fun x hxm => by
  have : x.nm.length + 4 + x.s.length ≤ (fx.map fun x => x.nm.length + 4 + x.s.length).sum := by
   clear hv h1 h2 h3 hlen hB hr hl hx
   induction fx with
   | nil => cases hxm
   | cons z r ih =>
     rw [List.map_cons, List.sum_cons]
     rcases List.mem_cons.1 hxm with rfl | hxm
     · omega
     · have := ih hxm; omega
  omega
 have hy : ∀ (i : Nat) (x : Fct) (y : JV), fx[i]? = some x → ys[i]? = some y → FOk x y := fun i x y hi hj => by
  obtain ⟨_, z, hz⟩ := hx x (List.mem_of_getElem? hi)
  have := h3 i x y hi hj
  rw [hz.j] at this
  injection this with this
  exact this ▸ hz
 have hyi : ∀ y ∈ ys, ∃ x ∈ fx, FOk x y := fun y hym => by
  obtain ⟨i, hi⟩ := List.getElem?_of_mem hym
  have hil := (List.getElem?_eq_some_iff.1 hi).1
  obtain ⟨x, hx⟩ : ∃ x, fx[i]? = some x := ⟨_, List.getElem?_eq_getElem (by omega)⟩
  exact ⟨x, List.mem_of_getElem? hx, hy i x y hx hi⟩
 refine ⟨v, hv, ?_, ?_, ?_⟩
 · rw [h1]
   refine ⟨fun e => absurd e (by decide), fun e => absurd e (by decide), fun _ => ⟨fun n hn => ?_, hlen, by decide, by omega, hr.imp (fun h e => by rw [e] at h; exact List.lt_irrefl _ h), fun y hym => ?_⟩⟩
   · obtain ⟨x, hxm, rfl⟩ := List.mem_map.1 hn
     exact (hx x hxm).1
   · obtain ⟨x, _, hf⟩ := hyi y hym
     exact hf.o 0 2
 · rw [h1, objP_zip hlen]
   have e : lenJ 2 (objP ((fx.map Fct.nm).zip ys)) ≤ _ := (lenJ_le 1 ((fx.map Fct.nm).zip ys)).1
   have e2 : lenP 1 ((fx.map Fct.nm).zip ys) ≤ (fx.map fun x => 6 * (x.nm.length + 4 + x.s.length)).sum := by
    unfold lenP
    refine sum_le2 _ _ _ _ (by rw [List.length_zip]; rw [List.length_map] at *; omega) fun i p x hp hxi => ?_
    rw [List.getElem?_zip_eq_some, List.getElem?_map, hxi] at hp
    obtain ⟨hp1, hp2⟩ := hp
    have hp1 : x.nm = p.1 := by simpa using hp1
    have hq := quote_le6 p.1
    have hl := (hy i x p.2 hxi hp2).l
    rw [hp1]
    omega
   have e3 : ∀ l : List Fct, (l.map fun x => 6 * (x.nm.length + 4 + x.s.length)).sum = 6 * (l.map fun x => x.nm.length + 4 + x.s.length).sum := by
    intro l
    induction l with
    | nil => rfl
    | cons x l ih => rw [List.map_cons, List.sum_cons, ih, List.map_cons, List.sum_cons]; omega
   rw [e3] at e2
   omega
 · rw [h1, objP_zip hlen]
   refine sm_ps.2 ⟨by rw [List.length_zip, List.length_map]; omega, fun p hp => ?_⟩
   obtain ⟨i, hi⟩ := List.getElem?_of_mem hp
   rw [List.getElem?_zip_eq_some, List.getElem?_map] at hi
   obtain ⟨hi1, hi2⟩ := hi
   obtain ⟨x, hx1, hx2⟩ := Option.map_eq_some_iff.1 hi1
   have hb := hmemB x (List.mem_of_getElem? hx1)
   refine ⟨by rw [← hx2]; omega, ?_⟩
   rcases (hy i x p.2 hx1 hi2).s 0 with h | h
   · exact h
   · omega
def rdL (fs : List Fd) (v : JV) (c : Cd) : Cd := fs.foldl (fun c f => rdC f ((getF v f.nm).getD jz) c) c
theorem bindL_rd : ∀ (fs : List Fd) (v : JV) (c : Cd) (fx : JV), (bindL fs v c fx).1 = 0 → (∀ f ∈ fs, ∃ y, getF v f.nm = some y ∧ rdE f y = 0) ∧ (bindL fs v c fx).2.1 = rdL fs v c ∧ (((∀ f ∈ fs, f.kd ≠ 2) ∧ (bindL fs v c fx).2.2 = fx) ∨ ∃ f ∈ fs, f.kd = 2 ∧ getF v f.nm = some (bindL fs v c fx).2.2)
 | [], v, c, fx, _ => ⟨fun f h => (by cases h), rfl, .inl ⟨fun f h => (by cases h), rfl⟩⟩
 | f :: fs, v, c, fx, h => by
   unfold bindL at h ⊢
   cases hg : getF v f.nm with
   | none => rw [hg] at h; exact absurd (show (32 : Int) = 0 from h) (by decide)
   | some y =>
     rw [hg] at h
     simp only at h ⊢
     by_cases he : rdE f y ≠ 0
     · rw [if_pos he] at h; exact absurd h he
     · rw [if_neg he] at h ⊢
       obtain ⟨h1, h2, h3⟩ := bindL_rd fs v _ _ h
       refine ⟨fun g hg2 => ?_, ?_, ?_⟩
       · rcases List.mem_cons.1 hg2 with rfl | hg2
         · exact ⟨y, hg, Classical.not_not.1 he⟩
         · exact h1 g hg2
       · rw [h2]
         show _ = rdL fs v (rdC f ((getF v f.nm).getD jz) c)
         rw [hg]; rfl
       · rcases h3 with ⟨h3, h4⟩ | ⟨g, hg1, hg2, hg3⟩
         · by_cases hk : f.kd = 2
           · rw [if_pos hk] at h4
             refine .inr ⟨f, .head _, hk, ?_⟩
             rw [if_pos hk, h4]; exact hg
           · rw [if_neg hk] at h4
             refine .inl ⟨fun g hg2 => ?_, by rw [if_neg hk]; exact h4⟩
             rcases List.mem_cons.1 hg2 with rfl | hg2
             · exact hk
             · exact h3 g hg2
         · exact .inr ⟨g, .tail _ hg1, hg2, hg3⟩
theorem rd_kind (v : JV) : ∀ (fs : List Fd) (c : Cd), (rdL fs v c).kind = c.kind
 | [], _ => rfl
 | f :: fs, c => by
   show (rdL fs v (rdC f _ c)).kind = c.kind
   rw [rd_kind v fs]
   unfold rdC
   split
   · rfl
   · split <;> rfl
theorem rd_t (v : JV) (i : Nat) : ∀ (fs : List Fd) (c : Cd), (rdL fs v c).t i = c.t i ∨ ∃ f ∈ fs, f.kd = 0 ∧ f.off = i ∧ (rdL fs v c).t i = ((getF v f.nm).getD jz).t
 | [], _ => .inl rfl
 | f :: fs, c => by
   show (rdL fs v (rdC f ((getF v f.nm).getD jz) c)).t i = c.t i ∨ _
   rcases rd_t v i fs (rdC f ((getF v f.nm).getD jz) c) with h | ⟨g, h1, h2, h3, h4⟩
   · unfold rdC at h ⊢
     by_cases hk : f.kd = 0
     · rw [if_pos hk] at h ⊢
       by_cases ho : i = f.off
       · refine .inr ⟨f, .head _, hk, ho.symm, ?_⟩
         show (rdL fs v (rdC f _ c)).t i = _
         unfold rdC; rw [if_pos hk, h]
         show (if i = f.off then _ else _) = _
         rw [if_pos ho]
       · left; rw [h]
         show (if i = f.off then _ else _) = _
         rw [if_neg ho]
     · rw [if_neg hk] at h ⊢
       left
       by_cases hk1 : f.kd = 1
       · rw [if_pos hk1] at h ⊢; rw [h]; rfl
       · rw [if_neg hk1] at h ⊢; exact h
   · exact .inr ⟨g, .tail _ h1, h2, h3, h4⟩
theorem rd_n (v : JV) (i : Nat) : ∀ (fs : List Fd) (c : Cd), (rdL fs v c).n i = c.n i ∨ ∃ f ∈ fs, f.kd = 1 ∧ f.off = i ∧ (rdL fs v c).n i = (intOfF ((getF v f.nm).getD jz)).1
 | [], _ => .inl rfl
 | f :: fs, c => by
   show (rdL fs v (rdC f ((getF v f.nm).getD jz) c)).n i = c.n i ∨ _
   rcases rd_n v i fs (rdC f ((getF v f.nm).getD jz) c) with h | ⟨g, h1, h2, h3, h4⟩
   · unfold rdC at h ⊢
     by_cases hk : f.kd = 0
     · rw [if_pos hk] at h ⊢
       left; rw [h]; rfl
     · rw [if_neg hk] at h ⊢
       by_cases hk1 : f.kd = 1
       · rw [if_pos hk1] at h ⊢
         by_cases ho : i = f.off
         · refine .inr ⟨f, .head _, hk1, ho.symm, ?_⟩
           show (rdL fs v (rdC f _ c)).n i = _
           unfold rdC; rw [if_neg hk, if_pos hk1, h]
           show (if i = f.off then _ else _) = _
           rw [if_pos ho]
         · left; rw [h]
           show (if i = f.off then _ else _) = _
           rw [if_neg ho]
       · rw [if_neg hk1] at h ⊢; exact .inl h
   · exact .inr ⟨g, .tail _ h1, h2, h3, h4⟩
theorem getF_zip {o y : JV} {nm : List UInt8} (h : getF o nm = some y) : o.k = 6 ∧ (nm, y) ∈ o.ns.zip o.l := by
 unfold getF at h
 split at h
 · rename_i hk
   obtain ⟨p, h1, h2⟩ := Option.map_eq_some_iff.1 h
   have h3 := List.mem_of_find?_eq_some h1
   have h4 : p.1 = nm := by simpa using List.find?_some h1
   exact ⟨hk, by rw [← h4, ← h2]; exact h3⟩
 · cases h
theorem sum_mem {α : Type} (f : α → Nat) {l : List α} {x : α} (h : x ∈ l) : f x ≤ (l.map f).sum := by
 induction l with
 | nil => cases h
 | cons y l ih =>
   rw [List.map_cons, List.sum_cons]
   rcases List.mem_cons.1 h with rfl | h
   · omega
   · have := ih h; omega
theorem mem_prop {o y : JV} {nm : List UInt8} {B : Nat} (hp : ∀ n, szJ n o ≤ B ∧ vdJ n o) (h : getF o nm = some y) (n : Nat) : szJ n y ≤ B ∧ vdJ n y := by
 obtain ⟨hk, hm⟩ := getF_zip h
 obtain ⟨k, t, ns, l⟩ := o
 have hk : k = 6 := hk
 obtain ⟨h1, h2⟩ := hp (n + 1)
 have hm : (nm, y) ∈ ns.zip l := hm
 have h3 : szJ (n + 1) (.mk k t ns l) = 1 + (if k = 4 then t.length else 0) + ((ns.zip l).map fun p => p.1.length + 4 + szJ n p.2).sum := rfl
 have h4 := sum_mem (fun p : List UInt8 × JV => p.1.length + 4 + szJ n p.2) hm
 simp only at h4
 exact ⟨by omega, (h2.2 hk).2.2.2.2 y (List.of_mem_zip hm).2⟩
theorem txt_prop {y : JV} {B : Nat} (hp : ∀ n, szJ n y ≤ B ∧ vdJ n y) (hk : y.k = 4) : Lib.validD y.t = true ∧ y.t.length ≤ B := by
 obtain ⟨k, t, ns, l⟩ := y
 have hk : k = 4 := hk
 subst hk
 obtain ⟨h1, h2⟩ := hp 1
 refine ⟨h2.1 rfl, ?_⟩
 have h3 : szJ 1 (.mk 4 t ns l) = 1 + t.length + _ := rfl
 show t.length ≤ B
 omega
structure Bound (fs : List Fd) (kd : Int) (B : Nat) (d : Cd) : Prop where
 kind : d.kind = kd
 t : ∀ i, Lib.validD (d.t i) = true ∧ (d.t i).length ≤ B
 n : ∀ i, -9223372036854775808 ≤ d.n i ∧ d.n i ≤ 9223372036854775807
 t0 : ∀ i, (∀ f ∈ fs, ¬ (f.kd = 0 ∧ f.off = i)) → d.t i = []
 n0 : ∀ i, (∀ f ∈ fs, ¬ (f.kd = 1 ∧ f.off = i)) → d.n i = 0
 f0 : (∀ f ∈ fs, f.kd ≠ 2) → d.fx = []
 fb : FxB d.fx
 fl : d.fx.length ≤ 1000
 fv : ∀ x ∈ d.fx, Lib.validD x.nm = true ∧ ∃ y, FOk x y
 fr : (d.fx.map Fct.nm).Pairwise (· < ·)
 fs : (d.fx.map fun x => x.nm.length + 4 + x.s.length).sum + 1 ≤ B
theorem bind_bound {fs : List Fd} {kd : Int} {o : JV} {d : Cd} {B : Nat} (hok : ∀ f ∈ fs, f.ok) (hp : ∀ n, szJ n o ≤ B ∧ vdJ n o) (hB : 1 ≤ B) (h1 : (bindF fs kd o).1 = 0) (h2 : (bindF fs kd o).2 = d) : Bound fs kd B d := by
 have h : bindF fs kd o = (0, d) := Prod.ext h1 h2
 clear h1 h2
 unfold bindF at h
 split at h
 · rename_i h1
   exact absurd (congrArg Prod.fst h) h1
 rename_i h1
 split at h
 · exact absurd (show (32 : Int) = 0 from congrArg Prod.fst h) (by decide)
 split at h
 · rename_i h3
   exact absurd (congrArg Prod.fst h) h3
 rename_i h3
 have hd : { (bindL fs o (zCd kd) jz).2.1 with fx := (factsF (bindL fs o (zCd kd) jz).2.2).2 } = d := congrArg Prod.snd h
 obtain ⟨g1, g2, g3⟩ := bindL_rd fs o (zCd kd) jz (Classical.not_not.1 h1)
 rw [g2] at hd
 obtain ⟨fv, hfv⟩ : ∃ fv, (bindL fs o (zCd kd) jz).2.2 = fv := ⟨_, rfl⟩
 rw [hfv] at hd g3 h3
 have hff : factsF fv = (0, d.fx) := by rw [← hd]; exact Prod.ext (Classical.not_not.1 h3) rfl
 have ht : ∀ i, d.t i = (rdL fs o (zCd kd)).t i := fun i => by rw [← hd]
 have hn : ∀ i, d.n i = (rdL fs o (zCd kd)).n i := fun i => by rw [← hd]
 have hfx : FxB d.fx ∧ d.fx.length ≤ 1000 ∧ (∀ x ∈ d.fx, Lib.validD x.nm = true ∧ ∃ y, FOk x y) ∧ (d.fx.map Fct.nm).Pairwise (· < ·) ∧ (d.fx.map fun x => x.nm.length + 4 + x.s.length).sum + 1 ≤ B ∧ ((∀ f ∈ fs, f.kd ≠ 2) → d.fx = []) := by
  rcases g3 with ⟨g3, g4⟩ | ⟨f, hf1, hf2, hf3⟩
  · subst g4
    have e : d.fx = [] := by
     have := congrArg Prod.snd hff
     simpa [factsF, jz, JV.ns, sortL, factsL] using this.symm
    rw [e]
    exact ⟨fun x hx => (by cases hx), Nat.zero_le _, fun x hx => (by cases hx), List.Pairwise.nil, hB, fun _ => rfl⟩
  · obtain ⟨y, hy1, hy2⟩ := g1 f hf1
    rw [hf3] at hy1
    injection hy1 with hy1
    subst hy1
    have hk6 : fv.k = 6 := by
     unfold rdE at hy2
     rw [if_neg (by omega), if_neg (by omega)] at hy2
     apply Classical.byContradiction
     intro hk
     rw [if_neg hk] at hy2
     exact absurd hy2 (by decide)
    have hpy := mem_prop hp hf3 2
    obtain ⟨b1, b2, b3, b4, b5⟩ := facts_bound hff hk6 hpy.2
    exact ⟨b1, b2, b3, b4, Nat.le_trans b5 hpy.1, fun hno => absurd hf2 (hno f hf1)⟩
 obtain ⟨b1, b2, b3, b4, b5, b6⟩ := hfx
 have htt : ∀ i, d.t i = [] ∨ ∃ f ∈ fs, f.kd = 0 ∧ f.off = i ∧ ∃ y, getF o f.nm = some y ∧ y.k = 4 ∧ d.t i = y.t := fun i => by
  rcases rd_t o i fs (zCd kd) with h4 | ⟨f, hf1, hf2, hf3, hf4⟩
  · left; rw [ht, h4]; rfl
  · right
    obtain ⟨y, hy1, hy2⟩ := g1 f hf1
    refine ⟨f, hf1, hf2, hf3, y, hy1, ?_, by rw [ht, hf4, hy1]; rfl⟩
    unfold rdE at hy2
    rw [if_pos hf2] at hy2
    apply Classical.byContradiction
    intro hk
    rw [if_neg hk] at hy2
    exact absurd hy2 (by decide)
 have hnn : ∀ i, d.n i = 0 ∨ ∃ f ∈ fs, f.kd = 1 ∧ f.off = i ∧ ∃ y, (intOfF y).2 = 0 ∧ d.n i = (intOfF y).1 := fun i => by
  rcases rd_n o i fs (zCd kd) with h4 | ⟨f, hf1, hf2, hf3, hf4⟩
  · left; rw [hn, h4]; rfl
  · right
    obtain ⟨y, hy1, hy2⟩ := g1 f hf1
    refine ⟨f, hf1, hf2, hf3, y, ?_, by rw [hn, hf4, hy1]; rfl⟩
    unfold rdE at hy2
    rw [if_neg (by omega), if_pos hf2] at hy2
    exact hy2
 refine ⟨by rw [← hd]; exact rd_kind o fs (zCd kd), fun i => ?_, fun i => ?_, fun i hi => ?_, fun i hi => ?_, b6, b1, b2, b3, b4, b5⟩
 · rcases htt i with h4 | ⟨f, _, _, _, y, hy1, hy2, hy3⟩
   · rw [h4]; exact ⟨rfl, Nat.zero_le _⟩
   · rw [hy3]; exact txt_prop (mem_prop hp hy1) hy2
 · rcases hnn i with h4 | ⟨f, _, _, _, y, hy1, hy2⟩
   · rw [h4]; exact ⟨by decide, by decide⟩
   · rw [hy2]; exact intOf_bd hy1
 · rcases htt i with h4 | ⟨f, hf1, hf2, hf3, _⟩
   · exact h4
   · exact absurd ⟨hf2, hf3⟩ (hi f hf1)
 · rcases hnn i with h4 | ⟨f, hf1, hf2, hf3, _⟩
   · exact h4
   · exact absurd ⟨hf2, hf3⟩ (hi f hf1)
theorem reqL_ok : ∀ (fs : List Fd) (c : Cd) (ns : List (List UInt8)) (l : List JV), (∀ f ∈ fs, f.ok) → fs.Pairwise apart → (∀ f ∈ fs, ∃ y, (valC f c).1 = some y) → ∃ v c', reqL fs c ns l = some (v, c')
 | [], c, ns, l, _, _, _ => ⟨_, _, rfl⟩
 | f :: fs, c, ns, l, hok, hp, hy => by
   obtain ⟨hp1, hp2⟩ := List.pairwise_cons.1 hp
   obtain ⟨y, hv⟩ := hy f (.head _)
   obtain ⟨v, c', h⟩ := reqL_ok fs (valC f c).2 (ns ++ [f.nm]) (l ++ [y]) (fun g hg => hok g (.tail _ hg)) hp2 (fun g hg => by
     rw [valC_apart (hok f (.head _)) (hok g (.tail _ hg)) (hp1 g hg)]
     exact hy g (.tail _ hg))
   refine ⟨v, c', ?_⟩
   unfold reqL
   cases hc : valC f c with
   | mk o c1 =>
     rw [hc] at hv h
     simp only at hv
     subst hv
     exact h
theorem clear_t (i : Nat) : ∀ (fs : List Fd) (c : Cd), ((clearC fs c).t i = [] ∨ (clearC fs c).t i = c.t i) ∧ ((∃ f ∈ fs, f.kd = 0 ∧ f.off = i) → (clearC fs c).t i = [])
 | [], c => ⟨.inr rfl, fun ⟨f, h, _⟩ => (by cases h)⟩
 | f :: fs, c => by
   obtain ⟨h1, h2⟩ := clear_t i fs (valC f c).2
   have hv : (valC f c).2.t i = c.t i ∨ (valC f c).2.t i = [] := by
    unfold valC
    split
    · show (if i = f.off then [] else c.t i) = _ ∨ (if i = f.off then [] else c.t i) = _
      split
      · exact .inr rfl
      · exact .inl rfl
    · split <;> exact .inl rfl
   refine ⟨?_, fun ⟨g, hg1, hg2, hg3⟩ => ?_⟩
   · show (clearC fs (valC f c).2).t i = [] ∨ (clearC fs (valC f c).2).t i = c.t i
     rcases h1 with h1 | h1
     · exact .inl h1
     · rcases hv with hv | hv
       · exact .inr (h1.trans hv)
       · exact .inl (h1.trans hv)
   · show (clearC fs (valC f c).2).t i = []
     rcases List.mem_cons.1 hg1 with rfl | hg1
     · have hz : (valC g c).2.t i = [] := by
        unfold valC
        rw [if_pos hg2]
        show (if i = g.off then [] else c.t i) = []
        rw [if_pos hg3.symm]
       rcases h1 with h1 | h1
       · exact h1
       · exact h1.trans hz
     · exact h2 ⟨g, hg1, hg2, hg3⟩
theorem clear_n (i : Nat) : ∀ (fs : List Fd) (c : Cd), ((clearC fs c).n i = 0 ∨ (clearC fs c).n i = c.n i) ∧ ((∃ f ∈ fs, f.kd = 1 ∧ f.off = i) → (clearC fs c).n i = 0)
 | [], c => ⟨.inr rfl, fun ⟨f, h, _⟩ => (by cases h)⟩
 | f :: fs, c => by
   obtain ⟨h1, h2⟩ := clear_n i fs (valC f c).2
   have hv : (valC f c).2.n i = c.n i ∨ (valC f c).2.n i = 0 := by
    unfold valC
    split
    · exact .inl rfl
    · split
      · show (if i = f.off then 0 else c.n i) = _ ∨ (if i = f.off then 0 else c.n i) = _
        split
        · exact .inr rfl
        · exact .inl rfl
      · exact .inl rfl
   refine ⟨?_, fun ⟨g, hg1, hg2, hg3⟩ => ?_⟩
   · show (clearC fs (valC f c).2).n i = 0 ∨ (clearC fs (valC f c).2).n i = c.n i
     rcases h1 with h1 | h1
     · exact .inl h1
     · rcases hv with hv | hv
       · exact .inr (h1.trans hv)
       · exact .inl (h1.trans hv)
   · show (clearC fs (valC f c).2).n i = 0
     rcases List.mem_cons.1 hg1 with rfl | hg1
     · have hz : (valC g c).2.n i = 0 := by
        unfold valC
        rw [if_neg (by omega), if_pos hg2]
        show (if i = g.off then 0 else c.n i) = 0
        rw [if_pos hg3.symm]
       rcases h1 with h1 | h1
       · exact h1
       · exact h1.trans hz
     · exact h2 ⟨g, hg1, hg2, hg3⟩
theorem clear_f : ∀ (fs : List Fd) (c : Cd), (∀ f ∈ fs, f.ok) → ((clearC fs c).fx = [] ∨ (clearC fs c).fx = c.fx) ∧ ((∃ f ∈ fs, f.kd = 2) → (clearC fs c).fx = [])
 | [], c, _ => ⟨.inr rfl, fun ⟨f, h, _⟩ => (by cases h)⟩
 | f :: fs, c, hok => by
   obtain ⟨h1, h2⟩ := clear_f fs (valC f c).2 (fun g hg => hok g (.tail _ hg))
   have hv : (valC f c).2.fx = c.fx ∨ (valC f c).2.fx = [] := by
    unfold valC
    split
    · exact .inl rfl
    · split
      · exact .inl rfl
      · exact .inr rfl
   refine ⟨?_, fun ⟨g, hg1, hg2⟩ => ?_⟩
   · show (clearC fs (valC f c).2).fx = [] ∨ (clearC fs (valC f c).2).fx = c.fx
     rcases h1 with h1 | h1
     · exact .inl h1
     · rcases hv with hv | hv
       · exact .inr (h1.trans hv)
       · exact .inl (h1.trans hv)
   · show (clearC fs (valC f c).2).fx = []
     rcases List.mem_cons.1 hg1 with rfl | hg1
     · have hz : (valC g c).2.fx = [] := by
        unfold valC
        rw [if_neg (by omega), if_neg (by omega)]
       rcases h1 with h1 | h1
       · exact h1
       · exact h1.trans hz
     · exact h2 ⟨g, hg1, hg2⟩
theorem bound_empty {fs : List Fd} {kd : Int} {B : Nat} {d : Cd} (hok : ∀ f ∈ fs, f.ok) (h : Bound fs kd B d) : emptyC (clearC fs d) := by
 have ht : ∀ i, (clearC fs d).t i = [] := fun i => by
  obtain ⟨h1, h2⟩ := clear_t i fs d
  by_cases he : ∃ f ∈ fs, f.kd = 0 ∧ f.off = i
  · exact h2 he
  · have h3 := h.t0 i (fun f hf hh => he ⟨f, hf, hh⟩)
    rcases h1 with h1 | h1
    · exact h1
    · exact h1.trans h3
 have hn : ∀ i, (clearC fs d).n i = 0 := fun i => by
  obtain ⟨h1, h2⟩ := clear_n i fs d
  by_cases he : ∃ f ∈ fs, f.kd = 1 ∧ f.off = i
  · exact h2 he
  · have h3 := h.n0 i (fun f hf hh => he ⟨f, hf, hh⟩)
    rcases h1 with h1 | h1
    · exact h1
    · exact h1.trans h3
 have hf : (clearC fs d).fx = [] := by
  obtain ⟨h1, h2⟩ := clear_f fs d hok
  by_cases he : ∃ f ∈ fs, f.kd = 2
  · exact h2 he
  · have h3 := h.f0 (fun f hf hh => he ⟨f, hf, hh⟩)
    rcases h1 with h1 | h1
    · exact h1
    · exact h1.trans h3
 exact ⟨ht 1, ht 2, ht 3, ht 4, ht 5, ht 6, hf, hn 7, hn 8, hn 9, hn 10, hn 11, hn 12, hn 13⟩
def wgtF (B : Nat) (f : Fd) : Nat := if f.kd = 0 then 6 * B + 2 else if f.kd = 1 then 20 else 6 * B
theorem bound_val {fs : List Fd} {kd : Int} {B : Nat} {d : Cd} (hB : B ≤ 100000) (h : Bound fs kd B d) {f : Fd} (hf : f.ok) : ∃ y, (valC f d).1 = some y ∧ okF 2 1 y ∧ lenJ 2 y ≤ wgtF B f ∧ smV 2 y := by
 unfold valC wgtF
 rcases hf.kd with h1 | h1 | h1
 · rw [if_pos h1, if_pos h1]
   obtain ⟨t1, t2⟩ := h.t f.off
   refine ⟨jStr (d.t f.off), by rw [if_pos t1], str_ok t1 1 1, ?_, ⟨by show (d.t f.off).length ≤ 1100000; omega, Nat.zero_le _, (fun x h => by cases h), Nat.zero_le _, (fun x h => by cases h)⟩⟩
   have := quote_le6 (d.t f.off)
   show (quoteL (d.t f.off)).length ≤ 6 * B + 2
   omega
 · rw [if_neg (by omega), if_pos h1, if_neg (by omega), if_pos h1]
   obtain ⟨n0, n1⟩ := h.n f.off
   have hi := itoa_len n0 n1
   exact ⟨jNum (Lib.itoa (d.n f.off)), rfl, num_ok n0 n1 1 1, hi, ⟨Nat.le_trans hi (by decide), Nat.zero_le _, (fun x h => by cases h), Nat.zero_le _, (fun x h => by cases h)⟩⟩
 · rw [if_neg (by omega), if_neg (by omega), if_neg (by omega), if_neg (by omega)]
   obtain ⟨v, v1, v2, v3, v4⟩ := facts_told h.fl h.fv h.fr h.fs (by omega)
   exact ⟨v, v1, v2, v3, v4⟩
theorem rt_valid : ∀ x ∈ rtG, ∀ f ∈ fdsOf x.2, Lib.validD f.nm = true := by
 intro x hx f hf
 have h : ∀ y ∈ rtG.map (fun x => (fdsOf x.2).map Fd.nm), ∀ z ∈ y, Lib.validD z = true := by decide +kernel
 exact h _ (List.mem_map.2 ⟨x, hx, rfl⟩) _ (List.mem_map.2 ⟨f, hf, rfl⟩)
theorem rt_wgtF (B : Nat) {k : Nat} {x : List UInt8 × List Fg} (hx : rtG[k]? = some x) : ((fdsOf x.2).map (wgtF B)).sum ≤ 24 * B + 100 := by
 have hk : k < 12 := (List.getElem?_eq_some_iff.1 hx).1
 rcases k with _ | _ | _ | _ | _ | _ | _ | _ | _ | _ | _ | _ | k
 case succ.succ.succ.succ.succ.succ.succ.succ.succ.succ.succ.succ => omega
 all_goals
  obtain rfl : _ = x := by injection hx
  simp [fdsOf, wgtF, fgSet, fgName, fgCur, fgKey, fgMeter, fgSource, fgText, fgAt, fgFrom, fgTo, fgQty, fgNumber, fgUnits, fgNano, fgFacts, fdSet, fdName, fdCur, fdKey, fdMeter, fdSource, fdText, fdAt, fdFrom, fdTo, fdQty, fdNumber, fdUnits, fdNano, fdFacts]
  try omega
theorem bound_any {k : Nat} {path : List UInt8} {fl : List Fg} {fs : List Fd} {kd : Int} {B : Nat} {d c' : Cd} {v : JV} (hx : rtG[k]? = some (path, fl)) (hB : B ≤ 100000) (h : Bound fs kd B d) (hr : reqL (fdsOf fl) d [] [] = some (v, c')) : c' = clearC (fdsOf fl) d ∧ okF 3 0 v ∧ lenJ 3 v ≤ 24 * B + 400 ∧ smV 3 v := by
 have hm := List.mem_of_getElem? hx
 have hok : ∀ f ∈ fdsOf fl, f.ok := rt_fdok hm
 obtain ⟨vals, h1, h2, h3, h4⟩ := reqL_all (fdsOf fl) d [] [] v c' hok (rt_apart _ hm) hr
 simp only [List.nil_append] at h2
 obtain ⟨hl5, hnm⟩ := rt_nms _ hm
 simp only at hl5 hnm
 have hml : ((fdsOf fl).map Fd.nm).length = (fdsOf fl).length := List.length_map ..
 have hlen : ((fdsOf fl).map Fd.nm).length = vals.length := by rw [List.length_map]; exact h1.symm
 have hv : ∀ (i : Nat) (f : Fd) (y : JV), (fdsOf fl)[i]? = some f → vals[i]? = some y → okF 2 1 y ∧ lenJ 2 y ≤ wgtF B f ∧ smV 2 y := fun i f y hf hy => by
  obtain ⟨z, z1, z2⟩ := bound_val hB h (hok f (List.mem_of_getElem? hf))
  have := h4 i f y hf hy
  rw [z1] at this
  injection this with this
  exact this ▸ z2
 have hvi : ∀ y ∈ vals, okF 2 1 y ∧ smV 2 y := fun y hym => by
  obtain ⟨i, hi⟩ := List.getElem?_of_mem hym
  have hil := (List.getElem?_eq_some_iff.1 hi).1
  obtain ⟨f, hf⟩ : ∃ f, (fdsOf fl)[i]? = some f := ⟨_, List.getElem?_eq_getElem (by omega)⟩
  obtain ⟨a, _, b⟩ := hv i f y hf hi
  exact ⟨a, b⟩
 refine ⟨h3, ?_, ?_, ?_⟩
 · rw [h2]
   refine ⟨fun e => absurd e (by decide), fun e => absurd e (by decide), fun _ => ⟨fun n hn => ?_, hlen, by decide, by omega, rt_names _ hm, fun y hy => (hvi y hy).1⟩⟩
   obtain ⟨f, hf, rfl⟩ := List.mem_map.1 hn
   exact rt_valid _ hm f hf
 · rw [h2, objP_zip hlen]
   have e : lenJ 3 (objP (((fdsOf fl).map Fd.nm).zip vals)) ≤ _ := (lenJ_le 2 (((fdsOf fl).map Fd.nm).zip vals)).1
   have e2 : lenP 2 (((fdsOf fl).map Fd.nm).zip vals) ≤ ((fdsOf fl).map fun f => 40 + wgtF B f).sum := by
    unfold lenP
    refine sum_le2 _ _ _ _ (by rw [List.length_zip, List.length_map]; omega) fun i p f hp hf => ?_
    rw [List.getElem?_zip_eq_some, List.getElem?_map, hf] at hp
    obtain ⟨hp1, hp2⟩ := hp
    have hp1 : f.nm = p.1 := by simpa using hp1
    have h6 := hnm f (List.mem_of_getElem? hf)
    have hq := quote_le6 p.1
    rw [← hp1] at hq ⊢
    have := (hv i f p.2 hf hp2).2.1
    omega
   have e3 : ∀ l : List Fd, (l.map fun f => 40 + wgtF B f).sum = l.length * 40 + (l.map (wgtF B)).sum := by
    intro l
    induction l with
    | nil => rfl
    | cons f l ih => rw [List.map_cons, List.sum_cons, ih, List.map_cons, List.sum_cons, List.length_cons]; omega
   have e4 := e3 (fdsOf fl)
   have e5 := rt_wgtF B hx
   simp only at e5
   omega
 · rw [h2, objP_zip hlen]
   refine sm_ps.2 ⟨by rw [List.length_zip, List.length_map]; omega, fun p hp => ?_⟩
   have hz := List.of_mem_zip (show (p.1, p.2) ∈ _ from hp)
   obtain ⟨f, hf, hfe⟩ := List.mem_map.1 hz.1
   exact ⟨by rw [← hfe]; have := hnm f hf; omega, (hvi p.2 hz.2).2⟩
theorem bound_req {k : Nat} {path : List UInt8} {fl : List Fg} {kd : Int} {B : Nat} {d : Cd} (hx : rtG[k]? = some (path, fl)) (hB : B ≤ 100000) (h : Bound (fdsOf fl) kd B d) : ∃ v c', reqL (fdsOf fl) d [] [] = some (v, c') ∧ emptyC c' ∧ okF 3 0 v ∧ lenJ 3 v ≤ 24 * B + 400 := by
 have hm := List.mem_of_getElem? hx
 have hok : ∀ f ∈ fdsOf fl, f.ok := rt_fdok hm
 obtain ⟨v, c', hr⟩ := reqL_ok (fdsOf fl) d [] [] hok (rt_apart _ hm) (fun f hf => by
   obtain ⟨y, h1, _⟩ := bound_val hB h (hok f hf)
   exact ⟨y, h1⟩)
 obtain ⟨h1, h2, h3, _⟩ := bound_any hx hB h hr
 exact ⟨v, c', hr, by rw [h1]; exact bound_empty hok h, h2, h3⟩
def ValS (m : Nat) : Prop := ∀ (d : Nat) (l : List UInt8) (v : JV) (k : Nat), valF m d l = some (v, k) → d ≤ 32 → l.length ≤ 1000000 → smV (33 - d) v
def ArrS (m : Nat) : Prop := ∀ (d : Nat) (l : List UInt8) (acc : List JV) (u : Nat) (v : JV) (k : Nat), arrL m d l acc u = some (v, k) → d < 32 → acc.length + l.length ≤ 1000000 → (∀ x ∈ acc, smV (32 - d) x) → smV (33 - d) v
def ObjS (m : Nat) : Prop := ∀ (d : Nat) (l : List UInt8) (ns : List (List UInt8)) (acc : List JV) (u : Nat) (v : JV) (k : Nat), objL m d l ns acc u = some (v, k) → d < 32 → l.length ≤ 1000000 → ns.length = acc.length → acc.length ≤ 1000 → (∀ x ∈ ns, x.length ≤ 1000000) → (∀ x ∈ acc, smV (32 - d) x) → smV (33 - d) v
theorem leaf_sm {d k : Nat} {t : List UInt8} (hd : d ≤ 32) (ht : t.length ≤ 1000000) : smV (33 - d) (.mk k t [] []) := by
 obtain ⟨n, hn⟩ : ∃ n, 33 - d = n + 1 := ⟨32 - d, by omega⟩
 rw [hn]
 exact ⟨by omega, Nat.zero_le _, (fun x h => by cases h), Nat.zero_le _, (fun x h => by cases h)⟩
theorem node_sm {d k : Nat} {ns : List (List UInt8)} {l : List JV} (hd : d < 32) (h1 : ns.length ≤ 1000000) (h2 : l.length ≤ 1000000) (h3 : ∀ x ∈ ns, x.length ≤ 1000000) (h4 : ∀ x ∈ l, smV (32 - d) x) : smV (33 - d) (.mk k [] ns l) := by
 have hn : 33 - d = (32 - d) + 1 := by omega
 rw [hn]
 exact ⟨Nat.zero_le _, by omega, h3, by omega, h4⟩
theorem val_stepS {m : Nat} (hA : ArrS m) (hO : ObjS m) : ValS (m + 1) := by
 intro d l v k h hd hl
 cases l with
 | nil => unfold valF at h; cases h
 | cons c t =>
   rw [List.length_cons] at hl
   have h0 := h
   unfold valF at h
   simp only at h
   split at h
   · split at h
     · cases h
     split at h
     · injection h with h
       injection h with h1 h2
       subst h1
       exact leaf_sm hd (Nat.zero_le _)
     · exact hO _ _ _ _ _ _ _ h (by omega) (by omega) rfl (Nat.zero_le _) (fun x hx => (by cases hx)) (fun x hx => (by cases hx))
   split at h
   · split at h
     · cases h
     split at h
     · injection h with h
       injection h with h1 h2
       subst h1
       exact leaf_sm hd (Nat.zero_le _)
     · exact hA _ _ _ _ _ _ h (by omega) (by rw [List.length_nil]; omega) (fun x hx => (by cases hx))
   split at h
   · cases hs : strF t.length t [] 1 with
     | none => rw [hs] at h; cases h
     | some y =>
       obtain ⟨s, j⟩ := y
       rw [hs, Option.map_some] at h
       injection h with h
       injection h with h1 h2
       subst h1
       obtain ⟨_, p2, p3⟩ := str_prop _ _ _ _ _ _ hs
       simp only [List.length_nil] at p2
       exact leaf_sm hd (by show s.length ≤ 1000000; omega)
   split at h
   · cases hn : numF (c :: t) with
     | none => rw [hn] at h; cases h
     | some j =>
       rw [hn, Option.map_some] at h
       injection h with h
       injection h with h1 h2
       subst h1
       exact leaf_sm hd (by rw [List.length_take, List.length_cons]; omega)
   · obtain ⟨⟨i, hi, rfl⟩, _, _⟩ := word_prop h
     exact leaf_sm hd (Nat.zero_le _)
theorem arr_stepS {m : Nat} (hV : ValS m) (hA : ArrS m) : ArrS (m + 1) := by
 intro d l acc u v k h hd hl hs
 unfold arrL at h
 split at h
 · cases h
 split at h
 · cases h
 · rename_i v0 k0 hv
   obtain ⟨_, p1, p2⟩ := (all_prop m).1 _ _ _ _ hv
   have hv0 := hV _ _ _ _ hv (by omega) (by rw [List.length_drop]; omega)
   rw [show 33 - (d + 1) = 32 - d by omega] at hv0
   have hs2 : ∀ x ∈ acc ++ [v0], smV (32 - d) x := fun x hx => by
    rcases List.mem_append.1 hx with hx | hx
    · exact hs x hx
    · rw [List.mem_singleton.1 hx]; exact hv0
   rw [List.length_drop] at p2
   split at h
   · injection h with h
     injection h with h1 h2
     subst h1
     exact node_sm hd (Nat.zero_le _) (by rw [List.length_append, List.length_singleton]; omega) (fun x hx => (by cases hx)) hs2
   · split at h
     · exact hA _ _ _ _ _ _ h hd (by rw [List.length_drop, List.length_append, List.length_singleton]; omega) hs2
     · cases h
theorem obj_stepS {m : Nat} (hV : ValS m) (hO : ObjS m) : ObjS (m + 1) := by
 intro d l ns acc u v k h hd hl hna ha hns hs
 unfold objL at h
 split at h
 · cases h
 split at h
 · cases h
 rename_i hacc
 split at h
 · cases h
 · rename_i nm a hst
   obtain ⟨_, s2, s3⟩ := str_prop _ _ _ _ _ _ hst
   simp only [List.length_nil] at s2
   rw [List.length_drop] at s3
   split at h
   · cases h
   split at h
   · cases h
   simp only at h
   split at h
   · cases h
   · rename_i v0 k0 hv
     have hv0 := hV _ _ _ _ hv (by omega) (by rw [List.length_drop]; omega)
     rw [show 33 - (d + 1) = 32 - d by omega] at hv0
     have hs2 : ∀ x ∈ acc ++ [v0], smV (32 - d) x := fun x hx => by
      rcases List.mem_append.1 hx with hx | hx
      · exact hs x hx
      · rw [List.mem_singleton.1 hx]; exact hv0
     have hl2 : (ns ++ [nm]).length = (acc ++ [v0]).length := by simp [hna]
     have ha2 : (acc ++ [v0]).length ≤ 1000 := by rw [List.length_append, List.length_singleton]; omega
     have hns2 : ∀ x ∈ ns ++ [nm], x.length ≤ 1000000 := fun x hx => by
      rcases List.mem_append.1 hx with hx | hx
      · exact hns x hx
      · rw [List.mem_singleton.1 hx]; omega
     split at h
     · injection h with h
       injection h with h1 h2
       subst h1
       exact node_sm hd (by omega) (by omega) hns2 hs2
     · split at h
       · exact hO _ _ _ _ _ _ _ h hd (by rw [List.length_drop]; omega) hl2 ha2 hns2 hs2
       · cases h
theorem all_sm : ∀ m, ValS m ∧ ArrS m ∧ ObjS m
 | 0 => ⟨fun _ _ _ _ h => (by unfold valF at h; cases h), fun _ _ _ _ _ _ h => (by unfold arrL at h; cases h), fun _ _ _ _ _ _ _ h => (by unfold objL at h; cases h)⟩
 | m + 1 => by
   obtain ⟨h1, h2, h3⟩ := all_sm m
   exact ⟨val_stepS h2 h3, arr_stepS h1 h2, obj_stepS h1 h3⟩
theorem parse_sm {l : List UInt8} {v : JV} (h : parseF l = some v) : smV 33 v := by
 unfold parseF at h
 split at h
 · cases h
 split at h
 · cases h
 · rename_i v0 k hv
   split at h
   · cases h
   · injection h with h
     subst h
     exact (all_sm _).1 _ _ _ _ hv (by decide) (by rw [List.length_drop]; omega)
theorem zero_ok (k : Int) : (zCd k).ok := ⟨fun i _ _ => Nat.zero_le _, fun i _ _ => ⟨by show (-9223372036854775808 : Int) ≤ 0; decide, by show (0 : Int) ≤ 9223372036854775807; decide⟩⟩
theorem putT_ok {c : Cd} (h : c.ok) (i : Nat) {x : List UInt8} (hx : x.length ≤ 1100000) : (c.putT i x).ok := ⟨fun k h1 h2 => by
  show (if k = i then x else c.t k).length ≤ 1100000
  split
  · exact hx
  · exact h.t k h1 h2, h.n⟩
theorem putN_ok {c : Cd} (h : c.ok) (i : Nat) {x : Int} (h0 : -9223372036854775808 ≤ x) (h1 : x ≤ 9223372036854775807) : (c.putN i x).ok := ⟨h.t, fun k h2 h3 => by
  show -9223372036854775808 ≤ (if k = i then x else c.n k) ∧ (if k = i then x else c.n k) ≤ 9223372036854775807
  split
  · exact ⟨h0, h1⟩
  · exact h.n k h2 h3⟩
theorem ask_ok {pa : List UInt8} {d : Cd} (h : AskP pa d) : d.ok ∧ d.fx = [] ∧ totT d ≤ 100 ∧ (pa = heaP ∨ ((d.kind = 13 ∨ d.kind = 14) ∧ (pathF d).2 = true)) := by
 cases h with
 | @inv n h hn =>
   obtain ⟨n0, n1⟩ := Lib.atoiAll_bounds hn.1
   refine ⟨putN_ok (zero_ok 13) 11 n0 n1, rfl, (show 0 + 0 + 0 + 0 + 0 + 0 ≤ 100 by decide), .inr ⟨.inl rfl, ?_⟩⟩
   unfold pathF pathC
   rw [if_neg (by show ¬ (13 : Int) = 14; decide), if_neg (by show ¬ (13 : Int) = 14; decide)]
   exact emptyB_t.2 ⟨rfl, rfl, rfl, rfl, rfl, rfl, rfl, rfl, rfl, rfl, rfl, rfl, rfl, rfl⟩
 | @bal n h0 h hn hm =>
   obtain ⟨n0, n1⟩ := Lib.atoiAll_bounds hn.1
   have hl := name_len hm
   refine ⟨putN_ok (putT_ok (zero_ok 14) 1 (by omega)) 8 n0 n1, rfl, ?_, .inr ⟨.inr rfl, ?_⟩⟩
   · show (Lib.cut (Lib.trimPrefix pa balP) [47]).1.length + 0 + 0 + 0 + 0 + 0 ≤ 100
     omega
   · have hk : (((zCd 14).putT 1 (Lib.cut (Lib.trimPrefix pa balP) [47]).1).putN 8 n).kind = 14 := rfl
     unfold pathF pathC
     rw [if_pos hk, if_pos hk, Bool.and_eq_true]
     exact ⟨hm, emptyB_t.2 ⟨rfl, rfl, rfl, rfl, rfl, rfl, rfl, rfl, rfl, rfl, rfl, rfl, rfl, rfl⟩⟩
 | hea h => exact ⟨zero_ok 0, rfl, by decide, .inl h⟩
structure Got (d : Cd) (n : Nat) : Prop where
 ok : d.ok
 fb : FxB d.fx
 fl : d.fx.length ≤ 1000
 hb : ∀ (k : Nat) (x : List UInt8 × List Fg) (v : JV) (c' : Cd), rtG[k]? = some x → reqL (fdsOf x.2) d [] [] = some (v, c') → goodV 3 v ∧ smV 3 v ∧ lenJ 3 v ≤ 9000000
 er : ∀ e, errR d e → e = 8 ∧ 1000 < n
theorem bound_ok {fs : List Fd} {kd : Int} {B : Nat} {d : Cd} (hB : B ≤ 100000) (h : Bound fs kd B d) : d.ok := ⟨fun i _ _ => by have := (h.t i).2; omega, fun i _ _ => h.n i⟩
theorem bq_got {me pa l : List UInt8} (hl : l.length ≤ 5000) (h0 : (bindQ me pa l).1 = 0) : Got (bindQ me pa l).2 l.length := by
 by_cases hA : ∃ c, AskP pa c
 · obtain ⟨c, hA⟩ := hA
   rw [bindQ_ask hA] at h0 ⊢
   by_cases h1 : me ≠ getM
   · rw [if_pos h1] at h0; exact absurd h0 (by decide)
   rw [if_neg h1] at h0 ⊢
   by_cases h2 : l ≠ []
   · rw [if_pos h2] at h0; exact absurd h0 (by decide)
   rw [if_neg h2] at h0 ⊢
   by_cases h3 : pa = heaP
   · rw [if_pos h3] at h0; exact absurd h0 (by decide)
   rw [if_neg h3] at h0 ⊢
   obtain ⟨g1, g2, g3, g4⟩ := ask_ok hA
   have g4 := g4.resolve_left h3
   have hfx : FxB c.fx := fun x hx => by rw [g2] at hx; cases hx
   have hfe : fewFx c.fx := ⟨by rw [g2]; exact Nat.zero_le _, fun x hx => by rw [g2] at hx; cases hx⟩
   refine ⟨g1, hfx, by show c.fx.length ≤ 1000; rw [g2]; exact Nat.zero_le _, fun k x v c' hx hr => ⟨req_good g1 hfx hx hr, req_sm g1 hfx hfe (Nat.le_trans g3 (by decide)) hx hr⟩, fun e he => ?_⟩
   have h5 := he.1 g4.1
   have h5 : (pathF c).2 = false := h5
   rw [g4.2] at h5; cases h5
 · have hno : ∀ c, ¬ AskP pa c := fun c h => hA ⟨c, h⟩
   by_cases hR : ∃ (k : Nat) (fl : List Fg), rtG[k]? = some (pa, fl)
   · obtain ⟨k, fl, hx⟩ := hR
     rw [bindQ_post hno hx] at h0 ⊢
     by_cases h1 : me ≠ postM
     · rw [if_pos h1] at h0; exact absurd h0 (by decide)
     rw [if_neg h1] at h0 ⊢
     have hm := List.mem_of_getElem? hx
     have hok : ∀ f ∈ fdsOf fl, f.ok := rt_fdok hm
     cases hp : parseF l with
     | none => rw [bindP_none hp] at h0; exact absurd h0 (by decide)
     | some o =>
       by_cases hk : o.k = 6
       · rw [bindP_some hp hk] at h0 ⊢
         have hpp := parse_prop hp
         have hB1 : 1 ≤ l.length := by
          have := (hpp 0).1
          exact this
         have hbd := bind_bound hok hpp hB1 h0 rfl
         have hdok := bound_ok (by omega) hbd
         refine ⟨hdok, hbd.fb, hbd.fl, fun k2 x v c' hx2 hr => ?_, fun e he => ?_⟩
         · obtain ⟨_, _, a3, a4⟩ := bound_any (path := x.1) (fl := x.2) hx2 (by omega) hbd hr
           exact ⟨req_good hdok hbd.fb hx2 hr, a4, by omega⟩
         · obtain ⟨v, c', r1, r2, r3, r4⟩ := bound_req hx (by omega) hbd
           obtain ⟨e1, e2⟩ := he.2 k pa fl v c' hx hbd.kind.symm r1 r2 r3
           exact ⟨e1, by omega⟩
       · rw [bindP_kind hp hk] at h0; exact absurd h0 (by decide)
   · have hno2 : ∀ (k : Nat) (fl : List Fg), rtG[k]? ≠ some (pa, fl) := fun k fl h => hR ⟨k, fl, h⟩
     rw [bindQ_none hno hno2] at h0; exact absurd h0 (by decide)
theorem okQ_sm {c : Cd} {me pa s : List UInt8} (_h : okQ c me pa s) : ∀ v, parseF s = some v → smV 33 v := fun _ hv => parse_sm hv
theorem fBindPG_N (W0 : World) (hG : Gj W0) (hY : Sy W0) (kx : Nat) (t : List UInt8) (fl : List Fg) (hx : rtG[kx]? = some (t, fl)) (hpl : t.length ≤ 1000000) (q : Option Addr) (cap : Nat) (l : List UInt8) (ht : TxA W0 q cap l) (hsm : ∀ v, parseF l = some v → smV 33 v) (cl : Bool) (w0 : World) (hold : oldφ W0 w0) :
 NewC Tryz.prog 14 [.agg [.string ⟨#[80, 79, 83, 84]⟩, .string (tx t), .slice q l.length cap, .bool cl].toArray] w0 (bnV (bindP fl ((kx : Int) + 1) l)) (bnY (bindP fl ((kx : Int) + 1) l)) := by
 have h := fBindG_N W0 hG hY postM t hpl q cap l ht hsm cl w0 hold
 rw [bindQ_post (rt_noask hx) hx, if_neg (fun h => h rfl)] at h
 exact h
def p03 : List UInt8 := [47, 105, 110, 118, 111, 105, 99, 101, 115, 47, 48, 51]
theorem ask03 (c : Cd) : ¬ AskP p03 c := fun h => by
 cases h with
 | @inv n h hn =>
   have h1 : Lib.atoiAll (Lib.trimPrefix p03 invP) = .ok 3 := by kernel_rfl
   have h2 := h1.symm.trans hn.1
   injection h2 with e
   subst e
   exact absurd hn.2 (by decide +kernel)
 | bal h0 _ _ _ => rw [show Lib.hasPrefix p03 invP = true from by decide +kernel] at h0; cases h0
 | hea h => exact absurd h (by decide)
theorem rt03 (k : Nat) (fl : List Fg) : rtG[k]? ≠ some (p03, fl) := fun hx => by
 have h : p03 ∉ rtG.map (·.1) := by decide +kernel
 exact h (List.mem_map.2 ⟨_, List.mem_of_getElem? hx, rfl⟩)
theorem fBind03G_N (W0 : World) (hG : Gj W0) (hY : Sy W0) (w0 : World) (hold : oldφ W0 w0) :
 NewC Tryz.prog 14 [.agg [.string ⟨#[71, 69, 84]⟩, .string (tx [47, 105, 110, 118, 111, 105, 99, 101, 115, 47, 48, 51]), .slice none 0 0, .bool false].toArray] w0 (bnV (31, zCd 0)) (bnY (31, zCd 0)) := by
 have h := fBindG_N W0 hG hY getM p03 (by decide) none 0 [] ⟨.inl ⟨rfl, _, _, rfl⟩, Nat.zero_le _⟩ (fun v hv => parse_sm hv) false w0 hold
 rw [bindQ_none ask03 rt03] at h
 exact h
set_option maxRecDepth 100000 in
theorem frFirstG_P (W0 : World) (hG : Gj W0) (hY : Sy W0) (w0 : World) (hold : oldφ W0 w0) : PureC Tryz.prog 7 [] w0 (.bool true) := by
 refine c_enter [] [oldA W0] noB Tryz.func7 rfl Tryz.ntmps7 trivial rfl (okC (old_ok hold) okN) dis1 (mineC rfl mineN) ?_
 intro a hS
 refine cS (cR ?_)
 refine L_e hS (e_assign rfl) rfl ?_; clear hS a; intro a hS
 refine nL (nT (cS (cR ?_)))
 refine L_op (s_bslice hS ty_sl27 ty_sz5 ty_z5 rfl rfl rfl rfl (.one rfl rfl rfl (.one rfl rfl rfl (.one rfl rfl rfl (.one rfl rfl rfl (.one rfl rfl rfl (.one rfl rfl rfl (.one rfl rfl rfl (.one rfl rfl rfl (.one rfl rfl rfl (.one rfl rfl rfl (.one rfl rfl rfl (.one rfl rfl rfl (.one rfl rfl rfl (.one rfl rfl rfl (.one rfl rfl rfl (.one rfl rfl rfl (.one rfl rfl rfl (.one rfl rfl rfl (.one rfl rfl rfl (.one rfl rfl rfl (.one rfl rfl rfl (.one rfl rfl rfl (.one rfl rfl rfl (.one rfl rfl rfl (.one rfl rfl rfl (.one rfl rfl rfl (.one rfl rfl rfl (.one rfl rfl rfl (.one rfl rfl rfl .nil))))))))))))))))))))))))))))) rfl ?_); clear hS a; intro a w b7 hS
 refine L_op (s_convConst hS rfl ty_sl27 ty_u5 rfl (by repeat constructor) ?_); clear hS a; intro a w hS
 refine L_e hS (e_build ty_z29 ty_pl29 (.one rfl rfl rfl (by repeat constructor) (.one rfl rfl rfl (by repeat constructor) (.one rfl rfl rfl (by repeat constructor) .nil)))) rfl ?_; clear hS a; intro a hS
 have htx : TxA w (some ⟨b7, 0, none⟩) 29 bodyE := ⟨rk_by (l := bodyE) (hS.gg (X := rkA b7 ((bsI bodyE).map (Value.int .u8)) 5)) (by decide), by decide⟩
 refine L_op (s_callN hS (.cons rfl .nil) cf14 rfl (fBindPG_N w (hG.keep (hS.gg (X := oldA W0))) (hY.keep (hS.gg (X := oldA W0))) 5 _ payFl pay_rt (by decide) (some ⟨b7, 0, none⟩) 29 bodyE htx (fun v hv => by rw [body_parsed] at hv; injection hv with hv; rw [← hv]; exact bodyV_sm) false _ (old_refl w)) ?_); clear hS a; intro x10 a w hS
 rcases x10 with x10 | x10
 rotate_left
 · exact absurd body_bound.1 x10.2
 obtain ⟨qq, cq, hxe⟩ := own_slice (show w.ownsRow 0 _ 4 x10.1 (bindP payFl 6 bodyE).2.fx.length _ from (hS.ok (bnY (bindP payFl (((5 : Nat) : Int) + 1) bodyE) (.inl x10)) (by repeat constructor)).now)
 obtain ⟨_, hb2, hb3, hb4, hb5⟩ := body_bound
 rw [show bnV (bindP payFl (((5 : Nat) : Int) + 1) bodyE) (.inl x10) = .tuple [.agg (cellsC (bindP payFl 6 bodyE).2 x10.1).toArray, .int .i64 0].toArray from rfl, hxe] at hS
 generalize (bindP payFl 6 bodyE).2 = cc at hS hb2 hb3 hb4 hb5
 refine Rn hS (.m rfl <| .c (e_extract rfl rfl) <| .c (e_extract rfl rfl) .n) ?_; clear hS a; intro a hS
 refine L_op (s_alloc hS ty_z24 rfl ?_); clear hS a; intro a w b1 hS
 refine L_op (s_storeA (l := cellsC cc (.slice qq _ cq)) hS rfl rfl ty_sz24 (by repeat constructor) rfl rfl rfl ?_); clear hS; intro w hS
 refine L_e hS (e_assign rfl) rfl ?_; clear hS a; intro a hS
 refine nL (nT (cS (cR ?_)))
 refine L_e hS (e_build ty_z29 ty_pl29 (.one rfl rfl rfl (by repeat constructor) (.one rfl rfl rfl (by repeat constructor) .nil))) rfl ?_; clear hS a; intro a hS
 refine L_op (s_callN hS (.cons rfl .nil) cf14 rfl (fBind03G_N W0 hG hY _ (hS.gg (X := oldA W0))) ?_); clear hS a; intro x15 a w hS
 obtain ⟨e1, e2⟩ := bn_err x15 (e := 31) rfl (by decide)
 rw [e1, e2] at hS
 refine Rn hS (.m rfl <| .c (e_extract rfl rfl) <| .c (e_extract rfl rfl) .n) ?_; clear hS a; intro a hS
 refine L_op (s_alloc hS ty_z24 rfl ?_); clear hS a; intro a w b3 hS
 refine L_op (s_storeA hS rfl rfl ty_sz24 (by repeat constructor) (by rfl) (by rfl) (by rfl) ?_); clear hS; intro w hS
 refine L_e hS (e_assign rfl) rfl ?_; clear hS a; intro a hS
 refine nL (nT (cS (cR ?_)))
 refine Rn hS (.c (e_build ty_z24 ty_pl24 (.one rfl rfl rfl (by repeat constructor) .nil)) <| .c (e_build ty_z72 ty_pl72 (.one rfl rfl rfl (by repeat constructor) .nil)) .n) ?_; clear hS a; intro a hS
 refine L_op (s_callN hS (.cons rfl (.cons rfl .nil)) cf23 rfl (fAnswer25_N W0 hG _ (hS.gg (X := oldA W0))) ?_); clear hS a; intro x20 a w hS
 obtain ⟨⟨⟨pb, pc⟩, pr, ps⟩, hpj, hpc⟩ := x20
 obtain rfl := err_text hpj
 simp only at hS hpc
 refine L_op (s_alloc hS ty_z62 rfl ?_); clear hS a; intro a w b5 hS
 refine L_op (s_storeA hS rfl rfl ty_sz62 (by repeat constructor) (by rfl) (by rfl) (by rfl) ?_); clear hS; intro w hS
 refine nL (nT (cS (cR ?_)))
 refine Rn hS (.c (e_fa0 rfl ty_fo24_0) <| .c (e_load rfl (by repeat constructor) ty_sc3 (by rfl)) <| .c (e_bin rfl rfl rfl) <| .m rfl .n) ?_; clear hS a; intro a hS
 replace hS := hS.is (t := 24) (c := true) rfl (decide_eq_true hb2)
 refine Rn hS (.g rfl rfl (e_fa0 rfl ty_fo24_12) <| .g rfl rfl (e_load rfl (by repeat constructor) ty_sc3 (by rfl)) <| .g rfl rfl (e_bin rfl rfl rfl) <| .c (e_pick_t rfl rfl) <| .m rfl .n) ?_; clear hS a; intro a hS
 replace hS := hS.is (t := 29) (c := true) rfl (decide_eq_true hb3)
 refine Rn hS (.g rfl rfl (e_fa0 rfl ty_fo24_8) <| .g rfl rfl (e_load rfl (by repeat constructor) ty_sc3 (by rfl)) <| .g rfl rfl (e_bin rfl rfl rfl) <| .c (e_pick_t rfl rfl) <| .m rfl .n) ?_; clear hS a; intro a hS
 replace hS := hS.is (t := 34) (c := true) rfl (decide_eq_true hb4)
 refine Rn hS (.g rfl rfl (e_fa0 rfl ty_fo24_11) <| .g rfl rfl (e_load rfl (by repeat constructor) ty_sc3 (by rfl)) <| .g rfl rfl (e_bin rfl rfl rfl) <| .c (e_pick_t rfl rfl) <| .m rfl .n) ?_; clear hS a; intro a hS
 replace hS := hS.is (t := 39) (c := true) rfl (decide_eq_true hb5)
 refine L_ge hS rfl rfl (e_move rfl) rfl ?_; clear hS a; intro a hS
 refine L_go hS rfl rfl (s_callP hS (.cons rfl .nil) cf10 rfl (lNum_P _ _) ?_); clear hS a; intro a w hS
 refine Rn hS (.g rfl rfl (e_bin rfl rfl rfl) <| .c (e_pick_t rfl rfl) <| .m rfl .n) ?_; clear hS a; intro a hS
 replace hS := hS.is (t := 44) (c := true) rfl (rfl)
 refine L_ge hS rfl rfl (e_move rfl) rfl ?_; clear hS a; intro a hS
 refine L_go hS rfl rfl (s_callP hS (.cons rfl .nil) cf10 rfl (lNum_P _ _) ?_); clear hS a; intro a w hS
 refine Rn hS (.g rfl rfl (e_bin rfl rfl rfl) <| .c (e_pick_t rfl rfl) <| .m rfl .n) ?_; clear hS a; intro a hS
 replace hS := hS.is (t := 49) (c := true) rfl (rfl)
 refine Rn hS (.g rfl rfl (e_fa0 rfl ty_fo62_0) <| .g rfl rfl (e_load rfl (by repeat constructor) ty_sc3 (by rfl)) <| .g rfl rfl (e_bin rfl rfl rfl) <| .c (e_pick_t rfl rfl) <| .m rfl .n) ?_; clear hS a; intro a hS
 replace hS := hS.is (t := 54) (c := true) rfl (rfl)
 refine Rn hS (.g rfl rfl (e_fa0 rfl ty_fo62_1) <| .g rfl rfl (e_load rfl (by repeat constructor) ty_sc27 (by rfl)) <| .g rfl rfl (e_str (l := bsI respE) rfl ty_sl27 ty_u5 ty_u9 (fun w hh => bb_by (hh (bbA 5 pb (bsI respE)) (by repeat constructor)) (by rw [bsI_len]; exact hpc))) .n) ?_; clear hS a; intro a hS
 rw [str_bs] at hS
 refine Rn hS (.g rfl rfl (e_binS rfl rfl rfl) <| .c (e_pick_t rfl rfl) <| .m rfl .n) ?_; clear hS a; intro a hS
 replace hS := hS.is (t := 60) (c := true) rfl (by decide +kernel)
 refine Rn hS (.g rfl rfl (e_fa0 rfl ty_fo62_2) <| .g rfl rfl (e_load rfl (by repeat constructor) ty_sc4 (by rfl)) <| .g rfl rfl (e_not rfl) <| .c (e_pick_t rfl rfl) <| .a rfl .n) ?_; clear hS a; intro a hS
 refine nL (nT (wp_ret ?_))
 refine c_ret1 hS Tryz.results7 (.tmp rfl) ?_
 exact ⟨rfl, hS.chg⟩
end Go.Proofs.YtlccmgeclhdegaaGreatDoor
