/- Numbers by digits in base 10000, walked: BigQuo. -/
import Derived.Test.YtheofhegdjjfgaaBig7
import Derived.Test.YtheofhegdjjfgaaSe7
namespace Go.Proofs.Ytheofhegdjjfgaa
open Go.RowKit

/-- digits of the walk's own, or none. -/
def bigP (R : Nat) (p : Option (Nat × Nat)) : Asn := .any (fun k => ∃ off, p = some (k, off)) (RowP p 1 ((dgs R).map encD)) true
theorem bigP_none {w : World} : (bigP 0 none).ok w := by
  refine ⟨fun b hb => ?_, fun w' _ => ?_⟩
  · obtain ⟨off, e⟩ := hb; cases e
  · show RowP none 1 _ w'
    rw [dgs_zero]; rfl
theorem bigP_of {w : World} {z : Int} {b : Nat} (h : (bigA z b).ok w) : (bigP z.natAbs (some (b, 0))).ok w :=
  ⟨fun k hk => by obtain ⟨off, e⟩ := hk; cases e; exact h.lt b rfl, fun w' hw => h.hold w' (fun k hk => hw k ⟨0, by rw [show k = b from hk]⟩)⟩
theorem own_lit {w : World} {b E : Nat} {v : Value} (h : w.heap[b]? = some (.cells [v].toArray E (0, 0))) : (ownA E 1 (.slice (some ⟨b, 0, none⟩) 1 1) 1 [v]).ok w :=
  ok_own ⟨rfl, .inr ⟨b, 1, #[v], rfl, Nat.zero_le _, h, Nat.le_refl _, by decide, rfl, rfl⟩⟩
theorem len_mul {Y m : Nat} (hm : m ≤ 10000) : (dgs (Y * m)).length ≤ (dgs Y).length + 1 := by
  by_cases h0 : Y = 0
  · subst h0; rw [Nat.zero_mul, dgs_zero]; simp
  · have h1 := dgs_len_mono (show Y * m ≤ Y * 10000 from Nat.mul_le_mul_left _ hm)
    have h2 : dgs (Y * 10000) = 0 :: dgs Y := by
      rw [dgs_pos (by omega), show Y * 10000 / 10000 = Y by omega, show Y * 10000 % 10000 = 0 by omega]; rfl
    rw [h2, List.length_cons] at h1
    exact h1
theorem cmpZ_le {x y : Int} : cmpZ x y ≤ 0 ↔ x ≤ y := by unfold cmpZ; split <;> (try split) <;> omega
theorem own_rowP {w : World} {p : Option (Nat × Nat)} {c : Nat} {l : List Int} (h : w.ownsRow 0 3 1 (sliceV p l.length c) l.length (l.flatMap encD)) : RowP p 1 (l.map encD) w ∧ ∀ r, p = some r → r.1 < w.heap.size := by
  obtain ⟨p5, c5, e5, _, _, h6, h7⟩ := own_digs h
  obtain ⟨rfl, rfl⟩ := sliceV_inj e5
  exact ⟨h6, h7⟩
def pairA (z1 : Int) (b1 : Nat) (z2 : Int) (b2 : Nat) : Asn := .any (fun k => k = b1 ∨ k = b2) (fun w => RowP (some (b1, 0)) 1 ((dgs z1.natAbs).map encD) w ∧ RowP (some (b2, 0)) 1 ((dgs z2.natAbs).map encD) w) true
theorem pair_ok {z1 z2 : Int} {b1 b2 : Nat} {w : World} (h1 : (bigA z1 b1).ok w) (h2 : (bigA z2 b2).ok w) : (pairA z1 b1 z2 b2).ok w :=
  ⟨fun k hk => by rcases hk with rfl | rfl; exact h1.lt _ rfl; exact h2.lt _ rfl, fun w' hw => ⟨h1.hold w' (fun k hk => hw k (.inl hk)), h2.hold w' (fun k hk => hw k (.inr hk))⟩⟩
theorem quo_sgn {x y : Int} {V R : Nat} (hR : R < y.natAbs) (h : x.natAbs = V * y.natAbs + R) : sgn (decide (decide (x < 0) ≠ decide (y < 0))) (V : Int) = x.tdiv y ∧ sgn (decide (x < 0)) (R : Int) = x.tmod y := by
  have h1 : x.natAbs / y.natAbs = V := by
    rw [h, Nat.mul_comm, Nat.mul_add_div (by omega), Nat.div_eq_of_lt hR, Nat.add_zero]
  have h2 : x.natAbs % y.natAbs = R := by
    rw [h, Nat.mul_comm, Nat.mul_add_mod, Nat.mod_eq_of_lt hR]
  rw [← h1, ← h2]
  clear h h1 h2 hR
  cases x with
  | ofNat m =>
    have e1 : decide (Int.ofNat m < 0) = false := decide_eq_false (by simp)
    cases y with
    | ofNat n =>
      have e2 : decide (Int.ofNat n < 0) = false := decide_eq_false (by simp)
      rw [e1, e2]; exact ⟨rfl, rfl⟩
    | negSucc n =>
      have e2 : decide (Int.negSucc n < 0) = true := decide_eq_true (Int.negSucc_lt_zero n)
      rw [e1, e2]; exact ⟨rfl, rfl⟩
  | negSucc m =>
    have e1 : decide (Int.negSucc m < 0) = true := decide_eq_true (Int.negSucc_lt_zero m)
    cases y with
    | ofNat n =>
      have e2 : decide (Int.ofNat n < 0) = false := decide_eq_false (by simp)
      rw [e1, e2]; exact ⟨rfl, rfl⟩
    | negSucc n =>
      have e2 : decide (Int.negSucc n < 0) = true := decide_eq_true (Int.negSucc_lt_zero n)
      rw [e1, e2]; exact ⟨rfl, rfl⟩
section
variable {n : Nat} {F0 : Nat → Prop} {w0 w : World} {a : Act} {L : List (Nat × Value)} {Γ : List Asn}
/-- 'append(s, ds...)': s is the walk's own, ds a slice of digits that may be none. -/
theorem s_appendD {K : Act → World → Prop} {Q : Exit → Act → World → Prop} {d ty : Nat} {pos : String} {af : Array Edge} {g : Option (Nat × Bool)} {x y : Operand} {v : Value} {m c : Nat} {p : Option (Nat × Nat)} {ds : List Int} {cs : List Value} {Γ' : Value → List Asn} (hS : St n F0 w0 a w L Γ) (hx : ev L x = some v) (hy : ev L y = some (sliceV p ds.length c))
    (hp : p = none → c = 0) (hrow : RowP p 1 (ds.map encD) w) (hn : Nat.blt d n = true) (hm : ownA 3 1 v m cs ∈ Γ) (hbd : m + ds.length ≤ 1000000)
    (hr : ∀ v', Rep (ownA 3 1 v m cs) (ownA 3 1 v' (m + ds.length) (cs ++ ds.flatMap encD)) Γ (Γ' v'))
    (h : ∀ v' a' w', (v' = .slice none 0 0 ↔ v = .slice none 0 0 ∧ ds.length = 0) → St n F0 w0 a' w' ((d, v') :: L) (Γ' v') → K a' w') : OW Try.prog ⟨some d, .call ⟨.builtin .append, #[x, y], #[42, 42]⟩, ty, pos, af, g⟩ a w K Q := by
  cases p with
  | none =>
    obtain rfl := hp rfl
    obtain rfl : ds = [] := by simpa [RowP] using hrow
    refine s_e hS (e_append0 hx hy ty_sl42 ty_sz3 ty_by3 ty_z3 hm) hn ?_
    intro a' hS'
    refine h v a' w (by simp) (hS'.upd (hr v) (Chg.refl _ _) ?_ (fun b hb => .inl hb) rfl)
    have := hS'.ok _ hm
    simpa using this
  | some r =>
    exact s_append hS hx hy ty_sl42 ty_sz3 ty_by3 ty_z3 rfl rfl hn hm (by rw [flat_len encD 1 (fun _ => rfl)]) (dig_flat hrow) (digOne ds) (by omega) hr h
end

set_option maxHeartbeats 1000000 in
set_option maxRecDepth 100000 in
theorem BigQuo_P (p q : Option (Nat × Nat)) (c1 c2 : Nat) (x y : Int) (hy0 : y ≠ 0) (hx : (dgs x.natAbs).length ≤ 1000) (hy : (dgs y.natAbs).length ≤ 1000) (w0 : World) (h : (twoA p q (dgs x.natAbs) (dgs y.natAbs)).ok w0) :
    NewC Try.prog 119 [bigV x p c1, bigV y q c2] w0 (fun r : At (x.tdiv y) × At (x.tmod y) => .tuple [bigV (x.tdiv y) (some (r.1.1.1, 0)) r.1.1.2, bigV (x.tmod y) (some (r.2.1.1, 0)) r.2.1.2].toArray) (fun r => pairA (x.tdiv y) r.1.1.1 (x.tmod y) r.2.1.1) := by
  have hp := h.now.1
  have hq := h.now.2
  have inx := inR_dgs x.natAbs
  refine c_enter [(0, bigV x p c1), (1, bigV y q c2)] [twoA p q (dgs x.natAbs) (dgs y.natAbs)] noB Try.func119 rfl Try.ntmps119 ⟨rfl, rfl, trivial⟩ rfl (by intro X hX; obtain rfl := List.mem_singleton.1 hX; exact h) (by simp) (by intro X hX hm; obtain rfl := List.mem_singleton.1 hX; cases hm) ?_
  intro a hS
  refine c_seq ?_
  refine c_region ?_
  refine L_op (s_boxA hS rfl rfl ?_); clear hS a; (try clear w); intro a w b2 hS
  refine L_op (s_boxA hS rfl rfl ?_); clear hS a; (try clear w); intro a w b3 hS
  refine L_op (s_alloc hS ty_z44 rfl ?_); clear hS a; (try clear w); intro a w b4 hS
  refine L_op (s_alloc hS ty_z44 rfl ?_); clear hS a; (try clear w); intro a w b5 hS
  refine L_nil ?_
  refine n_then ?_
  refine c_seq ?_
  refine c_region ?_
  refine L_op (s_e hS (e_assign rfl) rfl ?_); clear hS a; intro a hS
  refine L_nil ?_
  refine n_then ?_
  refine c_seq ?_
  refine c_region ?_
  refine L_op (s_e hS (e_build ty_z44 ty_pl44 .nil) rfl ?_); clear hS a; intro a hS
  refine L_op (s_alloc hS ty_z44 rfl ?_); clear hS a; (try clear w); intro a w b7 hS
  refine L_op (s_storeA hS rfl rfl ty_sz44 (by repeat constructor) (by rfl) (by rfl) (by rfl) ?_); clear hS; (try clear w); intro w hS
  refine L_nil ?_
  refine n_then ?_
  refine c_seq ?_
  refine c_region ?_
  first | (refine L_op (s_e hS (e_fa0 rfl ty_fo44_1) rfl ?_); clear hS a; intro a hS) | (refine L_op (s_e hS (e_faK rfl ty_fo44_1) rfl ?_); clear hS a; intro a hS)
  refine L_op (s_e hS (e_load rfl (by repeat constructor) ty_sc42 (by rfl)) rfl ?_); clear hS a; intro a hS
  refine L_op (s_e hS (e_build ty_z44 ty_pl44 (.one rfl rfl rfl (by repeat constructor) .nil)) rfl ?_); clear hS a; intro a hS
  refine L_op (s_alloc hS ty_z44 rfl ?_); clear hS a; (try clear w); intro a w b8 hS
  refine L_op (s_storeA hS rfl rfl ty_sz44 (by repeat constructor) (by rfl) (by rfl) (by rfl) ?_); clear hS; (try clear w); intro w hS
  refine L_nil ?_
  refine n_then ?_
  refine c_seq ?_
  refine c_seq ?_
  refine c_region ?_
  first | (refine L_op (s_e hS (e_fa0 rfl ty_fo44_1) rfl ?_); clear hS a; intro a hS) | (refine L_op (s_e hS (e_faK rfl ty_fo44_1) rfl ?_); clear hS a; intro a hS)
  refine L_op (s_e hS (e_load rfl (by repeat constructor) ty_sc42 (by rfl)) rfl ?_); clear hS a; intro a hS
  refine L_op (s_e hS (e_len rfl rfl ty_sl42) rfl ?_); clear hS a; intro a hS
  first | (refine L_op (s_e hS (e_binN rfl rfl rfl (by omega)) rfl ?_); clear hS a; intro a hS) | (refine L_op (s_e hS (e_bin rfl rfl rfl) rfl ?_); clear hS a; intro a hS)
  refine L_op (s_e hS (e_assign rfl) rfl ?_); clear hS a; intro a hS
  refine L_nil ?_
  refine n_then ?_
  refine wp_block ?_
  replace hS := hS.swap (X := .blk b8 [.bool false, sliceV q (dgs y.natAbs).length c2] 44) (Y := .blk b8 [.bool (decide ((y.natAbs : Int) < 0)), sliceV q (dgs (y.natAbs : Int).natAbs).length c2] 44) (by repeat (first | apply Rep.head | apply Rep.tail)) (by rw [show decide ((y.natAbs : Int) < 0) = false from decide_eq_false (by omega)]; exact hS.ok _ (by repeat (first | exact .head _ | refine .tail _ ?_))) (fun _ hb => hb) rfl
  replace hS := hS.swap (X := .blk b7 [.bool false, .slice none 0 0] 44) (Y := .blk b7 [.bool (decide (((0 : Nat) : Int) < 0)), sliceV none (dgs ((0 : Nat) : Int).natAbs).length 0] 44) (by repeat (first | apply Rep.head | apply Rep.tail)) (by rw [show (dgs ((0 : Nat) : Int).natAbs).length = 0 by rw [show ((0 : Nat) : Int).natAbs = 0 from rfl, dgs_zero]; rfl]; exact hS.ok (.blk b7 [.bool false, .slice none 0 0] 44) (by repeat (first | exact .head _ | refine .tail _ ?_))) (fun _ hb => hb) rfl
  replace hS := (hS.more (Y := bigP ((0 : Nat) : Int).natAbs none) bigP_none (fun b hb => by obtain ⟨off, e⟩ := hb; cases e)).own_nil 3 1
  refine c_loop (γ := (Nat × Nat × List Int)) (fun G a w => ∃ (rp : Option (Nat × Nat)) (rc : Nat) (qv : Value), St 74 noB w0 a w [(9, .int .i64 ((G.1 : Int) - 1)), (6, qv), (2, .pointer (some ⟨b2, 0, none⟩)), (3, .pointer (some ⟨b3, 0, none⟩)), (4, .pointer (some ⟨b4, 0, none⟩)), (5, .pointer (some ⟨b5, 0, none⟩)), (7, .pointer (some ⟨b7, 0, none⟩)), (8, .pointer (some ⟨b8, 0, none⟩))] [.blk b7 [.bool (decide ((G.2.1 : Int) < 0)), sliceV rp (dgs (G.2.1 : Int).natAbs).length rc] 44, bigP (G.2.1 : Int).natAbs rp, ownA 3 1 qv G.2.2.length (G.2.2.flatMap encD), .blk b8 [.bool (decide ((y.natAbs : Int) < 0)), sliceV q (dgs (y.natAbs : Int).natAbs).length c2] 44, .blk b5 [.bool false, .slice none 0 0] 44, .blk b4 [.bool false, .slice none 0 0] 44, .blk b3 [.bool (decide (y < 0)), sliceV q (dgs y.natAbs).length c2] 44, .blk b2 [.bool (decide (x < 0)), sliceV p (dgs x.natAbs).length c1] 44, twoA p q (dgs x.natAbs) (dgs y.natAbs)] ∧ G.1 ≤ (dgs x.natAbs).length ∧ G.2.2.length + G.1 = (dgs x.natAbs).length ∧ inR G.2.2 ∧ G.2.1 < y.natAbs ∧ nv ((dgs x.natAbs).drop G.1) = nv G.2.2 * y.natAbs + G.2.1 ∧ (rp = none → rc = 0) ∧ (dgs (G.2.1 : Int).natAbs).length ≤ rc) (fun G => G.1) ((dgs x.natAbs).length, 0, []) ⟨none, 0, .slice none 0 0, (hS.pick (by repeat (first | exact Pick.nil | (refine Pick.cons (by repeat (first | exact Rem.head | apply Rem.tail)) ?_)))).slots ⟨rfl, rfl, rfl, rfl, rfl, rfl, rfl, rfl, trivial⟩, Nat.le_refl _, by simp, (by intro d hd; cases hd), Int.natAbs_pos.2 hy0, by simp [nv], fun _ => rfl, by simp only; rw [show ((0 : Nat) : Int).natAbs = 0 from rfl, dgs_zero]; exact Nat.le_refl _⟩ ?_
  clear hS a; (try clear w); intro G a w hI
  obtain ⟨k, R, Q⟩ := G
  obtain ⟨rp, rc, qv, hS, hk, hlQ, hinQ, hRY, hval, hrp, hrc⟩ := hI
  simp only at hS hk hlQ hinQ hRY hval hrp hrc
  obtain ⟨pq, cq, rfl, hpq, hcq, _, _⟩ := own_digs (hS.get (X := ownA 3 1 qv Q.length (Q.flatMap encD)) (by repeat (first | exact .head _ | refine .tail _ ?_)))
  refine c_seq ?_
  refine c_seq ?_
  refine c_region ?_
  refine L_op (s_e hS (e_move rfl) rfl ?_); clear hS a; intro a hS
  refine L_op (s_e hS (e_bin rfl rfl rfl) rfl ?_); clear hS a; intro a hS
  refine L_nil ?_
  refine n_then ?_
  first | refine c_ifD hS rfl (fun hc22 => ?_) (fun hc22 => ?_) | refine c_if hS rfl (fun hc22 => ?_) (fun hc22 => ?_)
  ·
    have hk1 : 0 < k := by omega
    have hkn : ((k : Int) - 1).toNat = k - 1 := by omega
    obtain ⟨d, hd⟩ : ∃ d, (dgs x.natAbs)[k - 1]? = some d := ⟨(dgs x.natAbs)[k - 1]'(by omega), List.getElem?_eq_getElem (by omega)⟩
    obtain ⟨bp, op, rfl⟩ := two_pos hp (fun e => by rw [e] at hd; cases hd)
    have hdr := inx d (List.mem_of_getElem? hd)
    obtain ⟨dn, rfl⟩ : ∃ dn : Nat, d = dn := ⟨d.toNat, by omega⟩
    have hRl : (dgs (R : Int).natAbs).length ≤ 1000 := Nat.le_trans (dgs_len_mono (by omega)) hy
    obtain ⟨R1, hR1⟩ : ∃ R1 : Nat, R1 = dn + 10000 * R := ⟨_, rfl⟩
    refine wp_skip ?_
    refine n_then ?_
    refine c_seq ?_
    refine wp_block ?_
    refine c_seq ?_
    refine c_drawS [10] (by kernel_rfl) hS (sub_cons (X := .blk b2 _ _) (by repeat constructor) (sub_cons (X := .blk b7 _ _) (by repeat constructor) (sub_cons (X := twoA (some (bp, op)) q (dgs x.natAbs) (dgs y.natAbs)) (by repeat constructor) sub_nil))) ?_; clear hS; (try clear w); intro w hS
    simp only [List.length_cons, List.length_nil, Nat.zero_add, Nat.reduceAdd, List.replicate]
    first | (refine Z_take0 (i := 0) hS rfl want_none (e_fa0 rfl ty_fo44_1) (listed' := [true, false, false, false, false, false, false, false, false, false, false]) rfl (by kernel_rfl) (by kernel_rfl) (by kernel_rfl) (fun _ _ _ h => h) rfl ?_; clear hS a; intro a hS) | (refine Z_take0 (i := 0) hS rfl want_none (e_faK rfl ty_fo44_1) (listed' := [true, false, false, false, false, false, false, false, false, false, false]) rfl (by kernel_rfl) (by kernel_rfl) (by kernel_rfl) (fun _ _ _ h => h) rfl ?_; clear hS a; intro a hS)
    refine Z_take (i := 1) hS rfl want_none (e_load rfl (by repeat constructor) ty_sc42 (by rfl)) (listed' := [true, true, false, false, false, false, false, false, false, false, false]) rfl (by kernel_rfl) (by kernel_rfl) (by kernel_rfl) (by kernel_rfl) (by kernel_rfl) (sub_cons (by repeat constructor) (sub_cons (by repeat constructor) (sub_cons (by repeat constructor) sub_nil))) (fun _ _ _ h => h) rfl ?_; clear hS a; intro a hS
    refine Z_take0 (i := 2) hS rfl want_none (e_move rfl) (listed' := [true, true, true, false, false, false, false, false, false, false, false]) rfl (by kernel_rfl) (by kernel_rfl) (by kernel_rfl) (fun _ _ _ h => h) rfl ?_; clear hS a; intro a hS
    refine Z_take0 (i := 3) hS rfl want_none (e_ix rfl rfl ty_sl42 ty_sz3 (by omega)) (listed' := [true, true, true, true, false, false, false, false, false, false, false]) rfl (by kernel_rfl) (by kernel_rfl) (by kernel_rfl) (fun _ _ _ h => h) rfl ?_; clear hS a; intro a hS
    refine Z_take (i := 4) hS rfl want_none (e_loadC rfl ty_sc3 (fun w hh => by rw [hkn]; exact two_l (by repeat (first | exact .head _ | refine .tail _ ?_)) hd w hh)) (listed' := [true, true, true, true, true, false, false, false, false, false, false]) rfl (by kernel_rfl) (by kernel_rfl) (by kernel_rfl) (by kernel_rfl) (by kernel_rfl) (sub_cons (by repeat constructor) (sub_cons (by repeat constructor) (sub_cons (by repeat constructor) sub_nil))) (fun _ _ _ h => h) rfl ?_; clear hS a; intro a hS
    first | (refine Z_take0 (i := 6) hS rfl want_none (e_fa0 rfl ty_fo44_1) (listed' := [true, true, true, true, true, false, true, false, false, false, false]) rfl (by kernel_rfl) (by kernel_rfl) (by kernel_rfl) (fun _ _ _ h => h) rfl ?_; clear hS a; intro a hS) | (refine Z_take0 (i := 6) hS rfl want_none (e_faK rfl ty_fo44_1) (listed' := [true, true, true, true, true, false, true, false, false, false, false]) rfl (by kernel_rfl) (by kernel_rfl) (by kernel_rfl) (fun _ _ _ h => h) rfl ?_; clear hS a; intro a hS)
    refine Z_take (i := 7) hS rfl want_none (e_load rfl (by repeat constructor) ty_sc42 (by rfl)) (listed' := [true, true, true, true, true, false, true, true, false, false, false]) rfl (by kernel_rfl) (by kernel_rfl) (by kernel_rfl) (by kernel_rfl) (by kernel_rfl) (sub_cons (by repeat constructor) (sub_cons (by repeat constructor) (sub_cons (by repeat constructor) sub_nil))) (fun _ _ _ h => h) rfl ?_; clear hS a; intro a hS
    refine Z_one (i := 5) rfl (want_none a hS.sl) (listed' := [true, true, true, true, true, true, true, true, false, false, false]) rfl (by kernel_rfl) (s_bslice hS ty_sl42 ty_sz3 ty_z3 rfl rfl rfl rfl (.one rfl rfl rfl .nil) rfl ?_); clear hS a; (try clear w); intro a w b30 hS
    refine Z_and hS (sub_cons (by repeat constructor) (sub_cons (by repeat constructor) (sub_cons (by repeat constructor) sub_nil))) ?_
    replace hS := hS.swap (X := .blk b30 [.int .i64 (dn : Int)] 3) (Y := ownA 3 1 (.slice (some ⟨b30, 0, none⟩) 1 1) 1 [.int .i64 (dn : Int)]) (by repeat (first | apply Rep.head | apply Rep.tail)) (own_lit (hS.get (X := .blk b30 [.int .i64 (dn : Int)] 3) (by repeat (first | exact .head _ | refine .tail _ ?_)))) (fun b hb => by simpa [ownA, Asn.F, Value.ownBlock, eq_comm] using hb) rfl
    refine Z_one (i := 8) rfl (want_none a hS.sl) (listed' := [true, true, true, true, true, true, true, true, true, false, false]) rfl (by kernel_rfl) (s_appendD hS rfl rfl hrp (hS.get (X := bigP (R : Int).natAbs rp) (by repeat (first | exact .head _ | refine .tail _ ?_))) rfl (by repeat (first | exact .head _ | refine .tail _ ?_)) (by omega) (fun _ => (by repeat (first | apply Rep.head | apply Rep.tail))) ?_); clear hS a; (try clear w); intro v33 a w hv33 hS
    rw [show [Value.int .i64 (dn : Int)] ++ (dgs (R : Int).natAbs).flatMap encD = ((dn : Int) :: dgs (R : Int).natAbs).flatMap encD from rfl, show 1 + (dgs (R : Int).natAbs).length = ((dn : Int) :: dgs (R : Int).natAbs).length by simp; omega] at hS
    obtain ⟨p5, c5, e5, h4, h5, h6, h7⟩ := own_digs (hS.get (X := ownA 3 1 v33 ((dn : Int) :: dgs (R : Int).natAbs).length (((dn : Int) :: dgs (R : Int).natAbs).flatMap encD)) (by repeat (first | exact .head _ | refine .tail _ ?_)))
    subst e5
    have hT := trim_P false p5 c5 h4 ((dn : Int) :: dgs (R : Int).natAbs) (by
      intro u hu
      rcases List.mem_cons.1 hu with rfl | hu
      · exact hdr
      · exact inR_dgs _ u hu) h5 (by simp only [List.length_cons]; omega) w h6 h7
    rw [show sgn false (nv ((dn : Int) :: dgs (R : Int).natAbs)) = (R1 : Int) by rw [nv, nv_dgs]; unfold sgn; simp; omega] at hT
    refine Z_and hS (sub_cons (by repeat constructor) (sub_cons (by repeat constructor) (sub_cons (by repeat constructor) sub_nil))) ?_
    refine Z_one (i := 9) rfl (want_none a hS.sl) (listed' := [true, true, true, true, true, true, true, true, true, true, false]) rfl (by kernel_rfl) (s_callN hS (.cons rfl (.cons rfl .nil)) cf57 rfl (hT) ?_); clear hS a; (try clear w); intro x34 a w hS
    refine Z_and hS (sub_cons (by repeat constructor) (sub_cons (by repeat constructor) (sub_cons (by repeat constructor) sub_nil))) ?_
    refine Z_one (i := 10) rfl (want_none a hS.sl) (listed' := [true, true, true, true, true, true, true, true, true, true, true]) rfl (by kernel_rfl) (s_storeA hS rfl rfl ty_sz44 (by repeat constructor) (by rfl) (by rfl) (by rfl) ?_); clear hS; (try clear w); intro w hS
    refine Z_last (by simp) ?_
    refine Z_done (by kernel_rfl) ?_
    refine n_then ?_
    refine c_seq ?_
    refine c_region ?_
    replace hS := hS.swap (X := bigA (R1 : Int) x34.1.1) (Y := bigP (R1 : Int).natAbs (some (x34.1.1, 0))) (by repeat (first | apply Rep.head | apply Rep.tail)) (bigP_of (hS.ok (bigA (R1 : Int) x34.1.1) (by repeat (first | exact .head _ | refine .tail _ ?_)))) (fun b hb => by obtain ⟨off, e⟩ := hb; cases e; rfl) rfl
    have hYpos : 0 < y.natAbs := Int.natAbs_pos.2 hy0
    refine L_op (s_e hS (e_assign rfl) rfl ?_); clear hS a; intro a hS
    refine L_nil ?_
    refine n_then ?_
    refine c_seq ?_
    refine c_region ?_
    refine L_op (s_e hS (e_assign rfl) rfl ?_); clear hS a; intro a hS
    refine L_nil ?_
    refine n_then ?_
    refine c_seq ?_
    refine wp_block ?_
    skip
    refine c_loop (γ := (Int × Int)) (fun G a w => St 74 noB w0 a w [(10, .int .i64 G.1), (11, .int .i64 G.2), (9, .int .i64 ((k : Int) - 1)), (6, sliceV pq Q.length cq), (2, .pointer (some ⟨b2, 0, none⟩)), (3, .pointer (some ⟨b3, 0, none⟩)), (4, .pointer (some ⟨b4, 0, none⟩)), (5, .pointer (some ⟨b5, 0, none⟩)), (7, .pointer (some ⟨b7, 0, none⟩)), (8, .pointer (some ⟨b8, 0, none⟩))] [.blk b7 [.bool (decide ((R1 : Int) < 0)), sliceV (some (x34.1.1, 0)) (dgs (R1 : Int).natAbs).length x34.1.2] 44, bigP (R1 : Int).natAbs (some (x34.1.1, 0)), ownA 3 1 (sliceV pq Q.length cq) Q.length (Q.flatMap encD), .blk b8 [.bool (decide ((y.natAbs : Int) < 0)), sliceV q (dgs (y.natAbs : Int).natAbs).length c2] 44, .blk b5 [.bool false, .slice none 0 0] 44, .blk b4 [.bool false, .slice none 0 0] 44, .blk b3 [.bool (decide (y < 0)), sliceV q (dgs y.natAbs).length c2] 44, .blk b2 [.bool (decide (x < 0)), sliceV (some (bp, op)) (dgs x.natAbs).length c1] 44, twoA (some (bp, op)) q (dgs x.natAbs) (dgs y.natAbs)] ∧ 0 ≤ G.1 ∧ G.1 < G.2 ∧ G.2 ≤ 10000 ∧ (y.natAbs : Int) * G.1 ≤ R1 ∧ (R1 : Int) < y.natAbs * G.2) (fun G => (G.2 - G.1).toNat) (0, 10000) ⟨(hS.pick (by repeat (first | exact Pick.nil | (refine Pick.cons (by repeat (first | exact Rem.head | apply Rem.tail)) ?_)))).slots ⟨rfl, rfl, rfl, rfl, rfl, rfl, rfl, rfl, rfl, rfl, trivial⟩, by simp, by simp, by simp, by simp, by simp only; omega⟩ ?_
    clear hS a; (try clear w); intro G a w hI
    obtain ⟨lo, hi⟩ := G
    obtain ⟨hS, l0, l1, l2, l3, l4⟩ := hI
    simp only at hS l0 l1 l2 l3 l4
    refine c_seq ?_
    refine c_seq ?_
    refine c_region ?_
    refine L_op (s_e hS (e_move rfl) rfl ?_); clear hS a; intro a hS
    refine L_op (s_e hS (e_move rfl) rfl ?_); clear hS a; intro a hS
    first | (refine L_op (s_e hS (e_binN rfl rfl rfl (by omega)) rfl ?_); clear hS a; intro a hS) | (refine L_op (s_e hS (e_bin rfl rfl rfl) rfl ?_); clear hS a; intro a hS)
    refine L_op (s_e hS (e_bin rfl rfl rfl) rfl ?_); clear hS a; intro a hS
    refine L_nil ?_
    refine n_then ?_
    first | refine c_ifD hS rfl (fun hc38 => ?_) (fun hc38 => ?_) | refine c_if hS rfl (fun hc38 => ?_) (fun hc38 => ?_)
    ·
      refine wp_skip ?_
      refine n_then ?_
      refine wp_block ?_
      refine c_seq ?_
      refine c_region ?_
      refine L_op (s_e hS (e_move rfl) rfl ?_); clear hS a; intro a hS
      refine L_op (s_e hS (e_move rfl) rfl ?_); clear hS a; intro a hS
      first | (refine L_op (s_e hS (e_binN rfl rfl rfl (by omega)) rfl ?_); clear hS a; intro a hS) | (refine L_op (s_e hS (e_bin rfl rfl rfl) rfl ?_); clear hS a; intro a hS)
      first | (refine L_op (s_e hS (e_quoN rfl rfl (by omega)) rfl ?_); clear hS a; intro a hS) | (refine L_op (s_e hS (e_quo rfl rfl (by omega)) rfl ?_); clear hS a; intro a hS)
      refine L_op (s_e hS (e_assign rfl) rfl ?_); clear hS a; intro a hS
      refine L_nil ?_
      refine n_then ?_
      refine c_seq ?_
      refine c_drawS [] (by kernel_rfl) hS (sub_cons (X := .blk b8 _ _) (by repeat constructor) (sub_cons (X := .blk b7 _ _) (by repeat constructor) sub_nil)) ?_; clear hS; (try clear w); intro w hS
      simp only [List.length_cons, List.length_nil, Nat.zero_add, Nat.reduceAdd, List.replicate]
      refine Z_take (i := 0) hS rfl want_none (e_loadA rfl (by repeat constructor) ty_st44 ty_sz44 (by rfl)) (listed' := [true, false, false, false, false, false, false]) rfl (by kernel_rfl) (by kernel_rfl) (by kernel_rfl) (by kernel_rfl) (by kernel_rfl) (sub_cons (by repeat constructor) (sub_cons (by repeat constructor) sub_nil)) (fun _ _ _ h => h) rfl ?_; clear hS a; intro a hS
      refine Z_take0 (i := 1) hS rfl want_none (e_move rfl) (listed' := [true, true, false, false, false, false, false]) rfl (by kernel_rfl) (by kernel_rfl) (by kernel_rfl) (fun _ _ _ h => h) rfl ?_; clear hS a; intro a hS
      refine Z_take (i := 4) hS rfl want_none (e_loadA rfl (by repeat constructor) ty_st44 ty_sz44 (by rfl)) (listed' := [true, true, false, false, true, false, false]) rfl (by kernel_rfl) (by kernel_rfl) (by kernel_rfl) (by kernel_rfl) (by kernel_rfl) (sub_cons (by repeat constructor) (sub_cons (by repeat constructor) sub_nil)) (fun _ _ _ h => h) rfl ?_; clear hS a; intro a hS
      refine Z_one (i := 2) rfl (want_none a hS.sl) (listed' := [true, true, true, false, true, false, false]) rfl (by kernel_rfl) (s_callN hS (.cons rfl .nil) cf22 rfl (BigOf_P ((lo + hi) / 2) (by omega) _) ?_); clear hS a; (try clear w); intro x45 a w hS
      refine Z_and hS (sub_cons (by repeat constructor) (sub_cons (by repeat constructor) sub_nil)) ?_
      have hml := len_mul (Y := y.natAbs) (m := ((lo + hi) / 2).natAbs) (by omega)
      rw [show y.natAbs * ((lo + hi) / 2).natAbs = ((y.natAbs : Int) * ((lo + hi) / 2)).natAbs by rw [Int.natAbs_mul]; rfl] at hml
      have hmid := len20 (z := (lo + hi) / 2) (by omega)
      refine Z_one (i := 3) rfl (want_none a hS.sl) (listed' := [true, true, true, true, true, false, false]) rfl (by kernel_rfl) (s_callN hS (.cons rfl (.cons rfl .nil)) cf105 rfl (BigMul_P q (some (x45.1.1, 0)) c2 x45.1.2 (y.natAbs : Int) ((lo + hi) / 2) (by show (dgs y.natAbs).length ≤ _; omega) (by omega) _ (two_ok (hS.get (X := twoA (some (bp, op)) q (dgs x.natAbs) (dgs y.natAbs)) (by repeat (first | exact .head _ | refine .tail _ ?_))).2 (hS.get (X := bigA ((lo + hi) / 2) x45.1.1) (by repeat (first | exact .head _ | refine .tail _ ?_))) (fun r e => (hS.ok (twoA (some (bp, op)) q (dgs x.natAbs) (dgs y.natAbs)) (by repeat (first | exact .head _ | refine .tail _ ?_))).lt r.1 (.inr ⟨r.2, e⟩)) (fun r e => by cases e; exact (hS.ok (bigA ((lo + hi) / 2) x45.1.1) (by repeat (first | exact .head _ | refine .tail _ ?_))).lt x45.1.1 rfl))) ?_); clear hS a; (try clear w); intro x46 a w hS
      refine Z_and hS (sub_cons (by repeat constructor) (sub_cons (by repeat constructor) sub_nil)) ?_
      refine Z_one (i := 5) rfl (want_none a hS.sl) (listed' := [true, true, true, true, true, true, false]) rfl (by kernel_rfl) (s_callP hS (.cons rfl (.cons rfl .nil)) cf24 rfl (BigCmp_P (some (x46.1.1, 0)) (some (x34.1.1, 0)) x46.1.2 x34.1.2 ((y.natAbs : Int) * ((lo + hi) / 2)) (R1 : Int) (by omega) _ (two_ok (hS.get (X := bigA ((y.natAbs : Int) * ((lo + hi) / 2)) x46.1.1) (by repeat (first | exact .head _ | refine .tail _ ?_))) (hS.get (X := bigP (R1 : Int).natAbs (some (x34.1.1, 0))) (by repeat (first | exact .head _ | refine .tail _ ?_))) (fun r e => by cases e; exact (hS.ok (bigA ((y.natAbs : Int) * ((lo + hi) / 2)) x46.1.1) (by repeat (first | exact .head _ | refine .tail _ ?_))).lt x46.1.1 rfl) (fun r e => by cases e; exact (hS.ok (bigP (R1 : Int).natAbs (some (x34.1.1, 0))) (by repeat (first | exact .head _ | refine .tail _ ?_))).lt x34.1.1 ⟨0, rfl⟩))) ?_); clear hS a; (try clear w); intro a w hS
      refine Z_and hS (sub_cons (by repeat constructor) (sub_cons (by repeat constructor) sub_nil)) ?_
      refine Z_take0 (i := 6) hS rfl want_none (e_bin rfl rfl rfl) (listed' := [true, true, true, true, true, true, true]) rfl (by kernel_rfl) (by kernel_rfl) (by kernel_rfl) (fun _ _ _ h => h) rfl ?_; clear hS a; intro a hS
      refine Z_done (by kernel_rfl) ?_
      refine n_then ?_
      first | refine c_ifD hS rfl (fun hc49 => ?_) (fun hc49 => ?_) | refine c_if hS rfl (fun hc49 => ?_) (fun hc49 => ?_)
      ·
        refine c_region ?_
        refine L_op (s_e hS (e_move rfl) rfl ?_); clear hS a; intro a hS
        refine L_op (s_e hS (e_assign rfl) rfl ?_); clear hS a; intro a hS
        refine L_nil ?_
        refine n_block ?_
        rw [cmpZ_le] at hc49
        first
        | exact ⟨((lo + hi) / 2, hi), by simp only; omega, (hS.pick (by repeat (first | exact Pick.nil | (refine Pick.cons (by repeat (first | exact Rem.head | apply Rem.tail)) ?_)))).slots (by repeat (first | exact trivial | refine ⟨rfl, ?_⟩)), by simp only; omega, by simp only; omega, by simp only; omega, hc49, l4⟩
        | exact ⟨(lo, (lo + hi) / 2), by simp only; omega, (hS.pick (by repeat (first | exact Pick.nil | (refine Pick.cons (by repeat (first | exact Rem.head | apply Rem.tail)) ?_)))).slots (by repeat (first | exact trivial | refine ⟨rfl, ?_⟩)), by simp only; omega, by simp only; omega, by simp only; omega, l3, by simp only; omega⟩
      ·
        refine c_region ?_
        refine L_op (s_e hS (e_move rfl) rfl ?_); clear hS a; intro a hS
        refine L_op (s_e hS (e_assign rfl) rfl ?_); clear hS a; intro a hS
        refine L_nil ?_
        refine n_block ?_
        rw [cmpZ_le] at hc49
        first
        | exact ⟨((lo + hi) / 2, hi), by simp only; omega, (hS.pick (by repeat (first | exact Pick.nil | (refine Pick.cons (by repeat (first | exact Rem.head | apply Rem.tail)) ?_)))).slots (by repeat (first | exact trivial | refine ⟨rfl, ?_⟩)), by simp only; omega, by simp only; omega, by simp only; omega, hc49, l4⟩
        | exact ⟨(lo, (lo + hi) / 2), by simp only; omega, (hS.pick (by repeat (first | exact Pick.nil | (refine Pick.cons (by repeat (first | exact Rem.head | apply Rem.tail)) ?_)))).slots (by repeat (first | exact trivial | refine ⟨rfl, ?_⟩)), by simp only; omega, by simp only; omega, by simp only; omega, l3, by simp only; omega⟩
    ·
      obtain rfl : hi = lo + 1 := by omega
      rw [Int.mul_add, Int.mul_one] at l4
      obtain ⟨R2, hR2⟩ : ∃ R2 : Nat, (R2 : Int) = (R1 : Int) - (y.natAbs : Int) * lo := ⟨((R1 : Int) - (y.natAbs : Int) * lo).toNat, by omega⟩
      have hml := len_mul (Y := y.natAbs) (m := lo.natAbs) (by omega)
      rw [show y.natAbs * lo.natAbs = ((y.natAbs : Int) * lo).natAbs by rw [Int.natAbs_mul]; rfl] at hml
      have hlo := len20 (z := lo) (by omega)
      have hR1l : (dgs (R1 : Int).natAbs).length ≤ 1002 := by
        have h1 := len_mul (Y := y.natAbs) (m := (lo + 1).natAbs) (by omega)
        have h2 := dgs_len_mono (show (R1 : Int).natAbs ≤ y.natAbs * (lo + 1).natAbs by
          have e1 : ((y.natAbs * (lo + 1).natAbs : Nat) : Int) = (y.natAbs : Int) * (lo + 1) := by rw [Int.natCast_mul, Int.natAbs_of_nonneg (show 0 ≤ lo + 1 by omega)]
          rw [Int.mul_add, Int.mul_one] at e1; omega)
        omega
      refine wp_exit ?_
      refine x_then (x_then (x_hit ?_))
      refine n_then ?_
      refine c_seq ?_
      refine c_drawS [6] (by kernel_rfl) hS (sub_cons (X := .blk b8 _ _) (by repeat constructor) (sub_cons (X := .blk b7 _ _) (by repeat constructor) sub_nil)) ?_; clear hS; (try clear w); intro w hS
      simp only [List.length_cons, List.length_nil, Nat.zero_add, Nat.reduceAdd, List.replicate]
      refine Z_take (i := 0) hS rfl want_none (e_loadA rfl (by repeat constructor) ty_st44 ty_sz44 (by rfl)) (listed' := [true, false, false, false, false, false, false]) rfl (by kernel_rfl) (by kernel_rfl) (by kernel_rfl) (by kernel_rfl) (by kernel_rfl) (sub_cons (by repeat constructor) (sub_cons (by repeat constructor) sub_nil)) (fun _ _ _ h => h) rfl ?_; clear hS a; intro a hS
      refine Z_take (i := 1) hS rfl want_none (e_loadA rfl (by repeat constructor) ty_st44 ty_sz44 (by rfl)) (listed' := [true, true, false, false, false, false, false]) rfl (by kernel_rfl) (by kernel_rfl) (by kernel_rfl) (by kernel_rfl) (by kernel_rfl) (sub_cons (by repeat constructor) (sub_cons (by repeat constructor) sub_nil)) (fun _ _ _ h => h) rfl ?_; clear hS a; intro a hS
      refine Z_take0 (i := 2) hS rfl want_none (e_move rfl) (listed' := [true, true, true, false, false, false, false]) rfl (by kernel_rfl) (by kernel_rfl) (by kernel_rfl) (fun _ _ _ h => h) rfl ?_; clear hS a; intro a hS
      refine Z_one (i := 3) rfl (want_none a hS.sl) (listed' := [true, true, true, true, false, false, false]) rfl (by kernel_rfl) (s_callN hS (.cons rfl .nil) cf22 rfl (BigOf_P lo (by omega) _) ?_); clear hS a; (try clear w); intro x55 a w hS
      refine Z_and hS (sub_cons (by repeat constructor) (sub_cons (by repeat constructor) sub_nil)) ?_
      refine Z_one (i := 4) rfl (want_none a hS.sl) (listed' := [true, true, true, true, true, false, false]) rfl (by kernel_rfl) (s_callN hS (.cons rfl (.cons rfl .nil)) cf105 rfl (BigMul_P q (some (x55.1.1, 0)) c2 x55.1.2 (y.natAbs : Int) lo (by show (dgs y.natAbs).length ≤ _; omega) (by omega) _ (two_ok (hS.get (X := twoA (some (bp, op)) q (dgs x.natAbs) (dgs y.natAbs)) (by repeat constructor)).2 (hS.get (X := bigA lo x55.1.1) (by repeat constructor)) (fun r e => (hS.ok (twoA (some (bp, op)) q (dgs x.natAbs) (dgs y.natAbs)) (by repeat constructor)).lt r.1 (.inr ⟨r.2, e⟩)) (fun r e => by cases e; exact (hS.ok (bigA lo x55.1.1) (by repeat constructor)).lt x55.1.1 rfl))) ?_); clear hS a; (try clear w); intro x56 a w hS
      refine Z_and hS (sub_cons (by repeat constructor) (sub_cons (by repeat constructor) sub_nil)) ?_
      refine Z_one (i := 5) rfl (want_none a hS.sl) (listed' := [true, true, true, true, true, true, false]) rfl (by kernel_rfl) (s_callN hS (.cons rfl (.cons rfl .nil)) cf21 rfl (BigSub_P (some (x34.1.1, 0)) (some (x56.1.1, 0)) x34.1.2 x56.1.2 (fun e => by cases e) (R1 : Int) ((y.natAbs : Int) * lo) x56.2 2000 (by omega) (by omega) (by omega) _ (two_ok (hS.get (X := bigP (R1 : Int).natAbs (some (x34.1.1, 0))) (by repeat constructor)) (hS.get (X := bigA ((y.natAbs : Int) * lo) x56.1.1) (by repeat constructor)) (fun r e => by cases e; exact (hS.ok (bigP (R1 : Int).natAbs (some (x34.1.1, 0))) (by repeat constructor)).lt x34.1.1 ⟨0, rfl⟩) (fun r e => by cases e; exact (hS.ok (bigA ((y.natAbs : Int) * lo) x56.1.1) (by repeat constructor)).lt x56.1.1 rfl))) ?_); clear hS a; (try clear w); intro x57 a w hS
      refine Z_and hS (sub_cons (by repeat constructor) (sub_cons (by repeat constructor) sub_nil)) ?_
      refine Z_one (i := 6) rfl (want_none a hS.sl) (listed' := [true, true, true, true, true, true, true]) rfl (by kernel_rfl) (s_storeA hS rfl rfl ty_sz44 (by repeat constructor) (by rfl) (by rfl) (by rfl) ?_); clear hS; (try clear w); intro w hS
      refine Z_last (by simp) ?_
      refine Z_done (by kernel_rfl) ?_
      refine n_then ?_
      refine c_region ?_
      obtain ⟨⟨nb, nc⟩, hnc⟩ := x57
      simp only at hS
      rw [← hR2] at hS hnc
      replace hS := hS.swap (X := bigA (R2 : Int) nb) (Y := bigP (R2 : Int).natAbs (some (nb, 0))) (by repeat constructor) (bigP_of (hS.ok (bigA (R2 : Int) nb) (by repeat constructor))) (fun b hb => by obtain ⟨off, e⟩ := hb; cases e; rfl) rfl
      refine L_op (s_e hS (e_move rfl) rfl ?_); clear hS a; intro a hS
      refine L_op (s_bslice hS ty_sl42 ty_sz3 ty_z3 rfl rfl rfl rfl (.one rfl rfl rfl .nil) rfl ?_); clear hS a; (try clear w); intro a w b59 hS
      refine L_op (s_e hS (e_move rfl) rfl ?_); clear hS a; intro a hS
      replace hS := hS.swap (X := .blk b59 [.int .i64 lo] 3) (Y := ownA 3 1 (.slice (some ⟨b59, 0, none⟩) 1 1) 1 [.int .i64 lo]) (by repeat constructor) (own_lit (hS.get (X := .blk b59 [.int .i64 lo] 3) (by repeat constructor))) (fun b hb => by simpa [ownA, Asn.F, Value.ownBlock, eq_comm] using hb) rfl
      have hQrow := own_rowP (hS.get (X := ownA 3 1 (sliceV pq Q.length cq) Q.length (Q.flatMap encD)) (by repeat constructor))
      refine L_op (s_appendD hS rfl rfl hpq hQrow.1 rfl (by repeat constructor) (by omega) (fun _ => (by repeat constructor)) ?_); clear hS a; (try clear w); intro v61 a w hv61 hS
      refine L_op (s_e hS (e_assign rfl) rfl ?_); clear hS a; intro a hS
      refine L_nil ?_
      refine n_block ?_
      refine n_then ?_
      refine c_region ?_
      refine L_op (s_e hS (e_move rfl) rfl ?_); clear hS a; intro a hS
      first | (refine L_op (s_e hS (e_binN rfl rfl rfl (by omega)) rfl ?_); clear hS a; intro a hS) | (refine L_op (s_e hS (e_bin rfl rfl rfl) rfl ?_); clear hS a; intro a hS)
      refine L_op (s_e hS (e_assign rfl) rfl ?_); clear hS a; intro a hS
      refine L_nil ?_
      rw [show [Value.int .i64 lo] ++ Q.flatMap encD = (lo :: Q).flatMap encD from rfl, show 1 + Q.length = (lo :: Q).length by simp; omega] at hS
      refine ⟨(k - 1, R2, lo :: Q), by simp only; omega, some (nb, 0), nc, v61, ?_, by simp only; omega, by simp only [List.length_cons]; omega, ?_, by simp only; omega, ?_, fun e => (by cases e), hnc⟩
      · have hS2 := (hS.pick (Γ' := [.blk b7 [.bool (decide ((R2 : Int) < 0)), sliceV (some (nb, 0)) (dgs (R2 : Int).natAbs).length nc] 44, bigP (R2 : Int).natAbs (some (nb, 0)), ownA 3 1 v61 (lo :: Q).length ((lo :: Q).flatMap encD), .blk b8 [.bool (decide ((y.natAbs : Int) < 0)), sliceV q (dgs (y.natAbs : Int).natAbs).length c2] 44, .blk b5 [.bool false, .slice none 0 0] 44, .blk b4 [.bool false, .slice none 0 0] 44, .blk b3 [.bool (decide (y < 0)), sliceV q (dgs y.natAbs).length c2] 44, .blk b2 [.bool (decide (x < 0)), sliceV (some (bp, op)) (dgs x.natAbs).length c1] 44, twoA (some (bp, op)) q (dgs x.natAbs) (dgs y.natAbs)]) (by repeat (first | exact Pick.nil | (refine Pick.cons (by repeat (first | exact Rem.head | apply Rem.tail)) ?_)))).slots (L' := [(9, .int .i64 (((k - 1 : Nat) : Int) - 1)), (6, v61), (2, .pointer (some ⟨b2, 0, none⟩)), (3, .pointer (some ⟨b3, 0, none⟩)), (4, .pointer (some ⟨b4, 0, none⟩)), (5, .pointer (some ⟨b5, 0, none⟩)), (7, .pointer (some ⟨b7, 0, none⟩)), (8, .pointer (some ⟨b8, 0, none⟩))]) (by rw [show ((k - 1 : Nat) : Int) - 1 = (k : Int) - 1 - 1 by omega]; exact (by repeat (first | exact trivial | refine ⟨rfl, ?_⟩)))
        exact hS2
      · intro d hd
        rcases List.mem_cons.1 hd with rfl | hd
        · omega
        · exact hinQ d hd
      · simp only
        rw [drop_at hd, show k - 1 + 1 = k by omega, nv, nv, hval]
        rw [hR1] at hR2
        grind
  ·
    obtain rfl : k = 0 := by omega
    rw [List.drop_zero, nv_dgs] at hval
    have hnq := nv_nonneg hinQ
    have hsg := quo_sgn (x := x) (y := y) (V := (nv Q).toNat) (R := R) hRY (by
      have e1 : (((nv Q).toNat * y.natAbs + R : Nat) : Int) = nv Q * (y.natAbs : Int) + (R : Int) := by rw [Int.natCast_add, Int.natCast_mul, Int.toNat_of_nonneg hnq]
      omega)
    rw [Int.toNat_of_nonneg hnq] at hsg
    have hRl : (dgs (R : Int).natAbs).length ≤ 1000 := Nat.le_trans (dgs_len_mono (by omega)) hy
    refine wp_exit ?_
    refine x_then (x_then (x_hit ?_))
    refine n_then ?_
    refine c_seq ?_
    refine c_drawS [12, 13] (by kernel_rfl) hS (sub_cons (X := .blk b2 _ _) (by repeat constructor) (sub_cons (X := .blk b3 _ _) (by repeat constructor) (sub_cons (X := .blk b7 _ _) (by repeat constructor) sub_nil))) ?_; clear hS; (try clear w); intro w hS
    simp only [List.length_cons, List.length_nil, Nat.zero_add, Nat.reduceAdd, List.replicate]
    first | (refine Z_take0 (i := 0) hS rfl want_none (e_fa0 rfl ty_fo44_0) (listed' := [true, false, false, false, false, false, false, false, false, false, false, false, false, false]) rfl (by kernel_rfl) (by kernel_rfl) (by kernel_rfl) (fun _ _ _ h => h) rfl ?_; clear hS a; intro a hS) | (refine Z_take0 (i := 0) hS rfl want_none (e_faK rfl ty_fo44_0) (listed' := [true, false, false, false, false, false, false, false, false, false, false, false, false, false]) rfl (by kernel_rfl) (by kernel_rfl) (by kernel_rfl) (fun _ _ _ h => h) rfl ?_; clear hS a; intro a hS)
    refine Z_take (i := 1) hS rfl want_none (e_load rfl (by repeat constructor) ty_sc4 (by rfl)) (listed' := [true, true, false, false, false, false, false, false, false, false, false, false, false, false]) rfl (by kernel_rfl) (by kernel_rfl) (by kernel_rfl) (by kernel_rfl) (by kernel_rfl) (sub_cons (by repeat constructor) (sub_cons (by repeat constructor) (sub_cons (by repeat constructor) sub_nil))) (fun _ _ _ h => h) rfl ?_; clear hS a; intro a hS
    first | (refine Z_take0 (i := 2) hS rfl want_none (e_fa0 rfl ty_fo44_0) (listed' := [true, true, true, false, false, false, false, false, false, false, false, false, false, false]) rfl (by kernel_rfl) (by kernel_rfl) (by kernel_rfl) (fun _ _ _ h => h) rfl ?_; clear hS a; intro a hS) | (refine Z_take0 (i := 2) hS rfl want_none (e_faK rfl ty_fo44_0) (listed' := [true, true, true, false, false, false, false, false, false, false, false, false, false, false]) rfl (by kernel_rfl) (by kernel_rfl) (by kernel_rfl) (fun _ _ _ h => h) rfl ?_; clear hS a; intro a hS)
    refine Z_take (i := 3) hS rfl want_none (e_load rfl (by repeat constructor) ty_sc4 (by rfl)) (listed' := [true, true, true, true, false, false, false, false, false, false, false, false, false, false]) rfl (by kernel_rfl) (by kernel_rfl) (by kernel_rfl) (by kernel_rfl) (by kernel_rfl) (sub_cons (by repeat constructor) (sub_cons (by repeat constructor) (sub_cons (by repeat constructor) sub_nil))) (fun _ _ _ h => h) rfl ?_; clear hS a; intro a hS
    refine Z_take0 (i := 4) hS rfl want_none (e_binBn rfl rfl ty_u4) (listed' := [true, true, true, true, true, false, false, false, false, false, false, false, false, false]) rfl (by kernel_rfl) (by kernel_rfl) (by kernel_rfl) (fun _ _ _ h => h) rfl ?_; clear hS a; intro a hS
    refine Z_take0 (i := 5) hS rfl want_none (e_move rfl) (listed' := [true, true, true, true, true, true, false, false, false, false, false, false, false, false]) rfl (by kernel_rfl) (by kernel_rfl) (by kernel_rfl) (fun _ _ _ h => h) rfl ?_; clear hS a; intro a hS
    first | (refine Z_take0 (i := 7) hS rfl want_none (e_fa0 rfl ty_fo44_0) (listed' := [true, true, true, true, true, true, false, true, false, false, false, false, false, false]) rfl (by kernel_rfl) (by kernel_rfl) (by kernel_rfl) (fun _ _ _ h => h) rfl ?_; clear hS a; intro a hS) | (refine Z_take0 (i := 7) hS rfl want_none (e_faK rfl ty_fo44_0) (listed' := [true, true, true, true, true, true, false, true, false, false, false, false, false, false]) rfl (by kernel_rfl) (by kernel_rfl) (by kernel_rfl) (fun _ _ _ h => h) rfl ?_; clear hS a; intro a hS)
    refine Z_take (i := 8) hS rfl want_none (e_load rfl (by repeat constructor) ty_sc4 (by rfl)) (listed' := [true, true, true, true, true, true, false, true, true, false, false, false, false, false]) rfl (by kernel_rfl) (by kernel_rfl) (by kernel_rfl) (by kernel_rfl) (by kernel_rfl) (sub_cons (by repeat constructor) (sub_cons (by repeat constructor) (sub_cons (by repeat constructor) sub_nil))) (fun _ _ _ h => h) rfl ?_; clear hS a; intro a hS
    first | (refine Z_take0 (i := 9) hS rfl want_none (e_fa0 rfl ty_fo44_1) (listed' := [true, true, true, true, true, true, false, true, true, true, false, false, false, false]) rfl (by kernel_rfl) (by kernel_rfl) (by kernel_rfl) (fun _ _ _ h => h) rfl ?_; clear hS a; intro a hS) | (refine Z_take0 (i := 9) hS rfl want_none (e_faK rfl ty_fo44_1) (listed' := [true, true, true, true, true, true, false, true, true, true, false, false, false, false]) rfl (by kernel_rfl) (by kernel_rfl) (by kernel_rfl) (fun _ _ _ h => h) rfl ?_; clear hS a; intro a hS)
    refine Z_take (i := 10) hS rfl want_none (e_load rfl (by repeat constructor) ty_sc42 (by rfl)) (listed' := [true, true, true, true, true, true, false, true, true, true, true, false, false, false]) rfl (by kernel_rfl) (by kernel_rfl) (by kernel_rfl) (by kernel_rfl) (by kernel_rfl) (sub_cons (by repeat constructor) (sub_cons (by repeat constructor) (sub_cons (by repeat constructor) sub_nil))) (fun _ _ _ h => h) rfl ?_; clear hS a; intro a hS
    have hQr := own_rowP (hS.get (X := ownA 3 1 (sliceV pq Q.length cq) Q.length (Q.flatMap encD)) (by repeat constructor))
    have hT1 := trim_P (decide (decide (x < 0) ≠ decide (y < 0))) pq cq hpq Q hinQ hcq (by omega) w hQr.1 hQr.2
    rw [hsg.1] at hT1
    refine Z_one (i := 6) rfl (want_none a hS.sl) (listed' := [true, true, true, true, true, true, true, true, true, true, true, false, false, false]) rfl (by kernel_rfl) (s_callN hS (.cons rfl (.cons rfl .nil)) cf57 rfl (hT1) ?_); clear hS a; (try clear w); intro x68 a w hS
    refine Z_and hS (sub_cons (by repeat constructor) (sub_cons (by repeat constructor) (sub_cons (by repeat constructor) sub_nil))) ?_
    have hT2 := trim_P (decide (x < 0)) rp rc hrp (dgs (R : Int).natAbs) (inR_dgs _) hrc (by omega) w (hS.get (X := bigP (R : Int).natAbs rp) (by repeat constructor)) (fun r e => (hS.ok (bigP (R : Int).natAbs rp) (by repeat constructor)).lt r.1 ⟨r.2, e⟩)
    rw [show nv (dgs (R : Int).natAbs) = (R : Int) by rw [nv_dgs]; rfl, hsg.2] at hT2
    refine Z_one (i := 11) rfl (want_none a hS.sl) (listed' := [true, true, true, true, true, true, true, true, true, true, true, true, false, false]) rfl (by kernel_rfl) (s_callN hS (.cons rfl (.cons rfl .nil)) cf57 rfl (hT2) ?_); clear hS a; (try clear w); intro x73 a w hS
    refine Z_and hS (sub_cons (by repeat constructor) (sub_cons (by repeat constructor) (sub_cons (by repeat constructor) sub_nil))) ?_
    refine Z_one (i := 12) rfl (want_none a hS.sl) (listed' := [true, true, true, true, true, true, true, true, true, true, true, true, true, false]) rfl (by kernel_rfl) (s_storeA hS rfl rfl ty_sz44 (by repeat constructor) (by rfl) (by rfl) (by rfl) ?_); clear hS; (try clear w); intro w hS
    refine Z_last (by simp) ?_
    refine Z_one (i := 13) rfl (want_none a hS.sl) (listed' := [true, true, true, true, true, true, true, true, true, true, true, true, true, true]) rfl (by kernel_rfl) (s_storeA hS rfl rfl ty_sz44 (by repeat constructor) (by rfl) (by rfl) (by rfl) ?_); clear hS; (try clear w); intro w hS
    refine Z_last (by simp) ?_
    refine Z_done (by kernel_rfl) ?_
    refine n_then ?_
    refine wp_ret ?_
    refine c_retN hS Try.results119 (.cons (.cellA rfl (by repeat constructor) ty_st44 ty_sz44 (by rfl)) (.cons (.cellA rfl (by repeat constructor) ty_st44 ty_sz44 (by rfl)) .nil)) rfl ?_
    exact ⟨(x68, x73), rfl, hS.chg, pair_ok (hS.ok (bigA (x.tdiv y) x68.1.1) (by repeat constructor)) (hS.ok (bigA (x.tmod y) x73.1.1) (by repeat constructor)), fun b hb => by rcases hb with rfl | rfl; exact (hS.new (X := bigA (x.tdiv y) x68.1.1) (by repeat constructor) rfl).2 _ rfl; exact (hS.new (X := bigA (x.tmod y) x73.1.1) (by repeat constructor) rfl).2 _ rfl⟩
end Go.Proofs.Ytheofhegdjjfgaa

