/- LedgerPlays: for every argument the law returns true, and each argument reads afterwards as it read before. No conditions. (text 5 of 6) -/
import Derived.Test.YtheofhegdjjfgaaGreatLPlC4
namespace Go.Proofs.YtheofhegdjjfgaaGreat
open Go.RowKit
def twoDg (x y : Int) (p q : Option (Nat × Nat)) : Asn := .any (fun k => (∃ off, p = some (k, off)) ∨ ∃ off, q = some (k, off)) (fun w => RowP p 1 ((dgs x.natAbs).map encD) w ∧ RowP q 1 ((dgs y.natAbs).map encD) w) true
theorem twoDg_ok {x y : Int} {p q : Option (Nat × Nat)} {w : World} (h1 : (dgP x p).ok w) (h2 : (dgP y q).ok w) : (twoDg x y p q).ok w :=
  ⟨fun k hk => hk.elim (h1.lt k) (h2.lt k), fun w' hw => ⟨h1.hold w' (fun k hk => hw k (.inl hk)), h2.hold w' (fun k hk => hw k (.inr hk))⟩⟩
theorem twoDg_one {x y : Int} {p q : Option (Nat × Nat)} {w : World} (h : (twoDg x y p q).ok w) : (oneA p (dgs x.natAbs)).ok w ∧ (oneA q (dgs y.natAbs)).ok w :=
  ⟨ok_rowP h.now.1 (fun r e => h.lt r.1 (.inl ⟨r.2, e⟩)), ok_rowP h.now.2 (fun r e => h.lt r.1 (.inr ⟨r.2, e⟩))⟩
theorem post_bd {V : List Ent} (hV : ∀ x ∈ V, x.ps.length ≤ 50) (hf : ∀ x ∈ V, ∀ p ∈ x.ps, p.fits) (hl : V.length ≤ 2000) (c : ByteArray) (at_ : Int) (i : Nat) {r : List Pst} (hr : r.length ≤ 50) (hrf : ∀ p ∈ r, p.fits) (k : Nat) :
    (-1000000000000000000000000 ≤ (balD c (postsAt (V.take i) at_ ++ r.take k)).1 ∧ (balD c (postsAt (V.take i) at_ ++ r.take k)).1 ≤ 1000000000000000000000000) ∧ (-1000000000000000000000000 ≤ (balD c (postsAt (V.take i) at_ ++ r.take k)).2 ∧ (balD c (postsAt (V.take i) at_ ++ r.take k)).2 ≤ 1000000000000000000000000) := by
  have h1 := posts_len (V.take i) at_ (fun x hx => hV x (List.mem_of_mem_take hx))
  have h2 : (V.take i).length ≤ 2000 := by rw [List.length_take]; omega
  have h3 : (postsAt (V.take i) at_ ++ r.take k).length ≤ 100050 := by rw [List.length_append, List.length_take]; omega
  have hfit : ∀ p ∈ postsAt (V.take i) at_ ++ r.take k, p.fits := fun p hp => by
    rcases List.mem_append.1 hp with hp | hp
    · unfold postsAt upTo at hp
      obtain ⟨x, hx, hpx⟩ := List.mem_flatMap.1 hp
      exact hf x (List.mem_of_mem_take (List.mem_filter.1 hx).1) p hpx
    · exact hrf p (List.mem_of_mem_take hp)
  obtain ⟨h5, h6⟩ := bal_fold (code := c) (postsAt (V.take i) at_ ++ r.take k) (0, 0) 0 hfit bdS_zero
  unfold balD
  rw [Nat.zero_add] at h5 h6
  omega
structure okR (s : RS) : Prop where
  ps : ∀ x ∈ s.es, x.v.ps.length ≤ 50
  fits : ∀ x ∈ s.es, ∀ p ∈ x.v.ps, p.fits
  few : s.es.length ≤ 1000
  acs : s.acs.length ≤ 1000
def plR (s : RS) : PL := ⟨s.cur, s.acs, s.es.map (·.v), [], s.closed⟩
set_option maxHeartbeats 2000000 in
set_option maxRecDepth 100000 in
theorem rlSums_P (b : Nat) (s : RS) (c : ByteArray) (at_ : Int) (hR : okR s) (w0 : World) (h : rlφ b s w0) :
    NewC Tryz.prog 82 [.pointer (some ⟨b, 0, none⟩), .string c, .int .i64 at_] w0 (fun y : BP × BP => .tuple [bigV (sumAt (plR s) c at_).1 y.1.1 y.1.2, bigV (sumAt (plR s) c at_).2 y.2.1 y.2.2].toArray) (fun y => twoDg (sumAt (plR s) c at_).1 (sumAt (plR s) c at_).2 y.1.1 y.2.1) := by
  obtain ⟨qE, cE, hev, hsh⟩ := rl_shE h
  obtain ⟨V, hV⟩ : ∃ V, V = s.es.map (·.v) := ⟨_, rfl⟩
  have hVl : V.length = s.es.length := by rw [hV, List.length_map]
  have hVp : ∀ x ∈ V, x.ps.length ≤ 50 := fun x hx => by
    rw [hV] at hx; obtain ⟨y, hy, rfl⟩ := List.mem_map.1 hx; exact hR.ps y hy
  have hVf : ∀ x ∈ V, ∀ p ∈ x.ps, p.fits := fun x hx => by
    rw [hV] at hx; obtain ⟨y, hy, rfl⟩ := List.mem_map.1 hx; exact hR.fits y hy
  have hVn : V.length ≤ 2000 := by rw [hVl]; have := hR.few; omega
  have hfew := hR.few
  have hsum : sumAt (plR s) c at_ = balD c (postsAt V at_) := by rw [hV]; rfl
  have bd := fun (i : Nat) (r : List Pst) (hr : r.length ≤ 50) (hrf : ∀ p ∈ r, p.fits) (k : Nat) => post_bd hVp hVf hVn c at_ i hr hrf k
  rw [hsum]
  refine c_enter [(0, .pointer (some ⟨b, 0, none⟩)), (1, .string c), (2, .int .i64 at_)] [rlA b s false] noB Tryz.func82 rfl Tryz.ntmps82 ⟨rfl, rfl, rfl, trivial⟩ rfl (okC (rl_ok false h) okN) dis1 (mineC (by rfl) mineN) ?_
  intro a hS
  refine c_seq (c_region ?_)
  refine L_op (s_alloc hS ty_z139 rfl ?_); clear hS a; (try clear w); intro a w b6 hS
  refine L_op (s_alloc hS ty_z139 rfl ?_); clear hS a; (try clear w); intro a w b7 hS
  refine L_nil (n_then (c_seq (c_region ?_)))
  refine L_e hS (e_build ty_z139 ty_pl139 .nil) rfl ?_; clear hS a; intro a hS
  refine L_op (s_alloc hS ty_z139 rfl ?_); clear hS a; (try clear w); intro a w b8 hS
  refine L_op (s_storeA hS rfl rfl ty_sz139 (by repeat constructor) (by rfl) (by rfl) (by rfl) ?_); clear hS; (try clear w); intro w hS
  refine L_nil (n_then (c_seq (c_region ?_)))
  refine L_e hS (e_build ty_z139 ty_pl139 .nil) rfl ?_; clear hS a; intro a hS
  refine L_op (s_alloc hS ty_z139 rfl ?_); clear hS a; (try clear w); intro a w b9 hS
  refine L_op (s_storeA hS rfl rfl ty_sz139 (by repeat constructor) (by rfl) (by rfl) (by rfl) ?_); clear hS; (try clear w); intro w hS
  refine L_nil (n_then (c_seq (c_seq (c_region ?_))))
  refine L_e hS (e_assign rfl) rfl ?_; clear hS a; intro a hS
  refine L_nil (n_then (wp_block ?_))
  replace hS := hS.swap (X := .blk b8 [.bool false, .slice none 0 0] 139) (Y := .blk b8 [.bool (decide ((balD c (postsAt (V.take 0) at_)).1 < 0)), sliceV none (dgs (balD c (postsAt (V.take 0) at_)).1.natAbs).length 0] 139) (by repeat constructor) (by rw [show (balD c (postsAt (V.take 0) at_)).1 = 0 from rfl, dg_len0]; exact hS.ok (.blk b8 [.bool false, .slice none 0 0] 139) (by repeat constructor)) (fun _ hb => hb) rfl
  replace hS := hS.swap (X := .blk b9 [.bool false, .slice none 0 0] 139) (Y := .blk b9 [.bool (decide ((balD c (postsAt (V.take 0) at_)).2 < 0)), sliceV none (dgs (balD c (postsAt (V.take 0) at_)).2.natAbs).length 0] 139) (by repeat constructor) (by rw [show (balD c (postsAt (V.take 0) at_)).2 = 0 from rfl, dg_len0]; exact hS.ok (.blk b9 [.bool false, .slice none 0 0] 139) (by repeat constructor)) (fun _ hb => hb) rfl
  replace hS := (hS.more (Y := dgP (balD c (postsAt (V.take 0) at_)).1 none) dgP0 (fun b hb => by obtain ⟨off, e⟩ := hb; cases e))
  replace hS := (hS.more (Y := dgP (balD c (postsAt (V.take 0) at_)).2 none) dgP0 (fun b hb => by obtain ⟨off, e⟩ := hb; cases e))
  refine c_loop (γ := Nat) (fun i a w => ∃ (p1 p2 : Option (Nat × Nat)) (d1 d2 : Nat), St 74 noB w0 a w [(10, .int .i64 (i : Int)), (9, .pointer (some ⟨b9, 0, none⟩)), (8, .pointer (some ⟨b8, 0, none⟩)), (7, .pointer (some ⟨b7, 0, none⟩)), (6, .pointer (some ⟨b6, 0, none⟩)), (0, .pointer (some ⟨b, 0, none⟩)), (1, .string c), (2, .int .i64 at_)] [.blk b8 [.bool (decide ((balD c (postsAt (V.take i) at_)).1 < 0)), sliceV p1 (dgs (balD c (postsAt (V.take i) at_)).1.natAbs).length d1] 139, dgP (balD c (postsAt (V.take i) at_)).1 p1, .blk b9 [.bool (decide ((balD c (postsAt (V.take i) at_)).2 < 0)), sliceV p2 (dgs (balD c (postsAt (V.take i) at_)).2.natAbs).length d2] 139, dgP (balD c (postsAt (V.take i) at_)).2 p2, .blk b7 [.bool false, .slice none 0 0] 139, .blk b6 [.bool false, .slice none 0 0] 139, rlA b s false] ∧ i ≤ s.es.length) (fun i => s.es.length - i) 0 ⟨none, none, 0, 0, (hS.slots (by repeat (first | exact trivial | refine ⟨rfl, ?_⟩))).pick (by repeat (first | exact Pick.nil | (refine Pick.cons (by repeat (first | exact Rem.head | apply Rem.tail)) ?_))), Nat.zero_le _⟩ ?_
  clear hS a; (try clear w); intro i a w hI
  obtain ⟨p1, p2, d1, d2, hS, hi⟩ := hI
  refine c_seq (c_seq (c_region ?_))
  refine L_e hS (e_move rfl) rfl ?_; clear hS a; intro a hS
  refine L_e hS (e_move rfl) rfl ?_; clear hS a; intro a hS
  refine L_e hS (e_nilCheck rfl) rfl ?_; clear hS a; intro a hS
  (first | refine L_e hS (e_fa0 rfl ty_fo66_2) rfl ?_ | refine L_e hS (e_faK rfl ty_fo66_2) rfl ?_); clear hS a; intro a hS
  refine L_e hS (e_loadC rfl ty_sc64 (rl_cell (k := 2) (by repeat constructor) rfl)) rfl ?_; clear hS a; intro a hS
  rw [hev] at hS
  refine L_e hS (e_len rfl rfl ty_sl64) rfl ?_; clear hS a; intro a hS
  refine L_e hS (e_bin rfl rfl rfl) rfl ?_; clear hS a; intro a hS
  refine L_nil (n_then ?_)
  first | refine c_ifD hS rfl (fun hc21 => ?_) (fun hc21 => ?_) | refine c_if hS rfl (fun hc21 => ?_) (fun hc21 => ?_)
  ·
    have hil : i < s.es.length := by omega
    obtain ⟨x, hx⟩ : ∃ x, s.es[i]? = some x := ⟨s.es[i], List.getElem?_eq_getElem hil⟩
    have hxm := List.mem_of_getElem? hx
    have hxV : V[i]? = some x.v := by rw [hV, List.getElem?_map, hx]; rfl
    have hxl := hR.ps x hxm
    have hxf := hR.fits x hxm
    have hup := upTo_take (at_ := at_) hxV
    obtain ⟨g, rfl⟩ : ∃ g, qE = some ⟨g, 0, none⟩ := by rcases hsh with ⟨_, e⟩ | e; exact absurd e (by omega); exact e
    refine wp_skip (n_then (c_seq (wp_block (c_seq (c_seq (c_region ?_))))))
    refine L_e hS (e_move rfl) rfl ?_; clear hS a; intro a hS
    refine L_e hS (e_nilCheck rfl) rfl ?_; clear hS a; intro a hS
    (first | refine L_e hS (e_fa0 rfl ty_fo66_2) rfl ?_ | refine L_e hS (e_faK rfl ty_fo66_2) rfl ?_); clear hS a; intro a hS
    refine L_e hS (e_loadC rfl ty_sc64 (rl_cell (k := 2) (by repeat constructor) rfl)) rfl ?_; clear hS a; intro a hS
    rw [hev] at hS
    refine L_e hS (e_move rfl) rfl ?_; clear hS a; intro a hS
    refine L_e hS (e_ixN rfl rfl ty_sl64 ty_sz104 (by omega)) rfl ?_; clear hS a; intro a hS
    (first | refine L_e hS (e_fa0 rfl ty_fo104_1) rfl ?_ | refine L_e hS (e_faK rfl ty_fo104_1) rfl ?_); clear hS a; intro a hS
    refine L_e hS (e_loadC rfl ty_sc3 (fun w hh => rl_rowE hev (by repeat constructor) hx w hh 1 (.int .i64 x.v.at_) rfl)) rfl ?_; clear hS a; intro a hS
    refine L_e hS (e_move rfl) rfl ?_; clear hS a; intro a hS
    refine L_e hS (e_bin rfl rfl rfl) rfl ?_; clear hS a; intro a hS
    refine L_nil (n_then ?_)
    first | refine c_ifD hS rfl (fun hc33 => ?_) (fun hc33 => ?_) | refine c_if hS rfl (fun hc33 => ?_) (fun hc33 => ?_)
    ·
      refine wp_exit ?_
      refine x_then (x_hit ?_)
      refine n_then (c_region ?_)
      refine L_e hS (e_move rfl) rfl ?_; clear hS a; intro a hS
      (first | refine L_e hS (e_binN rfl rfl rfl (by omega)) rfl ?_ | refine L_e hS (e_bin rfl rfl rfl) rfl ?_); clear hS a; intro a hS
      refine L_e hS (e_assign rfl) rfl ?_; clear hS a; intro a hS
      refine L_nil ?_
      first
      | (have hgt : at_ < x.v.at_ := hc33
         rw [if_neg (show ¬ x.v.at_ ≤ at_ from by omega), List.append_nil] at hup
         exact ⟨i + 1, by omega, p1, p2, d1, d2, by rw [hup]; exact (hS.slots (by repeat (first | exact trivial | refine ⟨rfl, ?_⟩))).pick (by repeat (first | exact Pick.nil | (refine Pick.cons (by repeat (first | exact Rem.head | apply Rem.tail)) ?_))), by omega⟩)
      | exact ⟨i + 1, by omega, p1, p2, d1, d2, (hS.slots (by repeat (first | exact trivial | refine ⟨rfl, ?_⟩))).pick (by repeat (first | exact Pick.nil | (refine Pick.cons (by repeat (first | exact Rem.head | apply Rem.tail)) ?_))), by omega⟩
    rw [if_pos (show x.v.at_ ≤ at_ from by omega)] at hup
    rw [show postsAt (V.take i) at_ = postsAt (V.take i) at_ ++ x.v.ps.take 0 from by simp] at hS
    refine wp_skip (n_then (c_seq (c_region ?_)))
    refine L_e hS (e_assign rfl) rfl ?_; clear hS a; intro a hS
    refine L_nil (n_then (wp_block ?_))
    skip
    refine c_loop (γ := Nat) (fun k a w => ∃ (p1 p2 : Option (Nat × Nat)) (d1 d2 : Nat), St 74 noB w0 a w [(11, .int .i64 (k : Int)), (10, .int .i64 (i : Int)), (9, .pointer (some ⟨b9, 0, none⟩)), (8, .pointer (some ⟨b8, 0, none⟩)), (7, .pointer (some ⟨b7, 0, none⟩)), (6, .pointer (some ⟨b6, 0, none⟩)), (0, .pointer (some ⟨b, 0, none⟩)), (1, .string c), (2, .int .i64 at_)] [.blk b8 [.bool (decide ((balD c (postsAt (V.take i) at_ ++ x.v.ps.take k)).1 < 0)), sliceV p1 (dgs (balD c (postsAt (V.take i) at_ ++ x.v.ps.take k)).1.natAbs).length d1] 139, dgP (balD c (postsAt (V.take i) at_ ++ x.v.ps.take k)).1 p1, .blk b9 [.bool (decide ((balD c (postsAt (V.take i) at_ ++ x.v.ps.take k)).2 < 0)), sliceV p2 (dgs (balD c (postsAt (V.take i) at_ ++ x.v.ps.take k)).2.natAbs).length d2] 139, dgP (balD c (postsAt (V.take i) at_ ++ x.v.ps.take k)).2 p2, .blk b7 [.bool false, .slice none 0 0] 139, .blk b6 [.bool false, .slice none 0 0] 139, rlA b s false] ∧ k ≤ x.v.ps.length) (fun k => x.v.ps.length - k) 0 ⟨p1, p2, d1, d2, (hS.slots (by repeat (first | exact trivial | refine ⟨rfl, ?_⟩))).pick (by repeat (first | exact Pick.nil | (refine Pick.cons (by repeat (first | exact Rem.head | apply Rem.tail)) ?_))), Nat.zero_le _⟩ ?_
    clear hS a; (try clear w); intro k a w hI
    obtain ⟨p1, p2, d1, d2, hS, hk⟩ := hI
    refine c_seq (c_seq (c_region ?_))
    refine L_e hS (e_move rfl) rfl ?_; clear hS a; intro a hS
    refine L_e hS (e_move rfl) rfl ?_; clear hS a; intro a hS
    refine L_e hS (e_nilCheck rfl) rfl ?_; clear hS a; intro a hS
    (first | refine L_e hS (e_fa0 rfl ty_fo66_2) rfl ?_ | refine L_e hS (e_faK rfl ty_fo66_2) rfl ?_); clear hS a; intro a hS
    refine L_e hS (e_loadC rfl ty_sc64 (rl_cell (k := 2) (by repeat constructor) rfl)) rfl ?_; clear hS a; intro a hS
    rw [hev] at hS
    refine L_e hS (e_move rfl) rfl ?_; clear hS a; intro a hS
    refine L_e hS (e_ixN rfl rfl ty_sl64 ty_sz104 (by omega)) rfl ?_; clear hS a; intro a hS
    (first | refine L_e hS (e_fa0 rfl ty_fo104_3) rfl ?_ | refine L_e hS (e_faK rfl ty_fo104_3) rfl ?_); clear hS a; intro a hS
    refine L_e hS (e_loadC rfl ty_sc54 (fun w hh => rl_rowE hev (by repeat constructor) hx w hh 3 (psV x) rfl)) rfl ?_; clear hS a; intro a hS
    refine L_e hS (e_len rfl rfl ty_sl54) rfl ?_; clear hS a; intro a hS
    refine L_e hS (e_bin rfl rfl rfl) rfl ?_; clear hS a; intro a hS
    refine L_nil (n_then ?_)
    first | refine c_ifD hS rfl (fun hc44 => ?_) (fun hc44 => ?_) | refine c_if hS rfl (fun hc44 => ?_) (fun hc44 => ?_)
    ·
      have hkl : k < x.v.ps.length := by omega
      obtain ⟨y, hy⟩ : ∃ y, x.v.ps[k]? = some y := ⟨x.v.ps[k], List.getElem?_eq_getElem hkl⟩
      have hyf := hxf y (List.mem_of_getElem? hy)
      have hyu := hyf.u
      have hyw := hyf.f
      have hst : postsAt (V.take i) at_ ++ x.v.ps.take (k + 1) = (postsAt (V.take i) at_ ++ x.v.ps.take k) ++ [y] := by rw [List.take_add_one, hy, List.append_assoc]; rfl
      have hsn := balD_snoc c (postsAt (V.take i) at_ ++ x.v.ps.take k) y
      rw [← hst] at hsn
      have hbd := bd i x.v.ps hxl hxf k
      generalize hD : balD c (postsAt (V.take i) at_ ++ x.v.ps.take k) = D at hS hsn hbd
      refine wp_skip (n_then (c_seq (wp_block (c_seq (c_region ?_)))))
      refine L_e hS (e_move rfl) rfl ?_; clear hS a; intro a hS
      refine L_e hS (e_nilCheck rfl) rfl ?_; clear hS a; intro a hS
      (first | refine L_e hS (e_fa0 rfl ty_fo66_2) rfl ?_ | refine L_e hS (e_faK rfl ty_fo66_2) rfl ?_); clear hS a; intro a hS
      refine L_e hS (e_loadC rfl ty_sc64 (rl_cell (k := 2) (by repeat constructor) rfl)) rfl ?_; clear hS a; intro a hS
      rw [hev] at hS
      refine L_e hS (e_move rfl) rfl ?_; clear hS a; intro a hS
      refine L_e hS (e_ixN rfl rfl ty_sl64 ty_sz104 (by omega)) rfl ?_; clear hS a; intro a hS
      (first | refine L_e hS (e_fa0 rfl ty_fo104_3) rfl ?_ | refine L_e hS (e_faK rfl ty_fo104_3) rfl ?_); clear hS a; intro a hS
      refine L_e hS (e_loadC rfl ty_sc54 (fun w hh => rl_rowE hev (by repeat constructor) hx w hh 3 (psV x) rfl)) rfl ?_; clear hS a; intro a hS
      refine L_e hS (e_move rfl) rfl ?_; clear hS a; intro a hS
      refine L_e hS (e_ixN rfl rfl ty_sl54 ty_sz124 (by omega)) rfl ?_; clear hS a; intro a hS
      refine L_e hS (e_loadAC (l := encP y) rfl ty_st124 ty_sz124 (rl_ps (by repeat constructor) hxm hy)) rfl ?_; clear hS a; intro a hS
      refine L_op (s_alloc hS ty_z124 rfl ?_); clear hS a; (try clear w); intro a w b12 hS
      refine L_op (s_storeA hS rfl rfl ty_sz124 (by repeat constructor) (by rfl) (by rfl) (by rfl) ?_); clear hS; (try clear w); intro w hS
      refine L_nil (n_then (c_seq (c_region ?_)))
      (first | refine L_e hS (e_fa0 rfl ty_fo124_0) rfl ?_ | refine L_e hS (e_faK rfl ty_fo124_0) rfl ?_); clear hS a; intro a hS
      refine L_e hS (e_load rfl (by repeat constructor) ty_sc9 (by rfl)) rfl ?_; clear hS a; intro a hS
      refine L_e hS (e_move rfl) rfl ?_; clear hS a; intro a hS
      refine L_e hS (e_binS rfl rfl rfl) rfl ?_; clear hS a; intro a hS
      refine L_nil (n_then ?_)
      first | refine c_ifD hS rfl (fun hc61 => ?_) (fun hc61 => ?_) | refine c_if hS rfl (fun hc61 => ?_) (fun hc61 => ?_)
      ·
        rw [if_pos hc61, if_pos hc61] at hsn
        refine c_seq ?_
        refine c_drawS [5] (by kernel_rfl) hS (sub_cons (X := .blk b8 _ _) (by repeat constructor) (sub_cons (X := .blk b12 _ _) (by repeat constructor) sub_nil)) ?_; clear hS; (try clear w); intro w hS
        simp only [List.length_cons, List.length_nil, Nat.zero_add, Nat.reduceAdd, List.replicate]
        refine Zt 0 (tf 1 5) hS rfl want_none (e_loadA rfl (by repeat constructor) ty_st139 ty_sz139 (by rfl)) rfl (by kernel_rfl) (sub_cons (by repeat constructor) (sub_cons (by repeat constructor) sub_nil)) rfl ?_; clear hS a; intro a hS
        (first | refine Zt0 1 (tf 2 4) hS rfl want_none (e_fa0 rfl ty_fo124_1) rfl (by kernel_rfl) rfl ?_ | refine Zt0 1 (tf 2 4) hS rfl want_none (e_faK rfl ty_fo124_1) rfl (by kernel_rfl) rfl ?_); clear hS a; intro a hS
        refine Zt 2 (tf 3 3) hS rfl want_none (e_load rfl (by repeat constructor) ty_sc3 (by rfl)) rfl (by kernel_rfl) (sub_cons (by repeat constructor) (sub_cons (by repeat constructor) sub_nil)) rfl ?_; clear hS a; intro a hS
        refine Z_one (i := 3) rfl (want_none a hS.sl) (listed' := (tf 4 2)) rfl (by kernel_rfl) (s_callN hS (.cons rfl .nil) cf62 rfl (BigOf_P y.u (by omega) _) ?_); clear hS a; (try clear w); intro x65 a w hS
        refine Z_and hS (sub_cons (by repeat constructor) (sub_cons (by repeat constructor) sub_nil)) ?_
        have hA := BigAdd_P p1 (some (x65.1.1, 0)) d1 x65.1.2 D.1 y.u 20 (by decide) (len20 (by omega)) (len20 (by omega)) _ (two_ok (hS.get (X := dgP D.1 p1) (by repeat constructor)) (hS.get (X := bigA y.u x65.1.1) (by repeat constructor)) (fun r e => (hS.ok (dgP D.1 p1) (by repeat constructor)).lt r.1 ⟨r.2, e⟩) (fun r e => by cases e; exact (hS.ok (bigA y.u x65.1.1) (by repeat constructor)).lt _ rfl))
        refine Z_one (i := 4) rfl (want_none a hS.sl) (listed' := (tf 5 1)) rfl (by kernel_rfl) (s_callN hS (.cons rfl (.cons rfl .nil)) cf63 rfl (hA) ?_); clear hS a; (try clear w); intro x66 a w hS
        clear hA
        refine Z_and hS (sub_cons (by repeat constructor) (sub_cons (by repeat constructor) sub_nil)) ?_
        refine Z_one (i := 5) rfl (want_none a hS.sl) (listed' := (tf 6 0)) rfl (by kernel_rfl) (s_storeA hS rfl rfl ty_sz139 (by repeat constructor) (by rfl) (by rfl) (by rfl) ?_); clear hS; (try clear w); intro w hS
        refine Z_last (by simp) ?_
        refine Z_done (by kernel_rfl) ?_
        refine n_then ?_
        refine c_drawS [5] (by kernel_rfl) hS (sub_cons (X := .blk b9 _ _) (by repeat constructor) (sub_cons (X := .blk b12 _ _) (by repeat constructor) sub_nil)) ?_; clear hS; (try clear w); intro w hS
        simp only [List.length_cons, List.length_nil, Nat.zero_add, Nat.reduceAdd, List.replicate]
        refine Zt 0 (tf 1 5) hS rfl want_none (e_loadA rfl (by repeat constructor) ty_st139 ty_sz139 (by rfl)) rfl (by kernel_rfl) (sub_cons (by repeat constructor) (sub_cons (by repeat constructor) sub_nil)) rfl ?_; clear hS a; intro a hS
        (first | refine Zt0 1 (tf 2 4) hS rfl want_none (e_fa0 rfl ty_fo124_2) rfl (by kernel_rfl) rfl ?_ | refine Zt0 1 (tf 2 4) hS rfl want_none (e_faK rfl ty_fo124_2) rfl (by kernel_rfl) rfl ?_); clear hS a; intro a hS
        refine Zt 2 (tf 3 3) hS rfl want_none (e_load rfl (by repeat constructor) ty_sc3 (by rfl)) rfl (by kernel_rfl) (sub_cons (by repeat constructor) (sub_cons (by repeat constructor) sub_nil)) rfl ?_; clear hS a; intro a hS
        refine Z_one (i := 3) rfl (want_none a hS.sl) (listed' := (tf 4 2)) rfl (by kernel_rfl) (s_callN hS (.cons rfl .nil) cf62 rfl (BigOf_P y.f (by omega) _) ?_); clear hS a; (try clear w); intro x70 a w hS
        refine Z_and hS (sub_cons (by repeat constructor) (sub_cons (by repeat constructor) sub_nil)) ?_
        have hA := BigAdd_P p2 (some (x70.1.1, 0)) d2 x70.1.2 D.2 y.f 20 (by decide) (len20 (by omega)) (len20 (by omega)) _ (two_ok (hS.get (X := dgP D.2 p2) (by repeat constructor)) (hS.get (X := bigA y.f x70.1.1) (by repeat constructor)) (fun r e => (hS.ok (dgP D.2 p2) (by repeat constructor)).lt r.1 ⟨r.2, e⟩) (fun r e => by cases e; exact (hS.ok (bigA y.f x70.1.1) (by repeat constructor)).lt _ rfl))
        refine Z_one (i := 4) rfl (want_none a hS.sl) (listed' := (tf 5 1)) rfl (by kernel_rfl) (s_callN hS (.cons rfl (.cons rfl .nil)) cf63 rfl (hA) ?_); clear hS a; (try clear w); intro x71 a w hS
        clear hA
        refine Z_and hS (sub_cons (by repeat constructor) (sub_cons (by repeat constructor) sub_nil)) ?_
        refine Z_one (i := 5) rfl (want_none a hS.sl) (listed' := (tf 6 0)) rfl (by kernel_rfl) (s_storeA hS rfl rfl ty_sz139 (by repeat constructor) (by rfl) (by rfl) (by rfl) ?_); clear hS; (try clear w); intro w hS
        refine Z_last (by simp) ?_
        refine Z_done (by kernel_rfl) ?_
        refine n_block (n_then (c_region ?_))
        refine L_e hS (e_move rfl) rfl ?_; clear hS a; intro a hS
        (first | refine L_e hS (e_binN rfl rfl rfl (by omega)) rfl ?_ | refine L_e hS (e_bin rfl rfl rfl) rfl ?_); clear hS a; intro a hS
        refine L_e hS (e_assign rfl) rfl ?_; clear hS a; intro a hS
        refine L_nil ?_
        first
        | (have hne : ¬ y.acc = c := hc61
           rw [if_neg hne, if_neg hne, Int.add_zero, Int.add_zero] at hsn
           refine ⟨k + 1, by omega, p1, p2, d1, d2, ?_, by omega⟩
           rw [hsn]
           exact (hS.slots (by repeat (first | exact trivial | refine ⟨rfl, ?_⟩))).pick (by repeat (first | exact Pick.nil | (refine Pick.cons (by repeat (first | exact Rem.head | apply Rem.tail)) ?_))))
        | (replace hS := hS.swap (X := bigA (D.1 + y.u) x66.1.1) (Y := dgP (D.1 + y.u) (some (x66.1.1, 0))) (by repeat constructor) (dgP_of (hS.ok (bigA (D.1 + y.u) x66.1.1) (by repeat constructor))) (fun b hb => by obtain ⟨off, e⟩ := hb; cases e; rfl) rfl
           replace hS := hS.swap (X := bigA (D.2 + y.f) x71.1.1) (Y := dgP (D.2 + y.f) (some (x71.1.1, 0))) (by repeat constructor) (dgP_of (hS.ok (bigA (D.2 + y.f) x71.1.1) (by repeat constructor))) (fun b hb => by obtain ⟨off, e⟩ := hb; cases e; rfl) rfl
           refine ⟨k + 1, by omega, some (x66.1.1, 0), some (x71.1.1, 0), x66.1.2, x71.1.2, ?_, by omega⟩
           rw [hsn]
           exact (hS.slots (by repeat (first | exact trivial | refine ⟨rfl, ?_⟩))).pick (by repeat (first | exact Pick.nil | (refine Pick.cons (by repeat (first | exact Rem.head | apply Rem.tail)) ?_))))
      refine wp_skip (n_block (n_then (c_region ?_)))
      refine L_e hS (e_move rfl) rfl ?_; clear hS a; intro a hS
      (first | refine L_e hS (e_binN rfl rfl rfl (by omega)) rfl ?_ | refine L_e hS (e_bin rfl rfl rfl) rfl ?_); clear hS a; intro a hS
      refine L_e hS (e_assign rfl) rfl ?_; clear hS a; intro a hS
      refine L_nil ?_
      first
      | (have hne : ¬ y.acc = c := hc61
         rw [if_neg hne, if_neg hne, Int.add_zero, Int.add_zero] at hsn
         refine ⟨k + 1, by omega, p1, p2, d1, d2, ?_, by omega⟩
         rw [hsn]
         exact (hS.slots (by repeat (first | exact trivial | refine ⟨rfl, ?_⟩))).pick (by repeat (first | exact Pick.nil | (refine Pick.cons (by repeat (first | exact Rem.head | apply Rem.tail)) ?_))))
      | (replace hS := hS.swap (X := bigA (D.1 + y.u) x66.1.1) (Y := dgP (D.1 + y.u) (some (x66.1.1, 0))) (by repeat constructor) (dgP_of (hS.ok (bigA (D.1 + y.u) x66.1.1) (by repeat constructor))) (fun b hb => by obtain ⟨off, e⟩ := hb; cases e; rfl) rfl
         replace hS := hS.swap (X := bigA (D.2 + y.f) x71.1.1) (Y := dgP (D.2 + y.f) (some (x71.1.1, 0))) (by repeat constructor) (dgP_of (hS.ok (bigA (D.2 + y.f) x71.1.1) (by repeat constructor))) (fun b hb => by obtain ⟨off, e⟩ := hb; cases e; rfl) rfl
         refine ⟨k + 1, by omega, some (x66.1.1, 0), some (x71.1.1, 0), x66.1.2, x71.1.2, ?_, by omega⟩
         rw [hsn]
         exact (hS.slots (by repeat (first | exact trivial | refine ⟨rfl, ?_⟩))).pick (by repeat (first | exact Pick.nil | (refine Pick.cons (by repeat (first | exact Rem.head | apply Rem.tail)) ?_))))
    obtain rfl : k = x.v.ps.length := by omega
    rw [List.take_length, ← hup] at hS
    refine wp_exit ?_
    refine x_then (x_then (x_hit ?_))
    refine n_block (n_then (c_region ?_))
    refine L_e hS (e_move rfl) rfl ?_; clear hS a; intro a hS
    (first | refine L_e hS (e_binN rfl rfl rfl (by omega)) rfl ?_ | refine L_e hS (e_bin rfl rfl rfl) rfl ?_); clear hS a; intro a hS
    refine L_e hS (e_assign rfl) rfl ?_; clear hS a; intro a hS
    refine L_nil ?_
    first
    | (have hgt : at_ < x.v.at_ := hc33
       rw [if_neg (show ¬ x.v.at_ ≤ at_ from by omega), List.append_nil] at hup
       exact ⟨i + 1, by omega, p1, p2, d1, d2, by rw [hup]; exact (hS.slots (by repeat (first | exact trivial | refine ⟨rfl, ?_⟩))).pick (by repeat (first | exact Pick.nil | (refine Pick.cons (by repeat (first | exact Rem.head | apply Rem.tail)) ?_))), by omega⟩)
    | exact ⟨i + 1, by omega, p1, p2, d1, d2, (hS.slots (by repeat (first | exact trivial | refine ⟨rfl, ?_⟩))).pick (by repeat (first | exact Pick.nil | (refine Pick.cons (by repeat (first | exact Rem.head | apply Rem.tail)) ?_))), by omega⟩
  obtain rfl : i = V.length := by omega
  rw [List.take_length] at hS
  refine wp_exit ?_
  refine x_then (x_then (x_hit ?_))
  refine n_then (c_seq ?_)
  refine c_drawS [3] (by kernel_rfl) hS (sub_cons (X := .blk b8 _ _) (by repeat constructor) (sub_cons (X := .blk b9 _ _) (by repeat constructor) sub_nil)) ?_; clear hS; (try clear w); intro w hS
  simp only [List.length_cons, List.length_nil, Nat.zero_add, Nat.reduceAdd, List.replicate]
  refine Zt 0 [true, false, false, false] hS rfl want_none (e_loadA rfl (by repeat constructor) ty_st139 ty_sz139 (by rfl)) rfl (by kernel_rfl) (sub_cons (by repeat constructor) (sub_cons (by repeat constructor) sub_nil)) rfl ?_; clear hS a; intro a hS
  refine Zt 1 [true, true, false, false] hS rfl want_none (e_loadA rfl (by repeat constructor) ty_st139 ty_sz139 (by rfl)) rfl (by kernel_rfl) (sub_cons (by repeat constructor) (sub_cons (by repeat constructor) sub_nil)) rfl ?_; clear hS a; intro a hS
  refine Z_one (i := 2) rfl (want_none a hS.sl) (listed' := [true, true, true, false]) rfl (by kernel_rfl) (s_storeA hS rfl rfl ty_sz139 (by repeat constructor) (by rfl) (by rfl) (by rfl) ?_); clear hS; (try clear w); intro w hS
  refine Z_and hS (sub_cons (by repeat constructor) (sub_cons (by repeat constructor) sub_nil)) ?_
  refine Z_one (i := 3) rfl (want_none a hS.sl) (listed' := [true, true, true, true]) rfl (by kernel_rfl) (s_storeA hS rfl rfl ty_sz139 (by repeat constructor) (by rfl) (by rfl) (by rfl) ?_); clear hS; (try clear w); intro w hS
  refine Z_last (by simp) ?_
  refine Z_done (by kernel_rfl) ?_
  refine n_then (wp_ret ?_)
  refine c_retN hS Tryz.results82 (.cons (.cellA rfl (by repeat constructor) ty_st139 ty_sz139 (by rfl)) (.cons (.cellA rfl (by repeat constructor) ty_st139 ty_sz139 (by rfl)) .nil)) rfl ?_
  have h1 := hS.ok (dgP (balD c (postsAt V at_)).1 p1) (by repeat constructor)
  have h2 := hS.ok (dgP (balD c (postsAt V at_)).2 p2) (by repeat constructor)
  have n1 := (hS.new (X := dgP (balD c (postsAt V at_)).1 p1) (by repeat constructor) rfl).2
  have n2 := (hS.new (X := dgP (balD c (postsAt V at_)).2 p2) (by repeat constructor) rfl).2
  exact ⟨((p1, d1), (p2, d2)), rfl, hS.chg, twoDg_ok h1 h2, fun k hk => hk.elim (n1 k) (n2 k)⟩
end Go.Proofs.YtheofhegdjjfgaaGreat

namespace Go.Proofs.YtheofhegdjjfgaaGreat
open Go.RowKit
theorem sum_small {s : RS} (hR : okR s) (c : ByteArray) (at_ : Int) : (sumAt (plR s) c at_).1.natAbs < 100000000000000000000000000000000000000000 ∧ (sumAt (plR s) c at_).2.natAbs < 100000000000000000000000000000000000000000 := by
  have h1 := post_bd (V := s.es.map (·.v)) (fun x hx => by obtain ⟨y, hy, rfl⟩ := List.mem_map.1 hx; exact hR.ps y hy) (fun x hx => by obtain ⟨y, hy, rfl⟩ := List.mem_map.1 hx; exact hR.fits y hy) (by rw [List.length_map]; have := hR.few; omega) c at_ s.es.length (r := []) (by simp) (by simp) 0
  rw [show s.es.length = (s.es.map (·.v)).length from by rw [List.length_map], List.take_length, List.take_nil, List.append_nil] at h1
  have e : sumAt (plR s) c at_ = balD c (postsAt (s.es.map (·.v)) at_) := rfl
  rw [e]
  omega
set_option maxHeartbeats 1000000 in
set_option maxRecDepth 100000 in
theorem rlBal_P (b : Nat) (s : RS) (c : ByteArray) (at_ : Int) (hR : okR s) (w0 : World) (h : rlφ b s w0) :
    PureC Tryz.prog 38 [.pointer (some ⟨b, 0, none⟩), .string c, .int .i64 at_] w0 (.tuple [.agg (encBl (balF (plR s) c at_).1).toArray, .int .i64 (balF (plR s) c at_).2].toArray) := by
  have hacs := hR.acs
  have hsm := sum_small hR c at_
  refine c_enter [(0, .pointer (some ⟨b, 0, none⟩)), (1, .string c), (2, .int .i64 at_)] [rlA b s false] noB Tryz.func38 rfl Tryz.ntmps38 ⟨rfl, rfl, rfl, trivial⟩ rfl (okC (rl_ok false h) okN) dis1 (mineC (by rfl) mineN) ?_
  intro a hS
  refine c_seq (c_region ?_)
  refine L_op (s_alloc hS ty_z92 rfl ?_); clear hS a; (try clear w); intro a w b6 hS
  refine L_e hS (e_assign rfl) rfl ?_; clear hS a; intro a hS
  refine L_nil (n_then (c_seq (c_region ?_)))
  refine L_e hS (e_move rfl) rfl ?_; clear hS a; intro a hS
  refine L_e hS (e_move rfl) rfl ?_; clear hS a; intro a hS
  refine L_op (s_callP hS (.cons rfl (.cons rfl .nil)) cf46 rfl (rlFind_P b s c (by omega) _ (hS.get (X := rlA b s false) (by repeat constructor))) ?_); clear hS a; (try clear w); intro a w hS
  refine L_e hS (e_move rfl) rfl ?_; clear hS a; intro a hS
  refine L_e hS (e_extract rfl rfl) rfl ?_; clear hS a; intro a hS
  refine L_e hS (e_extract rfl rfl) rfl ?_; clear hS a; intro a hS
  refine L_op (s_alloc hS ty_z51 rfl ?_); clear hS a; (try clear w); intro a w b8 hS
  refine L_op (s_storeA hS rfl rfl ty_sz51 (by repeat constructor) (by rfl) (by rfl) (by rfl) ?_); clear hS; (try clear w); intro w hS
  refine L_e hS (e_assign rfl) rfl ?_; clear hS a; intro a hS
  refine L_nil (n_then (c_seq (c_seq (c_region ?_))))
  refine L_e hS (e_move rfl) rfl ?_; clear hS a; intro a hS
  refine L_e hS (e_not rfl) rfl ?_; clear hS a; intro a hS
  refine L_nil (n_then ?_)
  first | refine c_ifD hS rfl (fun hc23 => ?_) (fun hc23 => ?_) | refine c_if hS rfl (fun hc23 => ?_) (fun hc23 => ?_)
  ·
    refine c_seq (c_region ?_)
    refine L_e hS (e_build ty_z92 ty_pl92 .nil) rfl ?_; clear hS a; intro a hS
    refine L_op (s_storeA hS rfl rfl ty_sz92 (by repeat constructor) (by rfl) (by rfl) (by rfl) ?_); clear hS; (try clear w); intro w hS
    refine L_e hS (e_assign rfl) rfl ?_; clear hS a; intro a hS
    refine L_nil (n_then (wp_ret (r_then ?_)))
    refine c_retN hS Tryz.results38 (.cons (.cellA rfl (by repeat constructor) ty_st92 ty_sz92 (by rfl)) (.cons (.tmp rfl) .nil)) rfl ?_
    have hf : (findA (plR s).acs c).isSome = false := (by simpa using hc23 : (findA s.acs c).isSome = false)
    have hb : balF (plR s) c at_ = (noBl, 2) := by unfold balF; rw [if_pos hf]
    exact ⟨by rw [hb]; rfl, hS.chg⟩
  refine wp_skip (n_then (c_seq (c_seq (c_region ?_))))
  refine L_e hS (e_move rfl) rfl ?_; clear hS a; intro a hS
  refine L_op (s_callP hS (.cons rfl .nil) cf54 rfl (xInstant_P at_ _) ?_); clear hS a; (try clear w); intro a w hS
  refine L_e hS (e_not rfl) rfl ?_; clear hS a; intro a hS
  refine L_nil (n_then ?_)
  first | refine c_ifD hS rfl (fun hc27 => ?_) (fun hc27 => ?_) | refine c_if hS rfl (fun hc27 => ?_) (fun hc27 => ?_)
  ·
    refine c_seq (c_region ?_)
    refine L_e hS (e_build ty_z92 ty_pl92 .nil) rfl ?_; clear hS a; intro a hS
    refine L_op (s_storeA hS rfl rfl ty_sz92 (by repeat constructor) (by rfl) (by rfl) (by rfl) ?_); clear hS; (try clear w); intro w hS
    refine L_e hS (e_assign rfl) rfl ?_; clear hS a; intro a hS
    refine L_nil (n_then (wp_ret (r_then ?_)))
    refine c_retN hS Tryz.results38 (.cons (.cellA rfl (by repeat constructor) ty_st92 ty_sz92 (by rfl)) (.cons (.tmp rfl) .nil)) rfl ?_
    have hf : ¬ (findA (plR s).acs c).isSome = false := (by rw [show (findA s.acs c).isSome = true from by simpa using hc23]; decide : ¬ (findA s.acs c).isSome = false)
    have hb : balF (plR s) c at_ = (noBl, 6) := by unfold balF; rw [if_neg hf, if_pos (by simpa using hc27)]
    exact ⟨by rw [hb]; rfl, hS.chg⟩
  refine wp_skip (n_then (c_seq (c_region ?_)))
  refine L_e hS (e_move rfl) rfl ?_; clear hS a; intro a hS
  refine L_e hS (e_move rfl) rfl ?_; clear hS a; intro a hS
  refine L_e hS (e_move rfl) rfl ?_; clear hS a; intro a hS
  refine L_op (s_callN hS (.cons rfl (.cons rfl (.cons rfl .nil))) cf82 rfl (rlSums_P b s c at_ hR _ (hS.get (X := rlA b s false) (by repeat constructor))) ?_); clear hS a; (try clear w); intro x33 a w hS
  obtain ⟨⟨p1, d1⟩, ⟨p2, d2⟩⟩ := x33
  simp only at hS
  generalize hZ : sumAt (plR s) c at_ = Z at hS hsm
  obtain ⟨Z1, Z2⟩ := Z
  simp only at hS hsm
  refine L_e hS (e_move rfl) rfl ?_; clear hS a; intro a hS
  refine L_e hS (e_extract rfl rfl) rfl ?_; clear hS a; intro a hS
  refine L_e hS (e_extract rfl rfl) rfl ?_; clear hS a; intro a hS
  refine L_op (s_alloc hS ty_z139 rfl ?_); clear hS a; (try clear w); intro a w b10 hS
  refine L_op (s_alloc hS ty_z139 rfl ?_); clear hS a; (try clear w); intro a w b11 hS
  refine L_op (s_storeA hS rfl rfl ty_sz139 (by repeat constructor) (by rfl) (by rfl) (by rfl) ?_); clear hS; (try clear w); intro w hS
  refine L_op (s_storeA hS rfl rfl ty_sz139 (by repeat constructor) (by rfl) (by rfl) (by rfl) ?_); clear hS; (try clear w); intro w hS
  refine L_nil (n_then (c_seq (c_region ?_)))
  refine L_e hS (e_loadA rfl (by repeat constructor) ty_st139 ty_sz139 (by rfl)) rfl ?_; clear hS a; intro a hS
  refine L_op (s_callP hS (.cons rfl .nil) cf60 rfl (xUnits_P p1 d1 Z1 (by have := len20 (z := Z1) (by omega); omega) _ (twoDg_one (hS.ok (twoDg Z1 Z2 p1 p2) (by repeat constructor))).1) ?_); clear hS a; (try clear w); intro a w hS
  refine L_e hS (e_move rfl) rfl ?_; clear hS a; intro a hS
  refine L_e hS (e_extract rfl rfl) rfl ?_; clear hS a; intro a hS
  refine L_e hS (e_extract rfl rfl) rfl ?_; clear hS a; intro a hS
  refine L_e hS (e_assign rfl) rfl ?_; clear hS a; intro a hS
  refine L_e hS (e_assign rfl) rfl ?_; clear hS a; intro a hS
  refine L_nil (n_then (c_seq (c_region ?_)))
  refine L_e hS (e_loadA rfl (by repeat constructor) ty_st139 ty_sz139 (by rfl)) rfl ?_; clear hS a; intro a hS
  refine L_op (s_callP hS (.cons rfl .nil) cf60 rfl (xUnits_P p2 d2 Z2 (by have := len20 (z := Z2) (by omega); omega) _ (twoDg_one (hS.ok (twoDg Z1 Z2 p1 p2) (by repeat constructor))).2) ?_); clear hS a; (try clear w); intro a w hS
  refine L_e hS (e_move rfl) rfl ?_; clear hS a; intro a hS
  refine L_e hS (e_extract rfl rfl) rfl ?_; clear hS a; intro a hS
  refine L_e hS (e_extract rfl rfl) rfl ?_; clear hS a; intro a hS
  refine L_e hS (e_assign rfl) rfl ?_; clear hS a; intro a hS
  refine L_e hS (e_assign rfl) rfl ?_; clear hS a; intro a hS
  refine L_nil (n_then (c_seq (c_seq (c_region ?_))))
  refine L_e hS (e_move rfl) rfl ?_; clear hS a; intro a hS
  refine L_e hS (e_not rfl) rfl ?_; clear hS a; intro a hS
  refine L_e hS (e_move rfl) rfl ?_; clear hS a; intro a hS
  refine L_merge 3 51 (.bool (decide (¬ inU Z1 ∨ ¬ inU Z2))) hS ?_ ?_
  · intro hcM51
    (first | refine g_splitD (t := 48) hS rfl ?_ ?_ | refine g_split (t := 48) hS rfl ?_ ?_) <;> (clear hS; intro hg48 hS)
    ·
      refine L_skip_f hS rfl rfl rfl ?_; clear hS a; intro a hS
      refine L_skip_f hS rfl rfl rfl ?_; clear hS a; intro a hS
      refine L_e hS (e_pk rfl rfl) rfl ?_; clear hS a; intro a hS
      exact hcM51 _ _ (hS.ends 4 51 48 rfl (congrArg Value.bool (by exact (decide_eq_true (.inl (by simpa using hg48))).symm)) rfl rfl (by first | exact congrArg Value.bool (decide_eq_true hg48).symm | exact congrArg Value.bool hg48.symm | simp [hg48]) rfl)
    refine L_ge hS rfl rfl (e_move rfl) rfl ?_; clear hS a; intro a hS
    refine L_ge hS rfl rfl (e_not rfl) rfl ?_; clear hS a; intro a hS
    refine L_e hS (e_pk rfl rfl) rfl ?_; clear hS a; intro a hS
    exact hcM51 _ _ (hS.ends 4 51 48 rfl (congrArg Value.bool (by rw [← decide_not, decide_eq_decide]; exact ⟨.inr, fun e => e.resolve_left (by simpa using hg48)⟩)) rfl rfl (by first | exact congrArg Value.bool (decide_eq_false hg48).symm | exact congrArg Value.bool hg48.symm | simp [hg48]) rfl)
  · clear hS a; (try clear w); intro a w hS
    simp only [List.drop_succ_cons, List.drop_zero]
    refine L_nil (n_then ?_)
    first | refine c_ifD hS rfl (fun hc51 => ?_) (fun hc51 => ?_) | refine c_if hS rfl (fun hc51 => ?_) (fun hc51 => ?_)
    ·
      refine c_seq (c_region ?_)
      refine L_e hS (e_build ty_z92 ty_pl92 .nil) rfl ?_; clear hS a; intro a hS
      refine L_op (s_storeA hS rfl rfl ty_sz92 (by repeat constructor) (by rfl) (by rfl) (by rfl) ?_); clear hS; (try clear w); intro w hS
      refine L_e hS (e_assign rfl) rfl ?_; clear hS a; intro a hS
      refine L_nil (n_then (wp_ret (r_then ?_)))
      refine c_retN hS Tryz.results38 (.cons (.cellA rfl (by repeat constructor) ty_st92 ty_sz92 (by rfl)) (.cons (.tmp rfl) .nil)) rfl ?_
      have hf : ¬ (findA (plR s).acs c).isSome = false := (by rw [show (findA s.acs c).isSome = true from by simpa using hc23]; decide : ¬ (findA s.acs c).isSome = false)
      have hk : ¬ okS (sumAt (plR s) c at_) := fun e => by rw [hZ] at e; exact hc51.elim (fun e2 => e2 e.1) (fun e2 => e2 e.2)
      have hb : balF (plR s) c at_ = (noBl, 16) := by unfold balF; rw [if_neg hf, if_neg (by simpa using hc27), if_neg hk]
      exact ⟨by rw [hb]; rfl, hS.chg⟩
    refine wp_skip (n_then (c_seq (c_region ?_)))
    refine L_e hS (e_move rfl) rfl ?_; clear hS a; intro a hS
    refine L_e hS (e_move rfl) rfl ?_; clear hS a; intro a hS
    refine L_e hS (e_move rfl) rfl ?_; clear hS a; intro a hS
    refine L_e hS (e_build ty_z92 ty_pl92 (.one rfl rfl rfl (by repeat constructor) (.one rfl rfl rfl (by repeat constructor) (.one rfl rfl rfl (by repeat constructor) .nil)))) rfl ?_; clear hS a; intro a hS
    refine L_op (s_storeA hS rfl rfl ty_sz92 (by repeat constructor) (by rfl) (by rfl) (by rfl) ?_); clear hS; (try clear w); intro w hS
    refine L_e hS (e_assign rfl) rfl ?_; clear hS a; intro a hS
    refine L_nil (n_then (wp_ret ?_))
    refine c_retN hS Tryz.results38 (.cons (.cellA rfl (by repeat constructor) ty_st92 ty_sz92 (by rfl)) (.cons (.tmp rfl) .nil)) rfl ?_
    have h1 : inU Z1 := Classical.byContradiction fun e => hc51 (.inl e)
    have h2 : inU Z2 := Classical.byContradiction fun e => hc51 (.inr e)
    have hf : ¬ (findA (plR s).acs c).isSome = false := (by rw [show (findA s.acs c).isSome = true from by simpa using hc23]; decide : ¬ (findA s.acs c).isSome = false)
    have hk : okS (sumAt (plR s) c at_) := by rw [hZ]; exact ⟨h1, h2⟩
    have hb : balF (plR s) c at_ = ((c, Z1, Z2), 0) := by unfold balF; rw [if_neg hf, if_neg (by simpa using hc27), if_pos hk, hZ]
    exact ⟨by rw [hb, i64R_in h1, i64R_in h2]; rfl, hS.chg⟩
def trialR (s : RS) (at_ : Int) : List BL := s.acs.map fun x => (x.code, (balF (plR s) x.code at_).1.2)
set_option maxHeartbeats 1000000 in
set_option maxRecDepth 100000 in
theorem rlTrial_P (b : Nat) (s : RS) (at_ : Int) (hR : okR s) (w0 : World) (h : rlφ b s w0) :
    NewC Tryz.prog 40 [.pointer (some ⟨b, 0, none⟩), .int .i64 at_] w0 (fun v : Value => v) (fun v => ownA 92 3 v (trialR s at_).length ((trialR s at_).flatMap encBl)) := by
  obtain ⟨pA, cA, hav, hsh⟩ := rl_shA h
  have hacs := hR.acs
  have hln : (trialR s at_).length = s.acs.length := by unfold trialR; rw [List.length_map]
  refine c_enter [(0, .pointer (some ⟨b, 0, none⟩)), (1, .int .i64 at_)] [rlA b s false] noB Tryz.func40 rfl Tryz.ntmps40 ⟨rfl, rfl, trivial⟩ rfl (okC (rl_ok false h) okN) dis1 (mineC (by rfl) mineN) ?_
  intro a hS
  refine c_seq (c_region ?_)
  refine L_e hS (e_assign rfl) rfl ?_; clear hS a; intro a hS
  refine L_nil (n_then (c_seq (c_region ?_)))
  refine L_e hS (e_assign rfl) rfl ?_; clear hS a; intro a hS
  refine L_nil (n_then (c_seq (c_seq (c_region ?_))))
  refine L_e hS (e_assign rfl) rfl ?_; clear hS a; intro a hS
  refine L_nil (n_then (wp_block ?_))
  replace hS := hS.own_nil 92 3
  refine c_loop (γ := Nat × Value) (fun G a w => St 46 noB w0 a w [(6, .int .i64 (G.1 : Int)), (5, G.2), (0, .pointer (some ⟨b, 0, none⟩)), (1, .int .i64 at_)] [ownA 92 3 G.2 ((trialR s at_).take G.1).length (((trialR s at_).take G.1).flatMap encBl), rlA b s false] ∧ G.1 ≤ s.acs.length) (fun G => s.acs.length - G.1) (0, .slice none 0 0) ⟨(hS.slots (by repeat (first | exact trivial | refine ⟨rfl, ?_⟩))).pick (by repeat (first | exact Pick.nil | (refine Pick.cons (by repeat (first | exact Rem.head | apply Rem.tail)) ?_))), Nat.zero_le _⟩ ?_
  clear hS a; (try clear w); intro G a w hI
  obtain ⟨i, out⟩ := G
  obtain ⟨hS, hi⟩ := hI
  simp only at hS hi
  refine c_seq (c_seq (c_region ?_))
  refine L_e hS (e_move rfl) rfl ?_; clear hS a; intro a hS
  refine L_e hS (e_move rfl) rfl ?_; clear hS a; intro a hS
  refine L_e hS (e_nilCheck rfl) rfl ?_; clear hS a; intro a hS
  (first | refine L_e hS (e_fa0 rfl ty_fo66_1) rfl ?_ | refine L_e hS (e_faK rfl ty_fo66_1) rfl ?_); clear hS a; intro a hS
  refine L_e hS (e_loadC rfl ty_sc63 (rl_cell (k := 1) (by repeat constructor) rfl)) rfl ?_; clear hS a; intro a hS
  rw [hav] at hS
  refine L_e hS (e_len rfl rfl ty_sl63) rfl ?_; clear hS a; intro a hS
  refine L_e hS (e_bin rfl rfl rfl) rfl ?_; clear hS a; intro a hS
  refine L_nil (n_then ?_)
  first | refine c_ifD hS rfl (fun hc15 => ?_) (fun hc15 => ?_) | refine c_if hS rfl (fun hc15 => ?_) (fun hc15 => ?_)
  ·
    have hil : i < s.acs.length := by omega
    obtain ⟨x, hx⟩ : ∃ x, s.acs[i]? = some x := ⟨s.acs[i], List.getElem?_eq_getElem hil⟩
    obtain ⟨g, rfl⟩ : ∃ g, pA = some ⟨g, 0, none⟩ := by rcases hsh with ⟨_, e⟩ | e; exact absurd e (by omega); exact e
    have hxt : (trialR s at_)[i]? = some (x.code, (balF (plR s) x.code at_).1.2) := by unfold trialR; rw [List.getElem?_map, hx]; rfl
    have htk : (trialR s at_).take (i + 1) = (trialR s at_).take i ++ [(x.code, (balF (plR s) x.code at_).1.2)] := by rw [List.take_add_one, hxt]; rfl
    have htl : ((trialR s at_).take i).length = i := by rw [List.length_take, hln]; omega
    refine wp_skip (n_then (c_seq (wp_block (c_seq (c_region ?_)))))
    refine L_e hS (e_move rfl) rfl ?_; clear hS a; intro a hS
    refine L_e hS (e_move rfl) rfl ?_; clear hS a; intro a hS
    refine L_e hS (e_nilCheck rfl) rfl ?_; clear hS a; intro a hS
    (first | refine L_e hS (e_fa0 rfl ty_fo66_1) rfl ?_ | refine L_e hS (e_faK rfl ty_fo66_1) rfl ?_); clear hS a; intro a hS
    refine L_e hS (e_loadC rfl ty_sc63 (rl_cell (k := 1) (by repeat constructor) rfl)) rfl ?_; clear hS a; intro a hS
    rw [hav] at hS
    refine L_e hS (e_move rfl) rfl ?_; clear hS a; intro a hS
    refine L_e hS (e_ixN rfl rfl ty_sl63 ty_sz51 (by omega)) rfl ?_; clear hS a; intro a hS
    (first | refine L_e hS (e_fa0 rfl ty_fo51_0) rfl ?_ | refine L_e hS (e_faK rfl ty_fo51_0) rfl ?_); clear hS a; intro a hS
    refine L_e hS (e_loadC rfl ty_sc9 (fun w hh => rl_rowA hav (by repeat constructor) hx w hh 0 (.string x.code) rfl)) rfl ?_; clear hS a; intro a hS
    refine L_e hS (e_move rfl) rfl ?_; clear hS a; intro a hS
    refine L_op (s_callP hS (.cons rfl (.cons rfl (.cons rfl .nil))) cf38 rfl (rlBal_P b s x.code at_ hR _ (hS.get (X := rlA b s false) (by repeat constructor))) ?_); clear hS a; (try clear w); intro a w hS
    refine L_e hS (e_move rfl) rfl ?_; clear hS a; intro a hS
    refine L_e hS (e_extract rfl rfl) rfl ?_; clear hS a; intro a hS
    refine L_e hS (e_extract rfl rfl) rfl ?_; clear hS a; intro a hS
    refine L_op (s_alloc hS ty_z92 rfl ?_); clear hS a; (try clear w); intro a w b7 hS
    refine L_op (s_storeA hS rfl rfl ty_sz92 (by repeat constructor) (by rfl) (by rfl) (by rfl) ?_); clear hS; (try clear w); intro w hS
    refine L_e hS (e_assign rfl) rfl ?_; clear hS a; intro a hS
    refine L_nil (n_then (c_seq (c_region ?_)))
    refine L_e hS (e_move rfl) rfl ?_; clear hS a; intro a hS
    refine L_e hS (e_nilCheck rfl) rfl ?_; clear hS a; intro a hS
    (first | refine L_e hS (e_fa0 rfl ty_fo66_1) rfl ?_ | refine L_e hS (e_faK rfl ty_fo66_1) rfl ?_); clear hS a; intro a hS
    refine L_e hS (e_loadC rfl ty_sc63 (rl_cell (k := 1) (by repeat constructor) rfl)) rfl ?_; clear hS a; intro a hS
    rw [hav] at hS
    refine L_e hS (e_move rfl) rfl ?_; clear hS a; intro a hS
    refine L_e hS (e_ixN rfl rfl ty_sl63 ty_sz51 (by omega)) rfl ?_; clear hS a; intro a hS
    (first | refine L_e hS (e_fa0 rfl ty_fo51_0) rfl ?_ | refine L_e hS (e_faK rfl ty_fo51_0) rfl ?_); clear hS a; intro a hS
    refine L_e hS (e_loadC rfl ty_sc9 (fun w hh => rl_rowA hav (by repeat constructor) hx w hh 0 (.string x.code) rfl)) rfl ?_; clear hS a; intro a hS
    (first | refine L_e hS (e_fa0 rfl ty_fo92_0) rfl ?_ | refine L_e hS (e_faK rfl ty_fo92_0) rfl ?_); clear hS a; intro a hS
    refine L_op (s_store hS rfl rfl rfl ty_sz9 (by repeat constructor) (by repeat constructor) ?_); clear hS; (try clear w); intro w hS
    refine L_nil (n_then (c_region ?_))
    refine L_e hS (e_move rfl) rfl ?_; clear hS a; intro a hS
    refine L_e hS (e_loadA rfl (by repeat constructor) ty_st92 ty_sz92 (by rfl)) rfl ?_; clear hS a; intro a hS
    refine L_op (s_bslice hS ty_sl96 ty_sz92 ty_z92 rfl rfl rfl rfl (.agg rfl rfl .nil) rfl ?_); clear hS a; (try clear w); intro a w b43 hS
    refine L_op (s_append1 hS rfl rfl ty_sl96 ty_sz92 ty_by92 ty_z92 rfl rfl rfl (by repeat constructor) (by repeat constructor) (by rfl) (by rfl) (fun _ => (by repeat constructor)) (by omega) ?_); clear hS a; (try clear w); intro v44 a w hv44 hS
    refine L_e hS (e_assign rfl) rfl ?_; clear hS a; intro a hS
    refine L_nil (n_block (n_then (c_region ?_)))
    refine L_e hS (e_move rfl) rfl ?_; clear hS a; intro a hS
    (first | refine L_e hS (e_binN rfl rfl rfl (by omega)) rfl ?_ | refine L_e hS (e_bin rfl rfl rfl) rfl ?_); clear hS a; intro a hS
    refine L_e hS (e_assign rfl) rfl ?_; clear hS a; intro a hS
    refine L_nil ?_
    have e1 : ((trialR s at_).take (i + 1)).length = ((trialR s at_).take i).length + 1 := by rw [htk]; simp
    have e2 : ((trialR s at_).take (i + 1)).flatMap encBl = ((trialR s at_).take i).flatMap encBl ++ encBl (x.code, (balF (plR s) x.code at_).1.2) := by rw [htk, List.flatMap_append]; simp
    refine ⟨(i + 1, v44), by simp only; omega, ?_, by simp only; omega⟩
    simp only
    rw [e1, e2]
    exact (hS.slots (by repeat (first | exact trivial | refine ⟨rfl, ?_⟩))).pick (by repeat (first | exact Pick.nil | (refine Pick.cons (by repeat (first | exact Rem.head | apply Rem.tail)) ?_)))
  refine wp_exit ?_
  refine x_then (x_then (x_hit ?_))
  refine n_then (c_seq (c_region ?_))
  refine L_e hS (e_move rfl) rfl ?_; clear hS a; intro a hS
  refine L_e hS (e_assign rfl) rfl ?_; clear hS a; intro a hS
  refine L_nil (n_then (wp_ret ?_))
  refine c_ret1 hS Tryz.results40 (.tmp rfl) ?_
  obtain rfl : i = s.acs.length := by omega
  rw [← hln, List.take_length] at hS
  exact ⟨out, rfl, hS.chg, hS.new (X := ownA 92 3 out (trialR s at_).length ((trialR s at_).flatMap encBl)) (by repeat constructor) rfl⟩
end Go.Proofs.YtheofhegdjjfgaaGreat

namespace Go.Proofs.YtheofhegdjjfgaaGreat
open Go.RowKit
section
variable {P : Program} {n : Nat} {a : Act} {L : List (Nat × Value)} {Γ : List Asn} {dst : Option Nat} {ty : Nat} {pos : String} {af : Array Edge} {g : Option (Nat × Bool)}
theorem e_ltS {t t' : TypeId} {x y : Operand} {i j : ByteArray} (hx : ev L x = some (.string i)) (hy : ev L y = some (.string j)) : Ex P n a L Γ ⟨dst, .binOp .lss t x y t', ty, pos, af, g⟩ (.bool (ltB i j)) := fun hs w hh => by
  simp only [execOp, hs.ev hx, hs.ev hy, eqGuard, binOp, Op.stringOp]
  rfl
end
structure relR (s : RS) (P : PL) : Prop where
  cur : s.cur = P.cur
  acs : s.acs = accsL P.acs
  es : s.es.map (·.v) = P.es
  closed : s.closed = P.closed
theorem oneAc (l : List Acc) : ∀ u ∈ l.flatMap encAc, isOne u = true := fun u hu => by
  obtain ⟨x, _, hx⟩ := List.mem_flatMap.1 hu
  simp only [encAc, List.mem_cons, List.not_mem_nil, or_false] at hx
  rcases hx with rfl | rfl | rfl | rfl <;> rfl
set_option maxHeartbeats 1000000 in
set_option maxRecDepth 100000 in
theorem rlOpen_P (b : Nat) (s : RS) (P : PL) (x : Acc) (hx : x.code.size ≤ 4611686018427387904) (hrel : relR s P) (hn : (codesA P.acs).Nodup) (hla : P.acs.length ≤ 1000) (w0 : World) (h : rlφ b s w0) :
    MutC Tryz.prog 18 [.pointer (some ⟨b, 0, none⟩), .agg (encAc x).toArray] w0 (rlA b s true) (fun _ : { y : RS // relR y (openP P x) } => .int .i64 (openEP P x)) (fun y => rlA b y.1 true) := by
  obtain ⟨pA, cA, hav, hsh⟩ := rl_shA h
  obtain ⟨cur, acs, es, closed, av, ev⟩ := s
  simp only at hav
  subst hav
  have hacs : acs = accsL P.acs := hrel.acs
  have hal : acs.length = P.acs.length := by rw [hacs, accs_len]
  have hfi : findA acs x.code = findA P.acs x.code := by rw [hacs]; exact findA_accs hn _
  have hcq : acs.length ≤ cA := by
    rcases h.ra.2 with ⟨e1, e2⟩ | ⟨g, cap, cur, e1, _, _, e2, _⟩
    · injection e1 with _ _ e3; simp only at e2; omega
    · injection e1 with _ _ e3; simp only at e2; omega
  have same : openEP P x ≠ 0 → openP P x = P := fun hne => if_neg hne
  have hrn := refS_neg x.cur
  refine c_enter [(0, .pointer (some ⟨b, 0, none⟩)), (1, .agg (encAc x).toArray)] [.blk b [.string cur, .slice pA acs.length cA, ev, .int .i64 closed] 66, ownA 51 4 (.slice pA acs.length cA) acs.length (acs.flatMap encAc), ownA 104 4 ev es.length (es.flatMap encE), rpAll es] (rlF b ⟨cur, acs, es, closed, .slice pA acs.length cA, ev⟩) Tryz.func18 rfl Tryz.ntmps18 ⟨rfl, rfl, trivial⟩ rfl (rl_okP h) (rl_dis h) (rl_mine (b := b) (s := ⟨cur, acs, es, closed, .slice pA acs.length cA, ev⟩)) ?_
  intro a hS
  refine c_seq (c_region ?_)
  refine L_op (s_boxA hS rfl rfl ?_); clear hS a; (try clear w); intro a w b3 hS
  refine L_e hS (e_assign rfl) rfl ?_; clear hS a; intro a hS
  refine L_nil (n_then (c_seq (c_region ?_)))
  (first | refine L_e hS (e_fa0 rfl ty_fo51_0) rfl ?_ | refine L_e hS (e_faK rfl ty_fo51_0) rfl ?_); clear hS a; intro a hS
  refine L_e hS (e_load rfl (by repeat constructor) ty_sc9 (by rfl)) rfl ?_; clear hS a; intro a hS
  refine L_op (s_callP hS (.cons rfl .nil) cf52 rfl (xValidName_P x.code hx _) ?_); clear hS a; (try clear w); intro a w hS
  refine L_e hS (e_assign rfl) rfl ?_; clear hS a; intro a hS
  refine L_nil (n_then (c_seq (c_seq (c_region ?_))))
  refine L_e hS (e_move rfl) rfl ?_; clear hS a; intro a hS
  refine L_e hS (e_not rfl) rfl ?_; clear hS a; intro a hS
  refine L_nil (n_then ?_)
  first | refine c_ifD hS rfl (fun hc14 => ?_) (fun hc14 => ?_) | refine c_if hS rfl (fun hc14 => ?_) (fun hc14 => ?_)
  ·
    refine c_seq (c_region ?_)
    refine L_e hS (e_assign rfl) rfl ?_; clear hS a; intro a hS
    refine L_nil (n_then (wp_ret (r_then ?_)))
    refine c_ret1 hS Tryz.results18 (.tmp rfl) ?_
    have hE : openEP P x = 1 := if_pos (by simpa using hc14)
    refine ⟨⟨⟨cur, acs, es, closed, .slice pA acs.length cA, ev⟩, by rw [same (by rw [hE]; decide)]; exact hrel⟩, by (try dsimp only); rw [hE], hS.chg, rl_end (s' := ⟨cur, acs, es, closed, .slice pA acs.length cA, ev⟩) hS (by repeat constructor) (by repeat constructor) (by repeat constructor) (by repeat constructor)⟩
  refine wp_skip (n_then (c_seq (c_seq (c_region ?_))))
  (first | refine L_e hS (e_fa0 rfl ty_fo51_1) rfl ?_ | refine L_e hS (e_faK rfl ty_fo51_1) rfl ?_); clear hS a; intro a hS
  refine L_e hS (e_load rfl (by repeat constructor) ty_sc9 (by rfl)) rfl ?_; clear hS a; intro a hS
  refine L_op (s_callP hS (.cons rfl .nil) cf35 rfl (xScale_P x.cur _) ?_); clear hS a; (try clear w); intro a w hS
  refine L_e hS (e_bin rfl rfl rfl) rfl ?_; clear hS a; intro a hS
  refine L_nil (n_then ?_)
  first | refine c_ifD hS rfl (fun hc18 => ?_) (fun hc18 => ?_) | refine c_if hS rfl (fun hc18 => ?_) (fun hc18 => ?_)
  ·
    refine c_seq (c_region ?_)
    refine L_e hS (e_assign rfl) rfl ?_; clear hS a; intro a hS
    refine L_nil (n_then (wp_ret (r_then ?_)))
    refine c_ret1 hS Tryz.results18 (.tmp rfl) ?_
    have hE : openEP P x = 18 := by unfold openEP; rw [if_neg (by simpa using hc14), if_pos (hrn.1 hc18)]
    refine ⟨⟨⟨cur, acs, es, closed, .slice pA acs.length cA, ev⟩, by rw [same (by rw [hE]; decide)]; exact hrel⟩, by (try dsimp only); rw [hE], hS.chg, rl_end (s' := ⟨cur, acs, es, closed, .slice pA acs.length cA, ev⟩) hS (by repeat constructor) (by repeat constructor) (by repeat constructor) (by repeat constructor)⟩
  have hsc : ¬ (scaleR x.cur).2 ≠ 0 := fun e => hc18 (hrn.2 e)
  refine wp_skip (n_then (c_seq (c_seq (c_region ?_))))
  (first | refine L_e hS (e_fa0 rfl ty_fo51_2) rfl ?_ | refine L_e hS (e_faK rfl ty_fo51_2) rfl ?_); clear hS a; intro a hS
  refine L_e hS (e_load rfl (by repeat constructor) ty_sc3 (by rfl)) rfl ?_; clear hS a; intro a hS
  refine L_e hS (e_bin rfl rfl rfl) rfl ?_; clear hS a; intro a hS
  refine L_e hS (e_move rfl) rfl ?_; clear hS a; intro a hS
  refine L_merge 4 26 (.bool (decide (x.kind < 1 ∨ 5 < x.kind))) hS ?_ ?_
  · intro hcM26
    (first | refine g_splitD (t := 22) hS rfl ?_ ?_ | refine g_split (t := 22) hS rfl ?_ ?_) <;> (clear hS; intro hg22 hS)
    ·
      refine L_skip_f hS rfl rfl rfl ?_; clear hS a; intro a hS
      refine L_skip_f hS rfl rfl rfl ?_; clear hS a; intro a hS
      refine L_skip_f hS rfl rfl rfl ?_; clear hS a; intro a hS
      refine L_e hS (e_pk rfl rfl) rfl ?_; clear hS a; intro a hS
      exact hcM26 _ _ (hS.ends 5 26 22 rfl (congrArg Value.bool (by first | rfl | (simp [hg22]; done) | (simp [hg22]; omega) | grind)) rfl rfl (by first | exact congrArg Value.bool (decide_eq_true hg22).symm | exact congrArg Value.bool hg22.symm | simp [hg22]) rfl)
    (first | refine L_ge hS rfl rfl (e_fa0 rfl ty_fo51_2) rfl ?_ | refine L_ge hS rfl rfl (e_faK rfl ty_fo51_2) rfl ?_); clear hS a; intro a hS
    refine L_ge hS rfl rfl (e_load rfl (by repeat constructor) ty_sc3 (by rfl)) rfl ?_; clear hS a; intro a hS
    refine L_ge hS rfl rfl (e_bin rfl rfl rfl) rfl ?_; clear hS a; intro a hS
    refine L_e hS (e_pk rfl rfl) rfl ?_; clear hS a; intro a hS
    exact hcM26 _ _ (hS.ends 5 26 22 rfl (congrArg Value.bool (by first | rfl | (simp [hg22]; done) | (simp [hg22]; omega) | grind)) rfl rfl (by first | exact congrArg Value.bool (decide_eq_false hg22).symm | exact congrArg Value.bool hg22.symm | simp [hg22]) rfl)
  · clear hS a; (try clear w); intro a w hS
    simp only [List.drop_succ_cons, List.drop_zero]
    refine L_nil (n_then ?_)
    first | refine c_ifD hS rfl (fun hc26 => ?_) (fun hc26 => ?_) | refine c_if hS rfl (fun hc26 => ?_) (fun hc26 => ?_)
    ·
      refine c_seq (c_region ?_)
      refine L_e hS (e_assign rfl) rfl ?_; clear hS a; intro a hS
      refine L_nil (n_then (wp_ret (r_then ?_)))
      refine c_ret1 hS Tryz.results18 (.tmp rfl) ?_
      have hE : openEP P x = 7 := by unfold openEP; rw [if_neg (by simpa using hc14), if_neg hsc, if_pos hc26]
      refine ⟨⟨⟨cur, acs, es, closed, .slice pA acs.length cA, ev⟩, by rw [same (by rw [hE]; decide)]; exact hrel⟩, by (try dsimp only); rw [hE], hS.chg, rl_end (s' := ⟨cur, acs, es, closed, .slice pA acs.length cA, ev⟩) hS (by repeat constructor) (by repeat constructor) (by repeat constructor) (by repeat constructor)⟩
    refine wp_skip (n_then (c_seq (c_region ?_)))
    refine L_e hS (e_move rfl) rfl ?_; clear hS a; intro a hS
    (first | refine L_e hS (e_fa0 rfl ty_fo51_0) rfl ?_ | refine L_e hS (e_faK rfl ty_fo51_0) rfl ?_); clear hS a; intro a hS
    refine L_e hS (e_load rfl (by repeat constructor) ty_sc9 (by rfl)) rfl ?_; clear hS a; intro a hS
    refine L_op (s_callP hS (.cons rfl (.cons rfl .nil)) cf46 rfl (rlFind_P b ⟨cur, acs, es, closed, .slice pA acs.length cA, ev⟩ x.code (by (try simp only); omega) _ ⟨hS.get (X := .blk b [.string cur, .slice pA acs.length cA, ev, .int .i64 closed] 66) (by repeat constructor), hS.get (X := ownA 51 4 (.slice pA acs.length cA) acs.length (acs.flatMap encAc)) (by repeat constructor), hS.get (X := ownA 104 4 ev es.length (es.flatMap encE)) (by repeat constructor), hS.get (X := rpAll es) (by repeat constructor)⟩) ?_); clear hS a; (try clear w); intro a w hS
    refine L_e hS (e_move rfl) rfl ?_; clear hS a; intro a hS
    refine L_e hS (e_extract rfl rfl) rfl ?_; clear hS a; intro a hS
    refine L_e hS (e_extract rfl rfl) rfl ?_; clear hS a; intro a hS
    refine L_op (s_alloc hS ty_z51 rfl ?_); clear hS a; (try clear w); intro a w b6 hS
    refine L_op (s_storeA hS rfl rfl ty_sz51 (by repeat constructor) (by rfl) (by rfl) (by rfl) ?_); clear hS; (try clear w); intro w hS
    refine L_e hS (e_assign rfl) rfl ?_; clear hS a; intro a hS
    refine L_nil (n_then (c_seq (c_seq (c_region ?_))))
    refine L_e hS (e_move rfl) rfl ?_; clear hS a; intro a hS
    refine L_nil (n_then ?_)
    first | refine c_ifD hS rfl (fun hc34 => ?_) (fun hc34 => ?_) | refine c_if hS rfl (fun hc34 => ?_) (fun hc34 => ?_)
    ·
      refine c_seq (c_region ?_)
      refine L_e hS (e_assign rfl) rfl ?_; clear hS a; intro a hS
      refine L_nil (n_then (wp_ret (r_then ?_)))
      refine c_ret1 hS Tryz.results18 (.tmp rfl) ?_
      have hE : openEP P x = 3 := by unfold openEP; rw [if_neg (by simpa using hc14), if_neg hsc, if_neg hc26, if_pos (by rw [← hfi]; exact hc34)]
      refine ⟨⟨⟨cur, acs, es, closed, .slice pA acs.length cA, ev⟩, by rw [same (by rw [hE]; decide)]; exact hrel⟩, by (try dsimp only); rw [hE], hS.chg, rl_end (s' := ⟨cur, acs, es, closed, .slice pA acs.length cA, ev⟩) hS (by repeat constructor) (by repeat constructor) (by repeat constructor) (by repeat constructor)⟩
    have hnf : ¬ (findA P.acs x.code).isSome = true := fun e => by
      rw [← hfi, show (findA acs x.code).isSome = false from hc34] at e; cases e
    refine wp_skip (n_then (c_seq (c_seq (c_region ?_))))
    refine L_e hS (e_move rfl) rfl ?_; clear hS a; intro a hS
    refine L_e hS (e_nilCheck rfl) rfl ?_; clear hS a; intro a hS
    (first | refine L_e hS (e_fa0 rfl ty_fo66_1) rfl ?_ | refine L_e hS (e_faK rfl ty_fo66_1) rfl ?_); clear hS a; intro a hS
    refine L_e hS (e_load rfl (by repeat constructor) ty_sc63 (by rfl)) rfl ?_; clear hS a; intro a hS
    refine L_e hS (e_len rfl rfl ty_sl63) rfl ?_; clear hS a; intro a hS
    refine L_e hS (e_bin rfl rfl rfl) rfl ?_; clear hS a; intro a hS
    refine L_nil (n_then ?_)
    first | refine c_ifD hS rfl (fun hc40 => ?_) (fun hc40 => ?_) | refine c_if hS rfl (fun hc40 => ?_) (fun hc40 => ?_)
    ·
      refine c_seq (c_region ?_)
      refine L_e hS (e_assign rfl) rfl ?_; clear hS a; intro a hS
      refine L_nil (n_then (wp_ret (r_then ?_)))
      refine c_ret1 hS Tryz.results18 (.tmp rfl) ?_
      have hE : openEP P x = 9 := by unfold openEP; rw [if_neg (by simpa using hc14), if_neg hsc, if_neg hc26, if_neg hnf, if_pos (by omega)]
      refine ⟨⟨⟨cur, acs, es, closed, .slice pA acs.length cA, ev⟩, by rw [same (by rw [hE]; decide)]; exact hrel⟩, by (try dsimp only); rw [hE], hS.chg, rl_end (s' := ⟨cur, acs, es, closed, .slice pA acs.length cA, ev⟩) hS (by repeat constructor) (by repeat constructor) (by repeat constructor) (by repeat constructor)⟩
    refine wp_skip (n_then (c_seq (c_region ?_)))
    refine L_e hS (e_assign rfl) rfl ?_; clear hS a; intro a hS
    refine L_nil (n_then (c_seq (wp_block ?_)))
    skip
    refine c_loop (γ := Nat) (fun k a w => St 86 (rlF b ⟨cur, acs, es, closed, .slice pA acs.length cA, ev⟩) w0 a w [(8, .int .i64 (k : Int)), (3, .pointer (some ⟨b3, 0, none⟩)), (0, .pointer (some ⟨b, 0, none⟩))] [.blk b3 (encAc x) 51, .blk b [.string cur, .slice pA acs.length cA, ev, .int .i64 closed] 66, ownA 51 4 (.slice pA acs.length cA) acs.length (acs.flatMap encAc), ownA 104 4 ev es.length (es.flatMap encE), rpAll es] ∧ k ≤ acs.length ∧ ∀ j y, j < k → acs[j]? = some y → ltB y.code x.code = true) (fun k => acs.length - k) 0 ⟨(hS.slots (by repeat (first | exact trivial | refine ⟨rfl, ?_⟩))).pick (by repeat (first | exact Pick.nil | (refine Pick.cons (by repeat (first | exact Rem.head | apply Rem.tail)) ?_))), Nat.zero_le _, fun j y hj => by omega⟩ ?_
    clear hS a; (try clear w); intro k a w hI
    obtain ⟨hS, hk, hlo⟩ := hI
    refine c_seq (c_seq ?_)
    refine c_drawS [] (by kernel_rfl) hS (sub_cons (X := .blk b _ _) (by repeat constructor) (sub_cons (X := ownA 51 4 (.slice pA acs.length cA) acs.length (acs.flatMap encAc)) (by repeat constructor) (sub_cons (X := .blk b3 _ _) (by repeat constructor) sub_nil))) ?_; clear hS; (try clear w); intro w hS
    simp only [List.length_cons, List.length_nil, Nat.zero_add, Nat.reduceAdd, List.replicate]
    refine Zt0 0 (tf 1 19) hS rfl want_none (e_move rfl) rfl (by kernel_rfl) rfl ?_; clear hS a; intro a hS
    refine Zt0 1 (tf 2 18) hS rfl want_none (e_move rfl) rfl (by kernel_rfl) rfl ?_; clear hS a; intro a hS
    refine Zt0 2 (tf 3 17) hS rfl want_none (e_nilCheck rfl) rfl (by kernel_rfl) rfl ?_; clear hS a; intro a hS
    (first | refine Zt0 3 (tf 4 16) hS rfl want_none (e_fa0 rfl ty_fo66_1) rfl (by kernel_rfl) rfl ?_ | refine Zt0 3 (tf 4 16) hS rfl want_none (e_faK rfl ty_fo66_1) rfl (by kernel_rfl) rfl ?_); clear hS a; intro a hS
    refine Zt 4 (tf 5 15) hS rfl want_none (e_load rfl (by repeat constructor) ty_sc63 (by rfl)) rfl (by kernel_rfl) (sub_cons (by repeat constructor) (sub_cons (by repeat constructor) (sub_cons (by repeat constructor) sub_nil))) rfl ?_; clear hS a; intro a hS
    refine Zt0 5 (tf 6 14) hS rfl want_none (e_len rfl rfl ty_sl63) rfl (by kernel_rfl) rfl ?_; clear hS a; intro a hS
    refine Zt0 6 (tf 7 13) hS rfl want_none (e_bin rfl rfl rfl) rfl (by kernel_rfl) rfl ?_; clear hS a; intro a hS
    refine Zt0 7 (tf 8 12) hS rfl want_none (e_move rfl) rfl (by kernel_rfl) rfl ?_; clear hS a; intro a hS
    refine Z_merge 0 (tf 20 0) 60 (.bool (((acs[k]?).map fun y => ltB y.code x.code).getD false)) hS ?_ ?_
    · intro hcM60
      (first | refine g_splitD (t := 48) hS rfl ?_ ?_ | refine g_split (t := 48) hS rfl ?_ ?_) <;> (clear hS; intro hg48 hS)
      ·
        have hkl : k < acs.length := by omega
        obtain ⟨y, hy⟩ : ∃ y, acs[k]? = some y := ⟨acs[k], List.getElem?_eq_getElem hkl⟩
        obtain ⟨g, rfl⟩ : ∃ g, pA = some ⟨g, 0, none⟩ := by rcases hsh with ⟨_, e⟩ | e; exact absurd e (by simp only; omega); exact e
        refine Zt0 8 (tf 9 11) hS rfl (want_go rfl rfl) (e_move rfl) rfl (by kernel_rfl) rfl ?_; clear hS a; intro a hS
        refine Zt0 9 (tf 10 10) hS rfl (want_go rfl rfl) (e_nilCheck rfl) rfl (by kernel_rfl) rfl ?_; clear hS a; intro a hS
        (first | refine Zt0 10 (tf 11 9) hS rfl (want_go rfl rfl) (e_fa0 rfl ty_fo66_1) rfl (by kernel_rfl) rfl ?_ | refine Zt0 10 (tf 11 9) hS rfl (want_go rfl rfl) (e_faK rfl ty_fo66_1) rfl (by kernel_rfl) rfl ?_); clear hS a; intro a hS
        refine Zt 11 (tf 12 8) hS rfl (want_go rfl rfl) (e_load rfl (by repeat constructor) ty_sc63 (by rfl)) rfl (by kernel_rfl) (sub_cons (by repeat constructor) (sub_cons (by repeat constructor) (sub_cons (by repeat constructor) sub_nil))) rfl ?_; clear hS a; intro a hS
        refine Zt0 12 (tf 13 7) hS rfl (want_go rfl rfl) (e_move rfl) rfl (by kernel_rfl) rfl ?_; clear hS a; intro a hS
        refine Zt0 13 (tf 14 6) hS rfl (want_go rfl rfl) (e_ixN rfl rfl ty_sl63 ty_sz51 (by omega)) rfl (by kernel_rfl) rfl ?_; clear hS a; intro a hS
        (first | refine Zt0 14 (tf 15 5) hS rfl (want_go rfl rfl) (e_fa0 rfl ty_fo51_0) rfl (by kernel_rfl) rfl ?_ | refine Zt0 14 (tf 15 5) hS rfl (want_go rfl rfl) (e_faK rfl ty_fo51_0) rfl (by kernel_rfl) rfl ?_); clear hS a; intro a hS
        refine Zt 15 (tf 16 4) hS rfl (want_go rfl rfl) (e_loadC rfl ty_sc9 (fun w hh => own_getL (enc := encAc) (s := 4) (fun _ => rfl) (by repeat constructor) hy w hh 0 (.string y.code) rfl)) rfl (by kernel_rfl) (sub_cons (by repeat constructor) (sub_cons (by repeat constructor) (sub_cons (by repeat constructor) sub_nil))) rfl ?_; clear hS a; intro a hS
        (first | refine Zt0 16 (tf 17 3) hS rfl (want_go rfl rfl) (e_fa0 rfl ty_fo51_0) rfl (by kernel_rfl) rfl ?_ | refine Zt0 16 (tf 17 3) hS rfl (want_go rfl rfl) (e_faK rfl ty_fo51_0) rfl (by kernel_rfl) rfl ?_); clear hS a; intro a hS
        refine Zt 17 (tf 18 2) hS rfl (want_go rfl rfl) (e_load rfl (by repeat constructor) ty_sc9 (by rfl)) rfl (by kernel_rfl) (sub_cons (by repeat constructor) (sub_cons (by repeat constructor) (sub_cons (by repeat constructor) sub_nil))) rfl ?_; clear hS a; intro a hS
        refine Zt0 18 (tf 19 1) hS rfl (want_go rfl rfl) (e_ltS rfl rfl) rfl (by kernel_rfl) rfl ?_; clear hS a; intro a hS
        refine Zt0 19 (tf 20 0) hS rfl want_none (e_pk rfl rfl) rfl (by kernel_rfl) rfl ?_; clear hS a; intro a hS
        exact hcM60 _ _ (hS.ends 13 60 48 rfl (congrArg Value.bool (by rw [hy]; rfl)) rfl rfl (by first | exact congrArg Value.bool (decide_eq_true hg48).symm | exact congrArg Value.bool hg48.symm | simp [hg48]) rfl)
      refine Zn_t 8 (tf 9 11) hS rfl rfl rfl rfl (by kernel_rfl) rfl ?_; clear hS a; intro a hS
      refine Zn_t 9 (tf 10 10) hS rfl rfl rfl rfl (by kernel_rfl) rfl ?_; clear hS a; intro a hS
      refine Zn_t 10 (tf 11 9) hS rfl rfl rfl rfl (by kernel_rfl) rfl ?_; clear hS a; intro a hS
      refine Zn_t 11 (tf 12 8) hS rfl rfl rfl rfl (by kernel_rfl) rfl ?_; clear hS a; intro a hS
      refine Zn_t 12 (tf 13 7) hS rfl rfl rfl rfl (by kernel_rfl) rfl ?_; clear hS a; intro a hS
      refine Zn_t 13 (tf 14 6) hS rfl rfl rfl rfl (by kernel_rfl) rfl ?_; clear hS a; intro a hS
      refine Zn_t 14 (tf 15 5) hS rfl rfl rfl rfl (by kernel_rfl) rfl ?_; clear hS a; intro a hS
      refine Zn_t 15 (tf 16 4) hS rfl rfl rfl rfl (by kernel_rfl) rfl ?_; clear hS a; intro a hS
      refine Zn_t 16 (tf 17 3) hS rfl rfl rfl rfl (by kernel_rfl) rfl ?_; clear hS a; intro a hS
      refine Zn_t 17 (tf 18 2) hS rfl rfl rfl rfl (by kernel_rfl) rfl ?_; clear hS a; intro a hS
      refine Zn_t 18 (tf 19 1) hS rfl rfl rfl rfl (by kernel_rfl) rfl ?_; clear hS a; intro a hS
      refine Zt0 19 (tf 20 0) hS rfl want_none (e_pk rfl rfl) rfl (by kernel_rfl) rfl ?_; clear hS a; intro a hS
      exact hcM60 _ _ (hS.ends 13 60 48 rfl (congrArg Value.bool (by rw [List.getElem?_eq_none (by omega)]; rfl)) rfl rfl (by first | exact congrArg Value.bool (decide_eq_false hg48).symm | exact congrArg Value.bool hg48.symm | simp [hg48]) rfl)
    · clear hS a; (try clear w); intro a w hS
      refine Z_done (by kernel_rfl) ?_
      refine n_then ?_
      first | refine c_ifD hS rfl (fun hc60 => ?_) (fun hc60 => ?_) | refine c_if hS rfl (fun hc60 => ?_) (fun hc60 => ?_)
      ·
        refine wp_skip (n_then (wp_block (c_region ?_)))
        refine L_e hS (e_move rfl) rfl ?_; clear hS a; intro a hS
        (first | refine L_e hS (e_binN rfl rfl rfl (by omega)) rfl ?_ | refine L_e hS (e_bin rfl rfl rfl) rfl ?_); clear hS a; intro a hS
        refine L_e hS (e_assign rfl) rfl ?_; clear hS a; intro a hS
        refine L_nil (n_block ?_)
        obtain ⟨y, hy, hlt⟩ : ∃ y, acs[k]? = some y ∧ ltB y.code x.code = true := by
          cases e : acs[k]? with
          | none => rw [e] at hc60; cases hc60
          | some y => rw [e] at hc60; exact ⟨y, rfl, hc60⟩
        have hkl := (List.getElem?_eq_some_iff.1 hy).1
        exact ⟨k + 1, by omega, (hS.slots (by repeat (first | exact trivial | refine ⟨rfl, ?_⟩))).pick (by repeat (first | exact Pick.nil | (refine Pick.cons (by repeat (first | exact Rem.head | apply Rem.tail)) ?_))), by omega, fun j z hj hz => by
          by_cases e : j = k
          · subst e; rw [hy] at hz; cases hz; exact hlt
          · exact hlo j z (by omega) hz⟩
      have hhi : ∀ y, acs[k]? = some y → ¬ ltB y.code x.code = true := fun y hy e => by
        have h2 : ltB y.code x.code = false := by rw [hy] at hc60; exact hc60
        rw [h2] at e; cases e
      refine wp_exit ?_
      refine x_then (x_then (x_hit ?_))
      refine n_then (c_seq (c_region ?_))
      refine L_op (s_bslice hS ty_sl63 ty_sz51 ty_z51 rfl rfl rfl rfl .nil rfl ?_); clear hS a; (try clear w); intro a w b63 hS
      replace hS := hS.swap (X := .blk b63 [] 51) (Y := ownA 51 4 (.slice (some ⟨b63, 0, none⟩) 0 0) 0 []) (by repeat constructor) (own_empty (hS.get (X := .blk b63 [] 51) (by repeat constructor))) (fun b hb => by simpa [ownA, Asn.F, Value.ownBlock, eq_comm] using hb) rfl
      refine L_e hS (e_move rfl) rfl ?_; clear hS a; intro a hS
      refine L_e hS (e_nilCheck rfl) rfl ?_; clear hS a; intro a hS
      (first | refine L_e hS (e_fa0 rfl ty_fo66_1) rfl ?_ | refine L_e hS (e_faK rfl ty_fo66_1) rfl ?_); clear hS a; intro a hS
      refine L_e hS (e_load rfl (by repeat constructor) ty_sc63 (by rfl)) rfl ?_; clear hS a; intro a hS
      refine L_e hS (e_move rfl) rfl ?_; clear hS a; intro a hS
      refine L_e hS (e_slH rfl rfl ty_sl63 ty_sz51 (by omega)) rfl ?_; clear hS a; intro a hS
      refine L_op (s_appendQ hS rfl rfl ty_sl63 ty_sz51 ty_by51 ty_z51 rfl rfl rfl (by repeat constructor) (by rw [flat_len encAc 4 (fun _ => rfl), List.length_take, Nat.min_eq_left hk]) (own_head (hS.get (X := ownA 51 4 (.slice pA acs.length cA) acs.length (acs.flatMap encAc)) (by repeat constructor)) (fun _ => rfl) hk) (oneAc _) (by omega) (fun _ => (by repeat constructor)) ?_); clear hS a; (try clear w); intro v70 a w hv70 hS
      refine L_e hS (e_assign rfl) rfl ?_; clear hS a; intro a hS
      refine L_nil (n_then (c_seq (c_region ?_)))
      refine L_e hS (e_move rfl) rfl ?_; clear hS a; intro a hS
      refine L_e hS (e_loadA rfl (by repeat constructor) ty_st51 ty_sz51 (by rfl)) rfl ?_; clear hS a; intro a hS
      refine L_op (s_bslice hS ty_sl63 ty_sz51 ty_z51 rfl rfl rfl rfl (.agg rfl rfl .nil) rfl ?_); clear hS a; (try clear w); intro a w b73 hS
      refine L_op (s_append1 hS rfl rfl ty_sl63 ty_sz51 ty_by51 ty_z51 rfl rfl rfl (by repeat constructor) (by repeat constructor) (by rfl) (by rfl) (fun _ => (by repeat constructor)) (by omega) ?_); clear hS a; (try clear w); intro v74 a w hv74 hS
      refine L_e hS (e_assign rfl) rfl ?_; clear hS a; intro a hS
      refine L_nil (n_then (c_seq (c_region ?_)))
      refine L_e hS (e_move rfl) rfl ?_; clear hS a; intro a hS
      refine L_e hS (e_move rfl) rfl ?_; clear hS a; intro a hS
      refine L_e hS (e_move rfl) rfl ?_; clear hS a; intro a hS
      refine L_e hS (e_nilCheck rfl) rfl ?_; clear hS a; intro a hS
      (first | refine L_e hS (e_fa0 rfl ty_fo66_1) rfl ?_ | refine L_e hS (e_faK rfl ty_fo66_1) rfl ?_); clear hS a; intro a hS
      refine L_e hS (e_load rfl (by repeat constructor) ty_sc63 (by rfl)) rfl ?_; clear hS a; intro a hS
      refine L_e hS (e_move rfl) rfl ?_; clear hS a; intro a hS
      refine L_e hS (e_slT rfl rfl ty_sl63 ty_sz51 (by omega)) rfl ?_; clear hS a; intro a hS
      refine L_op (s_appendQ hS rfl rfl ty_sl63 ty_sz51 ty_by51 ty_z51 rfl rfl rfl (by repeat constructor) (by rw [flat_len encAc 4 (fun _ => rfl), List.length_drop]) (own_tail (hS.get (X := ownA 51 4 (.slice pA acs.length cA) acs.length (acs.flatMap encAc)) (by repeat constructor)) (fun _ => rfl) rfl hk) (oneAc _) (by omega) (fun _ => (by repeat constructor)) ?_); clear hS a; (try clear w); intro v83 a w hv83 hS
      obtain ⟨q2, c2, rfl⟩ := own_slice (hS.get (X := ownA 51 4 v83 (0 + k + 1 + (acs.length - k)) _) (by repeat constructor))
      refine L_e hS (e_nilCheck rfl) rfl ?_; clear hS a; intro a hS
      (first | refine L_e hS (e_fa0 rfl ty_fo66_1) rfl ?_ | refine L_e hS (e_faK rfl ty_fo66_1) rfl ?_); clear hS a; intro a hS
      refine L_op (s_store hS rfl rfl rfl ty_sz63 (by repeat constructor) (by repeat constructor) ?_); clear hS; (try clear w); intro w hS
      refine L_nil (n_then (c_seq (c_region ?_)))
      refine L_e hS (e_assign rfl) rfl ?_; clear hS a; intro a hS
      refine L_nil (n_then (wp_ret ?_))
      refine c_ret1 hS Tryz.results18 (.tmp rfl) ?_
      have hE : openEP P x = 0 := by unfold openEP; rw [if_neg (by simpa using hc14), if_neg hsc, if_neg hc26, if_neg hnf, if_neg (by omega)]
      have hP : openP P x = { P with acs := P.acs ++ [x] } := if_pos hE
      have hn2 : (codesA (P.acs ++ [x])).Nodup := by
        unfold codesA at hn ⊢
        rw [List.map_append, List.nodup_append]
        refine ⟨hn, by simp, fun c hc d hd e => ?_⟩
        simp only [List.map_cons, List.map_nil, List.mem_singleton] at hd
        obtain ⟨z, hz, hzc⟩ := List.mem_map.1 hc
        refine hnf ?_
        unfold findA
        rw [List.find?_isSome]
        exact ⟨z, hz, by simp only [decide_eq_true_eq]; rw [hzc, e, hd]⟩
      have hins : acs.take k ++ x :: acs.drop k = accsL (P.acs ++ [x]) := by
        rw [hacs] at hk hlo hhi ⊢
        exact ins_eq hn2 hk (fun j y hj hy => hlo j y hj hy) hhi
      have e1 : (acs.take k ++ x :: acs.drop k).length = 0 + k + 1 + (acs.length - k) := by simp; omega
      have e2 : (acs.take k ++ x :: acs.drop k).flatMap encAc = [] ++ (acs.take k).flatMap encAc ++ encAc x ++ (acs.drop k).flatMap encAc := by simp
      refine ⟨⟨⟨cur, acs.take k ++ x :: acs.drop k, es, closed, .slice q2 (0 + k + 1 + (acs.length - k)) c2, ev⟩, by rw [hP]; exact ⟨hrel.cur, hins, hrel.es, hrel.closed⟩⟩, by (try dsimp only); rw [hE], hS.chg, rl_end (s' := ⟨cur, acs.take k ++ x :: acs.drop k, es, closed, .slice q2 (0 + k + 1 + (acs.length - k)) c2, ev⟩) hS (by repeat constructor) ?_ (by repeat constructor) (by repeat constructor)⟩
      unfold rowRA
      simp only
      rw [e1, e2]
      exact (by repeat constructor)
end Go.Proofs.YtheofhegdjjfgaaGreat

namespace Go.Proofs.YtheofhegdjjfgaaGreat
open Go.RowKit
def swapP (p : Pst) : Pst := ⟨p.acc, p.f, p.u⟩
theorem curSum_snoc (acs : List Acc) (c : ByteArray) (l : List Pst) (p : Pst) : curSum acs c (l ++ [p]) = curSum acs c l + if curOf acs p.acc = c then p.u else 0 := by
  rw [curSum_append, curSum_cons]; simp [curSum]
theorem curSwap_snoc (acs : List Acc) (c : ByteArray) (l : List Pst) (p : Pst) : curSum acs c ((l ++ [p]).map swapP) = curSum acs c (l.map swapP) + if curOf acs p.acc = c then p.f else 0 := by
  rw [List.map_append, List.map_cons, List.map_nil, curSum_snoc]; rfl
theorem cur_bd (acs : List Acc) (c : ByteArray) : ∀ l : List Pst, (∀ p ∈ l, -9223372036854775808 ≤ p.u ∧ p.u ≤ 9223372036854775807) → -(l.length * 9223372036854775808 : Int) ≤ curSum acs c l ∧ curSum acs c l ≤ l.length * 9223372036854775808
  | [], _ => by simp [curSum]
  | p :: r, h => by
    have h1 := cur_bd acs c r (fun q hq => h q (.tail _ hq))
    have h2 := h p (.head _)
    rw [curSum_cons, List.length_cons]
    split <;> omega
theorem cur_bdS (acs : List Acc) (c : ByteArray) (l : List Pst) (h : ∀ p ∈ l, -9223372036854775808 ≤ p.f ∧ p.f ≤ 9223372036854775807) : -(l.length * 9223372036854775808 : Int) ≤ curSum acs c (l.map swapP) ∧ curSum acs c (l.map swapP) ≤ l.length * 9223372036854775808 := by
  have h1 := cur_bd acs c (l.map swapP) (fun p hp => by obtain ⟨q, hq, rfl⟩ := List.mem_map.1 hp; exact h q hq)
  rw [List.length_map] at h1; exact h1
theorem sumC_bd {f : ByteArray → Int} {M : Int} (h : ∀ c, -M ≤ f c ∧ f c ≤ M) : ∀ cs : List ByteArray, -(cs.length * M) ≤ sumC f cs ∧ sumC f cs ≤ cs.length * M
  | [] => by simp [sumC]
  | c :: r => by
    have h1 := sumC_bd h r
    have h2 := h c
    simp only [sumC, List.length_cons]
    have e : ((r.length + 1 : Nat) : Int) * M = r.length * M + M := by rw [Int.natCast_add, Int.add_mul]; simp
    rw [e]; omega
theorem sumC_add (f g : ByteArray → Int) : ∀ cs : List ByteArray, sumC (fun c => f c + g c) cs = sumC f cs + sumC g cs
  | [] => rfl
  | c :: r => by simp only [sumC]; rw [sumC_add f g r]; omega
theorem sumC_zero : ∀ cs : List ByteArray, sumC (fun _ => 0) cs = 0
  | [] => rfl
  | c :: r => by simp only [sumC]; rw [sumC_zero r]; rfl
theorem sumC_cur (acs : List Acc) : ∀ l : List Pst, (∀ p ∈ l, curOf acs p.acc ∈ cur6) → sumC (fun c => curSum acs c (l.map swapP)) cur6 = sumFn l
  | [], _ => by
    have e : (fun c => curSum acs c (([] : List Pst).map swapP)) = fun _ => 0 := rfl
    rw [e, sumC_zero]; rfl
  | p :: r, h => by
    have e : (fun c => curSum acs c ((p :: r).map swapP)) = fun c => (if curOf acs p.acc = c then p.f else 0) + curSum acs c (r.map swapP) := by
      funext c; rw [List.map_cons, curSum_cons]; rfl
    rw [e, sumC_add, sumC_one p.f (curOf acs p.acc) cur6 cur6_nodup (h p (.head _)), sumC_cur acs r (fun q hq => h q (.tail _ hq)), sumFn_cons]
theorem cur_out (acs : List Acc) (c : ByteArray) : ∀ l : List Pst, (∀ p ∈ l, curOf acs p.acc ≠ c) → curSum acs c l = 0
  | [], _ => rfl
  | p :: r, h => by rw [curSum_cons, if_neg (h p (.head _)), cur_out acs c r (fun q hq => h q (.tail _ hq))]; rfl
theorem dg_pos {z : Int} (h : z ≠ 0) : 0 < (dgs z.natAbs).length := by
  rw [dgs_pos (by omega)]; simp
theorem curs6 : curs.map (·.1) = cur6 := by decide +kernel
theorem cur_in {P : PL} (hc : wfC P) {c : ByteArray} (h : (findA P.acs c).isSome = true) : curOf P.acs c ∈ cur6 := by
  obtain ⟨x, hx⟩ := Option.isSome_iff_exists.1 h
  unfold curOf accOf
  rw [hx]
  exact hc x (List.mem_of_find?_eq_some hx)
theorem curOf_accs {acs : List Acc} (hn : (codesA acs).Nodup) (c : ByteArray) : accOf (accsL acs) c = accOf acs c := by
  unfold accOf; rw [findA_accs hn]
theorem sum_all {P : PL} {n : Nat} (h : wfP P n) {s : RS} (hr : relR s P) (c : ByteArray) : sumAt (plR s) c 1099511627776 = totOf P.tot c := by
  rw [h.sum c]
  have e : postsAt (plR s).es 1099511627776 = P.es.flatMap (·.ps) := by
    have e1 : (plR s).es = P.es := hr.es
    rw [e1]
    unfold postsAt upTo
    rw [List.filter_eq_self.2 fun x hx => by have := (h.at_ x hx).2; simpa using this]
  unfold sumAt
  rw [e]
theorem okR_of {P : PL} {n : Nat} (h : wfP P n) (hn : n ≤ 900) {s : RS} (hr : relR s P) : okR s := by
  have hm : ∀ x ∈ s.es, x.v ∈ P.es := fun x hx => by rw [← hr.es]; exact List.mem_map.2 ⟨x, hx, rfl⟩
  have hl : s.es.length = P.es.length := by rw [← hr.es, List.length_map]
  exact ⟨fun x hx => h.ps _ (hm x hx), fun x hx => h.fit _ (hm x hx), by have := h.le; omega, by rw [hr.acs, accs_len]; have := h.la; omega⟩
def rlPF (b : Nat) (s : RS) (u : Value) (k : Nat) : Prop := rlF b s k ∨ u.ownBlock = some k
structure rlPφ (b : Nat) (s : RS) (u : Value) (ps : List Pst) (w : World) : Prop where
  rl : rlφ b s w
  row : w.ownsRow 0 124 3 u ps.length (ps.flatMap encP)
def rlPA (b : Nat) (s : RS) (u : Value) (ps : List Pst) : Asn := .any (rlPF b s u) (rlPφ b s u ps) false
theorem rlP_ok {b : Nat} {s : RS} {u : Value} {ps : List Pst} {w : World} (h : rlφ b s w) (h2 : w.ownsRow 0 124 3 u ps.length (ps.flatMap encP)) : (rlPA b s u ps).ok w := by
  have a := rl_ok false h
  exact ⟨fun k hk => hk.elim (fun hk => a.lt k hk) (fun hk => (World.ownsRow.lt h2 k hk).2), fun w' hw => ⟨a.hold w' (fun k hk => hw k (.inl hk)), owns_keepL h2 (fun k hk => hw k (.inr hk))⟩⟩
theorem rlP_cell {b : Nat} {s : RS} {u : Value} {ps : List Pst} {Γ : List Asn} (hm : rlPA b s u ps ∈ Γ) {k : Nat} {v : Value} (hv : (rlC s)[k]? = some v) : ∀ w, Hd Γ w → w.cell? ⟨b, k, none⟩ = some v := fun _ hh => cell_of_blk (rlφ.bk (rlPφ.rl (hh _ hm))) hv
theorem rlP_get {Γ : List Asn} {b g c : Nat} {s : RS} {ps : List Pst} (hm : rlPA b s (.slice (some ⟨g, 0, none⟩) ps.length c) ps ∈ Γ) {i : Nat} {x : Pst} (hx : ps[i]? = some x) : ∀ w, Hd Γ w → ∀ j v, (encP x)[j]? = some v → w.cell? ⟨g, 0 + i * 3 + j, none⟩ = some v := by
  intro w hh j v hj
  have h := rlPφ.row (hh _ hm)
  have h1 := flat_get encP 3 (fun _ => rfl) ps i x hx j v hj
  have h2 := World.ownsRow.cells h (g := g) rfl _ _ h1
  rw [addr_add] at h2
  rw [← h2]; congr 2; omega
end Go.Proofs.YtheofhegdjjfgaaGreat

namespace Go.Proofs.YtheofhegdjjfgaaGreat
open Go.RowKit
set_option maxHeartbeats 4000000 in
set_option maxRecDepth 100000 in
theorem rlCheck_P (b : Nat) (s : RS) (P : PL) (m : Nat) (hrel : relR s P) (hwf : wfP P m) (hm : m ≤ 900) (hcur : wfC P) (qu : Option Addr) (cu : Nat) (at_ : Int) (memo : ByteArray) (ps : List Pst) (hpl : ps.length ≤ 100000) (hfit : ∀ x ∈ ps, x.fits) (w0 : World) (h : rlφ b s w0)
    (hrow : w0.ownsRow 0 124 3 (.slice qu ps.length cu) ps.length (ps.flatMap encP)) :
    PureC Tryz.prog 53 [.pointer (some ⟨b, 0, none⟩), .int .i64 at_, .string memo, .slice qu ps.length cu] w0 (.int .i64 (checkE P at_ memo ps)) := by
  obtain ⟨qE, cE, hev, _⟩ := rl_shE h
  have hR := okR_of hwf hm hrel
  have hacs := hR.acs
  have hfew := hR.few
  have hcl : s.closed = P.closed := hrel.closed
  have hel : P.es.length = s.es.length := by rw [← hrel.es, List.length_map]
  have hfi : ∀ c, findA s.acs c = findA P.acs c := fun c => by rw [hrel.acs]; exact findA_accs hwf.nod c
  have hao : ∀ c, accOf s.acs c = accOf P.acs c := fun c => by rw [hrel.acs]; exact curOf_accs hwf.nod c
  have hsu : qu = none ∧ ps.length = 0 ∨ ∃ g, qu = some ⟨g, 0, none⟩ := by
    rcases hrow.2 with ⟨e, e2⟩ | ⟨g, cap, cur, e, _⟩
    · injection e with e1; exact .inl ⟨e1, e2⟩
    · injection e with e1; exact .inr ⟨g, e1⟩
  have hcd : curs.flatMap encS = cur6.flatMap fun x => [.string x] := by rw [← curs6]; rfl
  refine c_enter [(0, .pointer (some ⟨b, 0, none⟩)), (1, .int .i64 at_), (2, .string memo), (3, .slice qu ps.length cu)] [rlPA b s (.slice qu ps.length cu) ps] noB Tryz.func53 rfl Tryz.ntmps53 ⟨rfl, rfl, rfl, rfl, trivial⟩ rfl (okC (rlP_ok h hrow) okN) dis1 (mineC (by rfl) mineN) ?_
  intro a hS
  refine c_seq (c_region ?_)
  refine L_e hS (e_assign rfl) rfl ?_; clear hS a; intro a hS
  refine L_nil (n_then (c_seq (c_seq (c_region ?_))))
  refine L_e hS (e_move rfl) rfl ?_; clear hS a; intro a hS
  refine L_op (s_callP hS (.cons rfl .nil) cf54 rfl (xInstant_P at_ _) ?_); clear hS a; (try clear w); intro a w hS
  refine L_e hS (e_not rfl) rfl ?_; clear hS a; intro a hS
  refine L_nil (n_then ?_)
  first | refine c_ifD hS rfl (fun hc29 => ?_) (fun hc29 => ?_) | refine c_if hS rfl (fun hc29 => ?_) (fun hc29 => ?_)
  ·
    refine c_seq (c_region ?_)
    refine L_e hS (e_assign rfl) rfl ?_; clear hS a; intro a hS
    refine L_nil (n_then (wp_ret (r_then ?_)))
    refine c_ret1 hS Tryz.results53 (.tmp rfl) ?_
    have hE : checkE P at_ memo ps = 6 := if_pos (by simpa using hc29)
    exact ⟨by rw [hE], hS.chg⟩
  refine wp_skip (n_then (c_seq (c_seq (c_region ?_))))
  refine L_e hS (e_move rfl) rfl ?_; clear hS a; intro a hS
  refine L_e hS (e_move rfl) rfl ?_; clear hS a; intro a hS
  refine L_e hS (e_nilCheck rfl) rfl ?_; clear hS a; intro a hS
  (first | refine L_e hS (e_fa0 rfl ty_fo66_3) rfl ?_ | refine L_e hS (e_faK rfl ty_fo66_3) rfl ?_); clear hS a; intro a hS
  refine L_e hS (e_loadC rfl ty_sc3 (rlP_cell (k := 3) (v := .int .i64 s.closed) (by repeat constructor) rfl)) rfl ?_; clear hS a; intro a hS
  rw [hcl] at hS
  refine L_e hS (e_bin rfl rfl rfl) rfl ?_; clear hS a; intro a hS
  refine L_nil (n_then ?_)
  first | refine c_ifD hS rfl (fun hc35 => ?_) (fun hc35 => ?_) | refine c_if hS rfl (fun hc35 => ?_) (fun hc35 => ?_)
  ·
    refine c_seq (c_region ?_)
    refine L_e hS (e_assign rfl) rfl ?_; clear hS a; intro a hS
    refine L_nil (n_then (wp_ret (r_then ?_)))
    refine c_ret1 hS Tryz.results53 (.tmp rfl) ?_
    have hE : checkE P at_ memo ps = 27 := by unfold checkE; rw [if_neg (by simpa using hc29), if_pos hc35]
    exact ⟨by rw [hE], hS.chg⟩
  refine wp_skip (n_then (c_seq (c_seq (c_region ?_))))
  refine L_e hS (e_move rfl) rfl ?_; clear hS a; intro a hS
  refine L_e hS (e_lenS rfl rfl ty_u9) rfl ?_; clear hS a; intro a hS
  refine L_e hS (e_bin rfl rfl rfl) rfl ?_; clear hS a; intro a hS
  refine L_nil (n_then ?_)
  first | refine c_ifD hS rfl (fun hc38 => ?_) (fun hc38 => ?_) | refine c_if hS rfl (fun hc38 => ?_) (fun hc38 => ?_)
  ·
    refine c_seq (c_region ?_)
    refine L_e hS (e_assign rfl) rfl ?_; clear hS a; intro a hS
    refine L_nil (n_then (wp_ret (r_then ?_)))
    refine c_ret1 hS Tryz.results53 (.tmp rfl) ?_
    have hE : checkE P at_ memo ps = 8 := by unfold checkE; rw [if_neg (by simpa using hc29), if_neg hc35, if_pos (by omega)]
    exact ⟨by rw [hE], hS.chg⟩
  refine wp_skip (n_then (c_seq (c_seq (c_region ?_))))
  refine L_e hS (e_move rfl) rfl ?_; clear hS a; intro a hS
  refine L_e hS (e_len rfl rfl ty_sl54) rfl ?_; clear hS a; intro a hS
  refine L_e hS (e_bin rfl rfl rfl) rfl ?_; clear hS a; intro a hS
  refine L_e hS (e_move rfl) rfl ?_; clear hS a; intro a hS
  refine L_merge 4 46 (.bool (decide (ps.length < 2 ∨ 50 < ps.length))) hS ?_ ?_
  · intro hcM46
    (first | refine g_splitD (t := 42) hS rfl ?_ ?_ | refine g_split (t := 42) hS rfl ?_ ?_) <;> (clear hS; intro hg42 hS)
    ·
      refine L_skip_f hS rfl rfl rfl ?_; clear hS a; intro a hS
      refine L_skip_f hS rfl rfl rfl ?_; clear hS a; intro a hS
      refine L_skip_f hS rfl rfl rfl ?_; clear hS a; intro a hS
      refine L_e hS (e_pk rfl rfl) rfl ?_; clear hS a; intro a hS
      exact hcM46 _ _ (hS.ends 5 46 42 rfl (congrArg Value.bool (by exact (decide_eq_true (.inl (by omega))).symm)) rfl rfl (by first | exact congrArg Value.bool (decide_eq_true hg42).symm | exact congrArg Value.bool hg42.symm | simp [hg42]) rfl)
    refine L_ge hS rfl rfl (e_move rfl) rfl ?_; clear hS a; intro a hS
    refine L_ge hS rfl rfl (e_len rfl rfl ty_sl54) rfl ?_; clear hS a; intro a hS
    refine L_ge hS rfl rfl (e_bin rfl rfl rfl) rfl ?_; clear hS a; intro a hS
    refine L_e hS (e_pk rfl rfl) rfl ?_; clear hS a; intro a hS
    exact hcM46 _ _ (hS.ends 5 46 42 rfl (congrArg Value.bool (by rw [decide_eq_decide]; omega)) rfl rfl (by first | exact congrArg Value.bool (decide_eq_false hg42).symm | exact congrArg Value.bool hg42.symm | simp [hg42]) rfl)
  · clear hS a; (try clear w); intro a w hS
    simp only [List.drop_succ_cons, List.drop_zero]
    refine L_e hS (e_move rfl) rfl ?_; clear hS a; intro a hS
    refine L_merge 7 54 (.bool (decide ((ps.length < 2 ∨ 50 < ps.length) ∨ 2000 ≤ P.es.length))) hS ?_ ?_
    · intro hcM54
      (first | refine g_splitD (t := 47) hS rfl ?_ ?_ | refine g_split (t := 47) hS rfl ?_ ?_) <;> (clear hS; intro hg47 hS)
      ·
        refine L_skip_f hS rfl rfl rfl ?_; clear hS a; intro a hS
        refine L_skip_f hS rfl rfl rfl ?_; clear hS a; intro a hS
        refine L_skip_f hS rfl rfl rfl ?_; clear hS a; intro a hS
        refine L_skip_f hS rfl rfl rfl ?_; clear hS a; intro a hS
        refine L_skip_f hS rfl rfl rfl ?_; clear hS a; intro a hS
        refine L_skip_f hS rfl rfl rfl ?_; clear hS a; intro a hS
        refine L_e hS (e_pk rfl rfl) rfl ?_; clear hS a; intro a hS
        exact hcM54 _ _ (hS.ends 8 54 47 rfl (congrArg Value.bool (by exact (decide_eq_true (.inl hg47)).symm)) rfl rfl (by first | exact congrArg Value.bool (decide_eq_true hg47).symm | exact congrArg Value.bool hg47.symm | simp [hg47]) rfl)
      refine L_ge hS rfl rfl (e_move rfl) rfl ?_; clear hS a; intro a hS
      refine L_ge hS rfl rfl (e_nilCheck rfl) rfl ?_; clear hS a; intro a hS
      (first | refine L_ge hS rfl rfl (e_fa0 rfl ty_fo66_2) rfl ?_ | refine L_ge hS rfl rfl (e_faK rfl ty_fo66_2) rfl ?_); clear hS a; intro a hS
      refine L_ge hS rfl rfl (e_loadC rfl ty_sc64 (rlP_cell (k := 2) (by repeat constructor) rfl)) rfl ?_; clear hS a; intro a hS
      rw [hev] at hS
      refine L_ge hS rfl rfl (e_len rfl rfl ty_sl64) rfl ?_; clear hS a; intro a hS
      refine L_ge hS rfl rfl (e_bin rfl rfl rfl) rfl ?_; clear hS a; intro a hS
      refine L_e hS (e_pk rfl rfl) rfl ?_; clear hS a; intro a hS
      exact hcM54 _ _ (hS.ends 8 54 47 rfl (congrArg Value.bool (by rw [decide_eq_decide]; omega)) rfl rfl (by first | exact congrArg Value.bool (decide_eq_false hg47).symm | exact congrArg Value.bool hg47.symm | simp [hg47]) rfl)
    · clear hS a; (try clear w); intro a w hS
      simp only [List.drop_succ_cons, List.drop_zero]
      refine L_nil (n_then ?_)
      first | refine c_ifD hS rfl (fun hc54 => ?_) (fun hc54 => ?_) | refine c_if hS rfl (fun hc54 => ?_) (fun hc54 => ?_)
      ·
        refine c_seq (c_region ?_)
        refine L_e hS (e_assign rfl) rfl ?_; clear hS a; intro a hS
        refine L_nil (n_then (wp_ret (r_then ?_)))
        refine c_ret1 hS Tryz.results53 (.tmp rfl) ?_
        have hE : checkE P at_ memo ps = 9 := by unfold checkE; rw [if_neg (by simpa using hc29), if_neg hc35, if_neg (by omega), if_pos hc54]
        exact ⟨by rw [hE], hS.chg⟩
      have h50 : ps.length ≤ 50 := by omega
      have hpre : checkE P at_ memo ps = if postE P.acs ps [] ≠ 0 then postE P.acs ps [] else if ¬ evenF P.acs ps then 26 else if ∃ x ∈ ps, ¬ okS (addS (totOf P.tot x.acc) x) then 16 else 0 := by
        unfold checkE; rw [if_neg (by simpa using hc29), if_neg hc35, if_neg (by omega), if_neg hc54]
      refine wp_skip (n_then (c_seq (c_seq (c_region ?_))))
      refine L_e hS (e_assign rfl) rfl ?_; clear hS a; intro a hS
      refine L_nil (n_then (wp_block ?_))
      skip
      refine c_loop (γ := Nat) (fun i a w => St 207 noB w0 a w [(9, .int .i64 (i : Int)), (0, .pointer (some ⟨b, 0, none⟩)), (3, .slice qu ps.length cu)] [rlPA b s (.slice qu ps.length cu) ps] ∧ i ≤ ps.length ∧ postE P.acs ps [] = postE P.acs (ps.drop i) ((ps.take i).map (·.acc))) (fun i => ps.length - i) 0 ⟨(hS.slots (by repeat (first | exact trivial | refine ⟨rfl, ?_⟩))).pick (by repeat (first | exact Pick.nil | (refine Pick.cons (by repeat (first | exact Rem.head | apply Rem.tail)) ?_))), Nat.zero_le _, rfl⟩ ?_
      clear hS a; (try clear w); intro i a w hI
      obtain ⟨hS, hi, hpe⟩ := hI
      refine c_seq (c_seq (c_region ?_))
      refine L_e hS (e_move rfl) rfl ?_; clear hS a; intro a hS
      refine L_e hS (e_move rfl) rfl ?_; clear hS a; intro a hS
      refine L_e hS (e_len rfl rfl ty_sl54) rfl ?_; clear hS a; intro a hS
      refine L_e hS (e_bin rfl rfl rfl) rfl ?_; clear hS a; intro a hS
      refine L_nil (n_then ?_)
      first | refine c_ifD hS rfl (fun hc58 => ?_) (fun hc58 => ?_) | refine c_if hS rfl (fun hc58 => ?_) (fun hc58 => ?_)
      ·
        have hil : i < ps.length := by omega
        obtain ⟨x, hx⟩ : ∃ x, ps[i]? = some x := ⟨ps[i], List.getElem?_eq_getElem hil⟩
        obtain ⟨g, rfl⟩ : ∃ g, qu = some ⟨g, 0, none⟩ := by rcases hsu with ⟨_, e⟩ | e; exact absurd e (by omega); exact e
        have hdr : ps.drop i = x :: ps.drop (i + 1) := by
          obtain ⟨h1, h2⟩ := List.getElem?_eq_some_iff.1 hx
          rw [List.drop_eq_getElem_cons h1, h2]
        have htk : (ps.take (i + 1)).map (·.acc) = (ps.take i).map (·.acc) ++ [x.acc] := by rw [List.take_add_one, hx]; simp
        rw [hdr, postE_cons] at hpe
        refine wp_skip (n_then (c_seq (wp_block (c_seq (c_region ?_)))))
        refine L_e hS (e_move rfl) rfl ?_; clear hS a; intro a hS
        refine L_e hS (e_move rfl) rfl ?_; clear hS a; intro a hS
        refine L_e hS (e_move rfl) rfl ?_; clear hS a; intro a hS
        refine L_e hS (e_ixN rfl rfl ty_sl54 ty_sz124 (by omega)) rfl ?_; clear hS a; intro a hS
        (first | refine L_e hS (e_fa0 rfl ty_fo124_0) rfl ?_ | refine L_e hS (e_faK rfl ty_fo124_0) rfl ?_); clear hS a; intro a hS
        refine L_e hS (e_loadC rfl ty_sc9 (fun w hh => rlP_get (by repeat constructor) hx w hh 0 (.string x.acc) rfl)) rfl ?_; clear hS a; intro a hS
        refine L_op (s_callP hS (.cons rfl (.cons rfl .nil)) cf46 rfl (rlFind_P b s x.acc (by omega) _ (hS.get (X := rlPA b s (.slice (some ⟨g, 0, none⟩) ps.length cu) ps) (by repeat constructor)).rl) ?_); clear hS a; (try clear w); intro a w hS
        rw [hfi] at hS
        refine L_e hS (e_move rfl) rfl ?_; clear hS a; intro a hS
        refine L_e hS (e_extract rfl rfl) rfl ?_; clear hS a; intro a hS
        refine L_e hS (e_extract rfl rfl) rfl ?_; clear hS a; intro a hS
        refine L_op (s_alloc hS ty_z51 rfl ?_); clear hS a; (try clear w); intro a w b10 hS
        refine L_op (s_storeA hS rfl rfl ty_sz51 (by repeat constructor) (by rfl) (by rfl) (by rfl) ?_); clear hS; (try clear w); intro w hS
        refine L_e hS (e_assign rfl) rfl ?_; clear hS a; intro a hS
        refine L_nil (n_then (c_seq (c_seq (c_region ?_))))
        refine L_e hS (e_move rfl) rfl ?_; clear hS a; intro a hS
        refine L_e hS (e_not rfl) rfl ?_; clear hS a; intro a hS
        refine L_nil (n_then ?_)
        first | refine c_ifD hS rfl (fun hc72 => ?_) (fun hc72 => ?_) | refine c_if hS rfl (fun hc72 => ?_) (fun hc72 => ?_)
        ·
          refine c_seq (c_region ?_)
          refine L_e hS (e_assign rfl) rfl ?_; clear hS a; intro a hS
          refine L_nil (n_then (wp_ret ?_))
          refine r_then (r_block (r_then (r_then (r_block (r_then ?_)))))
          refine c_ret1 hS Tryz.results53 (.tmp rfl) ?_
          have hne : postE P.acs ps [] = 2 := by rw [hpe, if_pos (by simpa using hc72)]
          exact ⟨by rw [hpre, if_pos (by rw [hne]; decide), hne], hS.chg⟩
        have hfnd : (findA P.acs x.acc).isSome = true := by simpa using hc72
        refine wp_skip (n_then (c_seq (c_seq (c_region ?_))))
        refine L_e hS (e_assign rfl) rfl ?_; clear hS a; intro a hS
        refine L_nil (n_then (wp_block ?_))
        skip
        refine c_loop (γ := Nat) (fun k a w => St 207 noB w0 a w [(12, .int .i64 (k : Int)), (9, .int .i64 (i : Int)), (0, .pointer (some ⟨b, 0, none⟩)), (3, .slice (some ⟨g, 0, none⟩) ps.length cu)] [rlPA b s (.slice (some ⟨g, 0, none⟩) ps.length cu) ps] ∧ k ≤ i ∧ ∀ j y, j < k → ps[j]? = some y → y.acc ≠ x.acc) (fun k => i - k) 0 ⟨(hS.slots (by repeat (first | exact trivial | refine ⟨rfl, ?_⟩))).pick (by repeat (first | exact Pick.nil | (refine Pick.cons (by repeat (first | exact Rem.head | apply Rem.tail)) ?_))), Nat.zero_le _, fun j y hj => by omega⟩ ?_
        clear hS a; (try clear w); intro k a w hI
        obtain ⟨hS, hk, hno⟩ := hI
        refine c_seq (c_seq (c_region ?_))
        refine L_e hS (e_move rfl) rfl ?_; clear hS a; intro a hS
        refine L_e hS (e_move rfl) rfl ?_; clear hS a; intro a hS
        refine L_e hS (e_bin rfl rfl rfl) rfl ?_; clear hS a; intro a hS
        refine L_nil (n_then ?_)
        first | refine c_ifD hS rfl (fun hc75 => ?_) (fun hc75 => ?_) | refine c_if hS rfl (fun hc75 => ?_) (fun hc75 => ?_)
        ·
          have hki : k < i := by omega
          obtain ⟨y, hy⟩ : ∃ y, ps[k]? = some y := ⟨ps[k]'(by omega), List.getElem?_eq_getElem (by omega)⟩
          refine wp_skip (n_then (c_seq (wp_block (c_seq ?_))))
          refine c_drawS [] (by kernel_rfl) hS (sub_cons (X := rlPA b s (.slice (some ⟨g, 0, none⟩) ps.length cu) ps) (by repeat constructor) sub_nil) ?_; clear hS; (try clear w); intro w hS
          simp only [List.length_cons, List.length_nil, Nat.zero_add, Nat.reduceAdd, List.replicate]
          refine Zt0 0 (tf 1 10) hS rfl want_none (e_move rfl) rfl (by kernel_rfl) rfl ?_; clear hS a; intro a hS
          refine Zt0 1 (tf 2 9) hS rfl want_none (e_move rfl) rfl (by kernel_rfl) rfl ?_; clear hS a; intro a hS
          refine Zt0 2 (tf 3 8) hS rfl want_none (e_ixN rfl rfl ty_sl54 ty_sz124 (by omega)) rfl (by kernel_rfl) rfl ?_; clear hS a; intro a hS
          (first | refine Zt0 3 (tf 4 7) hS rfl want_none (e_fa0 rfl ty_fo124_0) rfl (by kernel_rfl) rfl ?_ | refine Zt0 3 (tf 4 7) hS rfl want_none (e_faK rfl ty_fo124_0) rfl (by kernel_rfl) rfl ?_); clear hS a; intro a hS
          refine Zt 4 (tf 5 6) hS rfl want_none (e_loadC rfl ty_sc9 (fun w hh => rlP_get (by repeat constructor) hy w hh 0 (.string y.acc) rfl)) rfl (by kernel_rfl) (sub_cons (by repeat constructor) sub_nil) rfl ?_; clear hS a; intro a hS
          refine Zt0 5 (tf 6 5) hS rfl want_none (e_move rfl) rfl (by kernel_rfl) rfl ?_; clear hS a; intro a hS
          refine Zt0 6 (tf 7 4) hS rfl want_none (e_move rfl) rfl (by kernel_rfl) rfl ?_; clear hS a; intro a hS
          refine Zt0 7 (tf 8 3) hS rfl want_none (e_ixN rfl rfl ty_sl54 ty_sz124 (by omega)) rfl (by kernel_rfl) rfl ?_; clear hS a; intro a hS
          (first | refine Zt0 8 (tf 9 2) hS rfl want_none (e_fa0 rfl ty_fo124_0) rfl (by kernel_rfl) rfl ?_ | refine Zt0 8 (tf 9 2) hS rfl want_none (e_faK rfl ty_fo124_0) rfl (by kernel_rfl) rfl ?_); clear hS a; intro a hS
          refine Zt 9 (tf 10 1) hS rfl want_none (e_loadC rfl ty_sc9 (fun w hh => rlP_get (by repeat constructor) hx w hh 0 (.string x.acc) rfl)) rfl (by kernel_rfl) (sub_cons (by repeat constructor) sub_nil) rfl ?_; clear hS a; intro a hS
          refine Zt0 10 (tf 11 0) hS rfl want_none (e_binS rfl rfl rfl) rfl (by kernel_rfl) rfl ?_; clear hS a; intro a hS
          refine Z_done (by kernel_rfl) ?_
          refine n_then ?_
          first | refine c_ifD hS rfl (fun hc88 => ?_) (fun hc88 => ?_) | refine c_if hS rfl (fun hc88 => ?_) (fun hc88 => ?_)
          ·
            refine c_seq (c_region ?_)
            refine L_e hS (e_assign rfl) rfl ?_; clear hS a; intro a hS
            refine L_nil (n_then (wp_ret ?_))
            refine r_block (r_then (r_then (r_block (r_then (r_block (r_then (r_then (r_block (r_then ?_)))))))))
            refine c_ret1 hS Tryz.results53 (.tmp rfl) ?_
            have hin : x.acc ∈ (ps.take i).map (·.acc) := List.mem_map.2 ⟨y, List.mem_of_getElem? (i := k) (by rw [List.getElem?_take_of_lt hki]; exact hy), hc88⟩
            have hne : postE P.acs ps [] = 12 := by rw [hpe, if_neg (by rw [hfnd]; decide), if_pos hin]
            exact ⟨by rw [hpre, if_pos (by rw [hne]; decide), hne], hS.chg⟩
          refine wp_skip (n_block (n_then (c_region ?_)))
          refine L_e hS (e_move rfl) rfl ?_; clear hS a; intro a hS
          (first | refine L_e hS (e_binN rfl rfl rfl (by omega)) rfl ?_ | refine L_e hS (e_bin rfl rfl rfl) rfl ?_); clear hS a; intro a hS
          refine L_e hS (e_assign rfl) rfl ?_; clear hS a; intro a hS
          refine L_nil ?_
          exact ⟨k + 1, by omega, (hS.slots (by repeat (first | exact trivial | refine ⟨rfl, ?_⟩))).pick (by repeat (first | exact Pick.nil | (refine Pick.cons (by repeat (first | exact Rem.head | apply Rem.tail)) ?_))), by omega, fun j z hj hz => by
          by_cases e : j = k
          · subst e; rw [hy] at hz; cases hz; exact hc88
          · exact hno j z (by omega) hz⟩
        obtain rfl : k = i := by omega
        have hnin : ¬ x.acc ∈ (ps.take k).map (·.acc) := fun hh => by
          obtain ⟨z, hz, he⟩ := List.mem_map.1 hh
          obtain ⟨j, hj, rfl⟩ := List.mem_iff_getElem.1 hz
          rw [List.length_take] at hj
          rw [List.getElem_take] at he
          exact hno j _ (by omega) (List.getElem?_eq_getElem (by omega)) he
        refine wp_exit ?_
        refine x_then (x_then (x_hit ?_))
        refine n_then (c_seq (c_region ?_))
        refine L_e hS (e_move rfl) rfl ?_; clear hS a; intro a hS
        refine L_e hS (e_move rfl) rfl ?_; clear hS a; intro a hS
        refine L_e hS (e_ixN rfl rfl ty_sl54 ty_sz124 (by omega)) rfl ?_; clear hS a; intro a hS
        (first | refine L_e hS (e_fa0 rfl ty_fo124_1) rfl ?_ | refine L_e hS (e_faK rfl ty_fo124_1) rfl ?_); clear hS a; intro a hS
        refine L_e hS (e_loadC rfl ty_sc3 (fun w hh => rlP_get (by repeat constructor) hx w hh 1 (.int .i64 x.u) rfl)) rfl ?_; clear hS a; intro a hS
        refine L_op (s_callP hS (.cons rfl .nil) cf93 rfl (Within_P x.u _) ?_); clear hS a; (try clear w); intro a w hS
        refine L_e hS (e_not rfl) rfl ?_; clear hS a; intro a hS
        refine L_e hS (e_move rfl) rfl ?_; clear hS a; intro a hS
        refine L_merge 8 104 (.bool (decide (¬ inU x.u ∨ ¬ inU x.f))) hS ?_ ?_
        · intro hcM104
          (first | refine g_splitD (t := 96) hS rfl ?_ ?_ | refine g_split (t := 96) hS rfl ?_ ?_) <;> (clear hS; intro hg96 hS)
          ·
            refine L_skip_f hS rfl rfl rfl ?_; clear hS a; intro a hS
            refine L_skip_f hS rfl rfl rfl ?_; clear hS a; intro a hS
            refine L_skip_f hS rfl rfl rfl ?_; clear hS a; intro a hS
            refine L_skip_f hS rfl rfl rfl ?_; clear hS a; intro a hS
            refine L_skip_f hS rfl rfl rfl ?_; clear hS a; intro a hS
            refine L_skip_f hS rfl rfl rfl ?_; clear hS a; intro a hS
            refine L_skip_f hS rfl rfl rfl ?_; clear hS a; intro a hS
            refine L_e hS (e_pk rfl rfl) rfl ?_; clear hS a; intro a hS
            exact hcM104 _ _ (hS.ends 9 104 96 rfl (congrArg Value.bool (by exact (decide_eq_true (.inl (by simpa using hg96))).symm)) rfl rfl (by first | exact congrArg Value.bool (decide_eq_true hg96).symm | exact congrArg Value.bool hg96.symm | simp [hg96]) rfl)
          refine L_ge hS rfl rfl (e_move rfl) rfl ?_; clear hS a; intro a hS
          refine L_ge hS rfl rfl (e_move rfl) rfl ?_; clear hS a; intro a hS
          refine L_ge hS rfl rfl (e_ixN rfl rfl ty_sl54 ty_sz124 (by omega)) rfl ?_; clear hS a; intro a hS
          (first | refine L_ge hS rfl rfl (e_fa0 rfl ty_fo124_2) rfl ?_ | refine L_ge hS rfl rfl (e_faK rfl ty_fo124_2) rfl ?_); clear hS a; intro a hS
          refine L_ge hS rfl rfl (e_loadC rfl ty_sc3 (fun w hh => rlP_get (by repeat constructor) hx w hh 2 (.int .i64 x.f) rfl)) rfl ?_; clear hS a; intro a hS
          refine L_go hS rfl rfl (s_callP hS (.cons rfl .nil) cf93 rfl (Within_P x.f _) ?_); clear hS a; (try clear w); intro a w hS
          refine L_ge hS rfl rfl (e_not rfl) rfl ?_; clear hS a; intro a hS
          refine L_e hS (e_pk rfl rfl) rfl ?_; clear hS a; intro a hS
          exact hcM104 _ _ (hS.ends 9 104 96 rfl (congrArg Value.bool (by rw [← decide_not, decide_eq_decide]; exact ⟨.inr, fun h => h.resolve_left (by simpa using hg96)⟩)) rfl rfl (by first | exact congrArg Value.bool (decide_eq_false hg96).symm | exact congrArg Value.bool hg96.symm | simp [hg96]) rfl)
        · clear hS a; (try clear w); intro a w hS
          simp only [List.drop_succ_cons, List.drop_zero]
          refine L_nil (n_then ?_)
          first | refine c_ifD hS rfl (fun hc104 => ?_) (fun hc104 => ?_) | refine c_if hS rfl (fun hc104 => ?_) (fun hc104 => ?_)
          ·
            refine c_seq (c_region ?_)
            refine L_e hS (e_assign rfl) rfl ?_; clear hS a; intro a hS
            refine L_nil (n_then (wp_ret ?_))
            refine r_block (r_then (r_then (r_block (r_then ?_))))
            refine c_ret1 hS Tryz.results53 (.tmp rfl) ?_
            have hne : postE P.acs ps [] = 6 := by rw [hpe, if_neg (by rw [hfnd]; decide), if_neg hnin, if_pos hc104]
            exact ⟨by rw [hpre, if_pos (by rw [hne]; decide), hne], hS.chg⟩
          refine wp_skip (n_block (n_then (c_region ?_)))
          refine L_e hS (e_move rfl) rfl ?_; clear hS a; intro a hS
          (first | refine L_e hS (e_binN rfl rfl rfl (by omega)) rfl ?_ | refine L_e hS (e_bin rfl rfl rfl) rfl ?_); clear hS a; intro a hS
          refine L_e hS (e_assign rfl) rfl ?_; clear hS a; intro a hS
          refine L_nil ?_
          rw [if_neg (by rw [hfnd]; decide), if_neg hnin, if_neg hc104] at hpe
          exact ⟨k + 1, by omega, (hS.slots (by repeat (first | exact trivial | refine ⟨rfl, ?_⟩))).pick (by repeat (first | exact Pick.nil | (refine Pick.cons (by repeat (first | exact Rem.head | apply Rem.tail)) ?_))), by omega, by rw [htk]; exact hpe⟩
      obtain rfl : i = ps.length := by omega
      rw [List.drop_length] at hpe
      have hz : postE P.acs ps [] = 0 := hpe
      rw [if_neg (fun e => e hz)] at hpre
      have hg := (postE_zero ps [] hz).1
      have hpc : ∀ x ∈ ps, curOf P.acs x.acc ∈ cur6 := fun x hx => cur_in hcur (hg x hx).1
      have bu : ∀ c i, (-9223372036854775808000 ≤ curSum P.acs c (ps.take i) ∧ curSum P.acs c (ps.take i) ≤ 9223372036854775808000) ∧ (-9223372036854775808000 ≤ curSum P.acs c ((ps.take i).map swapP) ∧ curSum P.acs c ((ps.take i).map swapP) ≤ 9223372036854775808000) := fun c i => by
        have h1 := cur_bd P.acs c (ps.take i) (fun p hp => (hfit p (List.mem_of_mem_take hp)).u)
        have h2 := cur_bdS P.acs c (ps.take i) (fun p hp => (hfit p (List.mem_of_mem_take hp)).f)
        have h3 : (ps.take i).length ≤ 50 := by rw [List.length_take]; omega
        omega
      have ba : ∀ k, -92233720368547758080000 ≤ sumC (fun c => curSum P.acs c (ps.map swapP)) (cur6.take k) ∧ sumC (fun c => curSum P.acs c (ps.map swapP)) (cur6.take k) ≤ 92233720368547758080000 := fun k => by
        have h1 := sumC_bd (f := fun c => curSum P.acs c (ps.map swapP)) (M := 9223372036854775808000) (fun c => by have := (bu c ps.length).2; rwa [List.take_length] at this) (cur6.take k)
        have h2 : (cur6.take k).length ≤ 6 := by rw [List.length_take]; exact Nat.min_le_right _ _
        have h3 : ((cur6.take k).length : Int) * 9223372036854775808000 ≤ 6 * 9223372036854775808000 := Int.mul_le_mul_of_nonneg_right (by omega) (by decide)
        omega
      refine wp_exit ?_
      refine x_then (x_then (x_hit ?_))
      refine n_then (c_seq (c_region ?_))
      refine L_op (s_callN hS .nil cf79 rfl (xCodes_P _) ?_); clear hS a; (try clear w); intro x105 a w hS
      rw [hcd] at hS
      refine L_e hS (e_assign rfl) rfl ?_; clear hS a; intro a hS
      refine L_nil (n_then (c_seq (c_region ?_)))
      refine L_e hS (e_build ty_z139 ty_pl139 .nil) rfl ?_; clear hS a; intro a hS
      refine L_op (s_alloc hS ty_z139 rfl ?_); clear hS a; (try clear w); intro a w b14 hS
      refine L_op (s_storeA hS rfl rfl ty_sz139 (by repeat constructor) (by rfl) (by rfl) (by rfl) ?_); clear hS; (try clear w); intro w hS
      refine L_nil (n_then (c_seq (c_seq (c_region ?_))))
      refine L_e hS (e_assign rfl) rfl ?_; clear hS a; intro a hS
      refine L_nil (n_then (wp_block ?_))
      replace hS := hS.swap (X := .blk b14 [.bool false, .slice none 0 0] 139) (Y := .blk b14 [.bool (decide ((0 : Int) < 0)), sliceV none (dgs (0 : Int).natAbs).length 0] 139) (by repeat constructor) (by rw [dg_len0]; exact hS.ok (.blk b14 [.bool false, .slice none 0 0] 139) (by repeat constructor)) (fun _ hb => hb) rfl
      replace hS := (hS.more (Y := dgP 0 none) dgP0 (fun b hb => by obtain ⟨off, e⟩ := hb; cases e))
      refine c_loop (γ := Nat) (fun k a w => ∃ (p2 : Option (Nat × Nat)) (d2 : Nat), St 207 noB w0 a w [(15, .int .i64 (k : Int)), (14, .pointer (some ⟨b14, 0, none⟩)), (13, .slice (some ⟨x105, 0, none⟩) 6 6), (0, .pointer (some ⟨b, 0, none⟩)), (3, .slice qu ps.length cu)] [.blk b14 [.bool (decide (sumC (fun c => curSum P.acs c (ps.map swapP)) (cur6.take k) < 0)), sliceV p2 (dgs (sumC (fun c => curSum P.acs c (ps.map swapP)) (cur6.take k)).natAbs).length d2] 139, dgP (sumC (fun c => curSum P.acs c (ps.map swapP)) (cur6.take k)) p2, .blk x105 (cur6.flatMap fun x => [.string x]) 9, rlPA b s (.slice qu ps.length cu) ps] ∧ k ≤ 6 ∧ ∀ c, c ∈ cur6.take k → curSum P.acs c ps = 0) (fun k => 6 - k) 0 ⟨none, 0, (hS.slots (by repeat (first | exact trivial | refine ⟨rfl, ?_⟩))).pick (by repeat (first | exact Pick.nil | (refine Pick.cons (by repeat (first | exact Rem.head | apply Rem.tail)) ?_))), Nat.zero_le _, fun c hc => by cases hc⟩ ?_
      clear hS a; (try clear w); intro k a w hI
      obtain ⟨p2, d2, hS, hk, hzs⟩ := hI
      refine c_seq (c_seq (c_region ?_))
      refine L_e hS (e_move rfl) rfl ?_; clear hS a; intro a hS
      refine L_e hS (e_move rfl) rfl ?_; clear hS a; intro a hS
      refine L_e hS (e_len rfl rfl ty_sl154) rfl ?_; clear hS a; intro a hS
      refine L_e hS (e_bin rfl rfl rfl) rfl ?_; clear hS a; intro a hS
      refine L_nil (n_then ?_)
      first | refine c_ifD hS rfl (fun hc110 => ?_) (fun hc110 => ?_) | refine c_if hS rfl (fun hc110 => ?_) (fun hc110 => ?_)
      ·
        obtain ⟨c, hc⟩ : ∃ c, cur6[k]? = some c := ⟨cur6[k]'(by show k < 6; omega), List.getElem?_eq_getElem (by show k < 6; omega)⟩
        have hck := sumC_take (fun c => curSum P.acs c (ps.map swapP)) hc
        have htc : cur6.take (k + 1) = cur6.take k ++ [c] := by rw [List.take_add_one, hc]; rfl
        have bA := ba k
        generalize hA : sumC (fun c => curSum P.acs c (ps.map swapP)) (cur6.take k) = A at hS hck bA
        refine wp_skip (n_then (c_seq (wp_block (c_seq (c_region ?_)))))
        refine L_e hS (e_build ty_z139 ty_pl139 .nil) rfl ?_; clear hS a; intro a hS
        refine L_op (s_alloc hS ty_z139 rfl ?_); clear hS a; (try clear w); intro a w b16 hS
        refine L_op (s_storeA hS rfl rfl ty_sz139 (by repeat constructor) (by rfl) (by rfl) (by rfl) ?_); clear hS; (try clear w); intro w hS
        refine L_nil (n_then (c_seq (c_seq (c_region ?_))))
        refine L_e hS (e_assign rfl) rfl ?_; clear hS a; intro a hS
        refine L_nil (n_then (wp_block ?_))
        replace hS := hS.swap (X := .blk b16 [.bool false, .slice none 0 0] 139) (Y := .blk b16 [.bool (decide ((0 : Int) < 0)), sliceV none (dgs (0 : Int).natAbs).length 0] 139) (by repeat constructor) (by rw [dg_len0]; exact hS.ok (.blk b16 [.bool false, .slice none 0 0] 139) (by repeat constructor)) (fun _ hb => hb) rfl
        replace hS := (hS.more (Y := dgP 0 none) dgP0 (fun b hb => by obtain ⟨off, e⟩ := hb; cases e))
        refine c_loop (γ := Nat) (fun i a w => ∃ (p1 p2 : Option (Nat × Nat)) (d1 d2 : Nat), St 207 noB w0 a w [(17, .int .i64 (i : Int)), (16, .pointer (some ⟨b16, 0, none⟩)), (15, .int .i64 (k : Int)), (14, .pointer (some ⟨b14, 0, none⟩)), (13, .slice (some ⟨x105, 0, none⟩) 6 6), (0, .pointer (some ⟨b, 0, none⟩)), (3, .slice qu ps.length cu)] [.blk b16 [.bool (decide (curSum P.acs c (ps.take i) < 0)), sliceV p1 (dgs (curSum P.acs c (ps.take i)).natAbs).length d1] 139, dgP (curSum P.acs c (ps.take i)) p1, .blk b14 [.bool (decide (A + curSum P.acs c ((ps.take i).map swapP) < 0)), sliceV p2 (dgs (A + curSum P.acs c ((ps.take i).map swapP)).natAbs).length d2] 139, dgP (A + curSum P.acs c ((ps.take i).map swapP)) p2, .blk x105 (cur6.flatMap fun x => [.string x]) 9, rlPA b s (.slice qu ps.length cu) ps] ∧ i ≤ ps.length) (fun i => ps.length - i) 0 ⟨none, p2, 0, d2, by rw [show curSum P.acs c (ps.take 0) = 0 from rfl, show curSum P.acs c ((ps.take 0).map swapP) = 0 from rfl, Int.add_zero]; exact (hS.slots (by repeat (first | exact trivial | refine ⟨rfl, ?_⟩))).pick (by repeat (first | exact Pick.nil | (refine Pick.cons (by repeat (first | exact Rem.head | apply Rem.tail)) ?_))), Nat.zero_le _⟩ ?_
        clear hS a; (try clear w); intro i a w hI
        obtain ⟨p1, p2, d1, d2, hS, hi⟩ := hI
        refine c_seq (c_seq (c_region ?_))
        refine L_e hS (e_move rfl) rfl ?_; clear hS a; intro a hS
        refine L_e hS (e_move rfl) rfl ?_; clear hS a; intro a hS
        refine L_e hS (e_len rfl rfl ty_sl54) rfl ?_; clear hS a; intro a hS
        refine L_e hS (e_bin rfl rfl rfl) rfl ?_; clear hS a; intro a hS
        refine L_nil (n_then ?_)
        first | refine c_ifD hS rfl (fun hc117 => ?_) (fun hc117 => ?_) | refine c_if hS rfl (fun hc117 => ?_) (fun hc117 => ?_)
        ·
          have hil : i < ps.length := by omega
          obtain ⟨x, hx⟩ : ∃ x, ps[i]? = some x := ⟨ps[i], List.getElem?_eq_getElem hil⟩
          obtain ⟨g, rfl⟩ : ∃ g, qu = some ⟨g, 0, none⟩ := by rcases hsu with ⟨_, e⟩ | e; exact absurd e (by omega); exact e
          have hxf := hfit x (List.mem_of_getElem? hx)
          have hxu := hxf.u
          have hxw := hxf.f
          have htk : ps.take (i + 1) = ps.take i ++ [x] := by rw [List.take_add_one, hx]; rfl
          have e1 := curSum_snoc P.acs c (ps.take i) x
          have e2 := curSwap_snoc P.acs c (ps.take i) x
          rw [← htk] at e1 e2
          have b1' := (bu c i).1
          have b2' := (bu c i).2
          have hcx : (accOf s.acs x.acc).cur = curOf P.acs x.acc := by rw [hao]; rfl
          refine wp_skip (n_then (c_seq (wp_block (c_seq (c_region ?_)))))
          refine L_e hS (e_move rfl) rfl ?_; clear hS a; intro a hS
          refine L_e hS (e_move rfl) rfl ?_; clear hS a; intro a hS
          refine L_e hS (e_move rfl) rfl ?_; clear hS a; intro a hS
          refine L_e hS (e_ixN rfl rfl ty_sl54 ty_sz124 (by omega)) rfl ?_; clear hS a; intro a hS
          (first | refine L_e hS (e_fa0 rfl ty_fo124_0) rfl ?_ | refine L_e hS (e_faK rfl ty_fo124_0) rfl ?_); clear hS a; intro a hS
          refine L_e hS (e_loadC rfl ty_sc9 (fun w hh => rlP_get (by repeat constructor) hx w hh 0 (.string x.acc) rfl)) rfl ?_; clear hS a; intro a hS
          refine L_op (s_callP hS (.cons rfl (.cons rfl .nil)) cf46 rfl (rlFind_P b s x.acc (by omega) _ (hS.get (X := rlPA b s (.slice (some ⟨g, 0, none⟩) ps.length cu) ps) (by repeat constructor)).rl) ?_); clear hS a; (try clear w); intro a w hS
          refine L_e hS (e_move rfl) rfl ?_; clear hS a; intro a hS
          refine L_e hS (e_extract rfl rfl) rfl ?_; clear hS a; intro a hS
          refine L_e hS (e_extract rfl rfl) rfl ?_; clear hS a; intro a hS
          refine L_op (s_alloc hS ty_z51 rfl ?_); clear hS a; (try clear w); intro a w b18 hS
          refine L_op (s_storeA hS rfl rfl ty_sz51 (by repeat constructor) (by rfl) (by rfl) (by rfl) ?_); clear hS; (try clear w); intro w hS
          refine L_e hS (e_assign rfl) rfl ?_; clear hS a; intro a hS
          refine L_nil (n_then (c_seq ?_))
          refine c_drawS [] (by kernel_rfl) hS (sub_cons (X := .blk b18 (encAc (accOf s.acs x.acc)) 51) (by repeat constructor) (sub_cons (X := .blk x105 (cur6.flatMap fun x => [.string x]) 9) (by repeat constructor) sub_nil)) ?_; clear hS; (try clear w); intro w hS
          simp only [List.length_cons, List.length_nil, Nat.zero_add, Nat.reduceAdd, List.replicate]
          (first | refine Zt0 0 (tf 1 6) hS rfl want_none (e_fa0 rfl ty_fo51_1) rfl (by kernel_rfl) rfl ?_ | refine Zt0 0 (tf 1 6) hS rfl want_none (e_faK rfl ty_fo51_1) rfl (by kernel_rfl) rfl ?_); clear hS a; intro a hS
          refine Zt 1 (tf 2 5) hS rfl want_none (e_load rfl (by repeat constructor) ty_sc9 (by rfl)) rfl (by kernel_rfl) (sub_cons (by repeat constructor) (sub_cons (by repeat constructor) sub_nil)) rfl ?_; clear hS a; intro a hS
          refine Zt0 2 (tf 3 4) hS rfl want_none (e_move rfl) rfl (by kernel_rfl) rfl ?_; clear hS a; intro a hS
          refine Zt0 3 (tf 4 3) hS rfl want_none (e_move rfl) rfl (by kernel_rfl) rfl ?_; clear hS a; intro a hS
          refine Zt0 4 (tf 5 2) hS rfl want_none (e_ixN rfl rfl ty_sl154 ty_sz9 (by omega)) rfl (by kernel_rfl) rfl ?_; clear hS a; intro a hS
          refine Zt 5 (tf 6 1) hS rfl want_none (e_loadC rfl ty_sc9 (fun w hh => blkrow_getL (enc := fun x => [Value.string x]) (s := 1) (by repeat constructor) (fun _ => rfl) hc w hh 0 (.string c) rfl)) rfl (by kernel_rfl) (sub_cons (by repeat constructor) (sub_cons (by repeat constructor) sub_nil)) rfl ?_; clear hS a; intro a hS
          refine Zt0 6 (tf 7 0) hS rfl want_none (e_binS rfl rfl rfl) rfl (by kernel_rfl) rfl ?_; clear hS a; intro a hS
          refine Z_done (by kernel_rfl) ?_
          refine n_then ?_
          first | refine c_ifD hS rfl (fun hc136 => ?_) (fun hc136 => ?_) | refine c_if hS rfl (fun hc136 => ?_) (fun hc136 => ?_)
          ·
            have hcc : curOf P.acs x.acc = c := by rw [← hcx]; exact hc136
            rw [if_pos hcc] at e1 e2
            generalize hU : curSum P.acs c (ps.take i) = U at hS e1 b1'
            generalize hW : curSum P.acs c ((ps.take i).map swapP) = W at hS e2 b2'
            refine c_seq ?_
            refine c_drawS [8] (by kernel_rfl) hS (sub_cons (X := .blk b16 _ _) (by repeat constructor) (sub_cons (X := rlPA b s (.slice (some ⟨g, 0, none⟩) ps.length cu) ps) (by repeat constructor) sub_nil)) ?_; clear hS; (try clear w); intro w hS
            simp only [List.length_cons, List.length_nil, Nat.zero_add, Nat.reduceAdd, List.replicate]
            refine Zt 0 (tf 1 8) hS rfl want_none (e_loadA rfl (by repeat constructor) ty_st139 ty_sz139 (by rfl)) rfl (by kernel_rfl) (sub_cons (by repeat constructor) (sub_cons (by repeat constructor) sub_nil)) rfl ?_; clear hS a; intro a hS
            refine Zt0 1 (tf 2 7) hS rfl want_none (e_move rfl) rfl (by kernel_rfl) rfl ?_; clear hS a; intro a hS
            refine Zt0 2 (tf 3 6) hS rfl want_none (e_move rfl) rfl (by kernel_rfl) rfl ?_; clear hS a; intro a hS
            refine Zt0 3 (tf 4 5) hS rfl want_none (e_ixN rfl rfl ty_sl54 ty_sz124 (by omega)) rfl (by kernel_rfl) rfl ?_; clear hS a; intro a hS
            (first | refine Zt0 4 (tf 5 4) hS rfl want_none (e_fa0 rfl ty_fo124_1) rfl (by kernel_rfl) rfl ?_ | refine Zt0 4 (tf 5 4) hS rfl want_none (e_faK rfl ty_fo124_1) rfl (by kernel_rfl) rfl ?_); clear hS a; intro a hS
            refine Zt 5 (tf 6 3) hS rfl want_none (e_loadC rfl ty_sc3 (fun w hh => rlP_get (by repeat constructor) hx w hh 1 (.int .i64 x.u) rfl)) rfl (by kernel_rfl) (sub_cons (by repeat constructor) (sub_cons (by repeat constructor) sub_nil)) rfl ?_; clear hS a; intro a hS
            refine Z_one (i := 6) rfl (want_none a hS.sl) (listed' := (tf 7 2)) rfl (by kernel_rfl) (s_callN hS (.cons rfl .nil) cf62 rfl (BigOf_P x.u (by omega) _) ?_); clear hS a; (try clear w); intro x143 a w hS
            refine Z_and hS (sub_cons (by repeat constructor) (sub_cons (by repeat constructor) sub_nil)) ?_
            have hA := BigAdd_P p1 (some (x143.1.1, 0)) d1 x143.1.2 U x.u 20 (by decide) (len20 (by omega)) (len20 (by omega)) _ (two_ok (hS.get (X := dgP U p1) (by repeat constructor)) (hS.get (X := bigA x.u x143.1.1) (by repeat constructor)) (fun r e => (hS.ok (dgP U p1) (by repeat constructor)).lt r.1 ⟨r.2, e⟩) (fun r e => by cases e; exact (hS.ok (bigA x.u x143.1.1) (by repeat constructor)).lt _ rfl))
            refine Z_one (i := 7) rfl (want_none a hS.sl) (listed' := (tf 8 1)) rfl (by kernel_rfl) (s_callN hS (.cons rfl (.cons rfl .nil)) cf63 rfl (hA) ?_); clear hS a; (try clear w); intro x144 a w hS
            clear hA
            refine Z_and hS (sub_cons (by repeat constructor) (sub_cons (by repeat constructor) sub_nil)) ?_
            refine Z_one (i := 8) rfl (want_none a hS.sl) (listed' := (tf 9 0)) rfl (by kernel_rfl) (s_storeA hS rfl rfl ty_sz139 (by repeat constructor) (by rfl) (by rfl) (by rfl) ?_); clear hS; (try clear w); intro w hS
            refine Z_last (by simp) ?_
            refine Z_done (by kernel_rfl) ?_
            refine n_then ?_
            refine c_drawS [8] (by kernel_rfl) hS (sub_cons (X := .blk b14 _ _) (by repeat constructor) (sub_cons (X := rlPA b s (.slice (some ⟨g, 0, none⟩) ps.length cu) ps) (by repeat constructor) sub_nil)) ?_; clear hS; (try clear w); intro w hS
            simp only [List.length_cons, List.length_nil, Nat.zero_add, Nat.reduceAdd, List.replicate]
            refine Zt 0 (tf 1 8) hS rfl want_none (e_loadA rfl (by repeat constructor) ty_st139 ty_sz139 (by rfl)) rfl (by kernel_rfl) (sub_cons (by repeat constructor) (sub_cons (by repeat constructor) sub_nil)) rfl ?_; clear hS a; intro a hS
            refine Zt0 1 (tf 2 7) hS rfl want_none (e_move rfl) rfl (by kernel_rfl) rfl ?_; clear hS a; intro a hS
            refine Zt0 2 (tf 3 6) hS rfl want_none (e_move rfl) rfl (by kernel_rfl) rfl ?_; clear hS a; intro a hS
            refine Zt0 3 (tf 4 5) hS rfl want_none (e_ixN rfl rfl ty_sl54 ty_sz124 (by omega)) rfl (by kernel_rfl) rfl ?_; clear hS a; intro a hS
            (first | refine Zt0 4 (tf 5 4) hS rfl want_none (e_fa0 rfl ty_fo124_2) rfl (by kernel_rfl) rfl ?_ | refine Zt0 4 (tf 5 4) hS rfl want_none (e_faK rfl ty_fo124_2) rfl (by kernel_rfl) rfl ?_); clear hS a; intro a hS
            refine Zt 5 (tf 6 3) hS rfl want_none (e_loadC rfl ty_sc3 (fun w hh => rlP_get (by repeat constructor) hx w hh 2 (.int .i64 x.f) rfl)) rfl (by kernel_rfl) (sub_cons (by repeat constructor) (sub_cons (by repeat constructor) sub_nil)) rfl ?_; clear hS a; intro a hS
            refine Z_one (i := 6) rfl (want_none a hS.sl) (listed' := (tf 7 2)) rfl (by kernel_rfl) (s_callN hS (.cons rfl .nil) cf62 rfl (BigOf_P x.f (by omega) _) ?_); clear hS a; (try clear w); intro x151 a w hS
            refine Z_and hS (sub_cons (by repeat constructor) (sub_cons (by repeat constructor) sub_nil)) ?_
            have hA := BigAdd_P p2 (some (x151.1.1, 0)) d2 x151.1.2 (A + W) x.f 20 (by decide) (len20 (by omega)) (len20 (by omega)) _ (two_ok (hS.get (X := dgP (A + W) p2) (by repeat constructor)) (hS.get (X := bigA x.f x151.1.1) (by repeat constructor)) (fun r e => (hS.ok (dgP (A + W) p2) (by repeat constructor)).lt r.1 ⟨r.2, e⟩) (fun r e => by cases e; exact (hS.ok (bigA x.f x151.1.1) (by repeat constructor)).lt _ rfl))
            refine Z_one (i := 7) rfl (want_none a hS.sl) (listed' := (tf 8 1)) rfl (by kernel_rfl) (s_callN hS (.cons rfl (.cons rfl .nil)) cf63 rfl (hA) ?_); clear hS a; (try clear w); intro x152 a w hS
            clear hA
            refine Z_and hS (sub_cons (by repeat constructor) (sub_cons (by repeat constructor) sub_nil)) ?_
            refine Z_one (i := 8) rfl (want_none a hS.sl) (listed' := (tf 9 0)) rfl (by kernel_rfl) (s_storeA hS rfl rfl ty_sz139 (by repeat constructor) (by rfl) (by rfl) (by rfl) ?_); clear hS; (try clear w); intro w hS
            refine Z_last (by simp) ?_
            refine Z_done (by kernel_rfl) ?_
            refine n_block (n_then (c_region ?_))
            refine L_e hS (e_move rfl) rfl ?_; clear hS a; intro a hS
            (first | refine L_e hS (e_binN rfl rfl rfl (by omega)) rfl ?_ | refine L_e hS (e_bin rfl rfl rfl) rfl ?_); clear hS a; intro a hS
            refine L_e hS (e_assign rfl) rfl ?_; clear hS a; intro a hS
            refine L_nil ?_
            first
            | (have hne : ¬ (accOf s.acs x.acc).cur = c := hc136
               rw [hcx] at hne
               rw [if_neg hne, Int.add_zero] at e1 e2
               refine ⟨i + 1, by omega, p1, p2, d1, d2, ?_, by omega⟩
               rw [e1, e2]
               exact (hS.slots (by repeat (first | exact trivial | refine ⟨rfl, ?_⟩))).pick (by repeat (first | exact Pick.nil | (refine Pick.cons (by repeat (first | exact Rem.head | apply Rem.tail)) ?_))))
            | (replace hS := hS.swap (X := bigA (U + x.u) x144.1.1) (Y := dgP (U + x.u) (some (x144.1.1, 0))) (by repeat constructor) (dgP_of (hS.ok (bigA (U + x.u) x144.1.1) (by repeat constructor))) (fun b hb => by obtain ⟨off, e⟩ := hb; cases e; rfl) rfl
               replace hS := hS.swap (X := bigA (A + W + x.f) x152.1.1) (Y := dgP (A + W + x.f) (some (x152.1.1, 0))) (by repeat constructor) (dgP_of (hS.ok (bigA (A + W + x.f) x152.1.1) (by repeat constructor))) (fun b hb => by obtain ⟨off, e⟩ := hb; cases e; rfl) rfl
               refine ⟨i + 1, by omega, some (x144.1.1, 0), some (x152.1.1, 0), x144.1.2, x152.1.2, ?_, by omega⟩
               rw [e1, e2, ← Int.add_assoc]
               exact (hS.slots (by repeat (first | exact trivial | refine ⟨rfl, ?_⟩))).pick (by repeat (first | exact Pick.nil | (refine Pick.cons (by repeat (first | exact Rem.head | apply Rem.tail)) ?_))))
          refine wp_skip (n_block (n_then (c_region ?_)))
          refine L_e hS (e_move rfl) rfl ?_; clear hS a; intro a hS
          (first | refine L_e hS (e_binN rfl rfl rfl (by omega)) rfl ?_ | refine L_e hS (e_bin rfl rfl rfl) rfl ?_); clear hS a; intro a hS
          refine L_e hS (e_assign rfl) rfl ?_; clear hS a; intro a hS
          refine L_nil ?_
          first
          | (have hne : ¬ (accOf s.acs x.acc).cur = c := hc136
             rw [hcx] at hne
             rw [if_neg hne, Int.add_zero] at e1 e2
             refine ⟨i + 1, by omega, p1, p2, d1, d2, ?_, by omega⟩
             rw [e1, e2]
             exact (hS.slots (by repeat (first | exact trivial | refine ⟨rfl, ?_⟩))).pick (by repeat (first | exact Pick.nil | (refine Pick.cons (by repeat (first | exact Rem.head | apply Rem.tail)) ?_))))
          | (replace hS := hS.swap (X := bigA (U + x.u) x144.1.1) (Y := dgP (U + x.u) (some (x144.1.1, 0))) (by repeat constructor) (dgP_of (hS.ok (bigA (U + x.u) x144.1.1) (by repeat constructor))) (fun b hb => by obtain ⟨off, e⟩ := hb; cases e; rfl) rfl
             replace hS := hS.swap (X := bigA (A + W + x.f) x152.1.1) (Y := dgP (A + W + x.f) (some (x152.1.1, 0))) (by repeat constructor) (dgP_of (hS.ok (bigA (A + W + x.f) x152.1.1) (by repeat constructor))) (fun b hb => by obtain ⟨off, e⟩ := hb; cases e; rfl) rfl
             refine ⟨i + 1, by omega, some (x144.1.1, 0), some (x152.1.1, 0), x144.1.2, x152.1.2, ?_, by omega⟩
             rw [e1, e2, ← Int.add_assoc]
             exact (hS.slots (by repeat (first | exact trivial | refine ⟨rfl, ?_⟩))).pick (by repeat (first | exact Pick.nil | (refine Pick.cons (by repeat (first | exact Rem.head | apply Rem.tail)) ?_))))
        obtain rfl : i = ps.length := by omega
        rw [List.take_length] at hS
        refine wp_exit ?_
        refine x_then (x_then (x_hit ?_))
        refine n_then (c_seq (c_region ?_))
        (first | refine L_e hS (e_fa0 rfl ty_fo139_1) rfl ?_ | refine L_e hS (e_faK rfl ty_fo139_1) rfl ?_); clear hS a; intro a hS
        refine L_e hS (e_load rfl (by repeat constructor) ty_sc137 (by rfl)) rfl ?_; clear hS a; intro a hS
        refine L_e hS (e_len rfl rfl ty_sl137) rfl ?_; clear hS a; intro a hS
        refine L_e hS (e_bin rfl rfl rfl) rfl ?_; clear hS a; intro a hS
        refine L_nil (n_then ?_)
        first | refine c_ifD hS rfl (fun hc156 => ?_) (fun hc156 => ?_) | refine c_if hS rfl (fun hc156 => ?_) (fun hc156 => ?_)
        ·
          refine c_seq (c_region ?_)
          refine L_e hS (e_assign rfl) rfl ?_; clear hS a; intro a hS
          refine L_nil (n_then (wp_ret ?_))
          refine r_block (r_then (r_then (r_block (r_then ?_))))
          refine c_ret1 hS Tryz.results53 (.tmp rfl) ?_
          have hne : curSum P.acs c ps ≠ 0 := fun e => by rw [e, dg_len0] at hc156; simp at hc156
          have hev2 : ¬ evenF P.acs ps := fun e => hne (((even_iff P.acs ps).1 e).1 c)
          exact ⟨by rw [hpre, if_pos hev2], hS.chg⟩
        refine wp_skip (n_block (n_then (c_region ?_)))
        refine L_e hS (e_move rfl) rfl ?_; clear hS a; intro a hS
        (first | refine L_e hS (e_binN rfl rfl rfl (by omega)) rfl ?_ | refine L_e hS (e_bin rfl rfl rfl) rfl ?_); clear hS a; intro a hS
        refine L_e hS (e_assign rfl) rfl ?_; clear hS a; intro a hS
        refine L_nil ?_
        have hcz : curSum P.acs c ps = 0 := Classical.byContradiction fun e => hc156 (by have := dg_pos e; omega)
        refine ⟨k + 1, by omega, p2, d2, by rw [hck]; exact (hS.slots (by repeat (first | exact trivial | refine ⟨rfl, ?_⟩))).pick (by repeat (first | exact Pick.nil | (refine Pick.cons (by repeat (first | exact Rem.head | apply Rem.tail)) ?_))), by omega, fun d hd => ?_⟩
        rw [htc] at hd
        rcases List.mem_append.1 hd with hd | hd
        · exact hzs d hd
        · rw [List.mem_singleton.1 hd]; exact hcz
      obtain rfl : k = 6 := by omega
      rw [show cur6.take 6 = cur6 from rfl] at hS hzs
      have hsf := sumC_cur P.acs ps hpc
      rw [hsf] at hS
      have hcz : ∀ c, curSum P.acs c ps = 0 := fun c => by
        by_cases e : c ∈ cur6
        · exact hzs c e
        · exact cur_out P.acs c ps (fun p hp e2 => e (by rw [← e2]; exact hpc p hp))
      refine wp_exit ?_
      refine x_then (x_then (x_hit ?_))
      refine n_then (c_seq (c_seq (c_region ?_)))
      (first | refine L_e hS (e_fa0 rfl ty_fo139_1) rfl ?_ | refine L_e hS (e_faK rfl ty_fo139_1) rfl ?_); clear hS a; intro a hS
      refine L_e hS (e_load rfl (by repeat constructor) ty_sc137 (by rfl)) rfl ?_; clear hS a; intro a hS
      refine L_e hS (e_len rfl rfl ty_sl137) rfl ?_; clear hS a; intro a hS
      refine L_e hS (e_bin rfl rfl rfl) rfl ?_; clear hS a; intro a hS
      refine L_nil (n_then ?_)
      first | refine c_ifD hS rfl (fun hc160 => ?_) (fun hc160 => ?_) | refine c_if hS rfl (fun hc160 => ?_) (fun hc160 => ?_)
      ·
        refine c_seq (c_region ?_)
        refine L_e hS (e_assign rfl) rfl ?_; clear hS a; intro a hS
        refine L_nil (n_then (wp_ret (r_then ?_)))
        refine c_ret1 hS Tryz.results53 (.tmp rfl) ?_
        have hne : sumFn ps ≠ 0 := fun e => by rw [e, dg_len0] at hc160; simp at hc160
        have hev2 : ¬ evenF P.acs ps := fun e => hne ((even_iff P.acs ps).1 e).2
        exact ⟨by rw [hpre, if_pos hev2], hS.chg⟩
      have hfz : sumFn ps = 0 := Classical.byContradiction fun e => hc160 (by have := dg_pos e; omega)
      have hev2 : evenF P.acs ps := (even_iff P.acs ps).2 ⟨hcz, hfz⟩
      rw [if_neg (fun e => e hev2)] at hpre
      refine wp_skip (n_then (c_seq (c_seq (c_region ?_))))
      refine L_e hS (e_assign rfl) rfl ?_; clear hS a; intro a hS
      refine L_nil (n_then (wp_block ?_))
      skip
      refine c_loop (γ := Nat) (fun i a w => St 207 noB w0 a w [(20, .int .i64 (i : Int)), (0, .pointer (some ⟨b, 0, none⟩)), (3, .slice qu ps.length cu)] [rlPA b s (.slice qu ps.length cu) ps] ∧ i ≤ ps.length ∧ ∀ j y, j < i → ps[j]? = some y → okS (addS (totOf P.tot y.acc) y)) (fun i => ps.length - i) 0 ⟨(hS.slots (by repeat (first | exact trivial | refine ⟨rfl, ?_⟩))).pick (by repeat (first | exact Pick.nil | (refine Pick.cons (by repeat (first | exact Rem.head | apply Rem.tail)) ?_))), Nat.zero_le _, fun j y hj => by omega⟩ ?_
      clear hS a; (try clear w); intro i a w hI
      obtain ⟨hS, hi, hok⟩ := hI
      refine c_seq (c_seq (c_region ?_))
      refine L_e hS (e_move rfl) rfl ?_; clear hS a; intro a hS
      refine L_e hS (e_move rfl) rfl ?_; clear hS a; intro a hS
      refine L_e hS (e_len rfl rfl ty_sl54) rfl ?_; clear hS a; intro a hS
      refine L_e hS (e_bin rfl rfl rfl) rfl ?_; clear hS a; intro a hS
      refine L_nil (n_then ?_)
      first | refine c_ifD hS rfl (fun hc164 => ?_) (fun hc164 => ?_) | refine c_if hS rfl (fun hc164 => ?_) (fun hc164 => ?_)
      ·
        have hil : i < ps.length := by omega
        obtain ⟨x, hx⟩ : ∃ x, ps[i]? = some x := ⟨ps[i], List.getElem?_eq_getElem hil⟩
        obtain ⟨g, rfl⟩ : ∃ g, qu = some ⟨g, 0, none⟩ := by rcases hsu with ⟨_, e⟩ | e; exact absurd e (by omega); exact e
        have hxm := List.mem_of_getElem? hx
        have hxf := hfit x hxm
        have hxu := hxf.u
        have hxw := hxf.f
        have htt := sum_all hwf hrel x.acc
        have hto := balT_of hwf.bal x.acc
        refine wp_skip (n_then (c_seq (wp_block (c_seq (c_region ?_)))))
        refine L_e hS (e_move rfl) rfl ?_; clear hS a; intro a hS
        refine L_e hS (e_move rfl) rfl ?_; clear hS a; intro a hS
        refine L_e hS (e_move rfl) rfl ?_; clear hS a; intro a hS
        refine L_e hS (e_ixN rfl rfl ty_sl54 ty_sz124 (by omega)) rfl ?_; clear hS a; intro a hS
        (first | refine L_e hS (e_fa0 rfl ty_fo124_0) rfl ?_ | refine L_e hS (e_faK rfl ty_fo124_0) rfl ?_); clear hS a; intro a hS
        refine L_e hS (e_loadC rfl ty_sc9 (fun w hh => rlP_get (by repeat constructor) hx w hh 0 (.string x.acc) rfl)) rfl ?_; clear hS a; intro a hS
        refine L_op (s_callN hS (.cons rfl (.cons rfl (.cons rfl .nil))) cf82 rfl (rlSums_P b s x.acc 1099511627776 hR _ (hS.get (X := rlPA b s (.slice (some ⟨g, 0, none⟩) ps.length cu) ps) (by repeat constructor)).rl) ?_); clear hS a; (try clear w); intro x174 a w hS
        obtain ⟨⟨p1, d1⟩, ⟨p2, d2⟩⟩ := x174
        rw [htt] at hS
        simp only at hS
        generalize hZ : totOf P.tot x.acc = Z at hS hto
        obtain ⟨Z1, Z2⟩ := Z
        have hz1 := hto.1
        have hz2 := hto.2
        simp only at hS hz1 hz2
        unfold inU at hz1 hz2
        refine L_e hS (e_move rfl) rfl ?_; clear hS a; intro a hS
        refine L_e hS (e_extract rfl rfl) rfl ?_; clear hS a; intro a hS
        refine L_e hS (e_extract rfl rfl) rfl ?_; clear hS a; intro a hS
        refine L_op (s_alloc hS ty_z139 rfl ?_); clear hS a; (try clear w); intro a w b21 hS
        refine L_op (s_alloc hS ty_z139 rfl ?_); clear hS a; (try clear w); intro a w b22 hS
        refine L_op (s_storeA hS rfl rfl ty_sz139 (by repeat constructor) (by rfl) (by rfl) (by rfl) ?_); clear hS; (try clear w); intro w hS
        refine L_op (s_storeA hS rfl rfl ty_sz139 (by repeat constructor) (by rfl) (by rfl) (by rfl) ?_); clear hS; (try clear w); intro w hS
        refine L_nil (n_then (c_seq ?_))
        refine c_drawS [] (by kernel_rfl) hS (sub_cons (X := .blk b21 _ _) (by repeat constructor) (sub_cons (X := rlPA b s (.slice (some ⟨g, 0, none⟩) ps.length cu) ps) (by repeat constructor) sub_nil)) ?_; clear hS; (try clear w); intro w hS
        simp only [List.length_cons, List.length_nil, Nat.zero_add, Nat.reduceAdd, List.replicate]
        refine Zt 0 (tf 1 13) hS rfl want_none (e_loadA rfl (by repeat constructor) ty_st139 ty_sz139 (by rfl)) rfl (by kernel_rfl) (sub_cons (by repeat constructor) (sub_cons (by repeat constructor) sub_nil)) rfl ?_; clear hS a; intro a hS
        refine Zt0 1 (tf 2 12) hS rfl want_none (e_move rfl) rfl (by kernel_rfl) rfl ?_; clear hS a; intro a hS
        refine Zt0 2 (tf 3 11) hS rfl want_none (e_move rfl) rfl (by kernel_rfl) rfl ?_; clear hS a; intro a hS
        refine Zt0 3 (tf 4 10) hS rfl want_none (e_ixN rfl rfl ty_sl54 ty_sz124 (by omega)) rfl (by kernel_rfl) rfl ?_; clear hS a; intro a hS
        (first | refine Zt0 4 (tf 5 9) hS rfl want_none (e_fa0 rfl ty_fo124_1) rfl (by kernel_rfl) rfl ?_ | refine Zt0 4 (tf 5 9) hS rfl want_none (e_faK rfl ty_fo124_1) rfl (by kernel_rfl) rfl ?_); clear hS a; intro a hS
        refine Zt 5 (tf 6 8) hS rfl want_none (e_loadC rfl ty_sc3 (fun w hh => rlP_get (by repeat constructor) hx w hh 1 (.int .i64 x.u) rfl)) rfl (by kernel_rfl) (sub_cons (by repeat constructor) (sub_cons (by repeat constructor) sub_nil)) rfl ?_; clear hS a; intro a hS
        refine Z_one (i := 6) rfl (want_none a hS.sl) (listed' := (tf 7 7)) rfl (by kernel_rfl) (s_callN hS (.cons rfl .nil) cf62 rfl (BigOf_P x.u (by omega) _) ?_); clear hS a; (try clear w); intro x184 a w hS
        refine Z_and hS (sub_cons (by repeat constructor) (sub_cons (by repeat constructor) sub_nil)) ?_
        have hT := hS.ok (twoDg Z1 Z2 p1 p2) (by repeat constructor)
        have hA := BigAdd_P p1 (some (x184.1.1, 0)) d1 x184.1.2 Z1 x.u 20 (by decide) (len20 (by omega)) (len20 (by omega)) _ (two_ok hT.now.1 (hS.get (X := bigA x.u x184.1.1) (by repeat constructor)) (fun r e => hT.lt r.1 (.inl ⟨r.2, e⟩)) (fun r e => by cases e; exact (hS.ok (bigA x.u x184.1.1) (by repeat constructor)).lt _ rfl))
        refine Z_one (i := 7) rfl (want_none a hS.sl) (listed' := (tf 8 6)) rfl (by kernel_rfl) (s_callN hS (.cons rfl (.cons rfl .nil)) cf63 rfl (hA) ?_); clear hS a; (try clear w); intro x185 a w hS
        clear hA hT
        refine Z_and hS (sub_cons (by repeat constructor) (sub_cons (by repeat constructor) sub_nil)) ?_
        refine Z_one (i := 8) rfl (want_none a hS.sl) (listed' := (tf 9 5)) rfl (by kernel_rfl) (s_callP hS (.cons rfl .nil) cf60 rfl (xUnits_P (some (x185.1.1, 0)) x185.1.2 (Z1 + x.u) (by have := len20 (z := Z1 + x.u) (by omega); omega) _ (one_of hS (z := Z1 + x.u) (b := x185.1.1) (by repeat constructor))) ?_); clear hS a; (try clear w); intro a w hS
        refine Z_and hS (sub_cons (by repeat constructor) (sub_cons (by repeat constructor) sub_nil)) ?_
        refine Zt0 9 (tf 10 4) hS rfl want_none (e_move rfl) rfl (by kernel_rfl) rfl ?_; clear hS a; intro a hS
        refine Zt0 10 (tf 11 3) hS rfl want_none (e_extract rfl rfl) rfl (by kernel_rfl) rfl ?_; clear hS a; intro a hS
        refine Zt0 11 (tf 12 2) hS rfl want_none (e_extract rfl rfl) rfl (by kernel_rfl) rfl ?_; clear hS a; intro a hS
        refine Zt0 12 (tf 13 1) hS rfl want_none (e_assign rfl) rfl (by kernel_rfl) rfl ?_; clear hS a; intro a hS
        refine Zt0 13 (tf 14 0) hS rfl want_none (e_assign rfl) rfl (by kernel_rfl) rfl ?_; clear hS a; intro a hS
        refine Z_done (by kernel_rfl) ?_
        refine n_then (c_seq ?_)
        refine c_drawS [] (by kernel_rfl) hS (sub_cons (X := .blk b22 _ _) (by repeat constructor) (sub_cons (X := rlPA b s (.slice (some ⟨g, 0, none⟩) ps.length cu) ps) (by repeat constructor) sub_nil)) ?_; clear hS; (try clear w); intro w hS
        simp only [List.length_cons, List.length_nil, Nat.zero_add, Nat.reduceAdd, List.replicate]
        refine Zt 0 (tf 1 13) hS rfl want_none (e_loadA rfl (by repeat constructor) ty_st139 ty_sz139 (by rfl)) rfl (by kernel_rfl) (sub_cons (by repeat constructor) (sub_cons (by repeat constructor) sub_nil)) rfl ?_; clear hS a; intro a hS
        refine Zt0 1 (tf 2 12) hS rfl want_none (e_move rfl) rfl (by kernel_rfl) rfl ?_; clear hS a; intro a hS
        refine Zt0 2 (tf 3 11) hS rfl want_none (e_move rfl) rfl (by kernel_rfl) rfl ?_; clear hS a; intro a hS
        refine Zt0 3 (tf 4 10) hS rfl want_none (e_ixN rfl rfl ty_sl54 ty_sz124 (by omega)) rfl (by kernel_rfl) rfl ?_; clear hS a; intro a hS
        (first | refine Zt0 4 (tf 5 9) hS rfl want_none (e_fa0 rfl ty_fo124_2) rfl (by kernel_rfl) rfl ?_ | refine Zt0 4 (tf 5 9) hS rfl want_none (e_faK rfl ty_fo124_2) rfl (by kernel_rfl) rfl ?_); clear hS a; intro a hS
        refine Zt 5 (tf 6 8) hS rfl want_none (e_loadC rfl ty_sc3 (fun w hh => rlP_get (by repeat constructor) hx w hh 2 (.int .i64 x.f) rfl)) rfl (by kernel_rfl) (sub_cons (by repeat constructor) (sub_cons (by repeat constructor) sub_nil)) rfl ?_; clear hS a; intro a hS
        refine Z_one (i := 6) rfl (want_none a hS.sl) (listed' := (tf 7 7)) rfl (by kernel_rfl) (s_callN hS (.cons rfl .nil) cf62 rfl (BigOf_P x.f (by omega) _) ?_); clear hS a; (try clear w); intro x196 a w hS
        refine Z_and hS (sub_cons (by repeat constructor) (sub_cons (by repeat constructor) sub_nil)) ?_
        have hT := hS.ok (twoDg Z1 Z2 p1 p2) (by repeat constructor)
        have hA := BigAdd_P p2 (some (x196.1.1, 0)) d2 x196.1.2 Z2 x.f 20 (by decide) (len20 (by omega)) (len20 (by omega)) _ (two_ok hT.now.2 (hS.get (X := bigA x.f x196.1.1) (by repeat constructor)) (fun r e => hT.lt r.1 (.inr ⟨r.2, e⟩)) (fun r e => by cases e; exact (hS.ok (bigA x.f x196.1.1) (by repeat constructor)).lt _ rfl))
        refine Z_one (i := 7) rfl (want_none a hS.sl) (listed' := (tf 8 6)) rfl (by kernel_rfl) (s_callN hS (.cons rfl (.cons rfl .nil)) cf63 rfl (hA) ?_); clear hS a; (try clear w); intro x197 a w hS
        clear hA hT
        refine Z_and hS (sub_cons (by repeat constructor) (sub_cons (by repeat constructor) sub_nil)) ?_
        refine Z_one (i := 8) rfl (want_none a hS.sl) (listed' := (tf 9 5)) rfl (by kernel_rfl) (s_callP hS (.cons rfl .nil) cf60 rfl (xUnits_P (some (x197.1.1, 0)) x197.1.2 (Z2 + x.f) (by have := len20 (z := Z2 + x.f) (by omega); omega) _ (one_of hS (z := Z2 + x.f) (b := x197.1.1) (by repeat constructor))) ?_); clear hS a; (try clear w); intro a w hS
        refine Z_and hS (sub_cons (by repeat constructor) (sub_cons (by repeat constructor) sub_nil)) ?_
        refine Zt0 9 (tf 10 4) hS rfl want_none (e_move rfl) rfl (by kernel_rfl) rfl ?_; clear hS a; intro a hS
        refine Zt0 10 (tf 11 3) hS rfl want_none (e_extract rfl rfl) rfl (by kernel_rfl) rfl ?_; clear hS a; intro a hS
        refine Zt0 11 (tf 12 2) hS rfl want_none (e_extract rfl rfl) rfl (by kernel_rfl) rfl ?_; clear hS a; intro a hS
        refine Zt0 12 (tf 13 1) hS rfl want_none (e_assign rfl) rfl (by kernel_rfl) rfl ?_; clear hS a; intro a hS
        refine Zt0 13 (tf 14 0) hS rfl want_none (e_assign rfl) rfl (by kernel_rfl) rfl ?_; clear hS a; intro a hS
        refine Z_done (by kernel_rfl) ?_
        refine n_then (c_seq (c_region ?_))
        refine L_e hS (e_move rfl) rfl ?_; clear hS a; intro a hS
        refine L_e hS (e_not rfl) rfl ?_; clear hS a; intro a hS
        refine L_e hS (e_move rfl) rfl ?_; clear hS a; intro a hS
        refine L_merge 3 206 (.bool (decide (¬ inU (Z1 + x.u) ∨ ¬ inU (Z2 + x.f)))) hS ?_ ?_
        · intro hcM206
          (first | refine g_splitD (t := 203) hS rfl ?_ ?_ | refine g_split (t := 203) hS rfl ?_ ?_) <;> (clear hS; intro hg203 hS)
          ·
            refine L_skip_f hS rfl rfl rfl ?_; clear hS a; intro a hS
            refine L_skip_f hS rfl rfl rfl ?_; clear hS a; intro a hS
            refine L_e hS (e_pk rfl rfl) rfl ?_; clear hS a; intro a hS
            exact hcM206 _ _ (hS.ends 4 206 203 rfl (congrArg Value.bool (by exact (decide_eq_true (.inl (by simpa using hg203))).symm)) rfl rfl (by first | exact congrArg Value.bool (decide_eq_true hg203).symm | exact congrArg Value.bool hg203.symm | simp [hg203]) rfl)
          refine L_ge hS rfl rfl (e_move rfl) rfl ?_; clear hS a; intro a hS
          refine L_ge hS rfl rfl (e_not rfl) rfl ?_; clear hS a; intro a hS
          refine L_e hS (e_pk rfl rfl) rfl ?_; clear hS a; intro a hS
          exact hcM206 _ _ (hS.ends 4 206 203 rfl (congrArg Value.bool (by rw [← decide_not, decide_eq_decide]; exact ⟨.inr, fun h => h.resolve_left (by simpa using hg203)⟩)) rfl rfl (by first | exact congrArg Value.bool (decide_eq_false hg203).symm | exact congrArg Value.bool hg203.symm | simp [hg203]) rfl)
        · clear hS a; (try clear w); intro a w hS
          simp only [List.drop_succ_cons, List.drop_zero]
          refine L_nil (n_then ?_)
          first | refine c_ifD hS rfl (fun hc206 => ?_) (fun hc206 => ?_) | refine c_if hS rfl (fun hc206 => ?_) (fun hc206 => ?_)
          ·
            refine c_seq (c_region ?_)
            refine L_e hS (e_assign rfl) rfl ?_; clear hS a; intro a hS
            refine L_nil (n_then (wp_ret ?_))
            refine r_block (r_then (r_then (r_block (r_then ?_))))
            refine c_ret1 hS Tryz.results53 (.tmp rfl) ?_
            have hex : ∃ y ∈ ps, ¬ okS (addS (totOf P.tot y.acc) y) := ⟨x, hxm, fun e => by rw [hZ] at e; exact hc206.elim (fun h => h e.1) (fun h => h e.2)⟩
            exact ⟨by rw [hpre, if_pos hex], hS.chg⟩
          refine wp_skip (n_block (n_then (c_region ?_)))
          refine L_e hS (e_move rfl) rfl ?_; clear hS a; intro a hS
          (first | refine L_e hS (e_binN rfl rfl rfl (by omega)) rfl ?_ | refine L_e hS (e_bin rfl rfl rfl) rfl ?_); clear hS a; intro a hS
          refine L_e hS (e_assign rfl) rfl ?_; clear hS a; intro a hS
          refine L_nil ?_
          exact ⟨i + 1, by omega, (hS.slots (by repeat (first | exact trivial | refine ⟨rfl, ?_⟩))).pick (by repeat (first | exact Pick.nil | (refine Pick.cons (by repeat (first | exact Rem.head | apply Rem.tail)) ?_))), by omega, fun j z hj hz => by
            by_cases e : j = i
            · subst e
              rw [hx] at hz; cases hz
              rw [hZ]
              exact ⟨Classical.byContradiction fun e => hc206 (.inl e), Classical.byContradiction fun e => hc206 (.inr e)⟩
            · exact hok j z (by omega) hz⟩
      refine wp_exit ?_
      refine x_then (x_then (x_hit ?_))
      refine n_then (c_seq (c_region ?_))
      refine L_e hS (e_assign rfl) rfl ?_; clear hS a; intro a hS
      refine L_nil (n_then (wp_ret ?_))
      refine c_ret1 hS Tryz.results53 (.tmp rfl) ?_
      have hex : ¬ ∃ y ∈ ps, ¬ okS (addS (totOf P.tot y.acc) y) := fun ⟨y, hy, hn⟩ => by
        obtain ⟨j, hj, rfl⟩ := List.mem_iff_getElem.1 hy
        exact hn (hok j _ (by omega) (List.getElem?_eq_getElem hj))
      exact ⟨by rw [hpre, if_neg hex], hS.chg⟩
end Go.Proofs.YtheofhegdjjfgaaGreat

namespace Go.Proofs.YtheofhegdjjfgaaGreat
open Go.RowKit
def rowU (u : Value) (ps : List Pst) : Asn := .any (fun k => u.ownBlock = some k) (fun w => w.ownsRow 0 124 3 u ps.length (ps.flatMap encP)) false
theorem rowU_ok {u : Value} {ps : List Pst} {w : World} (h : w.ownsRow 0 124 3 u ps.length (ps.flatMap encP)) : (rowU u ps).ok w :=
  ⟨fun k hk => (World.ownsRow.lt h k hk).2, fun _ hw => owns_keepL h (fun k hk => hw k hk)⟩
theorem ok_snoc {Γ : List Asn} {Y : Asn} {w : World} (h : ∀ X ∈ Γ, X.ok w) (hY : Y.ok w) : ∀ X ∈ Γ ++ [Y], X.ok w := fun X hX => by
  rcases List.mem_append.1 hX with hX | hX
  · exact h X hX
  · rw [List.mem_singleton.1 hX]; exact hY
theorem dis_snoc {Γ : List Asn} {Y : Asn} {F : Nat → Prop} (h : Γ.Pairwise (fun X Y => ∀ k, X.F k → ¬ Y.F k)) (hF : ∀ X ∈ Γ, ∀ k, X.F k → F k) (hY : ∀ k, Y.F k → ¬ F k) : (Γ ++ [Y]).Pairwise (fun X Y => ∀ k, X.F k → ¬ Y.F k) :=
  List.pairwise_append.2 ⟨h, List.pairwise_singleton _ _, fun X hX Z hZ k h1 h2 => by rw [List.mem_singleton.1 hZ] at h2; exact hY k h2 (hF X hX k h1)⟩
theorem mine_snoc {Γ : List Asn} {Y : Asn} {w : World} {F : Nat → Prop} (h : ∀ X ∈ Γ, X.mine = true → ∀ k, X.F k → w.heap.size ≤ k ∨ F k) (hY : Y.mine = false) : ∀ X ∈ Γ ++ [Y], X.mine = true → ∀ k, X.F k → w.heap.size ≤ k ∨ F k := fun X hX hm => by
  rcases List.mem_append.1 hX with hX | hX
  · exact h X hX hm
  · rw [List.mem_singleton.1 hX, hY] at hm; cases hm
theorem rl_parts {b : Nat} {s : RS} : ∀ X ∈ [.blk b (rlC s) 66, rowRA s, rowRE s, rpAll s.es], ∀ k, X.F k → rlF b s k := fun X hX k hk => by
  simp only [List.mem_cons, List.not_mem_nil, or_false] at hX
  rcases hX with rfl | rfl | rfl | rfl
  · exact .inl hk
  · exact .inr (.inl hk)
  · exact .inr (.inr (.inl hk))
  · exact .inr (.inr (.inr hk))
set_option maxHeartbeats 2000000 in
set_option maxRecDepth 100000 in
theorem rlPost_P (b : Nat) (s : RS) (P : PL) (m : Nat) (hrel : relR s P) (hwf : wfP P m) (hm : m ≤ 900) (hcur : wfC P) (u : Value) (at_ : Int) (memo : ByteArray) (ps : List Pst) (hpl : ps.length ≤ 100000) (hfit : ∀ x ∈ ps, x.fits) (w0 : World) (h : rlφ b s w0)
    (hrow : w0.ownsRow 0 124 3 u ps.length (ps.flatMap encP)) (hd : ∀ k, u.ownBlock = some k → ¬ rlF b s k) :
    MutC Tryz.prog 19 [.pointer (some ⟨b, 0, none⟩), .int .i64 at_, .string memo, u] w0 (rlA b s true) (fun _ : { y : RS // relR y (postP P at_ memo ps) } => .tuple [.int .i64 (postI P at_ memo ps), .int .i64 (checkE P at_ memo ps)].toArray) (fun y => rlA b y.1 true) := by
  obtain ⟨qE, cE, hev, hsh⟩ := rl_shE h
  obtain ⟨qu, cu, rfl⟩ := own_slice hrow
  have hR := okR_of hwf hm hrel
  have hfew := hR.few
  obtain ⟨cur, acs, es, closed, av, ev⟩ := s
  simp only at hev hsh hfew
  subst hev
  have hel : P.es.length = es.length := by rw [← hrel.es, List.length_map]
  refine c_enter [(0, .pointer (some ⟨b, 0, none⟩)), (1, .int .i64 at_), (2, .string memo), (3, .slice qu ps.length cu)] [.blk b [.string cur, av, .slice qE es.length cE, .int .i64 closed] 66, ownA 51 4 av acs.length (acs.flatMap encAc), ownA 104 4 (.slice qE es.length cE) es.length (es.flatMap encE), rpAll es, rowU (.slice qu ps.length cu) ps] (rlF b ⟨cur, acs, es, closed, av, .slice qE es.length cE⟩) Tryz.func19 rfl Tryz.ntmps19 ⟨rfl, rfl, rfl, rfl, trivial⟩ rfl (ok_snoc (rl_okP h) (rowU_ok hrow)) (dis_snoc (rl_dis h) rl_parts hd) (mine_snoc (rl_mine (b := b) (s := ⟨cur, acs, es, closed, av, .slice qE es.length cE⟩)) rfl) ?_
  intro a hS
  refine c_seq (c_region ?_)
  refine L_e hS (e_assign rfl) rfl ?_; clear hS a; intro a hS
  refine L_e hS (e_assign rfl) rfl ?_; clear hS a; intro a hS
  refine L_nil (n_then (c_seq (c_region ?_)))
  refine L_e hS (e_move rfl) rfl ?_; clear hS a; intro a hS
  refine L_e hS (e_move rfl) rfl ?_; clear hS a; intro a hS
  refine L_e hS (e_move rfl) rfl ?_; clear hS a; intro a hS
  refine L_e hS (e_move rfl) rfl ?_; clear hS a; intro a hS
  refine L_op (s_callP hS (.cons rfl (.cons rfl (.cons rfl (.cons rfl .nil)))) cf53 rfl (rlCheck_P b ⟨cur, acs, es, closed, av, .slice qE es.length cE⟩ P m hrel hwf hm hcur qu cu at_ memo ps hpl hfit _ ⟨hS.get (X := .blk b [.string cur, av, .slice qE es.length cE, .int .i64 closed] 66) (by repeat constructor), hS.get (X := ownA 51 4 av acs.length (acs.flatMap encAc)) (by repeat constructor), hS.get (X := ownA 104 4 (.slice qE es.length cE) es.length (es.flatMap encE)) (by repeat constructor), hS.get (X := rpAll es) (by repeat constructor)⟩ (hS.get (X := rowU (.slice qu ps.length cu) ps) (by repeat constructor))) ?_); clear hS a; (try clear w); intro a w hS
  refine L_e hS (e_assign rfl) rfl ?_; clear hS a; intro a hS
  refine L_nil (n_then (c_seq (c_seq (c_region ?_))))
  refine L_e hS (e_move rfl) rfl ?_; clear hS a; intro a hS
  refine L_e hS (e_bin rfl rfl rfl) rfl ?_; clear hS a; intro a hS
  refine L_nil (n_then ?_)
  first | refine c_ifD hS rfl (fun hc18 => ?_) (fun hc18 => ?_) | refine c_if hS rfl (fun hc18 => ?_) (fun hc18 => ?_)
  ·
    refine c_seq (c_region ?_)
    refine L_e hS (e_move rfl) rfl ?_; clear hS a; intro a hS
    refine L_e hS (e_assign rfl) rfl ?_; clear hS a; intro a hS
    refine L_e hS (e_assign rfl) rfl ?_; clear hS a; intro a hS
    refine L_nil (n_then (wp_ret (r_then ?_)))
    refine c_retN hS Tryz.results19 (.cons (.tmp rfl) (.cons (.tmp rfl) .nil)) rfl ?_
    have hne : checkE P at_ memo ps ≠ 0 := hc18
    have hI : postI P at_ memo ps = 0 := if_neg hne
    refine ⟨⟨⟨cur, acs, es, closed, av, .slice qE es.length cE⟩, by rw [show postP P at_ memo ps = P from if_neg hne]; exact hrel⟩, by (try dsimp only); rw [hI], hS.chg, rl_end (s' := ⟨cur, acs, es, closed, av, .slice qE es.length cE⟩) hS (by repeat constructor) (by repeat constructor) (by repeat constructor) (by repeat constructor)⟩
  have hE : checkE P at_ memo ps = 0 := Classical.byContradiction fun e => hc18 e
  have h2 := ((check_iff P at_ memo ps).1 hE).few.1
  rw [hE] at hS
  refine wp_skip (n_then (c_seq (c_region ?_)))
  refine L_e hS (e_move rfl) rfl ?_; clear hS a; intro a hS
  refine L_e hS (e_nilCheck rfl) rfl ?_; clear hS a; intro a hS
  (first | refine L_e hS (e_fa0 rfl ty_fo66_2) rfl ?_ | refine L_e hS (e_faK rfl ty_fo66_2) rfl ?_); clear hS a; intro a hS
  refine L_e hS (e_load rfl (by repeat constructor) ty_sc64 (by rfl)) rfl ?_; clear hS a; intro a hS
  refine L_e hS (e_len rfl rfl ty_sl64) rfl ?_; clear hS a; intro a hS
  (first | refine L_e hS (e_binN rfl rfl rfl (by omega)) rfl ?_ | refine L_e hS (e_bin rfl rfl rfl) rfl ?_); clear hS a; intro a hS
  refine L_e hS (e_assign rfl) rfl ?_; clear hS a; intro a hS
  refine L_nil (n_then (c_seq (c_region ?_)))
  refine L_e hS (e_move rfl) rfl ?_; clear hS a; intro a hS
  refine L_op (s_bslice hS ty_sl64 ty_sz104 ty_z104 rfl rfl rfl rfl .nil rfl ?_); clear hS a; (try clear w); intro a w b27 hS
  replace hS := hS.swap (X := .blk b27 [] 104) (Y := ownA 104 4 (.slice (some ⟨b27, 0, none⟩) 0 0) 0 []) (by repeat constructor) (own_empty (hS.get (X := .blk b27 [] 104) (by repeat constructor))) (fun b hb => by simpa [ownA, Asn.F, Value.ownBlock, eq_comm] using hb) rfl
  refine L_e hS (e_move rfl) rfl ?_; clear hS a; intro a hS
  refine L_e hS (e_nilCheck rfl) rfl ?_; clear hS a; intro a hS
  (first | refine L_e hS (e_fa0 rfl ty_fo66_2) rfl ?_ | refine L_e hS (e_faK rfl ty_fo66_2) rfl ?_); clear hS a; intro a hS
  refine L_e hS (e_load rfl (by repeat constructor) ty_sc64 (by rfl)) rfl ?_; clear hS a; intro a hS
  refine L_op (s_appendL hS rfl rfl ty_sl64 ty_sz104 ty_by104 ty_z104 rfl rfl rfl (by repeat constructor) (ys := es.flatMap encE) (lenE es) (row_read (hS.get (X := ownA 104 4 (.slice qE es.length cE) es.length (es.flatMap encE)) (by repeat constructor)) (lenE es)) (oneE es) (by omega) (fun _ => (by repeat constructor)) ?_); clear hS a; (try clear w); intro v32 a w hv32 hS
  refine L_e hS (e_move rfl) rfl ?_; clear hS a; intro a hS
  refine L_e hS (e_move rfl) rfl ?_; clear hS a; intro a hS
  refine L_e hS (e_move rfl) rfl ?_; clear hS a; intro a hS
  refine L_op (s_bslice hS ty_sl54 ty_sz124 ty_z124 rfl rfl rfl rfl .nil rfl ?_); clear hS a; (try clear w); intro a w b36 hS
  replace hS := hS.swap (X := .blk b36 [] 124) (Y := ownA 124 3 (.slice (some ⟨b36, 0, none⟩) 0 0) 0 []) (by repeat constructor) (own_empty (hS.get (X := .blk b36 [] 124) (by repeat constructor))) (fun b hb => by simpa [ownA, Asn.F, Value.ownBlock, eq_comm] using hb) rfl
  refine L_e hS (e_move rfl) rfl ?_; clear hS a; intro a hS
  refine L_op (s_appendL hS rfl rfl ty_sl54 ty_sz124 ty_by124 ty_z124 rfl rfl rfl (by repeat constructor) (ys := ps.flatMap encP) (flat_len encP 3 (fun _ => rfl) ps) (row_read (hS.get (X := rowU (.slice qu ps.length cu) ps) (by repeat constructor)) (flat_len encP 3 (fun _ => rfl) ps)) (oneP ps) (by omega) (fun _ => (by repeat constructor)) ?_); clear hS a; (try clear w); intro v38 a w hv38 hS
  rw [List.nil_append, Nat.zero_add] at hS
  obtain ⟨q38, c38, rfl⟩ := own_slice (hS.get (X := ownA 124 3 v38 ps.length (ps.flatMap encP)) (by repeat constructor))
  obtain ⟨g38, rfl⟩ : ∃ g, q38 = some ⟨g, 0, none⟩ := own_at (hS.get (X := ownA 124 3 (.slice q38 ps.length c38) ps.length (ps.flatMap encP)) (by repeat constructor)) (by omega)
  refine L_e hS (e_build ty_z104 ty_pl104 (.one rfl rfl rfl (by repeat constructor) (.one rfl rfl rfl (by repeat constructor) (.one rfl rfl rfl (by repeat constructor) (.one rfl rfl rfl (by repeat constructor) .nil))))) rfl ?_; clear hS a; intro a hS
  refine L_op (s_bslice hS ty_sl64 ty_sz104 ty_z104 rfl rfl rfl rfl (.agg rfl rfl .nil) rfl ?_); clear hS a; (try clear w); intro a w b40 hS
  refine L_op (s_append1 hS rfl rfl ty_sl64 ty_sz104 ty_by104 ty_z104 rfl rfl rfl (by repeat constructor) (by repeat constructor) (by rfl) (by rfl) (fun _ => (by repeat constructor)) (by omega) ?_); clear hS a; (try clear w); intro v41 a w hv41 hS
  obtain ⟨q41, c41, rfl⟩ := own_slice (hS.get (X := ownA 104 4 v41 _ _) (by repeat constructor))
  refine L_e hS (e_nilCheck rfl) rfl ?_; clear hS a; intro a hS
  (first | refine L_e hS (e_fa0 rfl ty_fo66_2) rfl ?_ | refine L_e hS (e_faK rfl ty_fo66_2) rfl ?_); clear hS a; intro a hS
  refine L_op (s_store hS rfl rfl rfl ty_sz64 (by repeat constructor) (by repeat constructor) ?_); clear hS; (try clear w); intro w hS
  refine L_nil (n_then (c_seq (c_region ?_)))
  refine L_e hS (e_move rfl) rfl ?_; clear hS a; intro a hS
  refine L_e hS (e_assign rfl) rfl ?_; clear hS a; intro a hS
  refine L_e hS (e_assign rfl) rfl ?_; clear hS a; intro a hS
  refine L_nil (n_then (wp_ret ?_))
  refine c_retN hS Tryz.results19 (.cons (.tmp rfl) (.cons (.tmp rfl) .nil)) rfl ?_
  have hI : postI P at_ memo ps = (es.length : Int) + 1 := by rw [show postI P at_ memo ps = _ from if_pos hE, hel]
  have hP : postP P at_ memo ps = { P with es := P.es ++ [⟨(P.es.length : Int) + 1, at_, memo, ps⟩], tot := totS P.tot ps } := if_pos hE
  replace hS := hS.drop (.cons _ (.refl _))
  have hp1 : rpOk ⟨⟨(es.length : Int) + 1, at_, memo, ps⟩, g38, c38⟩ w := hS.get (X := ownA 124 3 (.slice (some ⟨g38, 0, none⟩) ps.length c38) ps.length (ps.flatMap encP)) (by repeat constructor)
  have hp2 : ∀ y ∈ es, rpOk y w := hS.get (X := rpAll es) (by repeat constructor)
  replace hS := hS.join (X := ownA 124 3 (.slice (some ⟨g38, 0, none⟩) ps.length c38) ps.length (ps.flatMap encP)) (Y := rpAll es) (Z := rpAll (es ++ [⟨⟨(es.length : Int) + 1, at_, memo, ps⟩, g38, c38⟩])) (by repeat constructor) (rp_ok (fun y hy => by
    rcases List.mem_append.1 hy with hy | hy
    · exact hp2 y hy
    · obtain rfl := List.mem_singleton.1 hy; exact hp1)) (fun b hb => by
    obtain ⟨y, hy, e⟩ := hb
    rcases List.mem_append.1 hy with hy | hy
    · exact .inr ⟨y, hy, e⟩
    · obtain rfl := List.mem_singleton.1 hy; exact .inl (by rw [e]; rfl)) (fun _ => ⟨rfl, rfl⟩)
  refine ⟨⟨⟨cur, acs, es ++ [⟨⟨(es.length : Int) + 1, at_, memo, ps⟩, g38, c38⟩], closed, av, .slice q41 (0 + es.length + 1) c41⟩, by rw [hP]; exact ⟨hrel.cur, hrel.acs, by simp only; rw [List.map_append, hel]; exact congrArg (· ++ _) hrel.es, hrel.closed⟩⟩, by (try dsimp only); rw [hI, hE], hS.chg, rl_end (s' := ⟨cur, acs, es ++ [⟨⟨(es.length : Int) + 1, at_, memo, ps⟩, g38, c38⟩], closed, av, .slice q41 (0 + es.length + 1) c41⟩) hS (by repeat constructor) (by repeat constructor) ?_ (by repeat constructor)⟩
  unfold rowRE
  simp only
  rw [show (es ++ [(⟨⟨(es.length : Int) + 1, at_, memo, ps⟩, g38, c38⟩ : EA)]).length = 0 + es.length + 1 from by simp, show (es ++ [(⟨⟨(es.length : Int) + 1, at_, memo, ps⟩, g38, c38⟩ : EA)]).flatMap encE = [] ++ es.flatMap encE ++ encE ⟨⟨(es.length : Int) + 1, at_, memo, ps⟩, g38, c38⟩ from by simp]
  exact (by repeat constructor)
end Go.Proofs.YtheofhegdjjfgaaGreat

namespace Go.Proofs.YtheofhegdjjfgaaGreat
open Go.RowKit
set_option maxHeartbeats 2000000 in
set_option maxRecDepth 100000 in
theorem rlEnts_P (b : Nat) (s : RS) (from_ to_ : Int) (hids : idsP (s.es.map (·.v))) (hfew : s.es.length ≤ 1000) (w0 : World) (h : rlφ b s w0) :
    NewC Tryz.prog 42 [.pointer (some ⟨b, 0, none⟩), .int .i64 from_, .int .i64 to_] w0 (fun y : { y : Value × List EA // EntsOf (s.es.map (·.v)) from_ to_ (y.2.map (·.v)) ∧ ∀ x ∈ y.2, x ∈ s.es } => y.1.1) (fun y => ownA 104 4 y.1.1 y.1.2.length (y.1.2.flatMap encE)) := by
  obtain ⟨qE, cE, hev, hsh⟩ := rl_shE h
  refine c_enter [(0, .pointer (some ⟨b, 0, none⟩)), (1, .int .i64 from_), (2, .int .i64 to_)] [rlA b s false] noB Tryz.func42 rfl Tryz.ntmps42 ⟨rfl, rfl, rfl, trivial⟩ rfl (okC (rl_ok false h) okN) dis1 (mineC (by rfl) mineN) ?_
  intro a hS
  refine c_seq (c_region ?_)
  refine L_e hS (e_assign rfl) rfl ?_; clear hS a; intro a hS
  refine L_nil (n_then (c_seq (c_region ?_)))
  refine L_e hS (e_assign rfl) rfl ?_; clear hS a; intro a hS
  refine L_nil (n_then (c_seq (c_seq (c_region ?_))))
  refine L_e hS (e_assign rfl) rfl ?_; clear hS a; intro a hS
  refine L_nil (n_then (wp_block ?_))
  replace hS := hS.own_nil 104 4
  refine c_loop (γ := Nat × (Value × List EA)) (fun G a w => St 86 noB w0 a w [(8, .int .i64 (G.1 : Int)), (7, G.2.1), (0, .pointer (some ⟨b, 0, none⟩)), (1, .int .i64 from_), (2, .int .i64 to_)] [ownA 104 4 G.2.1 G.2.2.length (G.2.2.flatMap encE), rlA b s false] ∧ G.1 ≤ s.es.length ∧ EntsOf ((s.es.take G.1).map (·.v)) from_ to_ (G.2.2.map (·.v)) ∧ ∀ x ∈ G.2.2, x ∈ s.es) (fun G => s.es.length - G.1) (0, (.slice none 0 0, [])) ⟨(hS.slots (by repeat (first | exact trivial | refine ⟨rfl, ?_⟩))).pick (by repeat (first | exact Pick.nil | (refine Pick.cons (by repeat (first | exact Rem.head | apply Rem.tail)) ?_))), Nat.zero_le _, ent_nil _ _, fun x hx => by cases hx⟩ ?_
  clear hS a; (try clear w); intro G a w hI
  obtain ⟨i, ov, L⟩ := G
  obtain ⟨hS, hi, hE, hmem⟩ := hI
  simp only at hS hi hE hmem
  have hLl : L.length ≤ i := by
    have h1 := hE.len
    rw [List.length_map, List.length_map, List.length_take] at h1; omega
  obtain ⟨q, c, rfl⟩ := own_slice (hS.get (X := ownA 104 4 ov L.length (L.flatMap encE)) (by repeat constructor))
  have hcq : L.length ≤ c := by
    rcases (hS.get (X := ownA 104 4 (.slice q L.length c) L.length (L.flatMap encE)) (by repeat constructor)).2 with ⟨e1, e2⟩ | ⟨g, cap, cur, e1, _, _, e2, _⟩
    · injection e1 with _ _ e3; omega
    · injection e1 with _ _ e3; omega
  refine c_seq (c_seq (c_region ?_))
  refine L_e hS (e_move rfl) rfl ?_; clear hS a; intro a hS
  refine L_e hS (e_move rfl) rfl ?_; clear hS a; intro a hS
  refine L_e hS (e_nilCheck rfl) rfl ?_; clear hS a; intro a hS
  (first | refine L_e hS (e_fa0 rfl ty_fo66_2) rfl ?_ | refine L_e hS (e_faK rfl ty_fo66_2) rfl ?_); clear hS a; intro a hS
  refine L_e hS (e_loadC rfl ty_sc64 (rl_cell (k := 2) (by repeat constructor) rfl)) rfl ?_; clear hS a; intro a hS
  rw [hev] at hS
  refine L_e hS (e_len rfl rfl ty_sl64) rfl ?_; clear hS a; intro a hS
  refine L_e hS (e_bin rfl rfl rfl) rfl ?_; clear hS a; intro a hS
  refine L_nil (n_then ?_)
  first | refine c_ifD hS rfl (fun hc17 => ?_) (fun hc17 => ?_) | refine c_if hS rfl (fun hc17 => ?_) (fun hc17 => ?_)
  ·
    have hil : i < s.es.length := by omega
    obtain ⟨x, hx⟩ : ∃ x, s.es[i]? = some x := ⟨s.es[i], List.getElem?_eq_getElem hil⟩
    have hxm := List.mem_of_getElem? hx
    obtain ⟨g, rfl⟩ : ∃ g, qE = some ⟨g, 0, none⟩ := by rcases hsh with ⟨_, e⟩ | e; exact absurd e (by omega); exact e
    have htk : (s.es.take (i + 1)).map (·.v) = (s.es.take i).map (·.v) ++ [x.v] := by rw [List.take_add_one, hx, List.map_append]; rfl
    refine wp_skip (n_then (c_seq (wp_block (c_seq (c_seq (c_region ?_))))))
    refine L_e hS (e_move rfl) rfl ?_; clear hS a; intro a hS
    refine L_e hS (e_nilCheck rfl) rfl ?_; clear hS a; intro a hS
    (first | refine L_e hS (e_fa0 rfl ty_fo66_2) rfl ?_ | refine L_e hS (e_faK rfl ty_fo66_2) rfl ?_); clear hS a; intro a hS
    refine L_e hS (e_loadC rfl ty_sc64 (rl_cell (k := 2) (by repeat constructor) rfl)) rfl ?_; clear hS a; intro a hS
    rw [hev] at hS
    refine L_e hS (e_move rfl) rfl ?_; clear hS a; intro a hS
    refine L_e hS (e_ixN rfl rfl ty_sl64 ty_sz104 (by omega)) rfl ?_; clear hS a; intro a hS
    (first | refine L_e hS (e_fa0 rfl ty_fo104_1) rfl ?_ | refine L_e hS (e_faK rfl ty_fo104_1) rfl ?_); clear hS a; intro a hS
    refine L_e hS (e_loadC rfl ty_sc3 (fun w hh => rl_rowE hev (by repeat constructor) hx w hh 1 (.int .i64 x.v.at_) rfl)) rfl ?_; clear hS a; intro a hS
    refine L_e hS (e_move rfl) rfl ?_; clear hS a; intro a hS
    refine L_e hS (e_bin rfl rfl rfl) rfl ?_; clear hS a; intro a hS
    refine L_e hS (e_move rfl) rfl ?_; clear hS a; intro a hS
    refine L_merge 11 41 (.bool (decide (¬ inT from_ to_ x.v))) hS ?_ ?_
    · intro hcM41
      (first | refine g_splitD (t := 30) hS rfl ?_ ?_ | refine g_split (t := 30) hS rfl ?_ ?_) <;> (clear hS; intro hg30 hS)
      ·
        refine L_skip_f hS rfl rfl rfl ?_; clear hS a; intro a hS
        refine L_skip_f hS rfl rfl rfl ?_; clear hS a; intro a hS
        refine L_skip_f hS rfl rfl rfl ?_; clear hS a; intro a hS
        refine L_skip_f hS rfl rfl rfl ?_; clear hS a; intro a hS
        refine L_skip_f hS rfl rfl rfl ?_; clear hS a; intro a hS
        refine L_skip_f hS rfl rfl rfl ?_; clear hS a; intro a hS
        refine L_skip_f hS rfl rfl rfl ?_; clear hS a; intro a hS
        refine L_skip_f hS rfl rfl rfl ?_; clear hS a; intro a hS
        refine L_skip_f hS rfl rfl rfl ?_; clear hS a; intro a hS
        refine L_skip_f hS rfl rfl rfl ?_; clear hS a; intro a hS
        refine L_e hS (e_pk rfl rfl) rfl ?_; clear hS a; intro a hS
        exact hcM41 _ _ (hS.ends 12 41 30 rfl (congrArg Value.bool (by exact (decide_eq_true (show ¬ inT from_ to_ x.v from fun h => by have := h.1; omega)).symm)) rfl rfl (by first | exact congrArg Value.bool (decide_eq_true hg30).symm | exact congrArg Value.bool hg30.symm | simp [hg30]) rfl)
      refine L_ge hS rfl rfl (e_move rfl) rfl ?_; clear hS a; intro a hS
      refine L_ge hS rfl rfl (e_nilCheck rfl) rfl ?_; clear hS a; intro a hS
      (first | refine L_ge hS rfl rfl (e_fa0 rfl ty_fo66_2) rfl ?_ | refine L_ge hS rfl rfl (e_faK rfl ty_fo66_2) rfl ?_); clear hS a; intro a hS
      refine L_ge hS rfl rfl (e_loadC rfl ty_sc64 (rl_cell (k := 2) (by repeat constructor) rfl)) rfl ?_; clear hS a; intro a hS
      rw [hev] at hS
      refine L_ge hS rfl rfl (e_move rfl) rfl ?_; clear hS a; intro a hS
      refine L_ge hS rfl rfl (e_ixN rfl rfl ty_sl64 ty_sz104 (by omega)) rfl ?_; clear hS a; intro a hS
      (first | refine L_ge hS rfl rfl (e_fa0 rfl ty_fo104_1) rfl ?_ | refine L_ge hS rfl rfl (e_faK rfl ty_fo104_1) rfl ?_); clear hS a; intro a hS
      refine L_ge hS rfl rfl (e_loadC rfl ty_sc3 (fun w hh => rl_rowE hev (by repeat constructor) hx w hh 1 (.int .i64 x.v.at_) rfl)) rfl ?_; clear hS a; intro a hS
      refine L_ge hS rfl rfl (e_move rfl) rfl ?_; clear hS a; intro a hS
      refine L_ge hS rfl rfl (e_bin rfl rfl rfl) rfl ?_; clear hS a; intro a hS
      refine L_e hS (e_pk rfl rfl) rfl ?_; clear hS a; intro a hS
      exact hcM41 _ _ (hS.ends 12 41 30 rfl (congrArg Value.bool (by rw [decide_eq_decide]; unfold inT; omega)) rfl rfl (by first | exact congrArg Value.bool (decide_eq_false hg30).symm | exact congrArg Value.bool hg30.symm | simp [hg30]) rfl)
    · clear hS a; (try clear w); intro a w hS
      simp only [List.drop_succ_cons, List.drop_zero]
      refine L_nil (n_then ?_)
      first | refine c_ifD hS rfl (fun hc41 => ?_) (fun hc41 => ?_) | refine c_if hS rfl (fun hc41 => ?_) (fun hc41 => ?_)
      ·
        refine wp_exit ?_
        refine x_then (x_hit ?_)
        refine n_then (c_region ?_)
        refine L_e hS (e_move rfl) rfl ?_; clear hS a; intro a hS
        (first | refine L_e hS (e_binN rfl rfl rfl (by omega)) rfl ?_ | refine L_e hS (e_bin rfl rfl rfl) rfl ?_); clear hS a; intro a hS
        refine L_e hS (e_assign rfl) rfl ?_; clear hS a; intro a hS
        refine L_nil ?_
        first
        | (have hno : ¬ inT from_ to_ x.v := hc41
           exact ⟨(i + 1, (.slice q L.length c, L)), by simp only; omega, (hS.slots (by repeat (first | exact trivial | refine ⟨rfl, ?_⟩))).pick (by repeat (first | exact Pick.nil | (refine Pick.cons (by repeat (first | exact Rem.head | apply Rem.tail)) ?_))), by simp only; omega, by simp only; rw [htk]; exact ent_skip hE hno, hmem⟩)
        | (have hx2 := hle
           have hi2 : idsP ((s.es.take i).map (·.v) ++ [x.v]) := by
             rw [← htk, List.map_take]
             exact List.Pairwise.sublist (List.take_sublist _ _) hids
           have hia : insAt x.v (L.map (·.v)) k := by
             refine ⟨by rw [List.length_map]; exact hk, fun j y hj hy => ?_, fun y h0 hy => ?_⟩
             · rw [List.getElem?_map] at hy
               cases e : L[j]? with
               | none => rw [e] at hy; cases hy
               | some z => rw [e] at hy; cases hy; exact hlo j z hj e
             · rw [List.getElem?_map] at hy
               cases e : L[k - 1]? with
               | none => rw [e] at hy; cases hy
               | some z => rw [e] at hy; cases hy; exact hle z h0 e
           have e1 : (L.take k ++ x :: L.drop k).length = 0 + k + 1 + (L.length - k) := by simp; omega
           have e2 : (L.take k ++ x :: L.drop k).flatMap encE = [] ++ (L.take k).flatMap encE ++ encE x ++ (L.drop k).flatMap encE := by simp
           refine ⟨(i + 1, (v84, L.take k ++ x :: L.drop k)), by simp only; omega, ?_, by simp only; omega, ?_, fun z hz => ?_⟩
           · simp only
             rw [e1, e2]
             exact (hS.slots (by repeat (first | exact trivial | refine ⟨rfl, ?_⟩))).pick (by repeat (first | exact Pick.nil | (refine Pick.cons (by repeat (first | exact Rem.head | apply Rem.tail)) ?_)))
           · simp only
             rw [htk]
             have h3 := ent_ins hi2 hE hin hia
             rw [← List.map_take, ← List.map_drop] at h3
             rw [List.map_append, List.map_cons]; exact h3
           · simp only at hz
             rcases List.mem_append.1 hz with hz | hz
             · exact hmem z (List.mem_of_mem_take hz)
             · rcases List.mem_cons.1 hz with rfl | hz
               · exact hxm
               · exact hmem z (List.mem_of_mem_drop hz))
      have hin : inT from_ to_ x.v := Classical.byContradiction fun e => hc41 e
      refine wp_skip (n_then (c_seq (c_region ?_)))
      refine L_e hS (e_move rfl) rfl ?_; clear hS a; intro a hS
      refine L_e hS (e_len rfl rfl ty_sl64) rfl ?_; clear hS a; intro a hS
      refine L_e hS (e_assign rfl) rfl ?_; clear hS a; intro a hS
      refine L_nil (n_then (c_seq (wp_block ?_)))
      skip
      refine c_loop (γ := Nat) (fun k a w => St 86 noB w0 a w [(9, .int .i64 (k : Int)), (8, .int .i64 (i : Int)), (7, .slice q L.length c), (0, .pointer (some ⟨b, 0, none⟩)), (1, .int .i64 from_), (2, .int .i64 to_)] [ownA 104 4 (.slice q L.length c) L.length (L.flatMap encE), rlA b s false] ∧ k ≤ L.length ∧ ∀ j y, k ≤ j → L[j]? = some y → x.v.at_ < y.v.at_) (fun k => k) L.length ⟨(hS.slots (by repeat (first | exact trivial | refine ⟨rfl, ?_⟩))).pick (by repeat (first | exact Pick.nil | (refine Pick.cons (by repeat (first | exact Rem.head | apply Rem.tail)) ?_))), Nat.le_refl _, fun j y hj hy => by have := (List.getElem?_eq_some_iff.1 hy).1; omega⟩ ?_
      clear hS a; (try clear w); intro k a w hI
      obtain ⟨hS, hk, hlo⟩ := hI
      refine c_seq (c_seq ?_)
      refine c_drawS [] (by kernel_rfl) hS (sub_cons (X := rlA b s false) (by repeat constructor) (sub_cons (X := ownA 104 4 (.slice q L.length c) L.length (L.flatMap encE)) (by repeat constructor) sub_nil)) ?_; clear hS; (try clear w); intro w hS
      simp only [List.length_cons, List.length_nil, Nat.zero_add, Nat.reduceAdd, List.replicate]
      refine Zt0 0 (tf 1 18) hS rfl want_none (e_move rfl) rfl (by kernel_rfl) rfl ?_; clear hS a; intro a hS
      refine Zt0 1 (tf 2 17) hS rfl want_none (e_bin rfl rfl rfl) rfl (by kernel_rfl) rfl ?_; clear hS a; intro a hS
      refine Zt0 2 (tf 3 16) hS rfl want_none (e_move rfl) rfl (by kernel_rfl) rfl ?_; clear hS a; intro a hS
      refine Z_merge 0 (tf 19 0) 62 (.bool (if 0 < k then ((L[k - 1]?).map fun y => decide (x.v.at_ < y.v.at_)).getD false else false)) hS ?_ ?_
      · intro hcM62
        (first | refine g_splitD (t := 46) hS rfl ?_ ?_ | refine g_split (t := 46) hS rfl ?_ ?_) <;> (clear hS; intro hg46 hS)
        ·
          have hk0 : 0 < k := by omega
          obtain ⟨y, hy⟩ : ∃ y, L[k - 1]? = some y := ⟨L[k - 1]'(by omega), List.getElem?_eq_getElem (by omega)⟩
          obtain ⟨gq, rfl⟩ : ∃ g, q = some ⟨g, 0, none⟩ := own_at (hS.get (X := ownA 104 4 (.slice q L.length c) L.length (L.flatMap encE)) (by repeat constructor)) (by omega)
          refine Zt0 3 (tf 4 15) hS rfl (want_go rfl rfl) (e_move rfl) rfl (by kernel_rfl) rfl ?_; clear hS a; intro a hS
          refine Zt0 4 (tf 5 14) hS rfl (want_go rfl rfl) (e_nilCheck rfl) rfl (by kernel_rfl) rfl ?_; clear hS a; intro a hS
          (first | refine Zt0 5 (tf 6 13) hS rfl (want_go rfl rfl) (e_fa0 rfl ty_fo66_2) rfl (by kernel_rfl) rfl ?_ | refine Zt0 5 (tf 6 13) hS rfl (want_go rfl rfl) (e_faK rfl ty_fo66_2) rfl (by kernel_rfl) rfl ?_); clear hS a; intro a hS
          refine Zt 6 (tf 7 12) hS rfl (want_go rfl rfl) (e_loadC rfl ty_sc64 (rl_cell (k := 2) (by repeat constructor) rfl)) rfl (by kernel_rfl) (sub_cons (by repeat constructor) (sub_cons (by repeat constructor) sub_nil)) rfl ?_; clear hS a; intro a hS
          rw [hev] at hS
          refine Zt0 7 (tf 8 11) hS rfl (want_go rfl rfl) (e_move rfl) rfl (by kernel_rfl) rfl ?_; clear hS a; intro a hS
          refine Zt0 8 (tf 9 10) hS rfl (want_go rfl rfl) (e_ixN rfl rfl ty_sl64 ty_sz104 (by omega)) rfl (by kernel_rfl) rfl ?_; clear hS a; intro a hS
          (first | refine Zt0 9 (tf 10 9) hS rfl (want_go rfl rfl) (e_fa0 rfl ty_fo104_1) rfl (by kernel_rfl) rfl ?_ | refine Zt0 9 (tf 10 9) hS rfl (want_go rfl rfl) (e_faK rfl ty_fo104_1) rfl (by kernel_rfl) rfl ?_); clear hS a; intro a hS
          refine Zt 10 (tf 11 8) hS rfl (want_go rfl rfl) (e_loadC rfl ty_sc3 (fun w hh => rl_rowE hev (by repeat constructor) hx w hh 1 (.int .i64 x.v.at_) rfl)) rfl (by kernel_rfl) (sub_cons (by repeat constructor) (sub_cons (by repeat constructor) sub_nil)) rfl ?_; clear hS a; intro a hS
          refine Zt0 11 (tf 12 7) hS rfl (want_go rfl rfl) (e_move rfl) rfl (by kernel_rfl) rfl ?_; clear hS a; intro a hS
          refine Zt0 12 (tf 13 6) hS rfl (want_go rfl rfl) (e_move rfl) rfl (by kernel_rfl) rfl ?_; clear hS a; intro a hS
          (first | refine Zt0 13 (tf 14 5) hS rfl (want_go rfl rfl) (e_binN rfl rfl rfl (by omega)) rfl (by kernel_rfl) rfl ?_ | refine Zt0 13 (tf 14 5) hS rfl (want_go rfl rfl) (e_bin rfl rfl rfl) rfl (by kernel_rfl) rfl ?_); clear hS a; intro a hS
          rw [show (k : Int) - 1 = ((k - 1 : Nat) : Int) from by omega] at hS
          refine Zt0 14 (tf 15 4) hS rfl (want_go rfl rfl) (e_ixN rfl rfl ty_sl64 ty_sz104 (by omega)) rfl (by kernel_rfl) rfl ?_; clear hS a; intro a hS
          (first | refine Zt0 15 (tf 16 3) hS rfl (want_go rfl rfl) (e_fa0 rfl ty_fo104_1) rfl (by kernel_rfl) rfl ?_ | refine Zt0 15 (tf 16 3) hS rfl (want_go rfl rfl) (e_faK rfl ty_fo104_1) rfl (by kernel_rfl) rfl ?_); clear hS a; intro a hS
          refine Zt 16 (tf 17 2) hS rfl (want_go rfl rfl) (e_loadC rfl ty_sc3 (fun w hh => own_getL (enc := encE) (s := 4) (fun _ => rfl) (by repeat constructor) hy w hh 1 (.int .i64 y.v.at_) rfl)) rfl (by kernel_rfl) (sub_cons (by repeat constructor) (sub_cons (by repeat constructor) sub_nil)) rfl ?_; clear hS a; intro a hS
          refine Zt0 17 (tf 18 1) hS rfl (want_go rfl rfl) (e_bin rfl rfl rfl) rfl (by kernel_rfl) rfl ?_; clear hS a; intro a hS
          refine Zt0 18 (tf 19 0) hS rfl want_none (e_pk rfl rfl) rfl (by kernel_rfl) rfl ?_; clear hS a; intro a hS
          exact hcM62 _ _ (hS.ends 17 62 46 rfl (congrArg Value.bool (by rw [if_pos (by omega), hy]; rfl)) rfl rfl (by first | exact congrArg Value.bool (decide_eq_true hg46).symm | exact congrArg Value.bool hg46.symm | simp [hg46]) rfl)
        refine Zn_t 3 (tf 4 15) hS rfl rfl rfl rfl (by kernel_rfl) rfl ?_; clear hS a; intro a hS
        refine Zn_t 4 (tf 5 14) hS rfl rfl rfl rfl (by kernel_rfl) rfl ?_; clear hS a; intro a hS
        refine Zn_t 5 (tf 6 13) hS rfl rfl rfl rfl (by kernel_rfl) rfl ?_; clear hS a; intro a hS
        refine Zn_t 6 (tf 7 12) hS rfl rfl rfl rfl (by kernel_rfl) rfl ?_; clear hS a; intro a hS
        refine Zn_t 7 (tf 8 11) hS rfl rfl rfl rfl (by kernel_rfl) rfl ?_; clear hS a; intro a hS
        refine Zn_t 8 (tf 9 10) hS rfl rfl rfl rfl (by kernel_rfl) rfl ?_; clear hS a; intro a hS
        refine Zn_t 9 (tf 10 9) hS rfl rfl rfl rfl (by kernel_rfl) rfl ?_; clear hS a; intro a hS
        refine Zn_t 10 (tf 11 8) hS rfl rfl rfl rfl (by kernel_rfl) rfl ?_; clear hS a; intro a hS
        refine Zn_t 11 (tf 12 7) hS rfl rfl rfl rfl (by kernel_rfl) rfl ?_; clear hS a; intro a hS
        refine Zn_t 12 (tf 13 6) hS rfl rfl rfl rfl (by kernel_rfl) rfl ?_; clear hS a; intro a hS
        refine Zn_t 13 (tf 14 5) hS rfl rfl rfl rfl (by kernel_rfl) rfl ?_; clear hS a; intro a hS
        refine Zn_t 14 (tf 15 4) hS rfl rfl rfl rfl (by kernel_rfl) rfl ?_; clear hS a; intro a hS
        refine Zn_t 15 (tf 16 3) hS rfl rfl rfl rfl (by kernel_rfl) rfl ?_; clear hS a; intro a hS
        refine Zn_t 16 (tf 17 2) hS rfl rfl rfl rfl (by kernel_rfl) rfl ?_; clear hS a; intro a hS
        refine Zn_t 17 (tf 18 1) hS rfl rfl rfl rfl (by kernel_rfl) rfl ?_; clear hS a; intro a hS
        refine Zt0 18 (tf 19 0) hS rfl want_none (e_pk rfl rfl) rfl (by kernel_rfl) rfl ?_; clear hS a; intro a hS
        exact hcM62 _ _ (hS.ends 17 62 46 rfl (congrArg Value.bool (by rw [if_neg (by omega)])) rfl rfl (by first | exact congrArg Value.bool (decide_eq_false hg46).symm | exact congrArg Value.bool hg46.symm | simp [hg46]) rfl)
      · clear hS a; (try clear w); intro a w hS
        refine Z_done (by kernel_rfl) ?_
        refine n_then ?_
        first | refine c_ifD hS rfl (fun hc62 => ?_) (fun hc62 => ?_) | refine c_if hS rfl (fun hc62 => ?_) (fun hc62 => ?_)
        ·
          have hk0 : 0 < k := by
            by_cases e : 0 < k
            · exact e
            · rw [if_neg e] at hc62; cases hc62
          rw [if_pos hk0] at hc62
          have hlt : ∀ y, L[k - 1]? = some y → x.v.at_ < y.v.at_ := fun y hy => by rw [hy] at hc62; exact of_decide_eq_true hc62
          refine wp_skip (n_then (wp_block (c_region ?_)))
          refine L_e hS (e_move rfl) rfl ?_; clear hS a; intro a hS
          (first | refine L_e hS (e_binN rfl rfl rfl (by omega)) rfl ?_ | refine L_e hS (e_bin rfl rfl rfl) rfl ?_); clear hS a; intro a hS
          rw [show (k : Int) - 1 = ((k - 1 : Nat) : Int) from by omega] at hS
          refine L_e hS (e_assign rfl) rfl ?_; clear hS a; intro a hS
          refine L_nil (n_block ?_)
          exact ⟨k - 1, by omega, (hS.slots (by repeat (first | exact trivial | refine ⟨rfl, ?_⟩))).pick (by repeat (first | exact Pick.nil | (refine Pick.cons (by repeat (first | exact Rem.head | apply Rem.tail)) ?_))), by omega, fun j y hj hy => by
          by_cases e : j = k - 1
          · subst e; exact hlt y hy
          · exact hlo j y (by omega) hy⟩
        have hle : ∀ y, 0 < k → L[k - 1]? = some y → y.v.at_ ≤ x.v.at_ := fun y h0 hy => by
          rw [if_pos h0, hy] at hc62
          have := of_decide_eq_false hc62
          omega
        refine wp_exit ?_
        refine x_then (x_then (x_hit ?_))
        refine n_then (c_seq (c_region ?_))
        refine L_op (s_bslice hS ty_sl64 ty_sz104 ty_z104 rfl rfl rfl rfl .nil rfl ?_); clear hS a; (try clear w); intro a w b65 hS
        replace hS := hS.swap (X := .blk b65 [] 104) (Y := ownA 104 4 (.slice (some ⟨b65, 0, none⟩) 0 0) 0 []) (by repeat constructor) (own_empty (hS.get (X := .blk b65 [] 104) (by repeat constructor))) (fun b hb => by simpa [ownA, Asn.F, Value.ownBlock, eq_comm] using hb) rfl
        refine L_e hS (e_move rfl) rfl ?_; clear hS a; intro a hS
        refine L_e hS (e_move rfl) rfl ?_; clear hS a; intro a hS
        refine L_e hS (e_slH rfl rfl ty_sl64 ty_sz104 (by omega)) rfl ?_; clear hS a; intro a hS
        refine L_op (s_appendQ hS rfl rfl ty_sl64 ty_sz104 ty_by104 ty_z104 rfl rfl rfl (by repeat constructor) (by rw [flat_len encE 4 (fun _ => rfl), List.length_take, Nat.min_eq_left hk]) (own_head (hS.get (X := ownA 104 4 (.slice q L.length c) L.length (L.flatMap encE)) (by repeat constructor)) (fun _ => rfl) hk) (oneE _) (by omega) (fun _ => (by repeat constructor)) ?_); clear hS a; (try clear w); intro v69 a w hv69 hS
        refine L_e hS (e_assign rfl) rfl ?_; clear hS a; intro a hS
        refine L_nil (n_then (c_seq (c_region ?_)))
        refine L_e hS (e_move rfl) rfl ?_; clear hS a; intro a hS
        refine L_e hS (e_move rfl) rfl ?_; clear hS a; intro a hS
        refine L_e hS (e_nilCheck rfl) rfl ?_; clear hS a; intro a hS
        (first | refine L_e hS (e_fa0 rfl ty_fo66_2) rfl ?_ | refine L_e hS (e_faK rfl ty_fo66_2) rfl ?_); clear hS a; intro a hS
        refine L_e hS (e_loadC rfl ty_sc64 (rl_cell (k := 2) (by repeat constructor) rfl)) rfl ?_; clear hS a; intro a hS
        rw [hev] at hS
        refine L_e hS (e_move rfl) rfl ?_; clear hS a; intro a hS
        refine L_e hS (e_ixN rfl rfl ty_sl64 ty_sz104 (by omega)) rfl ?_; clear hS a; intro a hS
        refine L_e hS (e_loadAC (l := encE x) rfl ty_st104 ty_sz104 (rl_rowE hev (by repeat constructor) hx)) rfl ?_; clear hS a; intro a hS
        refine L_op (s_bslice hS ty_sl64 ty_sz104 ty_z104 rfl rfl rfl rfl (.agg rfl rfl .nil) rfl ?_); clear hS a; (try clear w); intro a w b78 hS
        refine L_op (s_append1 hS rfl rfl ty_sl64 ty_sz104 ty_by104 ty_z104 rfl rfl rfl (by repeat constructor) (by repeat constructor) (by rfl) (by rfl) (fun _ => (by repeat constructor)) (by omega) ?_); clear hS a; (try clear w); intro v79 a w hv79 hS
        refine L_e hS (e_assign rfl) rfl ?_; clear hS a; intro a hS
        refine L_nil (n_then (c_region ?_))
        refine L_e hS (e_move rfl) rfl ?_; clear hS a; intro a hS
        refine L_e hS (e_move rfl) rfl ?_; clear hS a; intro a hS
        refine L_e hS (e_move rfl) rfl ?_; clear hS a; intro a hS
        refine L_e hS (e_slT rfl rfl ty_sl64 ty_sz104 (by omega)) rfl ?_; clear hS a; intro a hS
        refine L_op (s_appendQ hS rfl rfl ty_sl64 ty_sz104 ty_by104 ty_z104 rfl rfl rfl (by repeat constructor) (by rw [flat_len encE 4 (fun _ => rfl), List.length_drop]) (own_tail (hS.get (X := ownA 104 4 (.slice q L.length c) L.length (L.flatMap encE)) (by repeat constructor)) (fun _ => rfl) rfl hk) (oneE _) (by omega) (fun _ => (by repeat constructor)) ?_); clear hS a; (try clear w); intro v84 a w hv84 hS
        refine L_e hS (e_assign rfl) rfl ?_; clear hS a; intro a hS
        refine L_nil (n_block (n_then (c_region ?_)))
        refine L_e hS (e_move rfl) rfl ?_; clear hS a; intro a hS
        (first | refine L_e hS (e_binN rfl rfl rfl (by omega)) rfl ?_ | refine L_e hS (e_bin rfl rfl rfl) rfl ?_); clear hS a; intro a hS
        refine L_e hS (e_assign rfl) rfl ?_; clear hS a; intro a hS
        refine L_nil ?_
        first
        | (have hno : ¬ inT from_ to_ x.v := hc41
           exact ⟨(i + 1, (.slice q L.length c, L)), by simp only; omega, (hS.slots (by repeat (first | exact trivial | refine ⟨rfl, ?_⟩))).pick (by repeat (first | exact Pick.nil | (refine Pick.cons (by repeat (first | exact Rem.head | apply Rem.tail)) ?_))), by simp only; omega, by simp only; rw [htk]; exact ent_skip hE hno, hmem⟩)
        | (have hx2 := hle
           have hi2 : idsP ((s.es.take i).map (·.v) ++ [x.v]) := by
             rw [← htk, List.map_take]
             exact List.Pairwise.sublist (List.take_sublist _ _) hids
           have hia : insAt x.v (L.map (·.v)) k := by
             refine ⟨by rw [List.length_map]; exact hk, fun j y hj hy => ?_, fun y h0 hy => ?_⟩
             · rw [List.getElem?_map] at hy
               cases e : L[j]? with
               | none => rw [e] at hy; cases hy
               | some z => rw [e] at hy; cases hy; exact hlo j z hj e
             · rw [List.getElem?_map] at hy
               cases e : L[k - 1]? with
               | none => rw [e] at hy; cases hy
               | some z => rw [e] at hy; cases hy; exact hle z h0 e
           have e1 : (L.take k ++ x :: L.drop k).length = 0 + k + 1 + (L.length - k) := by simp; omega
           have e2 : (L.take k ++ x :: L.drop k).flatMap encE = [] ++ (L.take k).flatMap encE ++ encE x ++ (L.drop k).flatMap encE := by simp
           refine ⟨(i + 1, (v84, L.take k ++ x :: L.drop k)), by simp only; omega, ?_, by simp only; omega, ?_, fun z hz => ?_⟩
           · simp only
             rw [e1, e2]
             exact (hS.slots (by repeat (first | exact trivial | refine ⟨rfl, ?_⟩))).pick (by repeat (first | exact Pick.nil | (refine Pick.cons (by repeat (first | exact Rem.head | apply Rem.tail)) ?_)))
           · simp only
             rw [htk]
             have h3 := ent_ins hi2 hE hin hia
             rw [← List.map_take, ← List.map_drop] at h3
             rw [List.map_append, List.map_cons]; exact h3
           · simp only at hz
             rcases List.mem_append.1 hz with hz | hz
             · exact hmem z (List.mem_of_mem_take hz)
             · rcases List.mem_cons.1 hz with rfl | hz
               · exact hxm
               · exact hmem z (List.mem_of_mem_drop hz))
  refine wp_exit ?_
  refine x_then (x_then (x_hit ?_))
  refine n_then (c_seq (c_region ?_))
  refine L_e hS (e_move rfl) rfl ?_; clear hS a; intro a hS
  refine L_e hS (e_assign rfl) rfl ?_; clear hS a; intro a hS
  refine L_nil (n_then (wp_ret ?_))
  refine c_ret1 hS Tryz.results42 (.tmp rfl) ?_
  obtain rfl : i = s.es.length := by omega
  rw [List.take_length] at hE
  exact ⟨⟨(.slice q L.length c, L), hE, hmem⟩, rfl, hS.chg, hS.new (X := ownA 104 4 (.slice q L.length c) L.length (L.flatMap encE)) (by repeat constructor) rfl⟩
end Go.Proofs.YtheofhegdjjfgaaGreat

namespace Go.Proofs.YtheofhegdjjfgaaGreat
open Go.RowKit
section
variable {P : Program} {n : Nat} {a : Act} {L : List (Nat × Value)} {Γ : List Asn} {dst : Option Nat} {ty : Nat} {pos : String} {af : Array Edge} {g : Option (Nat × Bool)}
end
set_option maxRecDepth 100000 in
theorem lEntry_P (B : LB) (s : LS) (k : Nat) (x : EA) (hx : s.es[k]? = some x) (hes : s.es.length ≤ 100000) (hpl : x.v.ps.length ≤ 100000) (w0 : World) (h : ledφ B s w0) :
    NewC Tryz.prog 44 [.pointer (some ⟨B.lb, 0, none⟩), .int .i64 ((k : Int) + 1)] w0 (fun y : Nat × Nat => .tuple [.agg (encE ⟨x.v, y.1, y.2⟩).toArray, .bool true].toArray) (fun y => ownA 82 3 (psO x.v.ps y) x.v.ps.length (x.v.ps.flatMap encP)) := by
  obtain ⟨qs, cs, hsv⟩ := own_slice h.row
  have hkl := (List.getElem?_eq_some_iff.1 hx).1
  have hxm := List.mem_of_getElem? hx
  obtain ⟨gs, rfl⟩ : ∃ g, qs = some ⟨g, 0, none⟩ := own_at (w := w0) (by rw [← hsv]; exact h.row) (by omega)
  refine c_enter [(0, .pointer (some ⟨B.lb, 0, none⟩)), (1, .int .i64 ((k : Int) + 1))] [ledA B s false] noB Tryz.func44 rfl Tryz.ntmps44 ⟨rfl, rfl, trivial⟩ rfl (okC (led_ok false h) okN) dis1 (mineC (by rfl) mineN) ?_
  intro a hS
  refine c_seq (c_region ?_)
  refine L_op (s_alloc hS ty_z102 rfl ?_); clear hS a; (try clear w); intro a w b4 hS
  refine L_e hS (e_assign rfl) rfl ?_; clear hS a; intro a hS
  refine L_nil (n_then (c_seq (c_seq (c_region ?_))))
  refine L_e hS (e_move rfl) rfl ?_; clear hS a; intro a hS
  refine L_e hS (e_bin rfl rfl rfl) rfl ?_; clear hS a; intro a hS
  refine L_e hS (e_move rfl) rfl ?_; clear hS a; intro a hS
  replace hS := hS.is (t := 8) (c := false) rfl ((decide_eq_false (by omega)))
  refine L_ge hS rfl rfl (e_move rfl) rfl ?_; clear hS a; intro a hS
  refine L_ge hS rfl rfl (e_move rfl) rfl ?_; clear hS a; intro a hS
  refine L_ge hS rfl rfl (e_nilCheck rfl) rfl ?_; clear hS a; intro a hS
  (first | refine L_ge hS rfl rfl (e_fa0 rfl ty_fo88_2) rfl ?_ | refine L_ge hS rfl rfl (e_faK rfl ty_fo88_2) rfl ?_); clear hS a; intro a hS
  refine L_ge hS rfl rfl (e_loadC rfl ty_sc86 (led_cell (k := 2) (by repeat constructor) rfl)) rfl ?_; clear hS a; intro a hS
  rw [hsv] at hS
  refine L_ge hS rfl rfl (e_len rfl rfl ty_sl86) rfl ?_; clear hS a; intro a hS
  refine L_ge hS rfl rfl (e_bin rfl rfl rfl) rfl ?_; clear hS a; intro a hS
  refine L_e hS (e_pk rfl rfl) rfl ?_; clear hS a; intro a hS
  refine L_nil (n_then ?_)
  replace hS := hS.is (t := 16) (c := false) rfl ((decide_eq_false (by omega)))
  refine c_if_f hS rfl ?_
  refine wp_skip (n_then (c_seq (c_region ?_)))
  refine L_e hS (e_move rfl) rfl ?_; clear hS a; intro a hS
  refine L_e hS (e_nilCheck rfl) rfl ?_; clear hS a; intro a hS
  (first | refine L_e hS (e_fa0 rfl ty_fo88_2) rfl ?_ | refine L_e hS (e_faK rfl ty_fo88_2) rfl ?_); clear hS a; intro a hS
  refine L_e hS (e_loadC rfl ty_sc86 (led_cell (k := 2) (by repeat constructor) rfl)) rfl ?_; clear hS a; intro a hS
  rw [hsv] at hS
  refine L_e hS (e_move rfl) rfl ?_; clear hS a; intro a hS
  (first | refine L_e hS (e_binN rfl rfl rfl (by omega)) rfl ?_ | refine L_e hS (e_bin rfl rfl rfl) rfl ?_); clear hS a; intro a hS
  rw [show (k : Int) + 1 - 1 = (k : Int) from by omega] at hS
  refine L_e hS (e_ixN rfl rfl ty_sl86 ty_sz102 (by omega)) rfl ?_; clear hS a; intro a hS
  refine L_e hS (e_loadAC (l := encE x) rfl ty_st102 ty_sz102 (row_getE hsv (by repeat constructor) hx)) rfl ?_; clear hS a; intro a hS
  refine L_op (s_callN hS (.cons rfl .nil) cf83 rfl (lown_P x (by omega) _ ((hS.get (X := ledA B s false) (by repeat constructor)).ps x hxm)) ?_); clear hS a; (try clear w); intro x26 a w hS
  refine L_op (s_storeA hS rfl rfl ty_sz102 (by repeat constructor) (by rfl) (by rfl) (by rfl) ?_); clear hS; (try clear w); intro w hS
  refine L_e hS (e_assign rfl) rfl ?_; clear hS a; intro a hS
  refine L_nil (n_then (wp_ret ?_))
  refine c_retN hS Tryz.results44 (.cons (.cellA rfl (by repeat constructor) ty_st102 ty_sz102 (by rfl)) (.cons (.tmp rfl) .nil)) rfl ?_
  exact ⟨x26, rfl, hS.chg, hS.new (X := ownA 82 3 (psO x.v.ps x26) x.v.ps.length (x.v.ps.flatMap encP)) (by repeat constructor) rfl⟩
def psAtF (v : Value) (l : List Pst) (k : Nat) : Prop := l ≠ [] ∧ v.ownBlock = some k
def psAtA (v : Value) (l : List Pst) : Asn := .any (psAtF v l) (PsAt v l) false
theorem psAt_ok {v : Value} {l : List Pst} {w : World} (h : PsAt v l w) : (psAtA v l).ok w := by
  refine ⟨fun k hk => ?_, fun w' hw => h.keep (fun k hne hk => hw k ⟨hne, hk⟩)⟩
  obtain ⟨hne, hk⟩ := hk
  obtain ⟨b, off, c, rfl, _, hb⟩ := h.some hne
  cases hk; exact hb
theorem psAt_pos {a : Option Addr} {c : Nat} {l : List Pst} {w : World} (h : PsAt (.slice a l.length c) l w) (hne : l ≠ []) : ∃ b off, a = some ⟨b, off, none⟩ := by
  obtain ⟨b, off, c', e, _, _⟩ := h.some hne
  injection e with e1
  exact ⟨b, off, e1⟩
theorem psAt_get {Γ : List Asn} {b off c : Nat} {l : List Pst} (hm : psAtA (.slice (some ⟨b, off, none⟩) l.length c) l ∈ Γ) {i : Nat} {x : Pst} (hx : l[i]? = some x) : ∀ w, Hd Γ w → ∀ j v, (encP x)[j]? = some v → w.cell? ⟨b, off + i * 3 + j, none⟩ = some v := by
  intro w hh j v hj
  have h : PsAt _ l w := hh _ hm
  have hne : l ≠ [] := fun e => by rw [e] at hx; cases hx
  obtain ⟨b', off', c', e, hr, _⟩ := h.some hne
  injection e with e1
  cases e1
  exact hr i (encP x) (by simp [hx]) j v hj
set_option maxHeartbeats 1000000 in
set_option maxRecDepth 100000 in
theorem lPosts_P (v : Value) (ps : List Pst) (hpl : ps.length ≤ 100000) (w0 : World) (h : PsAt v ps w0) :
    NewC Tryz.prog 20 [v] w0 (fun ov : Value => ov) (fun ov => ownA 124 3 ov ps.length (ps.flatMap encP)) := by
  obtain ⟨ad, c, rfl⟩ := h.shape
  refine c_enter [(0, .slice ad ps.length c)] [psAtA (.slice ad ps.length c) ps] noB Tryz.func20 rfl Tryz.ntmps20 ⟨rfl, trivial⟩ rfl (okC (psAt_ok h) okN) dis1 (mineC (by rfl) mineN) ?_
  intro a hS
  refine c_seq (c_region ?_)
  refine L_e hS (e_assign rfl) rfl ?_; clear hS a; intro a hS
  refine L_nil (n_then (c_seq (c_region ?_)))
  refine L_e hS (e_assign rfl) rfl ?_; clear hS a; intro a hS
  refine L_nil (n_then (c_seq (c_seq (c_region ?_))))
  refine L_e hS (e_assign rfl) rfl ?_; clear hS a; intro a hS
  refine L_nil (n_then (wp_block ?_))
  replace hS := hS.own_nil 124 3
  refine c_loop (γ := Nat × Value) (fun G a w => St 31 noB w0 a w [(4, .int .i64 (G.1 : Int)), (3, G.2), (0, .slice ad ps.length c)] [ownA 124 3 G.2 (ps.take G.1).length ((ps.take G.1).flatMap encP), psAtA (.slice ad ps.length c) ps] ∧ G.1 ≤ ps.length) (fun G => ps.length - G.1) (0, .slice none 0 0) ⟨(hS.slots (by repeat (first | exact trivial | refine ⟨rfl, ?_⟩))).pick (by repeat (first | exact Pick.nil | (refine Pick.cons (by repeat (first | exact Rem.head | apply Rem.tail)) ?_))), Nat.zero_le _⟩ ?_
  clear hS a; (try clear w); intro G a w hI
  obtain ⟨i, out⟩ := G
  obtain ⟨hS, hi⟩ := hI
  simp only at hS hi
  refine c_seq (c_seq (c_region ?_))
  refine L_e hS (e_move rfl) rfl ?_; clear hS a; intro a hS
  refine L_e hS (e_move rfl) rfl ?_; clear hS a; intro a hS
  refine L_e hS (e_len rfl rfl ty_sl36) rfl ?_; clear hS a; intro a hS
  refine L_e hS (e_bin rfl rfl rfl) rfl ?_; clear hS a; intro a hS
  refine L_nil (n_then ?_)
  first | refine c_ifD hS rfl (fun hc8 => ?_) (fun hc8 => ?_) | refine c_if hS rfl (fun hc8 => ?_) (fun hc8 => ?_)
  ·
    have hik : i < ps.length := by omega
    obtain ⟨x, hx⟩ : ∃ x, ps[i]? = some x := ⟨ps[i], List.getElem?_eq_getElem hik⟩
    obtain ⟨b, off, rfl⟩ := psAt_pos (hS.get (X := psAtA (.slice ad ps.length c) ps) (by repeat constructor)) (fun e => by rw [e] at hik; simp at hik)
    have htk : ps.take (i + 1) = ps.take i ++ [x] := by rw [List.take_add_one, hx]; rfl
    have htl : (ps.take i).length = i := by rw [List.length_take]; omega
    refine wp_skip (n_then (c_seq (wp_block ?_)))
    refine c_drawS [18] (by kernel_rfl) hS (sub_cons (X := psAtA (.slice (some ⟨b, off, none⟩) ps.length c) ps) (by repeat constructor) sub_nil) ?_; clear hS; (try clear w); intro w hS
    simp only [List.length_cons, List.length_nil, Nat.zero_add, Nat.reduceAdd, List.replicate]
    refine Zt0 0 (tf 1 19) hS rfl want_none (e_move rfl) rfl (by kernel_rfl) rfl ?_; clear hS a; intro a hS
    refine Zt0 1 (tf 2 18) hS rfl want_none (e_move rfl) rfl (by kernel_rfl) rfl ?_; clear hS a; intro a hS
    refine Zt0 2 (tf 3 17) hS rfl want_none (e_move rfl) rfl (by kernel_rfl) rfl ?_; clear hS a; intro a hS
    refine Zt0 3 (tf 4 16) hS rfl want_none (e_ixN rfl rfl ty_sl36 ty_sz82 (by omega)) rfl (by kernel_rfl) rfl ?_; clear hS a; intro a hS
    (first | refine Zt0 4 (tf 5 15) hS rfl want_none (e_fa0 rfl ty_fo82_0) rfl (by kernel_rfl) rfl ?_ | refine Zt0 4 (tf 5 15) hS rfl want_none (e_faK rfl ty_fo82_0) rfl (by kernel_rfl) rfl ?_); clear hS a; intro a hS
    refine Zt 5 (tf 6 14) hS rfl want_none (e_loadC rfl ty_sc9 (fun w hh => psAt_get (by repeat constructor) hx w hh 0 (.string x.acc) rfl)) rfl (by kernel_rfl) (sub_cons (by repeat constructor) sub_nil) rfl ?_; clear hS a; intro a hS
    refine Zt0 6 (tf 7 13) hS rfl want_none (e_move rfl) rfl (by kernel_rfl) rfl ?_; clear hS a; intro a hS
    refine Zt0 7 (tf 8 12) hS rfl want_none (e_move rfl) rfl (by kernel_rfl) rfl ?_; clear hS a; intro a hS
    refine Zt0 8 (tf 9 11) hS rfl want_none (e_ixN rfl rfl ty_sl36 ty_sz82 (by omega)) rfl (by kernel_rfl) rfl ?_; clear hS a; intro a hS
    (first | refine Zt0 9 (tf 10 10) hS rfl want_none (e_fa0 rfl ty_fo82_1) rfl (by kernel_rfl) rfl ?_ | refine Zt0 9 (tf 10 10) hS rfl want_none (e_faK rfl ty_fo82_1) rfl (by kernel_rfl) rfl ?_); clear hS a; intro a hS
    refine Zt 10 (tf 11 9) hS rfl want_none (e_loadC rfl ty_sc3 (fun w hh => psAt_get (by repeat constructor) hx w hh 1 (.int .i64 x.u) rfl)) rfl (by kernel_rfl) (sub_cons (by repeat constructor) sub_nil) rfl ?_; clear hS a; intro a hS
    refine Zt0 11 (tf 12 8) hS rfl want_none (e_move rfl) rfl (by kernel_rfl) rfl ?_; clear hS a; intro a hS
    refine Zt0 12 (tf 13 7) hS rfl want_none (e_move rfl) rfl (by kernel_rfl) rfl ?_; clear hS a; intro a hS
    refine Zt0 13 (tf 14 6) hS rfl want_none (e_ixN rfl rfl ty_sl36 ty_sz82 (by omega)) rfl (by kernel_rfl) rfl ?_; clear hS a; intro a hS
    (first | refine Zt0 14 (tf 15 5) hS rfl want_none (e_fa0 rfl ty_fo82_2) rfl (by kernel_rfl) rfl ?_ | refine Zt0 14 (tf 15 5) hS rfl want_none (e_faK rfl ty_fo82_2) rfl (by kernel_rfl) rfl ?_); clear hS a; intro a hS
    refine Zt 15 (tf 16 4) hS rfl want_none (e_loadC rfl ty_sc3 (fun w hh => psAt_get (by repeat constructor) hx w hh 2 (.int .i64 x.f) rfl)) rfl (by kernel_rfl) (sub_cons (by repeat constructor) sub_nil) rfl ?_; clear hS a; intro a hS
    refine Zt0 16 (tf 17 3) hS rfl want_none (e_build ty_z124 ty_pl124 (.one rfl rfl rfl (by repeat constructor) (.one rfl rfl rfl (by repeat constructor) (.one rfl rfl rfl (by repeat constructor) .nil)))) rfl (by kernel_rfl) rfl ?_; clear hS a; intro a hS
    refine Z_one (i := 17) rfl (want_none a hS.sl) (listed' := (tf 18 2)) rfl (by kernel_rfl) (s_bslice hS ty_sl54 ty_sz124 ty_z124 rfl rfl rfl rfl (.agg rfl rfl .nil) rfl ?_); clear hS a; (try clear w); intro a w b28 hS
    refine Z_and hS (sub_cons (by repeat constructor) sub_nil) ?_
    refine Z_one (i := 18) rfl (want_none a hS.sl) (listed' := (tf 19 1)) rfl (by kernel_rfl) (s_append1 hS rfl rfl ty_sl54 ty_sz124 ty_by124 ty_z124 rfl rfl rfl (by repeat constructor) (by repeat constructor) (by rfl) (by rfl) (fun _ => (by repeat constructor)) (by omega) ?_); clear hS a; (try clear w); intro v29 a w hv29 hS
    refine Z_last (by simp) ?_
    refine Zt0 19 (tf 20 0) hS rfl want_none (e_assign rfl) rfl (by kernel_rfl) rfl ?_; clear hS a; intro a hS
    refine Z_done (by kernel_rfl) ?_
    refine n_block (n_then (c_region ?_))
    refine L_e hS (e_move rfl) rfl ?_; clear hS a; intro a hS
    (first | refine L_e hS (e_binN rfl rfl rfl (by omega)) rfl ?_ | refine L_e hS (e_bin rfl rfl rfl) rfl ?_); clear hS a; intro a hS
    refine L_e hS (e_assign rfl) rfl ?_; clear hS a; intro a hS
    refine L_nil ?_
    have e1 : (ps.take (i + 1)).length = (ps.take i).length + 1 := by rw [htk]; simp
    have e2 : (ps.take (i + 1)).flatMap encP = (ps.take i).flatMap encP ++ encP x := by rw [htk, List.flatMap_append]; simp
    refine ⟨(i + 1, v29), by simp only; omega, ?_, by simp only; omega⟩
    simp only
    rw [e1, e2]
    exact (hS.slots (by repeat (first | exact trivial | refine ⟨rfl, ?_⟩))).pick (by repeat (first | exact Pick.nil | (refine Pick.cons (by repeat (first | exact Rem.head | apply Rem.tail)) ?_)))
  refine wp_exit ?_
  refine x_then (x_then (x_hit ?_))
  refine n_then (c_seq (c_region ?_))
  refine L_e hS (e_move rfl) rfl ?_; clear hS a; intro a hS
  refine L_e hS (e_assign rfl) rfl ?_; clear hS a; intro a hS
  refine L_nil (n_then (wp_ret ?_))
  refine c_ret1 hS Tryz.results20 (.tmp rfl) ?_
  obtain rfl : i = ps.length := by omega
  rw [List.take_length] at hS
  exact ⟨out, rfl, hS.chg, hS.new (X := ownA 124 3 out ps.length (ps.flatMap encP)) (by repeat constructor) rfl⟩
def twoPA (v u : Value) (l : List Pst) : Asn := .any (fun k => psAtF v l k ∨ u.ownBlock = some k) (fun w => PsAt v l w ∧ w.ownsRow 0 124 3 u l.length (l.flatMap encP)) false
theorem twoP_ok {v u : Value} {l : List Pst} {w : World} (h : PsAt v l w) (h2 : w.ownsRow 0 124 3 u l.length (l.flatMap encP)) : (twoPA v u l).ok w := by
  have a := psAt_ok h
  exact ⟨fun k hk => hk.elim (fun hk => a.lt k hk) (fun hk => (World.ownsRow.lt h2 k hk).2), fun w' hw => ⟨a.hold w' (fun k hk => hw k (.inl hk)), owns_keepL h2 (fun k hk => hw k (.inr hk))⟩⟩
theorem twoP_get {Γ : List Asn} {b off c : Nat} {u : Value} {l : List Pst} (hm : twoPA (.slice (some ⟨b, off, none⟩) l.length c) u l ∈ Γ) {i : Nat} {x : Pst} (hx : l[i]? = some x) : ∀ w, Hd Γ w → ∀ j v, (encP x)[j]? = some v → w.cell? ⟨b, off + i * 3 + j, none⟩ = some v := by
  intro w hh j v hj
  have h : PsAt _ l w := (hh _ hm).1
  have hne : l ≠ [] := fun e => by rw [e] at hx; cases hx
  obtain ⟨b', off', c', e, hr, _⟩ := h.some hne
  injection e with e1
  cases e1
  exact hr i (encP x) (by simp [hx]) j v hj
theorem twoP_getU {Γ : List Asn} {g c : Nat} {v : Value} {l : List Pst} (hm : twoPA v (.slice (some ⟨g, 0, none⟩) l.length c) l ∈ Γ) {i : Nat} {x : Pst} (hx : l[i]? = some x) : ∀ w, Hd Γ w → ∀ j v, (encP x)[j]? = some v → w.cell? ⟨g, 0 + i * 3 + j, none⟩ = some v := by
  intro w hh j v hj
  have h := (hh _ hm).2
  have h1 := flat_get encP 3 (fun _ => rfl) l i x hx j v hj
  have h2 := World.ownsRow.cells h (g := g) rfl _ _ h1
  rw [addr_add] at h2
  rw [← h2]; congr 2; omega
set_option maxHeartbeats 1000000 in
set_option maxRecDepth 100000 in
theorem lSame_P (v u : Value) (ps : List Pst) (hpl : ps.length ≤ 100000) (w0 : World) (h : PsAt v ps w0) (h2 : w0.ownsRow 0 124 3 u ps.length (ps.flatMap encP)) :
    PureC Tryz.prog 25 [v, u] w0 (.bool true) := by
  obtain ⟨ad, c, rfl⟩ := h.shape
  obtain ⟨qu, cu, rfl⟩ := own_slice h2
  refine c_enter [(0, .slice ad ps.length c), (1, .slice qu ps.length cu)] [twoPA (.slice ad ps.length c) (.slice qu ps.length cu) ps] noB Tryz.func25 rfl Tryz.ntmps25 ⟨rfl, rfl, trivial⟩ rfl (okC (twoP_ok h h2) okN) dis1 (mineC (by rfl) mineN) ?_
  intro a hS
  refine c_seq (c_region ?_)
  refine L_e hS (e_assign rfl) rfl ?_; clear hS a; intro a hS
  refine L_nil (n_then (c_seq (c_seq (c_region ?_))))
  refine L_e hS (e_move rfl) rfl ?_; clear hS a; intro a hS
  refine L_e hS (e_len rfl rfl ty_sl36) rfl ?_; clear hS a; intro a hS
  refine L_e hS (e_move rfl) rfl ?_; clear hS a; intro a hS
  refine L_e hS (e_len rfl rfl ty_sl54) rfl ?_; clear hS a; intro a hS
  refine L_e hS (e_bin rfl rfl rfl) rfl ?_; clear hS a; intro a hS
  refine L_nil (n_then ?_)
  replace hS := hS.is (t := 10) (c := false) rfl ((by simp))
  refine c_if_f hS rfl ?_
  refine wp_skip (n_then (c_seq (c_seq (c_region ?_))))
  refine L_e hS (e_assign rfl) rfl ?_; clear hS a; intro a hS
  refine L_nil (n_then (wp_block ?_))
  skip
  refine c_loop (γ := Nat) (fun i a w => St 54 noB w0 a w [(5, .int .i64 (i : Int)), (0, .slice ad ps.length c), (1, .slice qu ps.length cu)] [twoPA (.slice ad ps.length c) (.slice qu ps.length cu) ps] ∧ i ≤ ps.length) (fun i => ps.length - i) 0 ⟨hS.slots (by repeat (first | exact trivial | refine ⟨rfl, ?_⟩)), Nat.zero_le _⟩ ?_
  clear hS a; (try clear w); intro i a w hI
  obtain ⟨hS, hi⟩ := hI
  refine c_seq (c_seq (c_region ?_))
  refine L_e hS (e_move rfl) rfl ?_; clear hS a; intro a hS
  refine L_e hS (e_move rfl) rfl ?_; clear hS a; intro a hS
  refine L_e hS (e_len rfl rfl ty_sl36) rfl ?_; clear hS a; intro a hS
  refine L_e hS (e_bin rfl rfl rfl) rfl ?_; clear hS a; intro a hS
  refine L_nil (n_then ?_)
  first | refine c_ifD hS rfl (fun hc14 => ?_) (fun hc14 => ?_) | refine c_if hS rfl (fun hc14 => ?_) (fun hc14 => ?_)
  ·
    have hik : i < ps.length := by omega
    obtain ⟨x, hx⟩ : ∃ x, ps[i]? = some x := ⟨ps[i], List.getElem?_eq_getElem hik⟩
    obtain ⟨b, off, rfl⟩ := psAt_pos (hS.get (X := twoPA (.slice ad ps.length c) (.slice qu ps.length cu) ps) (by repeat constructor)).1 (fun e => by rw [e] at hik; simp at hik)
    obtain ⟨g, rfl⟩ : ∃ g, qu = some ⟨g, 0, none⟩ := own_at (hS.get (X := twoPA (.slice (some ⟨b, off, none⟩) ps.length c) (.slice qu ps.length cu) ps) (by repeat constructor)).2 (by omega)
    refine wp_skip (n_then (c_seq (wp_block (c_seq ?_))))
    refine c_drawS [] (by kernel_rfl) hS (sub_cons (X := twoPA (.slice (some ⟨b, off, none⟩) ps.length c) (.slice (some ⟨g, 0, none⟩) ps.length cu) ps) (by repeat constructor) sub_nil) ?_; clear hS; (try clear w); intro w hS
    simp only [List.length_cons, List.length_nil, Nat.zero_add, Nat.reduceAdd, List.replicate]
    refine Zt0 0 (tf 1 36) hS rfl want_none (e_move rfl) rfl (by kernel_rfl) rfl ?_; clear hS a; intro a hS
    refine Zt0 1 (tf 2 35) hS rfl want_none (e_move rfl) rfl (by kernel_rfl) rfl ?_; clear hS a; intro a hS
    refine Zt0 2 (tf 3 34) hS rfl want_none (e_ixN rfl rfl ty_sl36 ty_sz82 (by omega)) rfl (by kernel_rfl) rfl ?_; clear hS a; intro a hS
    (first | refine Zt0 3 (tf 4 33) hS rfl want_none (e_fa0 rfl ty_fo82_0) rfl (by kernel_rfl) rfl ?_ | refine Zt0 3 (tf 4 33) hS rfl want_none (e_faK rfl ty_fo82_0) rfl (by kernel_rfl) rfl ?_); clear hS a; intro a hS
    refine Zt 4 (tf 5 32) hS rfl want_none (e_loadC rfl ty_sc9 (fun w hh => twoP_get (by repeat constructor) hx w hh 0 (.string x.acc) rfl)) rfl (by kernel_rfl) (sub_cons (by repeat constructor) sub_nil) rfl ?_; clear hS a; intro a hS
    refine Zt0 5 (tf 6 31) hS rfl want_none (e_move rfl) rfl (by kernel_rfl) rfl ?_; clear hS a; intro a hS
    refine Zt0 6 (tf 7 30) hS rfl want_none (e_move rfl) rfl (by kernel_rfl) rfl ?_; clear hS a; intro a hS
    refine Zt0 7 (tf 8 29) hS rfl want_none (e_ixN rfl rfl ty_sl54 ty_sz124 (by omega)) rfl (by kernel_rfl) rfl ?_; clear hS a; intro a hS
    (first | refine Zt0 8 (tf 9 28) hS rfl want_none (e_fa0 rfl ty_fo124_0) rfl (by kernel_rfl) rfl ?_ | refine Zt0 8 (tf 9 28) hS rfl want_none (e_faK rfl ty_fo124_0) rfl (by kernel_rfl) rfl ?_); clear hS a; intro a hS
    refine Zt 9 (tf 10 27) hS rfl want_none (e_loadC rfl ty_sc9 (fun w hh => twoP_getU (by repeat constructor) hx w hh 0 (.string x.acc) rfl)) rfl (by kernel_rfl) (sub_cons (by repeat constructor) sub_nil) rfl ?_; clear hS a; intro a hS
    refine Zt0 10 (tf 11 26) hS rfl want_none (e_binS rfl rfl rfl) rfl (by kernel_rfl) rfl ?_; clear hS a; intro a hS
    refine Zt0 11 (tf 12 25) hS rfl want_none (e_move rfl) rfl (by kernel_rfl) rfl ?_; clear hS a; intro a hS
    replace hS := hS.is (t := 28) (c := false) rfl ((by simp))
    refine Zt0 12 (tf 13 24) hS rfl (want_go rfl rfl) (e_move rfl) rfl (by kernel_rfl) rfl ?_; clear hS a; intro a hS
    refine Zt0 13 (tf 14 23) hS rfl (want_go rfl rfl) (e_move rfl) rfl (by kernel_rfl) rfl ?_; clear hS a; intro a hS
    refine Zt0 14 (tf 15 22) hS rfl (want_go rfl rfl) (e_ixN rfl rfl ty_sl36 ty_sz82 (by omega)) rfl (by kernel_rfl) rfl ?_; clear hS a; intro a hS
    (first | refine Zt0 15 (tf 16 21) hS rfl (want_go rfl rfl) (e_fa0 rfl ty_fo82_1) rfl (by kernel_rfl) rfl ?_ | refine Zt0 15 (tf 16 21) hS rfl (want_go rfl rfl) (e_faK rfl ty_fo82_1) rfl (by kernel_rfl) rfl ?_); clear hS a; intro a hS
    refine Zt 16 (tf 17 20) hS rfl (want_go rfl rfl) (e_loadC rfl ty_sc3 (fun w hh => twoP_get (by repeat constructor) hx w hh 1 (.int .i64 x.u) rfl)) rfl (by kernel_rfl) (sub_cons (by repeat constructor) sub_nil) rfl ?_; clear hS a; intro a hS
    refine Zt0 17 (tf 18 19) hS rfl (want_go rfl rfl) (e_move rfl) rfl (by kernel_rfl) rfl ?_; clear hS a; intro a hS
    refine Zt0 18 (tf 19 18) hS rfl (want_go rfl rfl) (e_move rfl) rfl (by kernel_rfl) rfl ?_; clear hS a; intro a hS
    refine Zt0 19 (tf 20 17) hS rfl (want_go rfl rfl) (e_ixN rfl rfl ty_sl54 ty_sz124 (by omega)) rfl (by kernel_rfl) rfl ?_; clear hS a; intro a hS
    (first | refine Zt0 20 (tf 21 16) hS rfl (want_go rfl rfl) (e_fa0 rfl ty_fo124_1) rfl (by kernel_rfl) rfl ?_ | refine Zt0 20 (tf 21 16) hS rfl (want_go rfl rfl) (e_faK rfl ty_fo124_1) rfl (by kernel_rfl) rfl ?_); clear hS a; intro a hS
    refine Zt 21 (tf 22 15) hS rfl (want_go rfl rfl) (e_loadC rfl ty_sc3 (fun w hh => twoP_getU (by repeat constructor) hx w hh 1 (.int .i64 x.u) rfl)) rfl (by kernel_rfl) (sub_cons (by repeat constructor) sub_nil) rfl ?_; clear hS a; intro a hS
    refine Zt0 22 (tf 23 14) hS rfl (want_go rfl rfl) (e_bin rfl rfl rfl) rfl (by kernel_rfl) rfl ?_; clear hS a; intro a hS
    refine Zt0 23 (tf 24 13) hS rfl want_none (e_pk rfl rfl) rfl (by kernel_rfl) rfl ?_; clear hS a; intro a hS
    refine Zt0 24 (tf 25 12) hS rfl want_none (e_move rfl) rfl (by kernel_rfl) rfl ?_; clear hS a; intro a hS
    replace hS := hS.is (t := 41) (c := false) rfl ((by simp))
    refine Zt0 25 (tf 26 11) hS rfl (want_go rfl rfl) (e_move rfl) rfl (by kernel_rfl) rfl ?_; clear hS a; intro a hS
    refine Zt0 26 (tf 27 10) hS rfl (want_go rfl rfl) (e_move rfl) rfl (by kernel_rfl) rfl ?_; clear hS a; intro a hS
    refine Zt0 27 (tf 28 9) hS rfl (want_go rfl rfl) (e_ixN rfl rfl ty_sl36 ty_sz82 (by omega)) rfl (by kernel_rfl) rfl ?_; clear hS a; intro a hS
    (first | refine Zt0 28 (tf 29 8) hS rfl (want_go rfl rfl) (e_fa0 rfl ty_fo82_2) rfl (by kernel_rfl) rfl ?_ | refine Zt0 28 (tf 29 8) hS rfl (want_go rfl rfl) (e_faK rfl ty_fo82_2) rfl (by kernel_rfl) rfl ?_); clear hS a; intro a hS
    refine Zt 29 (tf 30 7) hS rfl (want_go rfl rfl) (e_loadC rfl ty_sc3 (fun w hh => twoP_get (by repeat constructor) hx w hh 2 (.int .i64 x.f) rfl)) rfl (by kernel_rfl) (sub_cons (by repeat constructor) sub_nil) rfl ?_; clear hS a; intro a hS
    refine Zt0 30 (tf 31 6) hS rfl (want_go rfl rfl) (e_move rfl) rfl (by kernel_rfl) rfl ?_; clear hS a; intro a hS
    refine Zt0 31 (tf 32 5) hS rfl (want_go rfl rfl) (e_move rfl) rfl (by kernel_rfl) rfl ?_; clear hS a; intro a hS
    refine Zt0 32 (tf 33 4) hS rfl (want_go rfl rfl) (e_ixN rfl rfl ty_sl54 ty_sz124 (by omega)) rfl (by kernel_rfl) rfl ?_; clear hS a; intro a hS
    (first | refine Zt0 33 (tf 34 3) hS rfl (want_go rfl rfl) (e_fa0 rfl ty_fo124_2) rfl (by kernel_rfl) rfl ?_ | refine Zt0 33 (tf 34 3) hS rfl (want_go rfl rfl) (e_faK rfl ty_fo124_2) rfl (by kernel_rfl) rfl ?_); clear hS a; intro a hS
    refine Zt 34 (tf 35 2) hS rfl (want_go rfl rfl) (e_loadC rfl ty_sc3 (fun w hh => twoP_getU (by repeat constructor) hx w hh 2 (.int .i64 x.f) rfl)) rfl (by kernel_rfl) (sub_cons (by repeat constructor) sub_nil) rfl ?_; clear hS a; intro a hS
    refine Zt0 35 (tf 36 1) hS rfl (want_go rfl rfl) (e_bin rfl rfl rfl) rfl (by kernel_rfl) rfl ?_; clear hS a; intro a hS
    refine Zt0 36 (tf 37 0) hS rfl want_none (e_pk rfl rfl) rfl (by kernel_rfl) rfl ?_; clear hS a; intro a hS
    refine Z_done (by kernel_rfl) ?_
    refine n_then ?_
    replace hS := hS.is (t := 53) (c := false) rfl ((by simp))
    refine c_if_f hS rfl ?_
    refine wp_skip (n_block (n_then (c_region ?_)))
    refine L_e hS (e_move rfl) rfl ?_; clear hS a; intro a hS
    (first | refine L_e hS (e_binN rfl rfl rfl (by omega)) rfl ?_ | refine L_e hS (e_bin rfl rfl rfl) rfl ?_); clear hS a; intro a hS
    refine L_e hS (e_assign rfl) rfl ?_; clear hS a; intro a hS
    refine L_nil ?_
    exact ⟨i + 1, by omega, hS.slots (by repeat (first | exact trivial | refine ⟨rfl, ?_⟩)), by omega⟩
  refine wp_exit ?_
  refine x_then (x_then (x_hit ?_))
  refine n_then (c_seq (c_region ?_))
  refine L_e hS (e_assign rfl) rfl ?_; clear hS a; intro a hS
  refine L_nil (n_then (wp_ret ?_))
  refine c_ret1 hS Tryz.results25 (.tmp rfl) ?_
  exact ⟨rfl, hS.chg⟩
end Go.Proofs.YtheofhegdjjfgaaGreat

namespace Go.Proofs.YtheofhegdjjfgaaGreat
open Go.RowKit
set_option maxRecDepth 100000 in
theorem lCurrency_P (B : LB) (s : LS) (w0 : World) (h : ledφ B s w0) : PureC Tryz.prog 39 [.pointer (some ⟨B.lb, 0, none⟩)] w0 (.string s.cur) := by
  refine c_enter [(0, .pointer (some ⟨B.lb, 0, none⟩))] [ledA B s false] noB Tryz.func39 rfl Tryz.ntmps39 ⟨rfl, trivial⟩ rfl (okC (led_ok false h) okN) dis1 (mineC (by rfl) mineN) ?_
  intro a hS
  refine c_seq (c_region ?_)
  refine L_e hS (e_assign rfl) rfl ?_; clear hS a; intro a hS
  refine L_nil (n_then (c_seq (c_region ?_)))
  refine L_e hS (e_move rfl) rfl ?_; clear hS a; intro a hS
  refine L_e hS (e_nilCheck rfl) rfl ?_; clear hS a; intro a hS
  (first | refine L_e hS (e_fa0 rfl ty_fo88_0) rfl ?_ | refine L_e hS (e_faK rfl ty_fo88_0) rfl ?_); clear hS a; intro a hS
  refine L_e hS (e_loadC rfl ty_sc9 (led_cell (k := 0) (by repeat constructor) rfl)) rfl ?_; clear hS a; intro a hS
  refine L_e hS (e_assign rfl) rfl ?_; clear hS a; intro a hS
  refine L_nil (n_then (wp_ret ?_))
  refine c_ret1 hS Tryz.results39 (.tmp rfl) ?_
  exact ⟨rfl, hS.chg⟩
set_option maxRecDepth 100000 in
theorem lAccount_P (B : LB) (s : LS) (c : ByteArray) (w0 : World) (h : ledφ B s w0) : PureC Tryz.prog 45 [.pointer (some ⟨B.lb, 0, none⟩), .string c] w0 (.tuple [.agg (encAc (accOf s.acs c)).toArray, .bool (findA s.acs c).isSome].toArray) := by
  refine c_enter [(0, .pointer (some ⟨B.lb, 0, none⟩)), (1, .string c)] [ledA B s false] noB Tryz.func45 rfl Tryz.ntmps45 ⟨rfl, rfl, trivial⟩ rfl (okC (led_ok false h) okN) dis1 (mineC (by rfl) mineN) ?_
  intro a hS
  refine c_seq (c_region ?_)
  refine L_op (s_alloc hS ty_z35 rfl ?_); clear hS a; (try clear w); intro a w b4 hS
  refine L_e hS (e_assign rfl) rfl ?_; clear hS a; intro a hS
  refine L_nil (n_then (c_seq (c_region ?_)))
  refine L_e hS (e_move rfl) rfl ?_; clear hS a; intro a hS
  refine L_e hS (e_nilCheck rfl) rfl ?_; clear hS a; intro a hS
  (first | refine L_e hS (e_fa0 rfl ty_fo88_1) rfl ?_ | refine L_e hS (e_faK rfl ty_fo88_1) rfl ?_); clear hS a; intro a hS
  refine L_e hS (e_loadC rfl ty_sc84 (led_cell (k := 1) (by repeat constructor) rfl)) rfl ?_; clear hS a; intro a hS
  refine L_e hS (e_move rfl) rfl ?_; clear hS a; intro a hS
  refine L_e hS (e_lookupTC rfl rfl ty_mp84 ty_u9 ty_zv35 (fun w hh => (hh (ledA B s false) (by repeat constructor)).am)) rfl ?_; clear hS a; intro a hS
  rw [lk_acc, has_acc] at hS
  refine L_e hS (e_move rfl) rfl ?_; clear hS a; intro a hS
  refine L_e hS (e_extract rfl rfl) rfl ?_; clear hS a; intro a hS
  refine L_e hS (e_extract rfl rfl) rfl ?_; clear hS a; intro a hS
  refine L_op (s_alloc hS ty_z35 rfl ?_); clear hS a; (try clear w); intro a w b6 hS
  refine L_op (s_storeA hS rfl rfl ty_sz35 (by repeat constructor) (by rfl) (by rfl) (by rfl) ?_); clear hS; (try clear w); intro w hS
  refine L_e hS (e_assign rfl) rfl ?_; clear hS a; intro a hS
  refine L_nil (n_then (c_seq (c_region ?_)))
  refine L_e hS (e_loadA rfl (by repeat constructor) ty_st35 ty_sz35 (by rfl)) rfl ?_; clear hS a; intro a hS
  refine L_e hS (e_move rfl) rfl ?_; clear hS a; intro a hS
  refine L_op (s_storeA hS rfl rfl ty_sz35 (by repeat constructor) (by rfl) (by rfl) (by rfl) ?_); clear hS; (try clear w); intro w hS
  refine L_e hS (e_assign rfl) rfl ?_; clear hS a; intro a hS
  refine L_nil (n_then (wp_ret ?_))
  refine c_retN hS Tryz.results45 (.cons (.cellA rfl (by repeat constructor) ty_st35 ty_sz35 (by rfl)) (.cons (.tmp rfl) .nil)) rfl ?_
  exact ⟨rfl, hS.chg⟩
theorem psAt_read {v : Value} {l : List Pst} {w : World} (h : PsAt v l w) {ad : Option Addr} {c : Nat} (hv : v = .slice ad l.length c) : (l.length = 0 ∧ l.flatMap encP = []) ∨ ∃ bx ox, ad = some ⟨bx, ox, none⟩ ∧ ∀ j u, (l.flatMap encP)[j]? = some u → w.cell? ⟨bx, ox + j, none⟩ = some u := by
  by_cases hne : l = []
  · subst hne; exact .inl ⟨rfl, rfl⟩
  · obtain ⟨b, off, c2, e, hr, _⟩ := PsAt.some h hne
    rw [hv] at e
    injection e with e1
    exact .inr ⟨b, off, e1, flatP hr⟩
def zE : List Value := [.int .i64 0, .int .i64 0, .string ⟨#[]⟩, .slice none 0 0]
set_option maxRecDepth 100000 in
theorem lEntry_no (B : LB) (s : LS) (n : Int) (hn : n < 1 ∨ (s.es.length : Int) < n) (w0 : World) (h : ledφ B s w0) :
    PureC Tryz.prog 44 [.pointer (some ⟨B.lb, 0, none⟩), .int .i64 n] w0 (.tuple [.agg zE.toArray, .bool false].toArray) := by
  obtain ⟨qs, cs, hsv⟩ := own_slice h.row
  refine c_enter [(0, .pointer (some ⟨B.lb, 0, none⟩)), (1, .int .i64 n)] [ledA B s false] noB Tryz.func44 rfl Tryz.ntmps44 ⟨rfl, rfl, trivial⟩ rfl (okC (led_ok false h) okN) dis1 (mineC (by rfl) mineN) ?_
  intro a hS
  refine c_seq (c_region ?_)
  refine L_op (s_alloc hS ty_z102 rfl ?_); clear hS a; (try clear w); intro a w b4 hS
  refine L_e hS (e_assign rfl) rfl ?_; clear hS a; intro a hS
  refine L_nil (n_then (c_seq (c_seq (c_region ?_))))
  refine L_e hS (e_move rfl) rfl ?_; clear hS a; intro a hS
  refine L_e hS (e_bin rfl rfl rfl) rfl ?_; clear hS a; intro a hS
  refine L_e hS (e_move rfl) rfl ?_; clear hS a; intro a hS
  refine L_merge 8 16 (.bool (true)) hS ?_ ?_
  · intro hcM16
    (first | refine g_splitD (t := 8) hS rfl ?_ ?_ | refine g_split (t := 8) hS rfl ?_ ?_) <;> (clear hS; intro hg8 hS)
    ·
      refine L_skip_f hS rfl rfl rfl ?_; clear hS a; intro a hS
      refine L_skip_f hS rfl rfl rfl ?_; clear hS a; intro a hS
      refine L_skip_f hS rfl rfl rfl ?_; clear hS a; intro a hS
      refine L_skip_f hS rfl rfl rfl ?_; clear hS a; intro a hS
      refine L_skip_f hS rfl rfl rfl ?_; clear hS a; intro a hS
      refine L_skip_f hS rfl rfl rfl ?_; clear hS a; intro a hS
      refine L_skip_f hS rfl rfl rfl ?_; clear hS a; intro a hS
      refine L_e hS (e_pk rfl rfl) rfl ?_; clear hS a; intro a hS
      exact hcM16 _ _ (hS.ends 9 16 8 rfl (congrArg Value.bool (by rfl)) rfl rfl (by first | exact congrArg Value.bool (decide_eq_true hg8).symm | exact congrArg Value.bool hg8.symm | simp [hg8]) rfl)
    refine L_ge hS rfl rfl (e_move rfl) rfl ?_; clear hS a; intro a hS
    refine L_ge hS rfl rfl (e_move rfl) rfl ?_; clear hS a; intro a hS
    refine L_ge hS rfl rfl (e_nilCheck rfl) rfl ?_; clear hS a; intro a hS
    (first | refine L_ge hS rfl rfl (e_fa0 rfl ty_fo88_2) rfl ?_ | refine L_ge hS rfl rfl (e_faK rfl ty_fo88_2) rfl ?_); clear hS a; intro a hS
    refine L_ge hS rfl rfl (e_loadC rfl ty_sc86 (led_cell (k := 2) (by repeat constructor) rfl)) rfl ?_; clear hS a; intro a hS
    rw [hsv] at hS
    refine L_ge hS rfl rfl (e_len rfl rfl ty_sl86) rfl ?_; clear hS a; intro a hS
    refine L_ge hS rfl rfl (e_bin rfl rfl rfl) rfl ?_; clear hS a; intro a hS
    refine L_e hS (e_pk rfl rfl) rfl ?_; clear hS a; intro a hS
    exact hcM16 _ _ (hS.ends 9 16 8 rfl (congrArg Value.bool (by exact decide_eq_true (by omega))) rfl rfl (by first | exact congrArg Value.bool (decide_eq_false hg8).symm | exact congrArg Value.bool hg8.symm | simp [hg8]) rfl)
  · clear hS a; (try clear w); intro a w hS
    simp only [List.drop_succ_cons, List.drop_zero]
    refine L_nil (n_then ?_)
    replace hS := hS.is (t := 16) (c := true) rfl (rfl)
    refine c_if_t hS rfl ?_
    refine c_seq (c_region ?_)
    refine L_e hS (e_build ty_z102 ty_pl102 .nil) rfl ?_; clear hS a; intro a hS
    refine L_op (s_storeA hS rfl rfl ty_sz102 (by repeat constructor) (by rfl) (by rfl) (by rfl) ?_); clear hS; (try clear w); intro w hS
    refine L_e hS (e_assign rfl) rfl ?_; clear hS a; intro a hS
    refine L_nil (n_then (wp_ret (r_then ?_)))
    refine c_retN hS Tryz.results44 (.cons (.cellA rfl (by repeat constructor) ty_st102 ty_sz102 (by rfl)) (.cons (.tmp rfl) .nil)) rfl ?_
    exact ⟨rfl, hS.chg⟩
abbrev E4 := Int × Int × ByteArray × Option Addr × Nat × Nat
def encE4 (y : E4) : List Value := [.int .i64 y.1, .int .i64 y.2.1, .string y.2.2.1, .slice y.2.2.2.1 y.2.2.2.2.1 y.2.2.2.2.2]
def lastA (s : LS) (y : E4) : Asn := .any (fun k => y.2.2.2.1 = some ⟨k, 0, none⟩) (fun w => ∀ x, s.es[s.es.length - 1]? = some x → ∃ g c, y = (x.v.id, x.v.at_, x.v.memo, some ⟨g, 0, none⟩, x.v.ps.length, c) ∧ psOk ⟨x.v, g, c⟩ w) true
theorem lEntryN_P (B : LB) (s : LS) (hes : s.es.length ≤ 100000) (hpl : ∀ x ∈ s.es, x.v.ps.length ≤ 100000) (w0 : World) (h : ledφ B s w0) :
    NewC Tryz.prog 44 [.pointer (some ⟨B.lb, 0, none⟩), .int .i64 (s.es.length : Int)] w0 (fun y : E4 => .tuple [.agg (encE4 y).toArray, .bool (decide (0 < s.es.length))].toArray) (fun y => lastA s y) := by
  by_cases hn : s.es.length = 0
  · refine (lEntry_no B s (s.es.length : Int) (by omega) w0 h).mono fun e w' ⟨he, hc⟩ => ⟨(0, 0, ⟨#[]⟩, none, 0, 0), ?_, hc, ⟨fun k hk => ?_, fun w2 _ x hx => ?_⟩, fun k hk => ?_⟩
    · rw [he, hn]; rfl
    · cases hk
    · rw [List.getElem?_eq_none (by omega)] at hx; cases hx
    · cases hk
  · obtain ⟨x, hx⟩ : ∃ x, s.es[s.es.length - 1]? = some x := ⟨s.es[s.es.length - 1]'(by omega), List.getElem?_eq_getElem (by omega)⟩
    have hP := lEntry_P B s (s.es.length - 1) x hx hes (hpl x (List.mem_of_getElem? hx)) w0 h
    rw [show ((s.es.length - 1 : Nat) : Int) + 1 = (s.es.length : Int) from by omega] at hP
    refine hP.mono fun e w' ⟨y, he, hc, hok, hnew⟩ => ⟨(x.v.id, x.v.at_, x.v.memo, some ⟨y.1, 0, none⟩, x.v.ps.length, y.2), ?_, hc, ⟨fun k hk => ?_, fun w2 hw z hz => ?_⟩, fun k hk => ?_⟩
    · rw [he, decide_eq_true (by omega)]; rfl
    · cases hk; exact hok.lt _ rfl
    · rw [hx] at hz; cases hz
      exact ⟨y.1, y.2, rfl, owns_keepL hok.now (fun k hk => hw k (by cases hk; rfl))⟩
    · cases hk; exact hnew _ rfl
set_option maxRecDepth 100000 in
theorem lSameE_P (v : Ent) (g1 c1 g2 c2 : Nat) (hpl : v.ps.length ≤ 100000) (w0 : World) (h1 : psOk ⟨v, g1, c1⟩ w0) (h2 : rpOk ⟨v, g2, c2⟩ w0) :
    PureC Tryz.prog 43 [.agg (encE ⟨v, g1, c1⟩).toArray, .agg (encE ⟨v, g2, c2⟩).toArray] w0 (.bool true) := by
  refine c_enter [(0, .agg (encE ⟨v, g1, c1⟩).toArray), (1, .agg (encE ⟨v, g2, c2⟩).toArray)] [twoPA (psV ⟨v, g1, c1⟩) (psV ⟨v, g2, c2⟩) v.ps] noB Tryz.func43 rfl Tryz.ntmps43 ⟨rfl, rfl, trivial⟩ rfl (okC (twoP_ok (psAt_own h1) h2) okN) dis1 (mineC (by rfl) mineN) ?_
  intro a hS
  refine c_seq (c_region ?_)
  refine L_op (s_boxA hS rfl rfl ?_); clear hS a; (try clear w); intro a w b2 hS
  refine L_op (s_boxA hS rfl rfl ?_); clear hS a; (try clear w); intro a w b3 hS
  refine L_e hS (e_assign rfl) rfl ?_; clear hS a; intro a hS
  refine L_nil (n_then (c_seq (c_region ?_)))
  (first | refine L_e hS (e_fa0 rfl ty_fo102_0) rfl ?_ | refine L_e hS (e_faK rfl ty_fo102_0) rfl ?_); clear hS a; intro a hS
  refine L_e hS (e_load rfl (by repeat constructor) ty_sc3 (by rfl)) rfl ?_; clear hS a; intro a hS
  (first | refine L_e hS (e_fa0 rfl ty_fo104_0) rfl ?_ | refine L_e hS (e_faK rfl ty_fo104_0) rfl ?_); clear hS a; intro a hS
  refine L_e hS (e_load rfl (by repeat constructor) ty_sc3 (by rfl)) rfl ?_; clear hS a; intro a hS
  refine L_e hS (e_bin rfl rfl rfl) rfl ?_; clear hS a; intro a hS
  refine L_e hS (e_move rfl) rfl ?_; clear hS a; intro a hS
  replace hS := hS.is (t := 10) (c := true) rfl ((by simp))
  (first | refine L_ge hS rfl rfl (e_fa0 rfl ty_fo102_1) rfl ?_ | refine L_ge hS rfl rfl (e_faK rfl ty_fo102_1) rfl ?_); clear hS a; intro a hS
  refine L_ge hS rfl rfl (e_load rfl (by repeat constructor) ty_sc3 (by rfl)) rfl ?_; clear hS a; intro a hS
  (first | refine L_ge hS rfl rfl (e_fa0 rfl ty_fo104_1) rfl ?_ | refine L_ge hS rfl rfl (e_faK rfl ty_fo104_1) rfl ?_); clear hS a; intro a hS
  refine L_ge hS rfl rfl (e_load rfl (by repeat constructor) ty_sc3 (by rfl)) rfl ?_; clear hS a; intro a hS
  refine L_ge hS rfl rfl (e_bin rfl rfl rfl) rfl ?_; clear hS a; intro a hS
  refine L_e hS (e_pk rfl rfl) rfl ?_; clear hS a; intro a hS
  refine L_e hS (e_move rfl) rfl ?_; clear hS a; intro a hS
  replace hS := hS.is (t := 17) (c := true) rfl ((by simp))
  (first | refine L_ge hS rfl rfl (e_fa0 rfl ty_fo102_2) rfl ?_ | refine L_ge hS rfl rfl (e_faK rfl ty_fo102_2) rfl ?_); clear hS a; intro a hS
  refine L_ge hS rfl rfl (e_load rfl (by repeat constructor) ty_sc9 (by rfl)) rfl ?_; clear hS a; intro a hS
  (first | refine L_ge hS rfl rfl (e_fa0 rfl ty_fo104_2) rfl ?_ | refine L_ge hS rfl rfl (e_faK rfl ty_fo104_2) rfl ?_); clear hS a; intro a hS
  refine L_ge hS rfl rfl (e_load rfl (by repeat constructor) ty_sc9 (by rfl)) rfl ?_; clear hS a; intro a hS
  refine L_ge hS rfl rfl (e_binS rfl rfl rfl) rfl ?_; clear hS a; intro a hS
  refine L_e hS (e_pk rfl rfl) rfl ?_; clear hS a; intro a hS
  refine L_e hS (e_move rfl) rfl ?_; clear hS a; intro a hS
  replace hS := hS.is (t := 24) (c := true) rfl ((by simp))
  (first | refine L_ge hS rfl rfl (e_fa0 rfl ty_fo102_3) rfl ?_ | refine L_ge hS rfl rfl (e_faK rfl ty_fo102_3) rfl ?_); clear hS a; intro a hS
  refine L_ge hS rfl rfl (e_load rfl (by repeat constructor) ty_sc36 (by rfl)) rfl ?_; clear hS a; intro a hS
  (first | refine L_ge hS rfl rfl (e_fa0 rfl ty_fo104_3) rfl ?_ | refine L_ge hS rfl rfl (e_faK rfl ty_fo104_3) rfl ?_); clear hS a; intro a hS
  refine L_ge hS rfl rfl (e_load rfl (by repeat constructor) ty_sc54 (by rfl)) rfl ?_; clear hS a; intro a hS
  refine L_go hS rfl rfl (s_callP hS (.cons rfl (.cons rfl .nil)) cf25 rfl (lSame_P (psV ⟨v, g1, c1⟩) (psV ⟨v, g2, c2⟩) v.ps hpl _ (hS.get (X := twoPA (psV ⟨v, g1, c1⟩) (psV ⟨v, g2, c2⟩) v.ps) (by repeat constructor)).1 (hS.get (X := twoPA (psV ⟨v, g1, c1⟩) (psV ⟨v, g2, c2⟩) v.ps) (by repeat constructor)).2) ?_); clear hS a; (try clear w); intro a w hS
  refine L_e hS (e_pk rfl rfl) rfl ?_; clear hS a; intro a hS
  refine L_e hS (e_assign rfl) rfl ?_; clear hS a; intro a hS
  refine L_nil (n_then (wp_ret ?_))
  refine c_ret1 hS Tryz.results43 (.tmp rfl) ?_
  exact ⟨rfl, hS.chg⟩
end Go.Proofs.YtheofhegdjjfgaaGreat

namespace Go.Proofs.YtheofhegdjjfgaaGreat
open Go.RowKit
def duoF (B : LB) (b : Nat) (s : LS) (r : RS) (k : Nat) : Prop := ledF B s k ∨ rlF b r k
structure duoφ (B : LB) (b : Nat) (s : LS) (r : RS) (w : World) : Prop where
  l : ledφ B s w
  f : rlφ b r w
  d : ∀ k, ledF B s k → ¬ rlF b r k
def duoA (B : LB) (b : Nat) (s : LS) (r : RS) (m : Bool) : Asn := .any (duoF B b s r) (duoφ B b s r) m
theorem duo_ok {B : LB} {b : Nat} {s : LS} {r : RS} {w : World} (m : Bool) (h : duoφ B b s r w) : (duoA B b s r m).ok w := by
  have a := led_ok m h.l
  have c := rl_ok m h.f
  exact ⟨fun k hk => hk.elim (fun hk => a.lt k hk) (fun hk => c.lt k hk), fun w' hw => ⟨a.hold w' (fun k hk => hw k (.inl hk)), c.hold w' (fun k hk => hw k (.inr hk)), h.d⟩⟩
theorem duo_end {n : Nat} {w0 w : World} {a : Act} {L : List (Nat × Value)} {Γ : List Asn} {B : LB} {b : Nat} {s s' : LS} {r r' : RS} (hS : St n (duoF B b s r) w0 a w L Γ) (hd : ∀ k, (ledA B s' true).F k → ¬ (rlA b r' true).F k) (h1 : ledA B s' true ∈ Γ) (h2 : rlA b r' true ∈ Γ) :
    (duoA B b s' r' true).ok w ∧ ∀ k, (duoA B b s' r' true).F k → (duoA B b s r true).F k ∨ w0.heap.size ≤ k := by
  refine ⟨duo_ok true ⟨hS.get h1, hS.get h2, hd⟩, fun k hk => ?_⟩
  rcases hk with hk | hk
  · exact (hS.mine _ h1 rfl k hk).symm
  · exact (hS.mine _ h2 rfl k hk).symm
structure both (s : LS) (r : RS) (n : Nat) : Prop where
  rel : relR r (pl s)
  wf : wfP (pl s) n
  cur : wfC (pl s)
  ids : idN (pl s)
theorem rel_close {r : RS} {P : PL} (h : relR r P) (at_ : Int) : closeRE r at_ = closeEP P at_ ∧ relR (closeR r at_) (closeP P at_) := by
  have e : closeRE r at_ = closeEP P at_ := by unfold closeRE closeEP; rw [h.closed]
  refine ⟨e, ?_⟩
  unfold closeR closeP
  rw [e]
  split
  · exact ⟨h.cur, h.acs, h.es, rfl⟩
  · exact h
theorem both_step {s s' : LS} {r' : RS} {r : RS} {n : Nat} (h : both s r n) {o : LO} (ho : o.fits) (hs : pl s' = stepP (pl s) o) (hr : relR r' (stepP (pl s) o)) : both s' r' (n + 1) :=
  ⟨by rw [hs]; exact hr, by rw [hs]; exact wf_step h.wf o ho, by rw [hs]; exact wfC_step h.cur o, by rw [hs]; exact idN_step h.ids o⟩
set_option maxHeartbeats 2000000 in
set_option maxRecDepth 100000 in
theorem lDoes_P (B : LB) (b : Nat) (s : LS) (r : RS) (n : Nat) (hn : n ≤ 800) (hb : both s r n) (o : LO) (hof : o.fits) (hpl : o.ps.length ≤ 100000) (w0 : World) (h : duoφ B b s r w0) (hp : PsAt o.pv o.ps w0) (hpd : ∀ k, o.ps ≠ [] → o.pv.ownBlock = some k → ¬ duoF B b s r k) :
    MutC Tryz.prog 11 [.pointer (some ⟨B.lb, 0, none⟩), .pointer (some ⟨b, 0, none⟩), .agg (encLO o).toArray] w0 (duoA B b s r true) (fun _ : { y : LS × RS // pl y.1 = stepP (pl s) o ∧ relR y.2 (stepP (pl s) o) } => .bool true) (fun y => duoA B b y.1.1 y.1.2 true) := by
  obtain ⟨hrel, hwf, hcur, hid⟩ := hb
  have hes : s.es.length ≤ 100000 := by have h1 := hwf.le; simp [pl] at h1; omega
  have hal : (pl s).acs.length ≤ 1000 := by have h1 := hwf.la; omega
  obtain ⟨ad, c, hpv⟩ := hp.shape
  refine c_enter [(0, .pointer (some ⟨B.lb, 0, none⟩)), (1, .pointer (some ⟨b, 0, none⟩)), (2, .agg (encLO o).toArray)] [ledA B s true, rlA b r true, psAtA o.pv o.ps] (duoF B b s r) Tryz.func11 rfl Tryz.ntmps11 ⟨rfl, rfl, rfl, trivial⟩ rfl (okC (led_ok true h.l) (okC (rl_ok true h.f) (okC (psAt_ok hp) okN))) (disC (sepC h.d (sepC (fun b e1 e2 => hpd b e2.1 e2.2 (.inl e1)) sepN)) (disC (sepC (fun b e1 e2 => hpd b e2.1 e2.2 (.inr e1)) sepN) dis1)) (mineO (fun _ hb => (by first | exact .inl hb | exact .inr hb)) (mineO (fun _ hb => (by first | exact .inl hb | exact .inr hb)) (mineC (by rfl) mineN))) ?_
  intro a hS
  refine c_seq (c_region ?_)
  refine L_op (s_boxA hS rfl rfl ?_); clear hS a; (try clear w); intro a w b5 hS
  refine L_e hS (e_assign rfl) rfl ?_; clear hS a; intro a hS
  refine L_nil (n_then (c_seq (c_seq (c_region ?_))))
  (first | refine L_e hS (e_fa0 rfl ty_fo38_0) rfl ?_ | refine L_e hS (e_faK rfl ty_fo38_0) rfl ?_); clear hS a; intro a hS
  refine L_e hS (e_load rfl (by repeat constructor) ty_sc3 (by rfl)) rfl ?_; clear hS a; intro a hS
  refine L_nil (n_then (wp_block (c_seq (c_region ?_))))
  refine L_e hS (e_bin rfl rfl rfl) rfl ?_; clear hS a; intro a hS
  refine L_e hS (e_assign rfl) rfl ?_; clear hS a; intro a hS
  refine L_nil (n_then ?_)
  first | refine c_ifD hS rfl (fun hc16 => ?_) (fun hc16 => ?_) | refine c_if hS rfl (fun hc16 => ?_) (fun hc16 => ?_)
  ·
    refine c_seq ?_
    refine c_drawS [] (by kernel_rfl) hS (sub_cons (X := .blk b5 _ _) (by repeat constructor) sub_nil) ?_; clear hS; (try clear w); intro w hS
    simp only [List.length_cons, List.length_nil, Nat.zero_add, Nat.reduceAdd, List.replicate]
    refine Zt0 0 (tf 1 21) hS rfl want_none (e_move rfl) rfl (by kernel_rfl) rfl ?_; clear hS a; intro a hS
    (first | refine Zt0 1 (tf 2 20) hS rfl want_none (e_fa0 rfl ty_fo38_2) rfl (by kernel_rfl) rfl ?_ | refine Zt0 1 (tf 2 20) hS rfl want_none (e_faK rfl ty_fo38_2) rfl (by kernel_rfl) rfl ?_); clear hS a; intro a hS
    refine Zt 2 (tf 3 19) hS rfl want_none (e_loadSub (l := encAc o.a) rfl (by repeat constructor) ty_st35 ty_sz35 rfl) rfl (by kernel_rfl) (sub_cons (by repeat constructor) sub_nil) rfl ?_; clear hS a; intro a hS
    refine Zt0 5 [true, true, true, false, false, true, false, false, false, false, false, false, false, false, false, false, false, false, false, false, false, false] hS rfl want_none (e_move rfl) rfl (by kernel_rfl) rfl ?_; clear hS a; intro a hS
    (first | refine Zt0 6 [true, true, true, false, false, true, true, false, false, false, false, false, false, false, false, false, false, false, false, false, false, false] hS rfl want_none (e_fa0 rfl ty_fo38_2) rfl (by kernel_rfl) rfl ?_ | refine Zt0 6 [true, true, true, false, false, true, true, false, false, false, false, false, false, false, false, false, false, false, false, false, false, false] hS rfl want_none (e_faK rfl ty_fo38_2) rfl (by kernel_rfl) rfl ?_); clear hS a; intro a hS
    (first | refine Zt0 7 [true, true, true, false, false, true, true, true, false, false, false, false, false, false, false, false, false, false, false, false, false, false] hS rfl want_none (e_fa0 rfl ty_fo35_0) rfl (by kernel_rfl) rfl ?_ | refine Zt0 7 [true, true, true, false, false, true, true, true, false, false, false, false, false, false, false, false, false, false, false, false, false, false] hS rfl want_none (e_faK rfl ty_fo35_0) rfl (by kernel_rfl) rfl ?_); clear hS a; intro a hS
    refine Zt 8 [true, true, true, false, false, true, true, true, true, false, false, false, false, false, false, false, false, false, false, false, false, false] hS rfl want_none (e_load rfl (by repeat constructor) ty_sc9 (by rfl)) rfl (by kernel_rfl) (sub_cons (by repeat constructor) sub_nil) rfl ?_; clear hS a; intro a hS
    (first | refine Zt0 9 [true, true, true, false, false, true, true, true, true, true, false, false, false, false, false, false, false, false, false, false, false, false] hS rfl want_none (e_fa0 rfl ty_fo38_2) rfl (by kernel_rfl) rfl ?_ | refine Zt0 9 [true, true, true, false, false, true, true, true, true, true, false, false, false, false, false, false, false, false, false, false, false, false] hS rfl want_none (e_faK rfl ty_fo38_2) rfl (by kernel_rfl) rfl ?_); clear hS a; intro a hS
    (first | refine Zt0 10 [true, true, true, false, false, true, true, true, true, true, true, false, false, false, false, false, false, false, false, false, false, false] hS rfl want_none (e_fa0 rfl ty_fo35_1) rfl (by kernel_rfl) rfl ?_ | refine Zt0 10 [true, true, true, false, false, true, true, true, true, true, true, false, false, false, false, false, false, false, false, false, false, false] hS rfl want_none (e_faK rfl ty_fo35_1) rfl (by kernel_rfl) rfl ?_); clear hS a; intro a hS
    refine Zt 11 [true, true, true, false, false, true, true, true, true, true, true, true, false, false, false, false, false, false, false, false, false, false] hS rfl want_none (e_load rfl (by repeat constructor) ty_sc9 (by rfl)) rfl (by kernel_rfl) (sub_cons (by repeat constructor) sub_nil) rfl ?_; clear hS a; intro a hS
    (first | refine Zt0 12 [true, true, true, false, false, true, true, true, true, true, true, true, true, false, false, false, false, false, false, false, false, false] hS rfl want_none (e_fa0 rfl ty_fo38_2) rfl (by kernel_rfl) rfl ?_ | refine Zt0 12 [true, true, true, false, false, true, true, true, true, true, true, true, true, false, false, false, false, false, false, false, false, false] hS rfl want_none (e_faK rfl ty_fo38_2) rfl (by kernel_rfl) rfl ?_); clear hS a; intro a hS
    (first | refine Zt0 13 [true, true, true, false, false, true, true, true, true, true, true, true, true, true, false, false, false, false, false, false, false, false] hS rfl want_none (e_fa0 rfl ty_fo35_2) rfl (by kernel_rfl) rfl ?_ | refine Zt0 13 [true, true, true, false, false, true, true, true, true, true, true, true, true, true, false, false, false, false, false, false, false, false] hS rfl want_none (e_faK rfl ty_fo35_2) rfl (by kernel_rfl) rfl ?_); clear hS a; intro a hS
    refine Zt 14 [true, true, true, false, false, true, true, true, true, true, true, true, true, true, true, false, false, false, false, false, false, false] hS rfl want_none (e_load rfl (by repeat constructor) ty_sc3 (by rfl)) rfl (by kernel_rfl) (sub_cons (by repeat constructor) sub_nil) rfl ?_; clear hS a; intro a hS
    (first | refine Zt0 15 [true, true, true, false, false, true, true, true, true, true, true, true, true, true, true, true, false, false, false, false, false, false] hS rfl want_none (e_fa0 rfl ty_fo38_2) rfl (by kernel_rfl) rfl ?_ | refine Zt0 15 [true, true, true, false, false, true, true, true, true, true, true, true, true, true, true, true, false, false, false, false, false, false] hS rfl want_none (e_faK rfl ty_fo38_2) rfl (by kernel_rfl) rfl ?_); clear hS a; intro a hS
    (first | refine Zt0 16 [true, true, true, false, false, true, true, true, true, true, true, true, true, true, true, true, true, false, false, false, false, false] hS rfl want_none (e_fa0 rfl ty_fo35_3) rfl (by kernel_rfl) rfl ?_ | refine Zt0 16 [true, true, true, false, false, true, true, true, true, true, true, true, true, true, true, true, true, false, false, false, false, false] hS rfl want_none (e_faK rfl ty_fo35_3) rfl (by kernel_rfl) rfl ?_); clear hS a; intro a hS
    refine Zt 17 [true, true, true, false, false, true, true, true, true, true, true, true, true, true, true, true, true, true, false, false, false, false] hS rfl want_none (e_load rfl (by repeat constructor) ty_sc4 (by rfl)) rfl (by kernel_rfl) (sub_cons (by repeat constructor) sub_nil) rfl ?_; clear hS a; intro a hS
    refine Zt0 18 [true, true, true, false, false, true, true, true, true, true, true, true, true, true, true, true, true, true, true, false, false, false] hS rfl want_none (e_build ty_z51 ty_pl51 (.one rfl rfl rfl (by repeat constructor) (.one rfl rfl rfl (by repeat constructor) (.one rfl rfl rfl (by repeat constructor) (.one rfl rfl rfl (by repeat constructor) .nil))))) rfl (by kernel_rfl) rfl ?_; clear hS a; intro a hS
    refine Z_one (i := 3) rfl (want_none a hS.sl) (listed' := [true, true, true, true, false, true, true, true, true, true, true, true, true, true, true, true, true, true, true, false, false, false]) rfl (by kernel_rfl) (s_callM hS (.cons rfl (.cons rfl .nil)) cf32 rfl (lOpen_P B s o.a hof.code _ (hS.get (X := ledA B s true) (by repeat constructor))) (fun x => (by repeat constructor)) rfl ?_); clear hS a; (try clear w); intro x21 a w hS
    refine Z_and hS (sub_cons (by repeat constructor) sub_nil) ?_
    refine Z_one (i := 4) rfl (want_none a hS.sl) (listed' := (tf 19 3)) rfl (by kernel_rfl) (s_callP hS (.cons rfl .nil) cf10 rfl (Num_w _ _) ?_); clear hS a; (try clear w); intro a w hS
    refine Z_and hS (sub_cons (by repeat constructor) sub_nil) ?_
    refine Z_one (i := 19) rfl (want_none a hS.sl) (listed' := (tf 20 2)) rfl (by kernel_rfl) (s_callM hS (.cons rfl (.cons rfl .nil)) cf18 rfl (rlOpen_P b r (pl s) o.a hof.code hrel hwf.nod hal _ (hS.get (X := rlA b r true) (by repeat constructor))) (fun x => (by repeat constructor)) rfl ?_); clear hS a; (try clear w); intro x37 a w hS
    refine Z_and hS (sub_cons (by repeat constructor) sub_nil) ?_
    refine Zt0 20 (tf 21 1) hS rfl want_none (e_bin rfl rfl rfl) rfl (by kernel_rfl) rfl ?_; clear hS a; intro a hS
    refine Zt0 21 (tf 22 0) hS rfl want_none (e_assign rfl) rfl (by kernel_rfl) rfl ?_; clear hS a; intro a hS
    refine Z_done (by kernel_rfl) ?_
    refine n_then (wp_ret ?_)
    refine r_block (r_then ?_)
    refine c_ret1 hS Tryz.results11 (.tmp rfl) ?_
    have hfin : decide (openE s o.a = openEP (pl s) o.a) = true := decide_eq_true rfl
    rw [hfin]
    have hst : stepP (pl s) o = openP (pl s) o.a := if_pos hc16
    exact ⟨⟨(openL s o.a, x37.1), by rw [hst]; exact pl_open s o.a, by rw [hst]; exact x37.2⟩, rfl, hS.chg, duo_end (s' := openL s o.a) (r' := x37.1) hS (hS.sep (X := ledA B (openL s o.a) true) (Y := rlA b x37.1 true) (by repeat (first | exact Rem.head | apply Rem.tail)) (by repeat constructor)) (by repeat constructor) (by repeat constructor)⟩
  refine c_seq (c_region ?_)
  refine L_e hS (e_bin rfl rfl rfl) rfl ?_; clear hS a; intro a hS
  refine L_e hS (e_assign rfl) rfl ?_; clear hS a; intro a hS
  refine L_nil (n_then ?_)
  first | refine c_ifD hS rfl (fun hc39 => ?_) (fun hc39 => ?_) | refine c_if hS rfl (fun hc39 => ?_) (fun hc39 => ?_)
  ·
    refine c_seq (c_region ?_)
    refine L_e hS (e_move rfl) rfl ?_; clear hS a; intro a hS
    (first | refine L_e hS (e_fa0 rfl ty_fo38_1) rfl ?_ | refine L_e hS (e_faK rfl ty_fo38_1) rfl ?_); clear hS a; intro a hS
    refine L_e hS (e_load rfl (by repeat constructor) ty_sc3 (by rfl)) rfl ?_; clear hS a; intro a hS
    (first | refine L_e hS (e_fa0 rfl ty_fo38_3) rfl ?_ | refine L_e hS (e_faK rfl ty_fo38_3) rfl ?_); clear hS a; intro a hS
    refine L_e hS (e_load rfl (by repeat constructor) ty_sc9 (by rfl)) rfl ?_; clear hS a; intro a hS
    (first | refine L_e hS (e_fa0 rfl ty_fo38_4) rfl ?_ | refine L_e hS (e_faK rfl ty_fo38_4) rfl ?_); clear hS a; intro a hS
    refine L_e hS (e_load rfl (by repeat constructor) ty_sc36 (by rfl)) rfl ?_; clear hS a; intro a hS
    refine L_op (s_callP hS (.cons rfl (.cons rfl (.cons rfl (.cons rfl .nil)))) cf36 rfl (checkAny_P B s o.pv o.at_ o.memo o.ps hof.ps.2 hof.ps.1 hwf.bal _ (hS.get (X := ledA B s true) (by repeat constructor)) (hS.get (X := psAtA o.pv o.ps) (by repeat constructor)) (fun k hne hk hl => hpd k hne hk (.inl hl))) ?_); clear hS a; (try clear w); intro a w hS
    refine L_e hS (e_assign rfl) rfl ?_; clear hS a; intro a hS
    refine L_nil (n_then (c_seq (c_region ?_)))
    refine L_op (s_bslice hS ty_sl36 ty_sz82 ty_z82 rfl rfl rfl rfl .nil rfl ?_); clear hS a; (try clear w); intro a w b49 hS
    (first | refine L_e hS (e_fa0 rfl ty_fo38_4) rfl ?_ | refine L_e hS (e_faK rfl ty_fo38_4) rfl ?_); clear hS a; intro a hS
    refine L_e hS (e_load rfl (by repeat constructor) ty_sc36 (by rfl)) rfl ?_; clear hS a; intro a hS
    rw [hpv] at hS
    replace hS := hS.swap (X := .blk b49 [] 82) (Y := ownA 82 3 (.slice (some ⟨b49, 0, none⟩) 0 0) 0 []) (by repeat constructor) (own_empty (hS.get (X := .blk b49 [] 82) (by repeat constructor))) (fun b hb => by simpa [ownA, Asn.F, Value.ownBlock, eq_comm] using hb) rfl
    refine L_op (s_appendL hS rfl rfl ty_sl36 ty_sz82 ty_by82 ty_z82 rfl rfl rfl (by repeat constructor) (ys := o.ps.flatMap encP) (flat_len encP 3 (fun _ => rfl) o.ps) (psAt_read (hS.get (X := psAtA (.slice ad o.ps.length c) o.ps) (by repeat constructor)) rfl) (oneP o.ps) (by omega) (fun _ => (by repeat constructor)) ?_); clear hS a; (try clear w); intro v52 a w hv52 hS
    rw [List.nil_append, Nat.zero_add] at hS
    obtain ⟨q52, c52, rfl⟩ := own_slice (hS.get (X := ownA 82 3 v52 o.ps.length (o.ps.flatMap encP)) (by repeat constructor))
    refine L_e hS (e_assign rfl) rfl ?_; clear hS a; intro a hS
    refine L_nil (n_then (c_seq (c_region ?_)))
    refine L_e hS (e_move rfl) rfl ?_; clear hS a; intro a hS
    (first | refine L_e hS (e_fa0 rfl ty_fo38_1) rfl ?_ | refine L_e hS (e_faK rfl ty_fo38_1) rfl ?_); clear hS a; intro a hS
    refine L_e hS (e_load rfl (by repeat constructor) ty_sc3 (by rfl)) rfl ?_; clear hS a; intro a hS
    (first | refine L_e hS (e_fa0 rfl ty_fo38_3) rfl ?_ | refine L_e hS (e_faK rfl ty_fo38_3) rfl ?_); clear hS a; intro a hS
    refine L_e hS (e_load rfl (by repeat constructor) ty_sc9 (by rfl)) rfl ?_; clear hS a; intro a hS
    refine L_e hS (e_move rfl) rfl ?_; clear hS a; intro a hS
    refine L_op (s_callM hS (.cons rfl (.cons rfl (.cons rfl (.cons rfl .nil)))) cf29 rfl (postAny_P B s (.slice q52 o.ps.length c52) o.at_ o.memo o.ps hof.ps.2 hof.ps.1 hwf.bal hes _ (hS.get (X := ledA B s true) (by repeat constructor)) (psAt_own (hS.get (X := ownA 82 3 (.slice q52 o.ps.length c52) o.ps.length (o.ps.flatMap encP)) (by repeat constructor))) (fun k hne hk hl => hS.sep (X := ledA B s true) (Y := ownA 82 3 (.slice q52 o.ps.length c52) o.ps.length (o.ps.flatMap encP)) (by repeat (first | exact Rem.head | apply Rem.tail)) (by repeat constructor) k hl hk)) (fun x => (by repeat constructor)) rfl ?_); clear hS a; (try clear w); intro x60 a w hS
    refine L_e hS (e_move rfl) rfl ?_; clear hS a; intro a hS
    refine L_e hS (e_extract rfl rfl) rfl ?_; clear hS a; intro a hS
    refine L_e hS (e_extract rfl rfl) rfl ?_; clear hS a; intro a hS
    refine L_e hS (e_assign rfl) rfl ?_; clear hS a; intro a hS
    refine L_e hS (e_assign rfl) rfl ?_; clear hS a; intro a hS
    refine L_nil (n_then (c_seq ?_))
    refine c_drawS [] (by kernel_rfl) hS (sub_cons (X := .blk b5 _ _) (by repeat constructor) sub_nil) ?_; clear hS; (try clear w); intro w hS
    simp only [List.length_cons, List.length_nil, Nat.zero_add, Nat.reduceAdd, List.replicate]
    refine Zt0 0 (tf 1 13) hS rfl want_none (e_move rfl) rfl (by kernel_rfl) rfl ?_; clear hS a; intro a hS
    (first | refine Zt0 1 (tf 2 12) hS rfl want_none (e_fa0 rfl ty_fo38_1) rfl (by kernel_rfl) rfl ?_ | refine Zt0 1 (tf 2 12) hS rfl want_none (e_faK rfl ty_fo38_1) rfl (by kernel_rfl) rfl ?_); clear hS a; intro a hS
    refine Zt 2 (tf 3 11) hS rfl want_none (e_load rfl (by repeat constructor) ty_sc3 (by rfl)) rfl (by kernel_rfl) (sub_cons (by repeat constructor) sub_nil) rfl ?_; clear hS a; intro a hS
    (first | refine Zt0 3 (tf 4 10) hS rfl want_none (e_fa0 rfl ty_fo38_3) rfl (by kernel_rfl) rfl ?_ | refine Zt0 3 (tf 4 10) hS rfl want_none (e_faK rfl ty_fo38_3) rfl (by kernel_rfl) rfl ?_); clear hS a; intro a hS
    refine Zt 4 (tf 5 9) hS rfl want_none (e_load rfl (by repeat constructor) ty_sc9 (by rfl)) rfl (by kernel_rfl) (sub_cons (by repeat constructor) sub_nil) rfl ?_; clear hS a; intro a hS
    (first | refine Zt0 5 (tf 6 8) hS rfl want_none (e_fa0 rfl ty_fo38_4) rfl (by kernel_rfl) rfl ?_ | refine Zt0 5 (tf 6 8) hS rfl want_none (e_faK rfl ty_fo38_4) rfl (by kernel_rfl) rfl ?_); clear hS a; intro a hS
    refine Zt 6 (tf 7 7) hS rfl want_none (e_load rfl (by repeat constructor) ty_sc36 (by rfl)) rfl (by kernel_rfl) (sub_cons (by repeat constructor) sub_nil) rfl ?_; clear hS a; intro a hS
    refine Z_one (i := 7) rfl (want_none a hS.sl) (listed' := (tf 8 6)) rfl (by kernel_rfl) (s_callN hS (.cons rfl .nil) cf20 rfl (lPosts_P o.pv o.ps hpl _ (by rw [hpv]; exact hS.get (X := psAtA (.slice ad o.ps.length c) o.ps) (by repeat constructor))) ?_); clear hS a; (try clear w); intro x71 a w hS
    refine Z_and hS (sub_cons (by repeat constructor) sub_nil) ?_
    refine Z_one (i := 8) rfl (want_none a hS.sl) (listed' := (tf 9 5)) rfl (by kernel_rfl) (s_callM hS (.cons rfl (.cons rfl (.cons rfl (.cons rfl .nil)))) cf19 rfl (rlPost_P b r (pl s) n hrel hwf (by omega) hcur x71 o.at_ o.memo o.ps hpl hof.ps.1 _ (hS.get (X := rlA b r true) (by repeat constructor)) (hS.get (X := ownA 124 3 x71 o.ps.length (o.ps.flatMap encP)) (by repeat constructor)) (fun k hk hr => hS.sep (X := ownA 124 3 x71 o.ps.length (o.ps.flatMap encP)) (Y := rlA b r true) (by repeat (first | exact Rem.head | apply Rem.tail)) (by repeat constructor) k hk hr)) (fun x => (by repeat constructor)) rfl ?_); clear hS a; (try clear w); intro x72 a w hS
    refine Z_and hS (sub_cons (by repeat constructor) sub_nil) ?_
    refine Zt0 9 (tf 10 4) hS rfl want_none (e_move rfl) rfl (by kernel_rfl) rfl ?_; clear hS a; intro a hS
    refine Zt0 10 (tf 11 3) hS rfl want_none (e_extract rfl rfl) rfl (by kernel_rfl) rfl ?_; clear hS a; intro a hS
    refine Zt0 11 (tf 12 2) hS rfl want_none (e_extract rfl rfl) rfl (by kernel_rfl) rfl ?_; clear hS a; intro a hS
    refine Zt0 12 (tf 13 1) hS rfl want_none (e_assign rfl) rfl (by kernel_rfl) rfl ?_; clear hS a; intro a hS
    refine Zt0 13 (tf 14 0) hS rfl want_none (e_assign rfl) rfl (by kernel_rfl) rfl ?_; clear hS a; intro a hS
    refine Z_done (by kernel_rfl) ?_
    refine n_then (c_seq (c_seq (c_region ?_)))
    refine L_e hS (e_assign rfl) rfl ?_; clear hS a; intro a hS
    refine L_nil (n_then (wp_block ?_))
    skip
    refine c_loop (γ := Nat × List Value) (fun G a w => St 111 (duoF B b s r) w0 a w [(13, .int .i64 (G.1 : Int)), (8, .slice q52 o.ps.length c52), (7, .int .i64 (checkE (pl s) o.at_ o.memo o.ps)), (9, .int .i64 (postI (pl s) o.at_ o.memo o.ps)), (10, .int .i64 (checkE (pl s) o.at_ o.memo o.ps)), (11, .int .i64 (postI (pl s) o.at_ o.memo o.ps)), (12, .int .i64 (checkE (pl s) o.at_ o.memo o.ps))] [ownA 82 3 (.slice q52 o.ps.length c52) o.ps.length G.2, ledA B x60.1 true, rlA b x72.1 true] ∧ G.1 ≤ o.ps.length) (fun G => o.ps.length - G.1) (0, o.ps.flatMap encP) ⟨(hS.slots (by repeat (first | exact trivial | refine ⟨rfl, ?_⟩))).pick (by repeat (first | exact Pick.nil | (refine Pick.cons (by repeat (first | exact Rem.head | apply Rem.tail)) ?_))), Nat.zero_le _⟩ ?_
    clear hS a; (try clear w); intro G a w hI
    obtain ⟨hS, hi⟩ := hI
    obtain ⟨i, csx⟩ := G
    simp only at hS hi ⊢
    refine c_seq (c_seq (c_region ?_))
    refine L_e hS (e_move rfl) rfl ?_; clear hS a; intro a hS
    refine L_e hS (e_move rfl) rfl ?_; clear hS a; intro a hS
    refine L_e hS (e_len rfl rfl ty_sl36) rfl ?_; clear hS a; intro a hS
    refine L_e hS (e_bin rfl rfl rfl) rfl ?_; clear hS a; intro a hS
    refine L_nil (n_then ?_)
    first | refine c_ifD hS rfl (fun hc78 => ?_) (fun hc78 => ?_) | refine c_if hS rfl (fun hc78 => ?_) (fun hc78 => ?_)
    ·
      obtain ⟨g52, rfl⟩ : ∃ g, q52 = some ⟨g, 0, none⟩ := own_at (hS.get (X := ownA 82 3 (.slice q52 o.ps.length c52) o.ps.length csx) (by repeat constructor)) (by omega)
      refine wp_skip (n_then (c_seq (wp_block (c_region ?_))))
      refine L_e hS (e_move rfl) rfl ?_; clear hS a; intro a hS
      refine L_e hS (e_move rfl) rfl ?_; clear hS a; intro a hS
      refine L_e hS (e_ixN rfl rfl ty_sl36 ty_sz82 (by omega)) rfl ?_; clear hS a; intro a hS
      (first | refine L_e hS (e_fa0 rfl ty_fo82_1) rfl ?_ | refine L_e hS (e_faK rfl ty_fo82_1) rfl ?_); clear hS a; intro a hS
      refine L_op (s_storeO (gb := g52) (cs := csx) hS rfl rfl rfl ty_sz3 (by repeat constructor) (by omega) ?_); clear hS; (try clear w); intro w hS
      refine L_nil (n_block (n_then (c_region ?_)))
      refine L_e hS (e_move rfl) rfl ?_; clear hS a; intro a hS
      (first | refine L_e hS (e_binN rfl rfl rfl (by omega)) rfl ?_ | refine L_e hS (e_bin rfl rfl rfl) rfl ?_); clear hS a; intro a hS
      refine L_e hS (e_assign rfl) rfl ?_; clear hS a; intro a hS
      refine L_nil ?_
      exact ⟨(i + 1, csx.set (0 + i * 3 + 1) (.int .i64 77)), by simp only; omega, hS.slots (by repeat (first | exact trivial | refine ⟨rfl, ?_⟩)), by simp only; omega⟩
    refine wp_exit ?_
    refine x_then (x_then (x_hit ?_))
    refine n_then (c_seq (c_region ?_))
    refine L_e hS (e_move rfl) rfl ?_; clear hS a; intro a hS
    refine L_e hS (e_move rfl) rfl ?_; clear hS a; intro a hS
    refine L_e hS (e_bin rfl rfl rfl) rfl ?_; clear hS a; intro a hS
    refine L_e hS (e_move rfl) rfl ?_; clear hS a; intro a hS
    replace hS := hS.is (t := 88) (c := true) rfl ((by simp))
    refine L_ge hS rfl rfl (e_move rfl) rfl ?_; clear hS a; intro a hS
    refine L_ge hS rfl rfl (e_move rfl) rfl ?_; clear hS a; intro a hS
    refine L_ge hS rfl rfl (e_bin rfl rfl rfl) rfl ?_; clear hS a; intro a hS
    refine L_e hS (e_pk rfl rfl) rfl ?_; clear hS a; intro a hS
    refine L_e hS (e_move rfl) rfl ?_; clear hS a; intro a hS
    replace hS := hS.is (t := 93) (c := true) rfl ((by simp))
    refine L_ge hS rfl rfl (e_move rfl) rfl ?_; clear hS a; intro a hS
    refine L_go hS rfl rfl (s_callP hS (.cons rfl .nil) cf10 rfl (Num_w _ _) ?_); clear hS a; (try clear w); intro a w hS
    refine L_ge hS rfl rfl (e_move rfl) rfl ?_; clear hS a; intro a hS
    refine L_ge hS rfl rfl (e_bin rfl rfl rfl) rfl ?_; clear hS a; intro a hS
    refine L_e hS (e_pk rfl rfl) rfl ?_; clear hS a; intro a hS
    refine L_e hS (e_assign rfl) rfl ?_; clear hS a; intro a hS
    refine L_nil (n_then (wp_ret ?_))
    refine r_block (r_then ?_)
    refine c_ret1 hS Tryz.results11 (.tmp rfl) ?_
    have hfin : decide (checkE (pl s) o.at_ o.memo o.ps = checkE (pl s) o.at_ o.memo o.ps) = true := decide_eq_true rfl
    rw [hfin]
    have hst : stepP (pl s) o = postP (pl s) o.at_ o.memo o.ps := by unfold stepP; rw [if_neg hc16, if_pos hc39]
    exact ⟨⟨(x60.1, x72.1), by rw [hst]; exact x60.2, by rw [hst]; exact x72.2⟩, rfl, hS.chg, duo_end (s' := x60.1) (r' := x72.1) hS (hS.sep (X := ledA B x60.1 true) (Y := rlA b x72.1 true) (by repeat (first | exact Rem.head | apply Rem.tail)) (by repeat constructor)) (by repeat constructor) (by repeat constructor)⟩
  refine c_seq (c_region ?_)
  refine L_e hS (e_bin rfl rfl rfl) rfl ?_; clear hS a; intro a hS
  refine L_e hS (e_assign rfl) rfl ?_; clear hS a; intro a hS
  refine L_nil (n_then ?_)
  first | refine c_ifD hS rfl (fun hc99 => ?_) (fun hc99 => ?_) | refine c_if hS rfl (fun hc99 => ?_) (fun hc99 => ?_)
  ·
    refine c_seq ?_
    refine c_drawS [] (by kernel_rfl) hS (sub_cons (X := .blk b5 _ _) (by repeat constructor) sub_nil) ?_; clear hS; (try clear w); intro w hS
    simp only [List.length_cons, List.length_nil, Nat.zero_add, Nat.reduceAdd, List.replicate]
    refine Zt0 0 (tf 1 10) hS rfl want_none (e_move rfl) rfl (by kernel_rfl) rfl ?_; clear hS a; intro a hS
    (first | refine Zt0 1 (tf 2 9) hS rfl want_none (e_fa0 rfl ty_fo38_1) rfl (by kernel_rfl) rfl ?_ | refine Zt0 1 (tf 2 9) hS rfl want_none (e_faK rfl ty_fo38_1) rfl (by kernel_rfl) rfl ?_); clear hS a; intro a hS
    refine Zt 2 (tf 3 8) hS rfl want_none (e_load rfl (by repeat constructor) ty_sc3 (by rfl)) rfl (by kernel_rfl) (sub_cons (by repeat constructor) sub_nil) rfl ?_; clear hS a; intro a hS
    refine Zt0 5 [true, true, true, false, false, true, false, false, false, false, false] hS rfl want_none (e_move rfl) rfl (by kernel_rfl) rfl ?_; clear hS a; intro a hS
    (first | refine Zt0 6 [true, true, true, false, false, true, true, false, false, false, false] hS rfl want_none (e_fa0 rfl ty_fo38_1) rfl (by kernel_rfl) rfl ?_ | refine Zt0 6 [true, true, true, false, false, true, true, false, false, false, false] hS rfl want_none (e_faK rfl ty_fo38_1) rfl (by kernel_rfl) rfl ?_); clear hS a; intro a hS
    refine Zt 7 [true, true, true, false, false, true, true, true, false, false, false] hS rfl want_none (e_load rfl (by repeat constructor) ty_sc3 (by rfl)) rfl (by kernel_rfl) (sub_cons (by repeat constructor) sub_nil) rfl ?_; clear hS a; intro a hS
    refine Z_one (i := 3) rfl (want_none a hS.sl) (listed' := [true, true, true, true, false, true, true, true, false, false, false]) rfl (by kernel_rfl) (s_callM hS (.cons rfl (.cons rfl .nil)) cf37 rfl (lClose_P B s o.at_ _ (hS.get (X := ledA B s true) (by repeat constructor))) (fun x => (by repeat constructor)) rfl ?_); clear hS a; (try clear w); intro x104 a w hS
    refine Z_and hS (sub_cons (by repeat constructor) sub_nil) ?_
    refine Z_one (i := 4) rfl (want_none a hS.sl) (listed' := (tf 8 3)) rfl (by kernel_rfl) (s_callP hS (.cons rfl .nil) cf10 rfl (Num_w _ _) ?_); clear hS a; (try clear w); intro a w hS
    refine Z_and hS (sub_cons (by repeat constructor) sub_nil) ?_
    refine Z_one (i := 8) rfl (want_none a hS.sl) (listed' := (tf 9 2)) rfl (by kernel_rfl) (s_callM hS (.cons rfl (.cons rfl .nil)) cf21 rfl (rlClose_P b r o.at_ _ (hS.get (X := rlA b r true) (by repeat constructor))) (fun x => (by repeat constructor)) rfl ?_); clear hS a; (try clear w); intro x109 a w hS
    refine Z_and hS (sub_cons (by repeat constructor) sub_nil) ?_
    refine Zt0 9 (tf 10 1) hS rfl want_none (e_bin rfl rfl rfl) rfl (by kernel_rfl) rfl ?_; clear hS a; intro a hS
    refine Zt0 10 (tf 11 0) hS rfl want_none (e_assign rfl) rfl (by kernel_rfl) rfl ?_; clear hS a; intro a hS
    refine Z_done (by kernel_rfl) ?_
    refine n_then (wp_ret ?_)
    refine r_block (r_then ?_)
    refine c_ret1 hS Tryz.results11 (.tmp rfl) ?_
    have hrc := rel_close hrel o.at_
    have hfin : decide (closeE s o.at_ = closeRE r o.at_) = true := decide_eq_true hrc.1.symm
    rw [hfin]
    have hst : stepP (pl s) o = closeP (pl s) o.at_ := by unfold stepP; rw [if_neg hc16, if_neg hc39, if_pos hc99]
    exact ⟨⟨(closeL s o.at_, closeR r o.at_), by rw [hst]; exact pl_close s o.at_, by rw [hst]; exact hrc.2⟩, rfl, hS.chg, duo_end (s' := closeL s o.at_) (r' := closeR r o.at_) hS (hS.sep (X := ledA B (closeL s o.at_) true) (Y := rlA b (closeR r o.at_) true) (by repeat (first | exact Rem.head | apply Rem.tail)) (by repeat constructor)) (by repeat constructor) (by repeat constructor)⟩
  refine wp_skip (n_block (n_then (c_seq (c_region ?_))))
  refine L_e hS (e_assign rfl) rfl ?_; clear hS a; intro a hS
  refine L_nil (n_then (wp_ret ?_))
  refine c_ret1 hS Tryz.results11 (.tmp rfl) ?_
  have hst : stepP (pl s) o = pl s := by unfold stepP; rw [if_neg hc16, if_neg hc39, if_neg hc99]
  exact ⟨⟨(s, r), by rw [hst], by rw [hst]; exact hrel⟩, rfl, hS.chg, duo_end (s' := s) (r' := r) hS (hS.sep (X := ledA B s true) (Y := rlA b r true) (by repeat (first | exact Rem.head | apply Rem.tail)) (by repeat constructor)) (by repeat constructor) (by repeat constructor)⟩
end Go.Proofs.YtheofhegdjjfgaaGreat

namespace Go.Proofs.YtheofhegdjjfgaaGreat
open Go.RowKit
variable {P : Program} {n : Nat} {F0 : Nat → Prop} {w0 w : World} {a : Act} {L : List (Nat × Value)} {Γ : List Asn} {Q : Exit → Act → World → Prop}
theorem c_drawSN {id : Nat} {l : List Oper} {Γs : List Asn} (Z : List Nat) (hm : P.follows .mixedOrders = true) (hS : St n F0 w0 a w L Γ) (_hsub : ∀ X ∈ Γs, X ∈ Γ) {k : Nat} {bs : List Bool} (hk : l.length = k) (hbs : List.replicate k false = bs)
    (h : ∀ w', St n F0 w0 a w' L Γ → wpZ P l.toArray Q (Hd Γs) Z k bs.toArray a w') : (Code.region id l.toArray true).wp P Q a w := by
  refine c_drawS Z hm hS _hsub fun w' hS' => ?_
  rw [hk, hbs]; exact h w' hS'
end Go.Proofs.YtheofhegdjjfgaaGreat
