/- Rates: Get, walked; slices.Backward, as an iterator. -/
import Derived.Test.YtheofhegdjjfgaaFx3
import Derived.Test.YtheofhegdjjfgaaSe11
namespace Go.Proofs.Ytheofhegdjjfgaa
open Go.RowKit

set_option maxRecDepth 100000 in
theorem Backward_P (v : Value) (hv : isOne v = true) (w0 : World) : NewC Try.prog 54 [v] w0 (fun b : Nat => .func (.func 93) #[] [.pointer (some ⟨b, 0, none⟩)].toArray) (fun b => .blk b [v] 91) := by
  refine c_enter [(0, v)] [] noB Try.func54 rfl Try.ntmps54 ⟨rfl, trivial⟩ rfl (by simp) (by simp) (by simp) ?_
  intro a hS
  refine c_seq ?_
  refine c_region ?_
  obtain ⟨b1, hb1⟩ : ∃ b, b = w0.heap.size := ⟨_, rfl⟩
  refine L_op (s_box1 hS rfl hv rfl ?_); clear hS a; intro a w b1 hS
  refine L_op (s_e hS (e_assign rfl) rfl ?_); clear hS a; intro a hS
  refine L_nil ?_
  refine n_then ?_
  refine c_seq ?_
  refine c_region ?_
  refine L_op (s_e hS (e_makeFunc .nil (.cons rfl .nil)) rfl ?_); clear hS a; intro a hS
  refine L_op (s_e hS (e_assign rfl) rfl ?_); clear hS a; intro a hS
  refine L_nil ?_
  refine n_then ?_
  refine wp_ret ?_
  refine c_ret1 hS Try.results54 (.tmp rfl) ?_
  exact ⟨b1, rfl, hS.chg, hS.new (.head _) rfl⟩

/-- the indices from the top down. -/
def downL (n d : Nat) : List Nat := (List.range d).map fun j => n - 1 - j
theorem downL_succ (n d : Nat) : downL n (d + 1) = downL n d ++ [n - 1 - d] := by unfold downL; rw [List.range_succ]; simp
theorem downL_len (n d : Nat) : (downL n d).length = d := by simp [downL]
def encB (c : ByteArray) (rows : List (Int × Int)) (k : Nat) : Array Value := [.int .i64 (k : Int), .agg (encT c (rows.getD k (0, 0))).toArray].toArray
/-- what the iterator reads. -/
def backK (b : Nat) (e : RA) (w : World) : Prop := w.heap[b]? = some (.cells [e.v].toArray 91 (0, 0)) ∧ rowT e w
def backA (b : Nat) (e : RA) : Asn := .any (fun k => k = b ∨ e.v.ownBlock = some k) (backK b e) false
theorem back_ok {b : Nat} {e : RA} {w : World} (h : backK b e w) : (backA b e).ok w := by
  refine ⟨fun k hk => ?_, fun w' hw => ⟨?_, owns_keep h.2 (fun k hk => hw k (.inr hk))⟩⟩
  · rcases hk with rfl | hk
    · exact (Array.getElem?_eq_some_iff.1 h.1).1
    · exact (World.ownsRow.lt h.2 k hk).2
  · rw [hw b (.inl rfl)]; exact h.1
theorem St.bare {n : Nat} {a : Act} {w : World} {L : List (Nat × Value)} (h : Sl n a L) : St n noB w a w L [] := ⟨h, Chg.refl _ _, okN, disN, mineN⟩
theorem St.again {n : Nat} {a : Act} {w : World} {L : List (Nat × Value)} (h : Sl n a L) {X : Asn} (hX : X.ok w) (hm : X.mine = false) : St n noB w a w L [X] :=
  ⟨h, Chg.refl _ _, okC hX okN, dis1, mineC hm mineN⟩

set_option maxRecDepth 100000 in
theorem Back_seq (b : Nat) (e : RA) (hlen : e.rows.length ≤ 1000000) : SeqB Try.prog 93 #[.pointer (some ⟨b, 0, none⟩)] (encB e.cur e.rows) (fun xs => xs = downL e.rows.length e.rows.length) (fun pre => ∃ d, d < e.rows.length ∧ pre = downL e.rows.length (d + 1)) e.rows.length (backK b e) := by
   intro l J Jx W hK hJ hJx hY h0
   have hk0 := hK _ _ h0
   obtain ⟨q, cq, hev⟩ := own_slice hk0.2
   have hsh : q = none ∧ e.rows.length = 0 ∨ ∃ g, q = some ⟨g, 0, none⟩ := by
     rcases hk0.2.2 with ⟨e1, e2⟩ | ⟨g, cap, cur, e1, _⟩
     · rw [hev] at e1; injection e1 with e3; exact .inl ⟨e3, e2⟩
     · rw [hev] at e1; injection e1 with e3; exact .inr ⟨g, e3⟩
   rw [show (#[Value.func (.yield l) #[] #[]] ++ #[Value.pointer (some ⟨b, 0, none⟩)] : Array Value) = [Value.func (.yield l) #[] #[], Value.pointer (some ⟨b, 0, none⟩)].toArray from rfl]
   refine callsIn_enter [(0, .func (.yield l) #[] #[]), (1, .pointer (some ⟨b, 0, none⟩))] [backA b e] noB Try.func93 rfl Try.ntmps93 ⟨rfl, rfl, trivial⟩ rfl (okC (back_ok hk0) okN) dis1 (mineC (by rfl) mineN) ?_
   intro a hS
   refine R_seq ?_
   refine R_region ?_
   refine R_op rfl (s_e hS (e_loadC rfl ty_sc91 (fun w hh => cell_of_blk (cs := [e.v]) (hh (backA b e) (by repeat constructor)).1 rfl)) rfl ?_); clear hS a; intro a hS
   rw [hev] at hS
   refine R_op rfl (s_e hS (e_len rfl rfl ty_sl91) rfl ?_); clear hS a; intro a hS
   first | (refine R_op rfl (s_e hS (e_binN rfl rfl rfl (by omega)) rfl ?_); clear hS a; intro a hS) | (refine R_op rfl (s_e hS (e_bin rfl rfl rfl) rfl ?_); clear hS a; intro a hS)
   refine R_op rfl (s_e hS (e_assign rfl) rfl ?_); clear hS a; intro a hS
   refine R_nil ?_
   refine n_then ?_
   refine R_block ?_
   skip
   refine R_loop (γ := Nat) (fun d a w => St 19 noB w a w [(3, .int .i64 ((e.rows.length : Int) - d - 1)), (0, .func (.yield l) #[] #[]), (1, .pointer (some ⟨b, 0, none⟩))] [backA b e] ∧ d ≤ e.rows.length ∧ J (downL e.rows.length d) w) (fun d => e.rows.length - d) 0 ⟨St.again (hS.sl.sub (by rw [show ((e.rows.length : Int) - (0 : Nat) - 1) = (e.rows.length : Int) - 1 by omega]; exact (by repeat (first | exact trivial | refine ⟨rfl, ?_⟩)))) (hS.ok _ (by repeat constructor)) rfl, Nat.zero_le _, h0⟩ ?_
   clear hS a; (try clear w); intro d a w hI
   obtain ⟨hS, hd, hj⟩ := hI
   refine R_seq ?_
   refine R_seq ?_
   refine R_region ?_
   refine R_op rfl (s_e hS (e_move rfl) rfl ?_); clear hS a; intro a hS
   refine R_op rfl (s_e hS (e_bin rfl rfl rfl) rfl ?_); clear hS a; intro a hS
   refine R_nil ?_
   refine n_then ?_
   first | refine R_ifD hS rfl (fun hc8 => ?_) (fun hc8 => ?_) | refine R_if hS rfl (fun hc8 => ?_) (fun hc8 => ?_)
   ·
     have hdl : d < e.rows.length := by omega
     obtain ⟨g, rfl⟩ : ∃ g, q = some ⟨g, 0, none⟩ := by
       rcases hsh with ⟨_, h1⟩ | hg
       · exfalso; omega
       · exact hg
     obtain ⟨x, hx⟩ : ∃ x, e.rows[e.rows.length - 1 - d]? = some x := ⟨e.rows[e.rows.length - 1 - d]'(by omega), List.getElem?_eq_getElem (by omega)⟩
     have hnat : ((e.rows.length : Int) - d - 1).toNat = e.rows.length - 1 - d := by omega
     have hint : ((e.rows.length : Int) - d - 1) = ((e.rows.length - 1 - d : Nat) : Int) := by omega
     have hgd : e.rows.getD (e.rows.length - 1 - d) (0, 0) = x := by rw [List.getD_eq_getElem?_getD, hx]; rfl
     have hy := hY _ (e.rows.length - 1 - d) w hj (by rw [downL_len]; exact hdl)
     unfold encB at hy
     rw [← hint, hgd, ← downL_succ] at hy
     refine R_skip ?_
     refine n_then ?_
     refine R_seq ?_
     refine R_block ?_
     refine R_seq ?_
     refine R_region ?_
     refine R_op rfl (s_e hS (e_move rfl) rfl ?_); clear hS a; intro a hS
     refine R_op rfl (s_e hS (e_move rfl) rfl ?_); clear hS a; intro a hS
     refine R_op rfl (s_e hS (e_loadC rfl ty_sc91 (fun w hh => cell_of_blk (cs := [e.v]) (hh (backA b e) (by repeat constructor)).1 rfl)) rfl ?_); clear hS a; intro a hS
     rw [hev] at hS
     refine R_op rfl (s_e hS (e_move rfl) rfl ?_); clear hS a; intro a hS
     refine R_op rfl (s_e hS (e_ix rfl rfl ty_sl91 ty_sz93 (by omega)) rfl ?_); clear hS a; intro a hS
     refine R_op rfl (s_e hS (e_loadAC (l := encT e.cur x) rfl ty_st93 ty_sz93 (fun w hh => by
 have h1 : w.ownsRow 0 93 3 e.v e.rows.length (e.rows.flatMap (encT e.cur)) := (hh (backA b e) (by repeat constructor)).2
 rw [hev] at h1
 rw [hnat]
 intro j v hj
 have h2 := flat_get (encT e.cur) 3 (fun _ => rfl) e.rows _ x hx j v hj
 have h3 := World.ownsRow.cells h1 (g := g) rfl _ _ h2
 rw [addr_add] at h3
 rw [← h3]; congr 2; omega)) rfl ?_); clear hS a; intro a hS
     refine R_yield hS rfl (.cons rfl (.cons rfl .nil)) hy (fun e' w' hR => ?_)
     obtain ⟨y, rfl, hR2⟩ : ∃ y : Bool, e' = .returned (.bool y) ∧ ((y = true ∧ J (downL e.rows.length (d + 1)) w') ∨ (y = false ∧ Jx (downL e.rows.length (d + 1)) w')) := by
       rcases hR with ⟨h1, h2⟩ | ⟨h1, h2⟩
       · exact ⟨true, h1, .inl ⟨rfl, h2⟩⟩
       · exact ⟨false, h1, .inr ⟨rfl, h2⟩⟩
     refine ⟨_, rfl, ?_⟩
     replace hS := St.bare (w := w') (hS.sl.put (d := 17) rfl (.bool y))
     clear hj hy
     generalize a.put (some 17) (Value.bool y) = a2 at hS ⊢
     clear a; revert a2; intro a hS; clear w; rename World => w
     refine R_op rfl (s_e hS (e_not rfl) rfl ?_); clear hS a; intro a hS
     refine R_nil ?_
     refine n_then ?_
     first | refine R_ifD hS rfl (fun hc18 => ?_) (fun hc18 => ?_) | refine R_if hS rfl (fun hc18 => ?_) (fun hc18 => ?_)
     ·
       refine R_ret ?_
       refine r_block (r_then (r_then (r_block ?_)))
       refine c_retN hS Try.results93 .nil rfl ?_
       have hx2 : Jx (downL e.rows.length (d + 1)) w := by
         rcases hR2 with ⟨h1, _⟩ | ⟨_, h2⟩
         · rw [h1] at hc18; cases hc18
         · exact h2
       exact ⟨⟨_, rfl⟩, .inr ⟨_, ⟨d, hdl, rfl⟩, hx2⟩⟩
     ·
       refine R_skip ?_
       refine n_block ?_
       refine n_then ?_
       refine R_region ?_
       refine R_op rfl (s_e hS (e_move rfl) rfl ?_); clear hS a; intro a hS
       first | (refine R_op rfl (s_e hS (e_binN rfl rfl rfl (by omega)) rfl ?_); clear hS a; intro a hS) | (refine R_op rfl (s_e hS (e_bin rfl rfl rfl) rfl ?_); clear hS a; intro a hS)
       refine R_op rfl (s_e hS (e_assign rfl) rfl ?_); clear hS a; intro a hS
       refine R_nil ?_
       have hx2 : J (downL e.rows.length (d + 1)) w := by
         rcases hR2 with ⟨_, h2⟩ | ⟨h1, _⟩
         · exact h2
         · rw [h1] at hc18; cases hc18
       exact ⟨d + 1, by omega, St.again (hS.sl.sub (by rw [show ((e.rows.length : Int) - (d + 1 : Nat) - 1) = (e.rows.length : Int) - d - 1 - 1 by omega]; exact (by repeat (first | exact trivial | refine ⟨rfl, ?_⟩)))) (back_ok (hK _ _ hx2)) rfl, by omega, hx2⟩
   ·
     refine R_exit ?_
     refine x_then (x_then (x_hit ?_))
     refine r_norm ?_
     refine c_retN hS Try.results93 .nil rfl ?_
     obtain rfl : d = e.rows.length := by omega
     exact ⟨⟨_, rfl⟩, .inl ⟨_, rfl, hj⟩⟩
end Go.Proofs.Ytheofhegdjjfgaa
