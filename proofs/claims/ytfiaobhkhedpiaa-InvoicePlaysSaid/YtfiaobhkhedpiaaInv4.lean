/- A book of invoices in memory; what only asks: of, some, Get, Next, Of, All, Billed. -/
import Derived.Test.YtfiaobhkhedpiaaInv3
namespace Go.Proofs.Ytfiaobhkhedpiaa
open Go.RowKit

/-- an invoice as it lies in a row: with the block and the room of its lines. -/
structure IA where
  v : Inv
  b : Nat
  c : Nat
def encA (x : IA) : List Value := encI x.v (lnV x.v x.b x.c)
def lnOk (x : IA) (w : World) : Prop := w.ownsRow 0 26 4 (lnV x.v x.b x.c) x.v.lines.length (x.v.lines.flatMap encL)
def rowOk (sv : Value) (its : List IA) (w : World) : Prop := w.ownsRow 0 34 13 sv its.length (its.flatMap encA)
def invsφ (sv : Value) (its : List IA) (w : World) : Prop := rowOk sv its w ∧ ∀ x ∈ its, lnOk x w
def invsF (sv : Value) (its : List IA) (k : Nat) : Prop := sv.ownBlock = some k ∨ ∃ x ∈ its, k = x.b
def invsA (sv : Value) (its : List IA) (m : Bool) : Asn := .any (invsF sv its) (invsφ sv its) m
def linesAll (its : List IA) : Asn := .any (fun k => ∃ x ∈ its, k = x.b) (fun w => ∀ x ∈ its, lnOk x w) true
def rowA13 (sv : Value) (its : List IA) : Asn := ownA 34 13 sv its.length (its.flatMap encA)
def bkOk (bk : Nat) (sv : Value) (w : World) : Prop := w.heap[bk]? = some (.cells [sv].toArray 92 (0, 0))
def bookφ (bk : Nat) (sv : Value) (its : List IA) (w : World) : Prop := bkOk bk sv w ∧ invsφ sv its w
def bookF (bk : Nat) (sv : Value) (its : List IA) (k : Nat) : Prop := k = bk ∨ invsF sv its k
def bookA (bk : Nat) (sv : Value) (its : List IA) (m : Bool) : Asn := .any (bookF bk sv its) (bookφ bk sv its) m

theorem owns_keep {w w' : World} {E s : Nat} {v : Value} {m : Nat} {xs : List Value} (h : w.ownsRow 0 E s v m xs) (hw : ∀ b, v.ownBlock = some b → w'.heap[b]? = w.heap[b]?) : w'.ownsRow 0 E s v m xs :=
  (ok_own h).hold w' hw
theorem lnOk.lt {x : IA} {w : World} (h : lnOk x w) : x.b < w.heap.size := (World.ownsRow.lt h x.b rfl).2
theorem lnOk.keep {x : IA} {w w' : World} (h : lnOk x w) (hw : w'.heap[x.b]? = w.heap[x.b]?) : lnOk x w' :=
  owns_keep h (fun b hb => by simp [lnV, Value.ownBlock] at hb; subst hb; exact hw)
theorem invs_ok {sv : Value} {its : List IA} {w : World} (m : Bool) (h : invsφ sv its w) : (invsA sv its m).ok w := by
  refine ⟨fun b hb => ?_, fun w' hw => ⟨owns_keep h.1 (fun b hb => hw b (.inl hb)), fun x hx => (h.2 x hx).keep (hw x.b (.inr ⟨x, hx, rfl⟩))⟩⟩
  rcases hb with hb | ⟨x, hx, rfl⟩
  · exact (World.ownsRow.lt h.1 b hb).2
  · exact (h.2 x hx).lt
theorem lines_ok {its : List IA} {w : World} (h : ∀ x ∈ its, lnOk x w) : (linesAll its).ok w := by
  refine ⟨fun b hb => ?_, fun w' hw x hx => (h x hx).keep (hw x.b ⟨x, hx, rfl⟩)⟩
  obtain ⟨x, hx, rfl⟩ := hb
  exact (h x hx).lt
theorem book_ok {bk : Nat} {sv : Value} {its : List IA} {w : World} (m : Bool) (h : bookφ bk sv its w) : (bookA bk sv its m).ok w := by
  refine ⟨fun b hb => ?_, fun w' hw => ⟨?_, ((invs_ok m h.2).hold w' (fun b hb => hw b (.inr hb)))⟩⟩
  · rcases hb with rfl | hb
    · exact (Array.getElem?_eq_some_iff.1 h.1).1
    · exact (invs_ok m h.2).lt b hb
  · show w'.heap[bk]? = _
    rw [hw bk (.inl rfl)]; exact h.1

/-- reading a book's parts out of an entry. -/
theorem rd_bk {Γ : List Asn} {bk : Nat} {sv : Value} {its : List IA} {m : Bool} (hm : bookA bk sv its m ∈ Γ) : ∀ w, Hd Γ w → w.cell? ⟨bk, 0, none⟩ = some sv :=
  fun _ hh => cell_of_blk (cs := [sv]) (hh _ hm).1 rfl
theorem rd_row {Γ : List Asn} {bk : Nat} {g c m' : Nat} {its : List IA} {m : Bool} (hm : bookA bk (.slice (some ⟨g, 0, none⟩) m' c) its m ∈ Γ) {i : Nat} {x : IA} (hx : its[i]? = some x) : ∀ w, Hd Γ w → ∀ j v, (encA x)[j]? = some v → w.cell? ⟨g, 0 + i * 13 + j, none⟩ = some v := by
  intro w hh j v hj
  have h : rowOk (.slice (some ⟨g, 0, none⟩) m' c) its w := (hh _ hm).2.1
  have h1 := flat_get encA 13 (fun _ => rfl) its i x hx j v hj
  have h2 := World.ownsRow.cells h (g := g) rfl _ _ h1
  rw [addr_add] at h2
  rw [← h2]; congr 2; omega

/-- the place of an invoice; none, if there is none of that number. -/
def rowPtr (sv : Value) (k : Nat) : Option Addr := match sv with | .slice (some q) _ _ => some ⟨q.block, 0 + k * 13, none⟩ | _ => none
def ofR (sv : Value) (n : Nat) (number : Int) : Option Addr := if number < 1 ∨ (n : Int) < number then none else rowPtr sv (number - 1).toNat

set_option maxRecDepth 100000 in
theorem of_P (bk : Nat) (sv : Value) (its : List IA) (number : Int) (hn : its.length ≤ 1000000) (w0 : World) (h : bookφ bk sv its w0) : PureC Try.prog 59 [.pointer (some ⟨bk, 0, none⟩), .int .i64 number] w0 (.pointer (ofR sv its.length number)) := by
  obtain ⟨p, c, rfl⟩ := own_slice h.2.1
  have hsh : p = none ∧ its.length = 0 ∨ ∃ g, p = some ⟨g, 0, none⟩ := by
    rcases h.2.1.2 with ⟨e, e2⟩ | ⟨g, cap, cur, e, _⟩
    · injection e with e1; exact .inl ⟨e1, e2⟩
    · injection e with e1; exact .inr ⟨g, e1⟩
  refine c_enter [(0, .pointer (some ⟨bk, 0, none⟩)), (1, .int .i64 number)] [bookA bk (.slice p its.length c) its false] noB Try.func59 rfl Try.ntmps59 ⟨rfl, rfl, trivial⟩ rfl (by intro X hX; obtain rfl := List.mem_singleton.1 hX; exact book_ok false h) (by simp) (by intro X hX hm; obtain rfl := List.mem_singleton.1 hX; cases hm) ?_
  intro a hS
  refine c_seq ?_
  refine c_region ?_
  refine L_op (s_e hS (e_assign rfl) rfl ?_); clear hS a; intro a hS
  refine L_nil ?_
  refine n_then ?_
  refine c_seq ?_
  refine c_seq ?_
  refine c_region ?_
  refine L_op (s_e hS (e_move rfl) rfl ?_); clear hS a; intro a hS
  refine L_op (s_e hS (e_bin rfl rfl rfl) rfl ?_); clear hS a; intro a hS
  refine L_op (s_e hS (e_move rfl) rfl ?_); clear hS a; intro a hS
  (first | refine g_splitD (t := 7) hS rfl ?_ ?_ | refine g_split (t := 7) hS rfl ?_ ?_) <;> (clear hS; intro hg7 hS)
  ·
    refine L_skip_f hS rfl rfl rfl ?_; clear hS a; intro a hS
    refine L_skip_f hS rfl rfl rfl ?_; clear hS a; intro a hS
    refine L_skip_f hS rfl rfl rfl ?_; clear hS a; intro a hS
    refine L_skip_f hS rfl rfl rfl ?_; clear hS a; intro a hS
    refine L_skip_f hS rfl rfl rfl ?_; clear hS a; intro a hS
    refine L_skip_f hS rfl rfl rfl ?_; clear hS a; intro a hS
    refine L_skip_f hS rfl rfl rfl ?_; clear hS a; intro a hS
    first | (refine L_op (s_e hS (e_pick_t rfl rfl) rfl ?_); clear hS a; intro a hS) | (refine L_op (s_e hS (e_pick_f rfl rfl) rfl ?_); clear hS a; intro a hS)
    refine L_nil ?_
    refine n_then ?_
    refine c_if_t hS rfl ?_
    refine c_seq ?_
    refine c_region ?_
    refine L_op (s_e hS (e_assign rfl) rfl ?_); clear hS a; intro a hS
    refine L_nil ?_
    refine n_then ?_
    refine wp_ret ?_
    refine r_then ?_
    refine c_ret1 hS Try.results59 (.tmp rfl) ?_
    have hr : ofR (.slice p its.length c) its.length number = none := by unfold ofR; rw [if_pos (by omega)]
    rw [hr]; exact ⟨rfl, hS.chg⟩
  ·
    refine L_go hS rfl rfl (s_e hS (e_move rfl) rfl ?_); clear hS a; intro a hS
    refine L_go hS rfl rfl (s_e hS (e_move rfl) rfl ?_); clear hS a; intro a hS
    refine L_go hS rfl rfl (s_e hS (e_nilCheck rfl) rfl ?_); clear hS a; intro a hS
    first | (refine L_go hS rfl rfl (s_e hS (e_fa0 rfl ty_fo92_0) rfl ?_); clear hS a; intro a hS) | (refine L_go hS rfl rfl (s_e hS (e_faK rfl ty_fo92_0) rfl ?_); clear hS a; intro a hS)
    refine L_go hS rfl rfl (s_e hS (e_loadC rfl ty_sc41 (rd_bk (by exact .head _))) rfl ?_); clear hS a; intro a hS
    refine L_go hS rfl rfl (s_e hS (e_len rfl rfl ty_sl41) rfl ?_); clear hS a; intro a hS
    refine L_go hS rfl rfl (s_e hS (e_bin rfl rfl rfl) rfl ?_); clear hS a; intro a hS
    first | (refine L_op (s_e hS (e_pick_t rfl rfl) rfl ?_); clear hS a; intro a hS) | (refine L_op (s_e hS (e_pick_f rfl rfl) rfl ?_); clear hS a; intro a hS)
    refine L_nil ?_
    refine n_then ?_
    first | refine c_ifD hS rfl (fun hc15 => ?_) (fun hc15 => ?_) | refine c_if hS rfl (fun hc15 => ?_) (fun hc15 => ?_)
    ·
      refine c_seq ?_
      refine c_region ?_
      refine L_op (s_e hS (e_assign rfl) rfl ?_); clear hS a; intro a hS
      refine L_nil ?_
      refine n_then ?_
      refine wp_ret ?_
      refine r_then ?_
      refine c_ret1 hS Try.results59 (.tmp rfl) ?_
      have hr : ofR (.slice p its.length c) its.length number = none := by unfold ofR; rw [if_pos (by omega)]
      rw [hr]; exact ⟨rfl, hS.chg⟩
    ·
      obtain ⟨g, rfl⟩ : ∃ g, p = some ⟨g, 0, none⟩ := by
        rcases hsh with ⟨_, h0⟩ | hg
        · exfalso; omega
        · exact hg
      refine wp_skip ?_
      refine n_then ?_
      refine c_seq ?_
      refine c_region ?_
      refine L_op (s_e hS (e_move rfl) rfl ?_); clear hS a; intro a hS
      refine L_op (s_e hS (e_nilCheck rfl) rfl ?_); clear hS a; intro a hS
      first | (refine L_op (s_e hS (e_fa0 rfl ty_fo92_0) rfl ?_); clear hS a; intro a hS) | (refine L_op (s_e hS (e_faK rfl ty_fo92_0) rfl ?_); clear hS a; intro a hS)
      refine L_op (s_e hS (e_loadC rfl ty_sc41 (rd_bk (by exact .head _))) rfl ?_); clear hS a; intro a hS
      refine L_op (s_e hS (e_move rfl) rfl ?_); clear hS a; intro a hS
      first | (refine L_op (s_e hS (e_binN rfl rfl rfl (by omega)) rfl ?_); clear hS a; intro a hS) | (refine L_op (s_e hS (e_bin rfl rfl rfl) rfl ?_); clear hS a; intro a hS)
      refine L_op (s_e hS (e_ix rfl rfl ty_sl41 ty_sz34 (by omega)) rfl ?_); clear hS a; intro a hS
      refine L_op (s_e hS (e_assign rfl) rfl ?_); clear hS a; intro a hS
      refine L_nil ?_
      refine n_then ?_
      refine wp_ret ?_
      refine c_ret1 hS Try.results59 (.tmp rfl) ?_
      have hr : ofR (.slice (some ⟨g, 0, none⟩) its.length c) its.length number = some ⟨g, 0 + (number - 1).toNat * 13, none⟩ := by unfold ofR; rw [if_neg (by omega)]; rfl
      rw [hr]; exact ⟨rfl, hS.chg⟩

theorem lines_snoc {its : List IA} {x : IA} {w : World} (h1 : (linesAll its).ok w) (h2 : (lnA x.v x.b x.c).ok w) : (linesAll (its ++ [x])).ok w :=
  lines_ok (fun y hy => by
    rcases List.mem_append.1 hy with hy | hy
    · exact h1.now y hy
    · obtain rfl := List.mem_singleton.1 hy; exact h2.now)

def someL (p : Inv → Bool) (its : List IA) : List Inv := (its.map (·.v)).filter p
theorem someL_snoc (p : Inv → Bool) (its : List IA) (k : Nat) (x : IA) (hx : its[k]? = some x) : someL p (its.take (k + 1)) = someL p (its.take k) ++ (if p x.v then [x.v] else []) := by
  unfold someL
  rw [List.take_add_one, hx]
  by_cases hp : p x.v <;> simp [hp]

set_option maxRecDepth 100000 in
/-- those that are wanted, each in memory of its own. -/
theorem some_P (bk : Nat) (sv : Value) (its : List IA) (hn : its.length ≤ 1000000) (hls : ∀ x ∈ its, x.v.lines.length ≤ 1000000) (f : FuncId) (caps : List Value) (p : Inv → Bool) (w0 : World) (h : bookφ bk sv its w0) (hf : CallsTo Try.prog f)
    (hp : ∀ x w', Chg noB w0 w' → PureC Try.prog f ([.agg (encA x).toArray] ++ caps) w' (.bool (p x.v))) :
    NewC Try.prog 63 [.pointer (some ⟨bk, 0, none⟩), .func (.func f) #[] caps.toArray] w0 (fun y : { y : Value × List IA // y.2.map (·.v) = someL p its } => y.1.1) (fun y => invsA y.1.1 y.1.2 true) := by
  obtain ⟨q, c, rfl⟩ := own_slice h.2.1
  have hsh : q = none ∧ its.length = 0 ∨ ∃ g, q = some ⟨g, 0, none⟩ := by
    rcases h.2.1.2 with ⟨e, e2⟩ | ⟨g, cap, cur, e, _⟩
    · injection e with e1; exact .inl ⟨e1, e2⟩
    · injection e with e1; exact .inr ⟨g, e1⟩
  refine c_enter [(0, .pointer (some ⟨bk, 0, none⟩)), (1, .func (.func f) #[] caps.toArray)] [bookA bk (.slice q its.length c) its false] noB Try.func63 rfl Try.ntmps63 ⟨rfl, rfl, trivial⟩ rfl (by intro X hX; obtain rfl := List.mem_singleton.1 hX; exact book_ok false h) (by simp) (by intro X hX hm; obtain rfl := List.mem_singleton.1 hX; cases hm) ?_
  intro a hS
  refine c_seq ?_
  refine c_region ?_
  refine L_op (s_e hS (e_assign rfl) rfl ?_); clear hS a; intro a hS
  refine L_nil ?_
  refine n_then ?_
  refine c_seq ?_
  refine c_region ?_
  refine L_op (s_e hS (e_assign rfl) rfl ?_); clear hS a; intro a hS
  refine L_nil ?_
  refine n_then ?_
  refine c_seq ?_
  refine c_seq ?_
  refine c_region ?_
  refine L_op (s_e hS (e_move rfl) rfl ?_); clear hS a; intro a hS
  refine L_op (s_e hS (e_nilCheck rfl) rfl ?_); clear hS a; intro a hS
  first | (refine L_op (s_e hS (e_fa0 rfl ty_fo92_0) rfl ?_); clear hS a; intro a hS) | (refine L_op (s_e hS (e_faK rfl ty_fo92_0) rfl ?_); clear hS a; intro a hS)
  refine L_op (s_e hS (e_loadC rfl ty_sc41 (rd_bk (by exact .head _))) rfl ?_); clear hS a; intro a hS
  refine L_op (s_e hS (e_len rfl rfl ty_sl41) rfl ?_); clear hS a; intro a hS
  refine L_op (s_e hS (e_move rfl) rfl ?_); clear hS a; intro a hS
  refine L_nil ?_
  refine n_then ?_
  refine wp_block ?_
  replace hS := (hS.more (lines_ok (its := []) (fun x hx => by cases hx)) (fun b hb => by obtain ⟨x, hx, _⟩ := hb; cases hx)).own_nil 34 13
  refine c_loop (γ := (Nat × Value × List IA)) (fun G a w => St 27 noB w0 a w [(13, .int .i64 (G.1 : Int)), (12, .int .i64 (its.length : Int)), (11, .slice q its.length c), (5, G.2.1), (1, .func (.func f) #[] caps.toArray)] [rowA13 G.2.1 G.2.2, linesAll G.2.2, bookA bk (.slice q its.length c) its false] ∧ G.1 ≤ its.length ∧ G.2.2.map (·.v) = someL p (its.take G.1) ∧ G.2.2.length ≤ G.1) (fun G => its.length - G.1) (0, .slice none 0 0, []) ⟨hS.slots ⟨rfl, rfl, rfl, rfl, rfl, trivial⟩, Nat.zero_le _, rfl, Nat.le_refl _⟩ ?_
  clear hS a; (try clear w); intro G a w hI
  obtain ⟨k, out, outs⟩ := G
  obtain ⟨hS, hk, hout, hol⟩ := hI
  simp only at hS hk hout hol
  refine c_seq ?_
  refine c_region ?_
  refine L_op (s_e hS (e_bin rfl rfl rfl) rfl ?_); clear hS a; intro a hS
  refine L_nil ?_
  refine n_then ?_
  refine c_seq ?_
  first | refine c_ifD hS rfl (fun hc14 => ?_) (fun hc14 => ?_) | refine c_if hS rfl (fun hc14 => ?_) (fun hc14 => ?_)
  ·
    obtain ⟨x, hx⟩ : ∃ x, its[k]? = some x := ⟨its[k], by simp⟩
    have hxm := List.mem_of_getElem? hx
    obtain ⟨g, rfl⟩ : ∃ g, q = some ⟨g, 0, none⟩ := by
      rcases hsh with ⟨_, h0⟩ | hg
      · exfalso; omega
      · exact hg
    have hsn := someL_snoc p its k x hx
    refine wp_skip ?_
    refine n_then ?_
    refine c_seq ?_
    refine wp_block ?_
    refine c_seq ?_
    refine c_region ?_
    refine L_op (s_e hS (e_ixN rfl rfl ty_sl41 ty_sz34 (by omega)) rfl ?_); clear hS a; intro a hS
    refine L_op (s_e hS (e_loadAC (l := encA x) rfl ty_st34 ty_sz34 (rd_row (by repeat (first | exact .head _ | refine .tail _ ?_)) hx)) rfl ?_); clear hS a; intro a hS
    refine L_op (s_alloc hS ty_z34 rfl ?_); clear hS a; (try clear w); intro a w b7 hS
    refine L_op (s_storeA hS rfl rfl ty_sz34 (by repeat constructor) (by rfl) (by rfl) (by rfl) ?_); clear hS; (try clear w); intro w hS
    refine L_nil ?_
    refine n_then ?_
    refine c_seq ?_
    refine c_region ?_
    refine L_op (s_e hS (e_move rfl) rfl ?_); clear hS a; intro a hS
    refine L_op (s_e hS (e_loadA rfl (by repeat constructor) ty_st34 ty_sz34 (by rfl)) rfl ?_); clear hS a; intro a hS
    refine L_op (s_callvP hS rfl (.cons rfl .nil) hf rfl (hp x _ hS.chg) ?_); clear hS a; (try clear w); intro a w hS
    refine L_nil ?_
    refine n_then ?_
    first | refine c_ifD hS rfl (fun hc19 => ?_) (fun hc19 => ?_) | refine c_if hS rfl (fun hc19 => ?_) (fun hc19 => ?_)
    ·
      have hlo : lnOk x w := (hS.get (X := bookA bk (.slice (some ⟨g, 0, none⟩) its.length c) its false) (by repeat (first | exact .head _ | refine .tail _ ?_))).2.2 x hxm
      refine c_region ?_
      refine L_op (s_e hS (e_move rfl) rfl ?_); clear hS a; intro a hS
      refine L_op (s_e hS (e_loadA rfl (by repeat constructor) ty_st34 ty_sz34 (by rfl)) rfl ?_); clear hS a; intro a hS
      refine L_op (s_callN hS (.cons rfl .nil) cf58 rfl (own_one x.v x.b 0 x.c (hls x hxm) _ (row_of_own (b := x.b) (c := x.c) (enc := encL) (fun _ => rfl) hlo) hlo.lt) ?_); clear hS a; (try clear w); intro x22 a w hS
      refine L_op (s_bslice hS ty_sl41 ty_sz34 ty_z34 rfl rfl rfl rfl (.agg rfl rfl .nil) rfl ?_); clear hS a; (try clear w); intro a w b23 hS
      refine L_op (s_append1 hS rfl rfl ty_sl41 ty_sz34 ty_by34 ty_z34 rfl rfl rfl (by repeat constructor) (by repeat constructor) (by rfl) (by rfl) (fun _ => (by repeat constructor)) (by omega) ?_); clear hS a; (try clear w); intro v24 a w hv24 hS
      refine L_op (s_e hS (e_assign rfl) rfl ?_); clear hS a; intro a hS
      refine L_nil ?_
      refine n_block ?_
      refine n_then ?_
      refine c_region ?_
      first | (refine L_op (s_e hS (e_binN rfl rfl rfl (by omega)) rfl ?_); clear hS a; intro a hS) | (refine L_op (s_e hS (e_bin rfl rfl rfl) rfl ?_); clear hS a; intro a hS)
      refine L_op (s_e hS (e_move rfl) rfl ?_); clear hS a; intro a hS
      refine L_nil ?_
      first
      | exact ⟨(k + 1, out, outs), by simp only; omega, (hS.drop (.cons _ (.refl _))).slots ⟨rfl, rfl, rfl, rfl, rfl, trivial⟩, by simp only; omega, by simp only [hsn, hout, hc19]; simp, by simp only; omega⟩
      | (
        replace hS := hS.drop (.cons _ (.refl _))
        replace hS := hS.join (Y := linesAll outs) (Z := linesAll (outs ++ [⟨x.v, x22.1, x22.2⟩])) (by repeat (first | apply Rep.head | apply Rep.tail)) (lines_snoc (hS.ok _ (by repeat (first | exact .head _ | refine .tail _ ?_))) (hS.ok _ (.head _))) (fun b hb => by
          obtain ⟨y, hy, rfl⟩ := hb
          rcases List.mem_append.1 hy with hy | hy
          · exact .inr ⟨y, hy, rfl⟩
          · obtain rfl := List.mem_singleton.1 hy; exact .inl rfl) (fun _ => ⟨rfl, rfl⟩)
        replace hS := hS.drop (.cons _ (.refl _))
        have er : rowA13 v24 (outs ++ [⟨x.v, x22.1, x22.2⟩]) = ownA 34 13 v24 (outs.length + 1) (outs.flatMap encA ++ (encI x.v (lnV x.v x22.1 x22.2) ++ [])) := by simp [rowA13, encA]
        rw [← er] at hS
        exact ⟨(k + 1, v24, outs ++ [⟨x.v, x22.1, x22.2⟩]), by simp only; omega, hS.slots (by exact ⟨rfl, rfl, rfl, rfl, rfl, trivial⟩), by simp only; omega, by simp only [hsn, hc19]; simp [hout], by simp only [List.length_append, List.length_cons, List.length_nil]; omega⟩)
    ·
      refine wp_skip ?_
      refine n_block ?_
      refine n_then ?_
      refine c_region ?_
      first | (refine L_op (s_e hS (e_binN rfl rfl rfl (by omega)) rfl ?_); clear hS a; intro a hS) | (refine L_op (s_e hS (e_bin rfl rfl rfl) rfl ?_); clear hS a; intro a hS)
      refine L_op (s_e hS (e_move rfl) rfl ?_); clear hS a; intro a hS
      refine L_nil ?_
      first
      | exact ⟨(k + 1, out, outs), by simp only; omega, (hS.drop (.cons _ (.refl _))).slots ⟨rfl, rfl, rfl, rfl, rfl, trivial⟩, by simp only; omega, by simp only [hsn, hout, hc19]; simp, by simp only; omega⟩
      | (
        replace hS := hS.drop (.cons _ (.refl _))
        replace hS := hS.join (Y := linesAll outs) (Z := linesAll (outs ++ [⟨x.v, x22.1, x22.2⟩])) (by repeat (first | apply Rep.head | apply Rep.tail)) (lines_snoc (hS.ok _ (by repeat (first | exact .head _ | refine .tail _ ?_))) (hS.ok _ (.head _))) (fun b hb => by
          obtain ⟨y, hy, rfl⟩ := hb
          rcases List.mem_append.1 hy with hy | hy
          · exact .inr ⟨y, hy, rfl⟩
          · obtain rfl := List.mem_singleton.1 hy; exact .inl rfl) (fun _ => ⟨rfl, rfl⟩)
        replace hS := hS.drop (.cons _ (.refl _))
        have er : rowA13 v24 (outs ++ [⟨x.v, x22.1, x22.2⟩]) = ownA 34 13 v24 (outs.length + 1) (outs.flatMap encA ++ (encI x.v (lnV x.v x22.1 x22.2) ++ [])) := by simp [rowA13, encA]
        rw [← er] at hS
        exact ⟨(k + 1, v24, outs ++ [⟨x.v, x22.1, x22.2⟩]), by simp only; omega, hS.slots (by exact ⟨rfl, rfl, rfl, rfl, rfl, trivial⟩), by simp only; omega, by simp only [hsn, hc19]; simp [hout], by simp only [List.length_append, List.length_cons, List.length_nil]; omega⟩)
  ·
    refine wp_exit ?_
    refine x_then (x_then (x_hit ?_))
    refine n_then ?_
    refine c_seq ?_
    refine c_region ?_
    refine L_op (s_e hS (e_move rfl) rfl ?_); clear hS a; intro a hS
    refine L_op (s_e hS (e_assign rfl) rfl ?_); clear hS a; intro a hS
    refine L_nil ?_
    refine n_then ?_
    refine wp_ret ?_
    refine c_ret1 hS Try.results63 (.tmp rfl) ?_
    obtain rfl : k = its.length := by omega
    rw [List.take_length] at hout
    refine ⟨⟨(out, outs), hout⟩, rfl, hS.chg, ?_, ?_⟩
    · exact invs_ok true ⟨hS.get (.head _), hS.get (.tail _ (.head _))⟩
    · intro b hb
      rcases hb with hb | hb
      · exact (hS.new (.head _) rfl).2 b hb
      · exact (hS.new (.tail _ (.head _)) rfl).2 b hb

set_option maxRecDepth 100000 in
theorem All1_P (x : IA) (w0 : World) : PureC Try.prog 64 [.agg (encA x).toArray] w0 (.bool true) := by
  refine c_enter [(0, .agg (encA x).toArray)] [] noB Try.func64 rfl Try.ntmps64 ⟨rfl, trivial⟩ rfl (by simp) (by simp) (by simp) ?_
  intro a hS
  refine c_seq ?_
  refine c_region ?_
  refine L_op (s_boxA hS rfl rfl ?_); clear hS a; (try clear w); intro a w b1 hS
  refine L_op (s_e hS (e_assign rfl) rfl ?_); clear hS a; intro a hS
  refine L_nil ?_
  refine n_then ?_
  refine c_seq ?_
  refine c_region ?_
  refine L_op (s_e hS (e_assign rfl) rfl ?_); clear hS a; intro a hS
  refine L_nil ?_
  refine n_then ?_
  refine wp_ret ?_
  refine c_ret1 hS Try.results64 (.tmp rfl) ?_
  exact ⟨rfl, hS.chg⟩
set_option maxRecDepth 100000 in
theorem All_P (bk : Nat) (sv : Value) (its : List IA) (hn : its.length ≤ 1000000) (hls : ∀ x ∈ its, x.v.lines.length ≤ 1000000) (w0 : World) (h : bookφ bk sv its w0) :
    NewC Try.prog 21 [.pointer (some ⟨bk, 0, none⟩)] w0 (fun y : { y : Value × List IA // y.2.map (·.v) = someL (fun _ => true) its } => y.1.1) (fun y => invsA y.1.1 y.1.2 true) := by
  refine c_enter [(0, .pointer (some ⟨bk, 0, none⟩))] [] noB Try.func21 rfl Try.ntmps21 ⟨rfl, trivial⟩ rfl (by simp) (by simp) (by simp) ?_
  intro a hS
  refine c_seq ?_
  refine c_region ?_
  refine L_op (s_e hS (e_assign rfl) rfl ?_); clear hS a; intro a hS
  refine L_nil ?_
  refine n_then ?_
  refine c_seq ?_
  refine c_region ?_
  refine L_op (s_e hS (e_move rfl) rfl ?_); clear hS a; intro a hS
  refine L_op (s_callN hS (.cons rfl (.cons rfl .nil)) cf63 rfl (some_P bk sv its hn hls 64 [] (fun _ => true) _ h cf64 (fun x w' _ => All1_P x w')) ?_); clear hS a; (try clear w); intro x4 a w hS
  refine L_op (s_e hS (e_assign rfl) rfl ?_); clear hS a; intro a hS
  refine L_nil ?_
  refine n_then ?_
  refine wp_ret ?_
  refine c_ret1 hS Try.results21 (.tmp rfl) ?_
  exact ⟨x4, rfl, hS.chg, hS.new (.head _) rfl⟩
/-- a captured variable of one cell. -/
def capA (b : Nat) (v : Value) (E : Nat) : Asn := .any (fun k => k = b) (fun w => w.heap[b]? = some (.cells [v].toArray E (0, 0))) false
theorem ok_cap {b E : Nat} {v : Value} {w : World} (h : w.heap[b]? = some (.cells [v].toArray E (0, 0))) : (capA b v E).ok w :=
  ⟨fun k hk => by obtain rfl : k = b := hk; exact (Array.getElem?_eq_some_iff.1 h).1, fun w' hw => by show w'.heap[b]? = _; rw [hw b rfl]; exact h⟩
theorem cap_get {Γ : List Asn} {b E : Nat} {v : Value} (hm : capA b v E ∈ Γ) : ∀ w, Hd Γ w → w.cell? ⟨b, 0, none⟩ = some v := fun _ hh => cell_of_blk (cs := [v]) (E := E) (hh _ hm) rfl
theorem cap_later {n : Nat} {w0 w w' : World} {a : Act} {L : List (Nat × Value)} {Γ : List Asn} {b E : Nat} {v : Value} (hS : St n noB w0 a w L Γ) (hm : Asn.blk b [v] E ∈ Γ) (hc : Chg noB w w') : w'.heap[b]? = some (.cells [v].toArray E (0, 0)) := by
  rw [hc.block b ((hS.ok _ hm).lt b rfl) (fun hf => hf)]; exact hS.get hm

set_option maxRecDepth 100000 in
theorem Of1_P (x : IA) (s : ByteArray) (b E : Nat) (w0 : World) (h : w0.heap[b]? = some (.cells [Value.string s].toArray E (0, 0))) : PureC Try.prog 106 [.agg (encA x).toArray, .pointer (some ⟨b, 0, none⟩)] w0 (.bool (decide (x.v.account = s))) := by
  refine c_enter [(0, .agg (encA x).toArray), (1, .pointer (some ⟨b, 0, none⟩))] [capA b (.string s) E] noB Try.func106 rfl Try.ntmps106 ⟨rfl, rfl, trivial⟩ rfl (by intro X hX; obtain rfl := List.mem_singleton.1 hX; exact ok_cap h) (by simp) (by intro X hX hm; obtain rfl := List.mem_singleton.1 hX; cases hm) ?_
  intro a hS
  refine c_seq ?_
  refine c_region ?_
  refine L_op (s_boxA hS rfl rfl ?_); clear hS a; (try clear w); intro a w b2 hS
  refine L_op (s_e hS (e_assign rfl) rfl ?_); clear hS a; intro a hS
  refine L_nil ?_
  refine n_then ?_
  refine c_seq ?_
  refine c_region ?_
  first | (refine L_op (s_e hS (e_fa0 rfl ty_fo34_4) rfl ?_); clear hS a; intro a hS) | (refine L_op (s_e hS (e_faK rfl ty_fo34_4) rfl ?_); clear hS a; intro a hS)
  refine L_op (s_e hS (e_load rfl (by repeat constructor) ty_sc9 (by rfl)) rfl ?_); clear hS a; intro a hS
  refine L_op (s_e hS (e_loadC rfl ty_sc9 (cap_get (by repeat (first | exact .head _ | refine .tail _ ?_)))) rfl ?_); clear hS a; intro a hS
  refine L_op (s_e hS (e_binS rfl rfl rfl) rfl ?_); clear hS a; intro a hS
  refine L_op (s_e hS (e_assign rfl) rfl ?_); clear hS a; intro a hS
  refine L_nil ?_
  refine n_then ?_
  refine wp_ret ?_
  refine c_ret1 hS Try.results106 (.tmp rfl) ?_
  exact ⟨rfl, hS.chg⟩
set_option maxRecDepth 100000 in
theorem Of_P (bk : Nat) (sv : Value) (its : List IA) (s : ByteArray) (hn : its.length ≤ 1000000) (hls : ∀ x ∈ its, x.v.lines.length ≤ 1000000) (w0 : World) (h : bookφ bk sv its w0) :
    NewC Try.prog 77 [.pointer (some ⟨bk, 0, none⟩), .string s] w0 (fun y : { y : Value × List IA // y.2.map (·.v) = someL (fun v => decide (v.account = s)) its } => y.1.1) (fun y => invsA y.1.1 y.1.2 true) := by
  have hb := book_ok false h
  refine c_enter [(0, .pointer (some ⟨bk, 0, none⟩)), (1, .string s)] [bookA bk sv its false] noB Try.func77 rfl Try.ntmps77 ⟨rfl, rfl, trivial⟩ rfl (by intro X hX; obtain rfl := List.mem_singleton.1 hX; exact hb) (by simp) (by intro X hX hm; obtain rfl := List.mem_singleton.1 hX; cases hm) ?_
  intro a hS
  refine c_seq ?_
  refine c_region ?_
  refine L_op (s_box1 hS rfl rfl rfl ?_); clear hS a; (try clear w); intro a w b3 hS
  refine L_op (s_e hS (e_assign rfl) rfl ?_); clear hS a; intro a hS
  refine L_nil ?_
  refine n_then ?_
  refine c_seq ?_
  refine c_region ?_
  refine L_op (s_e hS (e_move rfl) rfl ?_); clear hS a; intro a hS
  refine L_op (s_e hS (e_makeFunc .nil (.cons rfl .nil)) rfl ?_); clear hS a; intro a hS
  refine L_op (s_callN hS (.cons rfl (.cons rfl .nil)) cf63 rfl (some_P bk sv its hn hls 106 [.pointer (some ⟨b3, 0, none⟩)] (fun v => decide (v.account = s)) _ (hS.get (X := bookA bk sv its false) (by repeat (first | exact .head _ | refine .tail _ ?_))) cf106 (fun x w' hc => Of1_P x s b3 _ w' (cap_later hS (by repeat (first | exact .head _ | refine .tail _ ?_)) hc))) ?_); clear hS a; (try clear w); intro x7 a w hS
  refine L_op (s_e hS (e_assign rfl) rfl ?_); clear hS a; intro a hS
  refine L_nil ?_
  refine n_then ?_
  refine wp_ret ?_
  refine c_ret1 hS Try.results77 (.tmp rfl) ?_
  exact ⟨x7, rfl, hS.chg, hS.new (.head _) rfl⟩
def billedB (s : ByteArray) (f t : Int) (v : Inv) : Bool := decide (v.account = s) && decide (v.state ≠ 3) && decide (f < v.to_) && decide (v.from_ < t)
set_option maxRecDepth 100000 in
theorem Billed1_P (x : IA) (s : ByteArray) (f t : Int) (b1 b2 b3 E1 E2 E3 : Nat) (w0 : World) (h1 : w0.heap[b1]? = some (.cells [Value.string s].toArray E1 (0, 0))) (h2 : w0.heap[b2]? = some (.cells [Value.int .i64 f].toArray E2 (0, 0))) (h3 : w0.heap[b3]? = some (.cells [Value.int .i64 t].toArray E3 (0, 0)))
    (d12 : b1 ≠ b2) (d13 : b1 ≠ b3) (d23 : b2 ≠ b3) :
    PureC Try.prog 71 [.agg (encA x).toArray, .pointer (some ⟨b1, 0, none⟩), .pointer (some ⟨b2, 0, none⟩), .pointer (some ⟨b3, 0, none⟩)] w0 (.bool (billedB s f t x.v)) := by
  refine c_enter [(0, .agg (encA x).toArray), (1, .pointer (some ⟨b1, 0, none⟩)), (2, .pointer (some ⟨b2, 0, none⟩)), (3, .pointer (some ⟨b3, 0, none⟩))] [capA b1 (.string s) E1, capA b2 (.int .i64 f) E2, capA b3 (.int .i64 t) E3] noB Try.func71 rfl Try.ntmps71 ⟨rfl, rfl, rfl, rfl, trivial⟩ rfl (by intro X hX; simp only [List.mem_cons, List.not_mem_nil, or_false] at hX; rcases hX with rfl | rfl | rfl; exact ok_cap h1; exact ok_cap h2; exact ok_cap h3) (by simp [capA, Asn.F, d12, d13, d23]) (by intro X hX hm; simp only [List.mem_cons, List.not_mem_nil, or_false] at hX; rcases hX with rfl | rfl | rfl <;> cases hm) ?_
  intro a hS
  refine c_seq ?_
  refine c_region ?_
  refine L_op (s_boxA hS rfl rfl ?_); clear hS a; (try clear w); intro a w b4 hS
  refine L_op (s_e hS (e_assign rfl) rfl ?_); clear hS a; intro a hS
  refine L_nil ?_
  refine n_then ?_
  refine c_seq ?_
  refine c_region ?_
  first | (refine L_op (s_e hS (e_fa0 rfl ty_fo34_4) rfl ?_); clear hS a; intro a hS) | (refine L_op (s_e hS (e_faK rfl ty_fo34_4) rfl ?_); clear hS a; intro a hS)
  refine L_op (s_e hS (e_load rfl (by repeat constructor) ty_sc9 (by rfl)) rfl ?_); clear hS a; intro a hS
  refine L_op (s_e hS (e_loadC rfl ty_sc9 (cap_get (by repeat (first | exact .head _ | refine .tail _ ?_)))) rfl ?_); clear hS a; intro a hS
  refine L_op (s_e hS (e_binS rfl rfl rfl) rfl ?_); clear hS a; intro a hS
  refine L_op (s_e hS (e_move rfl) rfl ?_); clear hS a; intro a hS
  (first | refine g_splitD (t := 10) hS rfl ?_ ?_ | refine g_split (t := 10) hS rfl ?_ ?_) <;> (clear hS; intro hg10 hS)
  ·
    first | (refine L_go hS rfl rfl (s_e hS (e_fa0 rfl ty_fo34_12) rfl ?_); clear hS a; intro a hS) | (refine L_go hS rfl rfl (s_e hS (e_faK rfl ty_fo34_12) rfl ?_); clear hS a; intro a hS)
    refine L_go hS rfl rfl (s_e hS (e_load rfl (by repeat constructor) ty_sc3 (by rfl)) rfl ?_); clear hS a; intro a hS
    refine L_go hS rfl rfl (s_e hS (e_bin rfl rfl rfl) rfl ?_); clear hS a; intro a hS
    first | (refine L_op (s_e hS (e_pick_t rfl rfl) rfl ?_); clear hS a; intro a hS) | (refine L_op (s_e hS (e_pick_f rfl rfl) rfl ?_); clear hS a; intro a hS)
    refine L_op (s_e hS (e_move rfl) rfl ?_); clear hS a; intro a hS
    (first | refine g_splitD (t := 15) hS rfl ?_ ?_ | refine g_split (t := 15) hS rfl ?_ ?_) <;> (clear hS; intro hg15 hS)
    ·
      refine L_go hS rfl rfl (s_e hS (e_loadC rfl ty_sc3 (cap_get (by repeat (first | exact .head _ | refine .tail _ ?_)))) rfl ?_); clear hS a; intro a hS
      first | (refine L_go hS rfl rfl (s_e hS (e_fa0 rfl ty_fo34_3) rfl ?_); clear hS a; intro a hS) | (refine L_go hS rfl rfl (s_e hS (e_faK rfl ty_fo34_3) rfl ?_); clear hS a; intro a hS)
      refine L_go hS rfl rfl (s_e hS (e_load rfl (by repeat constructor) ty_sc3 (by rfl)) rfl ?_); clear hS a; intro a hS
      refine L_go hS rfl rfl (s_e hS (e_bin rfl rfl rfl) rfl ?_); clear hS a; intro a hS
      first | (refine L_op (s_e hS (e_pick_t rfl rfl) rfl ?_); clear hS a; intro a hS) | (refine L_op (s_e hS (e_pick_f rfl rfl) rfl ?_); clear hS a; intro a hS)
      refine L_op (s_e hS (e_move rfl) rfl ?_); clear hS a; intro a hS
      (first | refine g_splitD (t := 21) hS rfl ?_ ?_ | refine g_split (t := 21) hS rfl ?_ ?_) <;> (clear hS; intro hg21 hS)
      ·
        first | (refine L_go hS rfl rfl (s_e hS (e_fa0 rfl ty_fo34_2) rfl ?_); clear hS a; intro a hS) | (refine L_go hS rfl rfl (s_e hS (e_faK rfl ty_fo34_2) rfl ?_); clear hS a; intro a hS)
        refine L_go hS rfl rfl (s_e hS (e_load rfl (by repeat constructor) ty_sc3 (by rfl)) rfl ?_); clear hS a; intro a hS
        refine L_go hS rfl rfl (s_e hS (e_loadC rfl ty_sc3 (cap_get (by repeat (first | exact .head _ | refine .tail _ ?_)))) rfl ?_); clear hS a; intro a hS
        refine L_go hS rfl rfl (s_e hS (e_bin rfl rfl rfl) rfl ?_); clear hS a; intro a hS
        first | (refine L_op (s_e hS (e_pick_t rfl rfl) rfl ?_); clear hS a; intro a hS) | (refine L_op (s_e hS (e_pick_f rfl rfl) rfl ?_); clear hS a; intro a hS)
        refine L_op (s_e hS (e_assign rfl) rfl ?_); clear hS a; intro a hS
        refine L_nil ?_
        refine n_then ?_
        refine wp_ret ?_
        refine c_ret1 hS Try.results71 (.tmp rfl) ?_
        refine ⟨?_, hS.chg⟩
        congr 2
        clear hS h1 h2 h3 d12 d13 d23
        simp only [billedB]
        grind
      ·
        refine L_skip_t hS rfl rfl rfl ?_; clear hS a; intro a hS
        refine L_skip_t hS rfl rfl rfl ?_; clear hS a; intro a hS
        refine L_skip_t hS rfl rfl rfl ?_; clear hS a; intro a hS
        refine L_skip_t hS rfl rfl rfl ?_; clear hS a; intro a hS
        first | (refine L_op (s_e hS (e_pick_t rfl rfl) rfl ?_); clear hS a; intro a hS) | (refine L_op (s_e hS (e_pick_f rfl rfl) rfl ?_); clear hS a; intro a hS)
        refine L_op (s_e hS (e_assign rfl) rfl ?_); clear hS a; intro a hS
        refine L_nil ?_
        refine n_then ?_
        refine wp_ret ?_
        refine c_ret1 hS Try.results71 (.tmp rfl) ?_
        refine ⟨?_, hS.chg⟩
        congr 2
        clear hS h1 h2 h3 d12 d13 d23
        simp only [billedB]
        grind
    ·
      refine L_skip_t hS rfl rfl rfl ?_; clear hS a; intro a hS
      refine L_skip_t hS rfl rfl rfl ?_; clear hS a; intro a hS
      refine L_skip_t hS rfl rfl rfl ?_; clear hS a; intro a hS
      refine L_skip_t hS rfl rfl rfl ?_; clear hS a; intro a hS
      first | (refine L_op (s_e hS (e_pick_t rfl rfl) rfl ?_); clear hS a; intro a hS) | (refine L_op (s_e hS (e_pick_f rfl rfl) rfl ?_); clear hS a; intro a hS)
      refine L_op (s_e hS (e_move rfl) rfl ?_); clear hS a; intro a hS
      refine L_skip_t hS rfl rfl rfl ?_; clear hS a; intro a hS
      refine L_skip_t hS rfl rfl rfl ?_; clear hS a; intro a hS
      refine L_skip_t hS rfl rfl rfl ?_; clear hS a; intro a hS
      refine L_skip_t hS rfl rfl rfl ?_; clear hS a; intro a hS
      first | (refine L_op (s_e hS (e_pick_t rfl rfl) rfl ?_); clear hS a; intro a hS) | (refine L_op (s_e hS (e_pick_f rfl rfl) rfl ?_); clear hS a; intro a hS)
      refine L_op (s_e hS (e_assign rfl) rfl ?_); clear hS a; intro a hS
      refine L_nil ?_
      refine n_then ?_
      refine wp_ret ?_
      refine c_ret1 hS Try.results71 (.tmp rfl) ?_
      refine ⟨?_, hS.chg⟩
      congr 2
      clear hS h1 h2 h3 d12 d13 d23
      simp only [billedB]
      grind
  ·
    refine L_skip_t hS rfl rfl rfl ?_; clear hS a; intro a hS
    refine L_skip_t hS rfl rfl rfl ?_; clear hS a; intro a hS
    refine L_skip_t hS rfl rfl rfl ?_; clear hS a; intro a hS
    first | (refine L_op (s_e hS (e_pick_t rfl rfl) rfl ?_); clear hS a; intro a hS) | (refine L_op (s_e hS (e_pick_f rfl rfl) rfl ?_); clear hS a; intro a hS)
    refine L_op (s_e hS (e_move rfl) rfl ?_); clear hS a; intro a hS
    refine L_skip_t hS rfl rfl rfl ?_; clear hS a; intro a hS
    refine L_skip_t hS rfl rfl rfl ?_; clear hS a; intro a hS
    refine L_skip_t hS rfl rfl rfl ?_; clear hS a; intro a hS
    refine L_skip_t hS rfl rfl rfl ?_; clear hS a; intro a hS
    first | (refine L_op (s_e hS (e_pick_t rfl rfl) rfl ?_); clear hS a; intro a hS) | (refine L_op (s_e hS (e_pick_f rfl rfl) rfl ?_); clear hS a; intro a hS)
    refine L_op (s_e hS (e_move rfl) rfl ?_); clear hS a; intro a hS
    refine L_skip_t hS rfl rfl rfl ?_; clear hS a; intro a hS
    refine L_skip_t hS rfl rfl rfl ?_; clear hS a; intro a hS
    refine L_skip_t hS rfl rfl rfl ?_; clear hS a; intro a hS
    refine L_skip_t hS rfl rfl rfl ?_; clear hS a; intro a hS
    first | (refine L_op (s_e hS (e_pick_t rfl rfl) rfl ?_); clear hS a; intro a hS) | (refine L_op (s_e hS (e_pick_f rfl rfl) rfl ?_); clear hS a; intro a hS)
    refine L_op (s_e hS (e_assign rfl) rfl ?_); clear hS a; intro a hS
    refine L_nil ?_
    refine n_then ?_
    refine wp_ret ?_
    refine c_ret1 hS Try.results71 (.tmp rfl) ?_
    refine ⟨?_, hS.chg⟩
    congr 2
    clear hS h1 h2 h3 d12 d13 d23
    simp only [billedB]
    grind
set_option maxRecDepth 100000 in
theorem Billed_P (bk : Nat) (sv : Value) (its : List IA) (s : ByteArray) (f t : Int) (hn : its.length ≤ 1000000) (hls : ∀ x ∈ its, x.v.lines.length ≤ 1000000) (w0 : World) (h : bookφ bk sv its w0) :
    PureC Try.prog 26 [.pointer (some ⟨bk, 0, none⟩), .string s, .int .i64 f, .int .i64 t] w0 (.bool (decide (someL (billedB s f t) its ≠ []))) := by
  have hb := book_ok false h
  refine c_enter [(0, .pointer (some ⟨bk, 0, none⟩)), (1, .string s), (2, .int .i64 f), (3, .int .i64 t)] [bookA bk sv its false] noB Try.func26 rfl Try.ntmps26 ⟨rfl, rfl, rfl, rfl, trivial⟩ rfl (by intro X hX; obtain rfl := List.mem_singleton.1 hX; exact hb) (by simp) (by intro X hX hm; obtain rfl := List.mem_singleton.1 hX; cases hm) ?_
  intro a hS
  refine c_seq ?_
  refine c_region ?_
  refine L_op (s_box1 hS rfl rfl rfl ?_); clear hS a; (try clear w); intro a w b5 hS
  refine L_op (s_box1 hS rfl rfl rfl ?_); clear hS a; (try clear w); intro a w b6 hS
  refine L_op (s_box1 hS rfl rfl rfl ?_); clear hS a; (try clear w); intro a w b7 hS
  refine L_op (s_e hS (e_assign rfl) rfl ?_); clear hS a; intro a hS
  refine L_nil ?_
  refine n_then ?_
  refine c_seq ?_
  refine c_region ?_
  refine L_op (s_e hS (e_move rfl) rfl ?_); clear hS a; intro a hS
  refine L_op (s_e hS (e_makeFunc .nil (.cons rfl (.cons rfl (.cons rfl .nil)))) rfl ?_); clear hS a; intro a hS
  refine L_op (s_callN hS (.cons rfl (.cons rfl .nil)) cf63 rfl (some_P bk sv its hn hls 71 [.pointer (some ⟨b5, 0, none⟩), .pointer (some ⟨b6, 0, none⟩), .pointer (some ⟨b7, 0, none⟩)] (billedB s f t) _ (hS.get (X := bookA bk sv its false) (by repeat (first | exact .head _ | refine .tail _ ?_))) cf71 (fun x w' hc => Billed1_P x s f t b5 b6 b7 _ _ _ w' (cap_later hS (by repeat (first | exact .head _ | refine .tail _ ?_)) hc) (cap_later hS (by repeat (first | exact .head _ | refine .tail _ ?_)) hc) (cap_later hS (by repeat (first | exact .head _ | refine .tail _ ?_)) hc) (by have := hS.dis; simp [Asn.F] at this; omega) (by have := hS.dis; simp [Asn.F] at this; omega) (by have := hS.dis; simp [Asn.F] at this; omega))) ?_); clear hS a; (try clear w); intro x11 a w hS
  obtain ⟨⟨sv', its'⟩, hits⟩ := x11
  have hri : rowOk sv' its' w := (hS.get (X := invsA sv' its' true) (.head _)).1
  obtain ⟨q, c, rfl⟩ := own_slice hri
  have hl : its'.length = (someL (billedB s f t) its).length := by rw [← hits]; simp
  refine L_op (s_e hS (e_len rfl rfl ty_sl41) rfl ?_); clear hS a; intro a hS
  refine L_op (s_e hS (e_bin rfl rfl rfl) rfl ?_); clear hS a; intro a hS
  refine L_op (s_e hS (e_assign rfl) rfl ?_); clear hS a; intro a hS
  refine L_nil ?_
  refine n_then ?_
  refine wp_ret ?_
  refine c_ret1 hS Try.results26 (.tmp rfl) ?_
  exact ⟨by
  congr 2
  rw [decide_eq_decide]
  rw [hl]
  cases someL (billedB s f t) its <;> simp, hS.chg⟩
set_option maxRecDepth 100000 in
theorem Next_P (bk : Nat) (sv : Value) (its : List IA) (hn : its.length ≤ 1000000) (w0 : World) (h : bookφ bk sv its w0) : PureC Try.prog 54 [.pointer (some ⟨bk, 0, none⟩)] w0 (.int .i64 (its.length + 1 : Int)) := by
  obtain ⟨p, c, rfl⟩ := own_slice h.2.1
  refine c_enter [(0, .pointer (some ⟨bk, 0, none⟩))] [bookA bk (.slice p its.length c) its false] noB Try.func54 rfl Try.ntmps54 ⟨rfl, trivial⟩ rfl (by intro X hX; obtain rfl := List.mem_singleton.1 hX; exact book_ok false h) (by simp) (by intro X hX hm; obtain rfl := List.mem_singleton.1 hX; cases hm) ?_
  intro a hS
  refine c_seq ?_
  refine c_region ?_
  refine L_op (s_e hS (e_assign rfl) rfl ?_); clear hS a; intro a hS
  refine L_nil ?_
  refine n_then ?_
  refine c_seq ?_
  refine c_region ?_
  refine L_op (s_e hS (e_move rfl) rfl ?_); clear hS a; intro a hS
  refine L_op (s_e hS (e_nilCheck rfl) rfl ?_); clear hS a; intro a hS
  first | (refine L_op (s_e hS (e_fa0 rfl ty_fo92_0) rfl ?_); clear hS a; intro a hS) | (refine L_op (s_e hS (e_faK rfl ty_fo92_0) rfl ?_); clear hS a; intro a hS)
  refine L_op (s_e hS (e_loadC rfl ty_sc41 (rd_bk (by exact .head _))) rfl ?_); clear hS a; intro a hS
  refine L_op (s_e hS (e_len rfl rfl ty_sl41) rfl ?_); clear hS a; intro a hS
  first | (refine L_op (s_e hS (e_binN rfl rfl rfl (by omega)) rfl ?_); clear hS a; intro a hS) | (refine L_op (s_e hS (e_bin rfl rfl rfl) rfl ?_); clear hS a; intro a hS)
  refine L_op (s_e hS (e_assign rfl) rfl ?_); clear hS a; intro a hS
  refine L_nil ?_
  refine n_then ?_
  refine wp_ret ?_
  refine c_ret1 hS Try.results54 (.tmp rfl) ?_
  exact ⟨rfl, hS.chg⟩
set_option maxRecDepth 100000 in
theorem New_P (w0 : World) : NewC Try.prog 14 [] w0 (fun b : Nat => .pointer (some ⟨b, 0, none⟩)) (fun b => bookA b (.slice none 0 0) [] true) := by
  refine c_enter [] [] noB Try.func14 rfl Try.ntmps14 trivial rfl (by simp) (by simp) (by simp) ?_
  intro a hS
  refine c_seq ?_
  refine c_region ?_
  refine L_op (s_e hS (e_assign rfl) rfl ?_); clear hS a; intro a hS
  refine L_nil ?_
  refine n_then ?_
  refine c_seq ?_
  refine c_region ?_
  refine L_op (s_e hS (e_build ty_z92 ty_pl92 .nil) rfl ?_); clear hS a; intro a hS
  refine L_op (s_boxA hS rfl rfl ?_); clear hS a; (try clear w); intro a w b2 hS
  refine L_op (s_e hS (e_assign rfl) rfl ?_); clear hS a; intro a hS
  refine L_nil ?_
  refine n_then ?_
  refine wp_ret ?_
  refine c_ret1 hS Try.results14 (.tmp rfl) ?_
  refine ⟨b2, rfl, hS.chg, book_ok true ⟨hS.get (.head _), ⟨World.ownsRow_nil _ _ _ _, fun x hx => by cases hx⟩⟩, fun b hb => ?_⟩
  rcases hb with rfl | hb | ⟨x, hx, _⟩
  · exact (hS.new (.head _) rfl).2 b rfl
  · simp [Value.ownBlock] at hb
  · cases hx
end Go.Proofs.Ytfiaobhkhedpiaa
