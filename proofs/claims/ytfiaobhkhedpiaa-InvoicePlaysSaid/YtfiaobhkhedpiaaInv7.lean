/- Settling: Pay, Credit and Void, as calls on a book. -/
import Derived.Test.YtfiaobhkhedpiaaInv6
namespace Go.Proofs.Ytfiaobhkhedpiaa
open Go.RowKit

def fnV (f : FuncId) : Value := .func (.func f) #[] #[]
set_option maxRecDepth 100000 in
theorem settles_none (bk : Nat) (sv : Value) (its : List IA) (number units : Int) (fp : FuncId) (hn : its.length ≤ 1000000) (w0 : World) (h : bookφ bk sv its w0) (hno : number < 1 ∨ (its.length : Int) < number) :
    PureC Try.prog 60 [.pointer (some ⟨bk, 0, none⟩), .int .i64 number, .int .i64 units, fnV fp] w0 (.tuple [.int .i64 0, .int .i64 2].toArray) := by
  refine c_enter [(0, .pointer (some ⟨bk, 0, none⟩)), (1, .int .i64 number), (2, .int .i64 units), (3, fnV fp)] [bookA bk sv its false] noB Try.func60 rfl Try.ntmps60 ⟨rfl, rfl, rfl, rfl, trivial⟩ rfl (by intro X hX; obtain rfl := List.mem_singleton.1 hX; exact book_ok false h) (by simp) (by intro X hX hm; obtain rfl := List.mem_singleton.1 hX; cases hm) ?_
  intro a hS
  refine c_seq ?_
  refine c_region ?_
  refine L_op (s_box1 hS rfl rfl rfl ?_); clear hS a; (try clear w); intro a w b6 hS
  refine L_op (s_box1 hS rfl rfl rfl ?_); clear hS a; (try clear w); intro a w b7 hS
  refine L_op (s_e hS (e_assign rfl) rfl ?_); clear hS a; intro a hS
  refine L_op (s_e hS (e_assign rfl) rfl ?_); clear hS a; intro a hS
  refine L_nil ?_
  refine n_then ?_
  refine c_seq ?_
  refine c_region ?_
  refine L_op (s_alloc hS ty_z3 rfl ?_); clear hS a; (try clear w); intro a w b10 hS
  refine L_op (s_store hS rfl rfl rfl ty_sz3 (by repeat constructor) (by repeat constructor) ?_); clear hS; (try clear w); intro w hS
  refine L_nil ?_
  refine n_then ?_
  refine c_seq ?_
  refine c_region ?_
  refine L_op (s_e hS (e_move rfl) rfl ?_); clear hS a; intro a hS
  refine L_op (s_e hS (e_move rfl) rfl ?_); clear hS a; intro a hS
  refine L_op (s_e hS (e_makeFunc .nil (.cons rfl (.cons rfl (.cons rfl .nil)))) rfl ?_); clear hS a; intro a hS
  refine L_op (s_callP hS (.cons rfl (.cons rfl (.cons rfl .nil))) cf65 rfl (does_none bk sv its number hn _ _ (hS.get (X := bookA bk sv its false) (by repeat (first | exact .head _ | refine .tail _ ?_))) hno) ?_); clear hS a; (try clear w); intro a w hS
  refine L_op (s_e hS (e_assign rfl) rfl ?_); clear hS a; intro a hS
  refine L_nil ?_
  refine n_then ?_
  refine c_seq ?_
  refine c_region ?_
  refine L_op (s_e hS (e_load rfl (by repeat constructor) ty_sc3 (by rfl)) rfl ?_); clear hS a; intro a hS
  refine L_op (s_e hS (e_move rfl) rfl ?_); clear hS a; intro a hS
  refine L_op (s_e hS (e_assign rfl) rfl ?_); clear hS a; intro a hS
  refine L_op (s_e hS (e_assign rfl) rfl ?_); clear hS a; intro a hS
  refine L_nil ?_
  refine n_then ?_
  refine wp_ret ?_
  refine c_retN hS Try.results60 (.cons (.tmp rfl) (.cons (.tmp rfl) .nil)) rfl ?_
  exact ⟨rfl, hS.chg⟩
set_option maxRecDepth 100000 in
theorem settles_shut (bk : Nat) (sv : Value) (its : List IA) (k : Nat) (x : IA) (hx : its[k]? = some x) (hst : x.v.state = 2 ∨ x.v.state = 3) (units : Int) (fp : FuncId) (hn : its.length ≤ 1000000) (w0 : World) (h : bookφ bk sv its w0) :
    PureC Try.prog 60 [.pointer (some ⟨bk, 0, none⟩), .int .i64 ((k : Int) + 1), .int .i64 units, fnV fp] w0 (.tuple [.int .i64 0, .int .i64 25].toArray) := by
  refine c_enter [(0, .pointer (some ⟨bk, 0, none⟩)), (1, .int .i64 ((k : Int) + 1)), (2, .int .i64 units), (3, fnV fp)] [bookA bk sv its false] noB Try.func60 rfl Try.ntmps60 ⟨rfl, rfl, rfl, rfl, trivial⟩ rfl (by intro X hX; obtain rfl := List.mem_singleton.1 hX; exact book_ok false h) (by simp) (by intro X hX hm; obtain rfl := List.mem_singleton.1 hX; cases hm) ?_
  intro a hS
  refine c_seq ?_
  refine c_region ?_
  refine L_op (s_box1 hS rfl rfl rfl ?_); clear hS a; (try clear w); intro a w b6 hS
  refine L_op (s_box1 hS rfl rfl rfl ?_); clear hS a; (try clear w); intro a w b7 hS
  refine L_op (s_e hS (e_assign rfl) rfl ?_); clear hS a; intro a hS
  refine L_op (s_e hS (e_assign rfl) rfl ?_); clear hS a; intro a hS
  refine L_nil ?_
  refine n_then ?_
  refine c_seq ?_
  refine c_region ?_
  refine L_op (s_alloc hS ty_z3 rfl ?_); clear hS a; (try clear w); intro a w b10 hS
  refine L_op (s_store hS rfl rfl rfl ty_sz3 (by repeat constructor) (by repeat constructor) ?_); clear hS; (try clear w); intro w hS
  refine L_nil ?_
  refine n_then ?_
  refine c_seq ?_
  refine c_region ?_
  refine L_op (s_e hS (e_move rfl) rfl ?_); clear hS a; intro a hS
  refine L_op (s_e hS (e_move rfl) rfl ?_); clear hS a; intro a hS
  refine L_op (s_e hS (e_makeFunc .nil (.cons rfl (.cons rfl (.cons rfl .nil)))) rfl ?_); clear hS a; intro a hS
  refine L_op (s_callP hS (.cons rfl (.cons rfl (.cons rfl .nil))) cf65 rfl (does_shut bk sv its k x hx hst hn _ _ (hS.get (X := bookA bk sv its false) (by repeat (first | exact .head _ | refine .tail _ ?_)))) ?_); clear hS a; (try clear w); intro a w hS
  refine L_op (s_e hS (e_assign rfl) rfl ?_); clear hS a; intro a hS
  refine L_nil ?_
  refine n_then ?_
  refine c_seq ?_
  refine c_region ?_
  refine L_op (s_e hS (e_load rfl (by repeat constructor) ty_sc3 (by rfl)) rfl ?_); clear hS a; intro a hS
  refine L_op (s_e hS (e_move rfl) rfl ?_); clear hS a; intro a hS
  refine L_op (s_e hS (e_assign rfl) rfl ?_); clear hS a; intro a hS
  refine L_op (s_e hS (e_assign rfl) rfl ?_); clear hS a; intro a hS
  refine L_nil ?_
  refine n_then ?_
  refine wp_ret ?_
  refine c_retN hS Try.results60 (.cons (.tmp rfl) (.cons (.tmp rfl) .nil)) rfl ?_
  exact ⟨rfl, hS.chg⟩

theorem sv_some {sv : Value} {its : List IA} {w : World} (h : rowOk sv its w) {k : Nat} {x : IA} (hx : its[k]? = some x) : ∃ g c, sv = .slice (some ⟨g, 0, none⟩) its.length c := by
  have hlt := (List.getElem?_eq_some_iff.1 hx).1
  exact own_some h (fun e => by
    rcases h.2 with ⟨_, e2⟩ | ⟨g, cap, cur, e3, _⟩
    · omega
    · rw [e] at e3; cases e3)
theorem Chg.any {F : Nat → Prop} {w w' : World} (h : Chg F w w') : Chg anyB w w' := h.mono (fun _ _ => trivial)
theorem bookφ.later {bk : Nat} {sv : Value} {its : List IA} {w w' : World} (h : bookφ bk sv its w) (hc : Chg noB w w') : bookφ bk sv its w' :=
  ((book_ok true h).keep hc (fun _ _ hf => hf)).now
theorem blk_later {b E : Nat} {cs : List Value} {w w' : World} (h : w.heap[b]? = some (.cells cs.toArray E (0, 0))) (hc : Chg noB w w') : w'.heap[b]? = some (.cells cs.toArray E (0, 0)) := by
  rw [hc.block b ((Array.getElem?_eq_some_iff.1 h).1) (fun hf => hf)]; exact h

set_option maxRecDepth 100000 in
theorem settles_bad (bk : Nat) (sv : Value) (its : List IA) (k : Nat) (x : IA) (hx : its[k]? = some x) (hst : x.v.state = 1) (hg : goodI x.v) (units : Int) (fp : FuncId) (hn : its.length ≤ 1000000) (hbad : units < 1 ∨ leftI x.v < units) (w0 : World) (h : bookφ bk sv its w0) :
    PureC Try.prog 60 [.pointer (some ⟨bk, 0, none⟩), .int .i64 ((k : Int) + 1), .int .i64 units, fnV fp] w0 (.tuple [.int .i64 0, .int .i64 6].toArray) := by
  obtain ⟨g, c, rfl⟩ := sv_some h.2.1 hx
  refine c_enter [(0, .pointer (some ⟨bk, 0, none⟩)), (1, .int .i64 ((k : Int) + 1)), (2, .int .i64 units), (3, fnV fp)] [bookA bk (.slice (some ⟨g, 0, none⟩) its.length c) its false] noB Try.func60 rfl Try.ntmps60 ⟨rfl, rfl, rfl, rfl, trivial⟩ rfl (by intro X hX; obtain rfl := List.mem_singleton.1 hX; exact book_ok false h) (by simp) (by intro X hX hm; obtain rfl := List.mem_singleton.1 hX; cases hm) ?_
  intro a hS
  refine c_seq ?_
  refine c_region ?_
  refine L_op (s_box1 hS rfl rfl rfl ?_); clear hS a; (try clear w); intro a w b6 hS
  refine L_op (s_box1 hS rfl rfl rfl ?_); clear hS a; (try clear w); intro a w b7 hS
  refine L_op (s_e hS (e_assign rfl) rfl ?_); clear hS a; intro a hS
  refine L_op (s_e hS (e_assign rfl) rfl ?_); clear hS a; intro a hS
  refine L_nil ?_
  refine n_then ?_
  refine c_seq ?_
  refine c_region ?_
  refine L_op (s_alloc hS ty_z3 rfl ?_); clear hS a; (try clear w); intro a w b10 hS
  refine L_op (s_store hS rfl rfl rfl ty_sz3 (by repeat constructor) (by repeat constructor) ?_); clear hS; (try clear w); intro w hS
  refine L_nil ?_
  refine n_then ?_
  refine c_seq ?_
  refine c_region ?_
  refine L_op (s_e hS (e_move rfl) rfl ?_); clear hS a; intro a hS
  refine L_op (s_e hS (e_move rfl) rfl ?_); clear hS a; intro a hS
  refine L_op (s_e hS (e_makeFunc .nil (.cons rfl (.cons rfl (.cons rfl .nil)))) rfl ?_); clear hS a; intro a hS
  have hb := hS.get (X := bookA bk (.slice (some ⟨g, 0, none⟩) its.length c) its false) (by repeat (first | exact .head _ | refine .tail _ ?_))
  have hu := hS.get (X := .blk b6 [.int .i64 units] _) (by repeat (first | exact .head _ | refine .tail _ ?_))
  have hd : b6 ≠ g := fun e => by
    have := hS.dis
    simp only [List.pairwise_cons, List.mem_cons, List.not_mem_nil, or_false] at this
    exact this.2.2.1 _ rfl b6 rfl (.inr (.inl (by rw [e]; rfl)))
  refine L_op (s_callP hS (.cons rfl (.cons rfl (.cons rfl .nil))) cf65 rfl ((does_open bk (.slice (some ⟨g, 0, none⟩) its.length c) its k x hx hst hn 98 [.pointer (some ⟨b6, 0, none⟩), .pointer (some ⟨b7, 0, none⟩), .pointer (some ⟨b10, 0, none⟩)] _ hb cf98 (fun w1 e w' => e = .returned (.int .i64 6) ∧ Chg noB w1 w') (fun w1 e w' hh => ⟨_, hh.1, hh.2.any⟩) _ rfl (fun w1 hc => settles1_bad g k c its x hx hg b6 b7 b10 units _ w1 (hb.later hc).2.1 (blk_later hu hc) hd hbad)).mono (fun e w' ⟨w1, h1, h2, h3⟩ => ⟨h2, h1.ext h3⟩)) ?_); clear hS a; (try clear w); intro a w hS
  refine L_op (s_e hS (e_assign rfl) rfl ?_); clear hS a; intro a hS
  refine L_nil ?_
  refine n_then ?_
  refine c_seq ?_
  refine c_region ?_
  refine L_op (s_e hS (e_load rfl (by repeat constructor) ty_sc3 (by rfl)) rfl ?_); clear hS a; intro a hS
  refine L_op (s_e hS (e_move rfl) rfl ?_); clear hS a; intro a hS
  refine L_op (s_e hS (e_assign rfl) rfl ?_); clear hS a; intro a hS
  refine L_op (s_e hS (e_assign rfl) rfl ?_); clear hS a; intro a hS
  refine L_nil ?_
  refine n_then ?_
  refine wp_ret ?_
  refine c_retN hS Try.results60 (.cons (.tmp rfl) (.cons (.tmp rfl) .nil)) rfl ?_
  exact ⟨rfl, hS.chg⟩

/-- the row of invoices and one variable beside it. -/
def bothA (g : Nat) (c : Nat) (its : List IA) (bl El : Nat) (l : Value) : Asn :=
  .any (fun b => b = g ∨ b = bl) (fun w => rowOk (.slice (some ⟨g, 0, none⟩) its.length c) its w ∧ w.heap[bl]? = some (.cells [l].toArray El (0, 0))) true
theorem both_ok {g c bl El : Nat} {its : List IA} {l : Value} {w : World} (h1 : rowOk (.slice (some ⟨g, 0, none⟩) its.length c) its w) (h2 : w.heap[bl]? = some (.cells [l].toArray El (0, 0))) : (bothA g c its bl El l).ok w := by
  refine ⟨fun b hb => ?_, fun w' hw => ⟨owns_keep h1 (fun b hb => by simp [Value.ownBlock] at hb; subst hb; exact hw _ (.inl rfl)), by show w'.heap[bl]? = _; rw [hw bl (.inr rfl)]; exact h2⟩⟩
  rcases hb with rfl | rfl
  · exact (World.ownsRow.lt h1 b rfl).2
  · exact (Array.getElem?_eq_some_iff.1 h2).1

theorem linesAll_set {its : List IA} {k : Nat} {x z : IA} (hx : its[k]? = some x) (hb : z.b = x.b) (hc : z.c = x.c) (hl : z.v.lines = x.v.lines) {w : World} (h : ∀ y ∈ its, lnOk y w) : ∀ y ∈ its.set k z, lnOk y w := by
  intro y hy
  rcases List.mem_or_eq_of_mem_set hy with hy | rfl
  · exact h y hy
  · have := h x (List.mem_of_getElem? hx)
    unfold lnOk lnV at *
    rw [hb, hc, hl]; exact this
theorem lines_F {its : List IA} {k : Nat} {x z : IA} (hx : its[k]? = some x) (hb : z.b = x.b) : ∀ b, (∃ y ∈ its.set k z, b = y.b) → ∃ y ∈ its, b = y.b := by
  rintro b ⟨y, hy, rfl⟩
  rcases List.mem_or_eq_of_mem_set hy with hy | rfl
  · exact ⟨y, hy, rfl⟩
  · exact ⟨x, List.mem_of_getElem? hx, hb⟩

set_option maxRecDepth 100000 in
theorem settles_ok (bk : Nat) (sv : Value) (its : List IA) (k : Nat) (x y z : IA) (hx : its[k]? = some x) (hst : x.v.state = 1) (hg : goodI x.v) (jf : Nat) (cur units : Int) (fp : FuncId) (hs : Settle x y z jf cur units) (hzb : z.b = x.b ∧ z.c = x.c ∧ z.v.lines = x.v.lines) (hn : its.length ≤ 1000000) (hok : 1 ≤ units ∧ units ≤ leftI x.v) (hf : CallsTo Try.prog fp)
    (hfp : ∀ g j w, PureC Try.prog fp [.pointer (some ⟨g, j, none⟩)] w (.pointer (some ⟨g, j + jf, none⟩))) (w0 : World) (h : bookφ bk sv its w0) :
    MutC Try.prog 60 [.pointer (some ⟨bk, 0, none⟩), .int .i64 ((k : Int) + 1), .int .i64 units, fnV fp] w0 (bookA bk sv its true) (fun _ : Unit => .tuple [.int .i64 (leftI y.v), .int .i64 0].toArray) (fun _ => bookA bk sv (its.set k z) true) := by
  obtain ⟨g, c, rfl⟩ := sv_some h.2.1 hx
  refine c_enter [(0, .pointer (some ⟨bk, 0, none⟩)), (1, .int .i64 ((k : Int) + 1)), (2, .int .i64 units), (3, fnV fp)] (bookL bk (.slice (some ⟨g, 0, none⟩) its.length c) its) (bookF bk (.slice (some ⟨g, 0, none⟩) its.length c) its) Try.func60 rfl Try.ntmps60 ⟨rfl, rfl, rfl, rfl, trivial⟩ rfl (bookL_ok h) (bookL_dis h) (by intro X hX hm b hb; exact .inr (bookL_F X hX b hb)) ?_
  intro a hS
  refine c_seq ?_
  refine c_region ?_
  refine L_op (s_box1 hS rfl rfl rfl ?_); clear hS a; (try clear w); intro a w b6 hS
  refine L_op (s_box1 hS rfl rfl rfl ?_); clear hS a; (try clear w); intro a w b7 hS
  refine L_op (s_e hS (e_assign rfl) rfl ?_); clear hS a; intro a hS
  refine L_op (s_e hS (e_assign rfl) rfl ?_); clear hS a; intro a hS
  refine L_nil ?_
  refine n_then ?_
  refine c_seq ?_
  refine c_region ?_
  refine L_op (s_alloc hS ty_z3 rfl ?_); clear hS a; (try clear w); intro a w b10 hS
  refine L_op (s_store hS rfl rfl rfl ty_sz3 (by repeat constructor) (by repeat constructor) ?_); clear hS; (try clear w); intro w hS
  refine L_nil ?_
  refine n_then ?_
  refine c_seq ?_
  refine c_region ?_
  refine L_op (s_e hS (e_move rfl) rfl ?_); clear hS a; intro a hS
  refine L_op (s_e hS (e_move rfl) rfl ?_); clear hS a; intro a hS
  refine L_op (s_e hS (e_makeFunc .nil (.cons rfl (.cons rfl (.cons rfl .nil)))) rfl ?_); clear hS a; intro a hS
  have hu := hS.get (X := .blk b6 [.int .i64 units] _) (by repeat (first | exact .head _ | refine .tail _ ?_))
  have hp := hS.get (X := .blk b7 [fnV fp] _) (by repeat (first | exact .head _ | refine .tail _ ?_))
  have hd : b6 ≠ g ∧ b7 ≠ g ∧ b10 ≠ g ∧ b6 ≠ b7 ∧ b6 ≠ b10 ∧ b7 ≠ b10 := by
    have := hS.dis
    simp [bookL, rowA13, ownA, Asn.F, Value.ownBlock] at this
    omega
  replace hS := hS.join (X := .blk b10 [.int .i64 0] 3) (Y := rowA13 (.slice (some ⟨g, 0, none⟩) its.length c) its) (Z := bothA g c its b10 3 (.int .i64 0)) (by unfold bookL; repeat (first | apply Rep.head | apply Rep.tail)) (both_ok (hS.get (X := rowA13 (.slice (some ⟨g, 0, none⟩) its.length c) its) (by repeat (first | exact .head _ | refine .tail _ ?_))) (hS.get (X := .blk b10 [.int .i64 0] 3) (by repeat (first | exact .head _ | refine .tail _ ?_)))) (fun b hb => by
    rcases hb with rfl | rfl
    · exact .inr rfl
    · exact .inl rfl) (fun _ => ⟨rfl, rfl⟩)
  have hb : bookφ bk (.slice (some ⟨g, 0, none⟩) its.length c) its w := ⟨hS.get (X := .blk bk _ _) (by repeat (first | exact .head _ | refine .tail _ ?_)), ⟨(hS.get (X := bothA g c its b10 3 (.int .i64 0)) (by repeat (first | exact .head _ | refine .tail _ ?_))).1, hS.get (X := linesAll its) (by repeat (first | exact .head _ | refine .tail _ ?_))⟩⟩
  have hl := (hS.get (X := bothA g c its b10 3 (.int .i64 0)) (by repeat (first | exact .head _ | refine .tail _ ?_))).2
  have hM : MutC Try.prog 65 [.pointer (some ⟨bk, 0, none⟩), .int .i64 ((k : Int) + 1), .func (.func 98) #[] [.pointer (some ⟨b6, 0, none⟩), .pointer (some ⟨b7, 0, none⟩), .pointer (some ⟨b10, 0, none⟩)].toArray] w (bothA g c its b10 3 (.int .i64 0)) (fun _ : Unit => .int .i64 0) (fun _ => bothA g c (its.set k z) b10 3 (.int .i64 (leftI y.v))) :=
    (does_open bk (.slice (some ⟨g, 0, none⟩) its.length c) its k x hx hst hn 98 [.pointer (some ⟨b6, 0, none⟩), .pointer (some ⟨b7, 0, none⟩), .pointer (some ⟨b10, 0, none⟩)] _ hb cf98 (fun w1 e w' => e = .returned (.int .i64 0) ∧ Chg (fun b => b = g ∨ b = b10) w1 w' ∧ rowOk (.slice (some ⟨g, 0, none⟩) its.length c) (its.set k z) w' ∧ w'.heap[b10]? = some (.cells [Value.int .i64 (leftI y.v)].toArray 3 (0, 0))) (fun w1 e w' hh => ⟨_, hh.1, hh.2.1.any⟩) _ rfl
      (fun w1 hc => settles1_ok g k c its x y z hx hg b6 b7 b10 jf cur units _ _ _ _ fp hs w1 (hb.later hc).2.1 (blk_later hu hc) (blk_later hp hc) (blk_later hl hc) hd hok hf (fun w => hfp g _ w))).mono (fun e w' ⟨w1, h1, h2, h3, h4, h5⟩ => ⟨(), h2, ⟨h3.os.trans h1.os, h3.tape.trans h1.tape, h3.output.trans h1.output, Nat.le_trans h1.size h3.size, fun q hq hne => (h3.block q (Nat.lt_of_lt_of_le hq h1.size) hne).trans (h1.block q hq (fun hf => hf))⟩, both_ok (by rw [List.length_set]; exact h4) h5, fun b hb => .inl hb⟩)
  clear hb hl hu hp
  refine L_op (s_callM hS (.cons rfl (.cons rfl (.cons rfl .nil))) cf65 rfl hM (fun _ => (by repeat (first | apply Rep.head | apply Rep.tail))) rfl ?_); clear hS a hM; (try clear w); intro _ a w hS
  refine L_op (s_e hS (e_assign rfl) rfl ?_); clear hS a; intro a hS
  refine L_nil ?_
  refine n_then ?_
  refine c_seq ?_
  refine c_region ?_
  have hbo := hS.get (X := bothA g c (its.set k z) b10 3 (.int .i64 (leftI y.v))) (by repeat (first | exact .head _ | refine .tail _ ?_))
  replace hS := hS.split (X := .blk b10 [.int .i64 (leftI y.v)] 3) (Y := rowA13 (.slice (some ⟨g, 0, none⟩) (its.set k z).length c) (its.set k z)) (Z := bothA g c (its.set k z) b10 3 (.int .i64 (leftI y.v))) (by repeat (first | apply Rep.head | apply Rep.tail)) (ok_blk hbo.2) (ok_own hbo.1) (fun b hb => .inr hb) (fun b hb => by simp [rowA13, ownA, Asn.F, Value.ownBlock] at hb; exact .inl hb.symm) (fun b hb hb' => by
    simp [rowA13, ownA, Asn.F, Value.ownBlock] at hb'
    have e : b = b10 := hb
    omega) rfl
  refine L_op (s_e hS (e_load rfl (by repeat constructor) ty_sc3 (by rfl)) rfl ?_); clear hS a; intro a hS
  refine L_op (s_e hS (e_move rfl) rfl ?_); clear hS a; intro a hS
  refine L_op (s_e hS (e_assign rfl) rfl ?_); clear hS a; intro a hS
  refine L_op (s_e hS (e_assign rfl) rfl ?_); clear hS a; intro a hS
  refine L_nil ?_
  refine n_then ?_
  refine wp_ret ?_
  refine c_retN hS Try.results60 (.cons (.tmp rfl) (.cons (.tmp rfl) .nil)) rfl ?_
  have hro : rowOk (.slice (some ⟨g, 0, none⟩) (its.set k z).length c) (its.set k z) w := hS.get (X := rowA13 (.slice (some ⟨g, 0, none⟩) (its.set k z).length c) (its.set k z)) (by repeat (first | exact .head _ | refine .tail _ ?_))
  rw [List.length_set] at hro
  refine ⟨(), rfl, hS.chg, book_ok true ⟨hS.get (X := .blk bk [.slice (some ⟨g, 0, none⟩) its.length c] _) (by repeat (first | exact .head _ | refine .tail _ ?_)), hro, linesAll_set hx hzb.1 hzb.2.1 hzb.2.2 (hS.get (X := linesAll its) (by repeat (first | exact .head _ | refine .tail _ ?_)))⟩, fun b hb => .inl ?_⟩
  rcases hb with rfl | hb | hb
  · exact .inl rfl
  · exact .inr (.inl hb)
  · exact .inr (.inr (lines_F hx hzb.1 b hb))

def addP (v : Inv) (u : Int) : Inv := { v with paid := v.paid + u }
def addC (v : Inv) (u : Int) : Inv := { v with credited := v.credited + u }
def doneI (v : Inv) : Inv := if leftI v = 0 then { v with state := 2 } else v
theorem doneI_lines (v : Inv) : (doneI v).lines = v.lines := by unfold doneI; split <;> rfl
theorem settle_P {x : IA} (hg : goodI x.v) {u : Int} (h1 : 1 ≤ u) (h2 : u ≤ leftI x.v) : Settle x ⟨addP x.v u, x.b, x.c⟩ ⟨doneI (addP x.v u), x.b, x.c⟩ 10 x.v.paid u := by
  obtain ⟨a1, a2, a3, a4, a5, a6⟩ := hg
  unfold leftI at h2
  refine ⟨by omega, rfl, rfl, ⟨by simp only [addP]; omega, a2, by simp only [addP]; omega, a4, a5, a6⟩, by omega, ?_⟩
  unfold doneI; split <;> rfl
theorem settle_C {x : IA} (hg : goodI x.v) {u : Int} (h1 : 1 ≤ u) (h2 : u ≤ leftI x.v) : Settle x ⟨addC x.v u, x.b, x.c⟩ ⟨doneI (addC x.v u), x.b, x.c⟩ 11 x.v.credited u := by
  obtain ⟨a1, a2, a3, a4, a5, a6⟩ := hg
  unfold leftI at h2
  refine ⟨by omega, rfl, rfl, ⟨a1, by simp only [addC]; omega, by simp only [addC]; omega, a4, a5, a6⟩, by omega, ?_⟩
  unfold doneI; split <;> rfl

set_option maxRecDepth 100000 in
theorem Pay_none (bk : Nat) (sv : Value) (its : List IA) (number units : Int) (hn : its.length ≤ 1000000) (w0 : World) (h : bookφ bk sv its w0) (hno : number < 1 ∨ (its.length : Int) < number) :
    PureC Try.prog 18 [.pointer (some ⟨bk, 0, none⟩), .int .i64 number, .int .i64 units] w0 (.tuple [.int .i64 0, .int .i64 2].toArray) := by
  refine c_enter [(0, .pointer (some ⟨bk, 0, none⟩)), (1, .int .i64 number), (2, .int .i64 units)] [bookA bk sv its false] noB Try.func18 rfl Try.ntmps18 ⟨rfl, rfl, rfl, trivial⟩ rfl (by intro X hX; obtain rfl := List.mem_singleton.1 hX; exact book_ok false h) (by simp) (by intro X hX hm; obtain rfl := List.mem_singleton.1 hX; cases hm) ?_
  intro a hS
  refine c_seq ?_
  refine c_region ?_
  refine L_op (s_e hS (e_assign rfl) rfl ?_); clear hS a; intro a hS
  refine L_op (s_e hS (e_assign rfl) rfl ?_); clear hS a; intro a hS
  refine L_nil ?_
  refine n_then ?_
  refine c_seq ?_
  refine c_region ?_
  refine L_op (s_e hS (e_move rfl) rfl ?_); clear hS a; intro a hS
  refine L_op (s_e hS (e_move rfl) rfl ?_); clear hS a; intro a hS
  refine L_op (s_e hS (e_move rfl) rfl ?_); clear hS a; intro a hS
  refine L_op (s_callP hS (.cons rfl (.cons rfl (.cons rfl (.cons rfl .nil)))) cf60 rfl (settles_none bk sv its number units 61 hn _ (hS.get (X := bookA bk sv its false) (by repeat (first | exact .head _ | refine .tail _ ?_))) hno) ?_); clear hS a; (try clear w); intro a w hS
  refine L_op (s_e hS (e_extract rfl rfl) rfl ?_); clear hS a; intro a hS
  refine L_op (s_e hS (e_extract rfl rfl) rfl ?_); clear hS a; intro a hS
  refine L_op (s_e hS (e_assign rfl) rfl ?_); clear hS a; intro a hS
  refine L_op (s_e hS (e_assign rfl) rfl ?_); clear hS a; intro a hS
  refine L_nil ?_
  refine n_then ?_
  refine wp_ret ?_
  refine c_retN hS Try.results18 (.cons (.tmp rfl) (.cons (.tmp rfl) .nil)) rfl ?_
  exact ⟨rfl, hS.chg⟩
set_option maxRecDepth 100000 in
theorem Pay_shut (bk : Nat) (sv : Value) (its : List IA) (k : Nat) (x : IA) (hx : its[k]? = some x) (hst : x.v.state = 2 ∨ x.v.state = 3) (units : Int) (hn : its.length ≤ 1000000) (w0 : World) (h : bookφ bk sv its w0) :
    PureC Try.prog 18 [.pointer (some ⟨bk, 0, none⟩), .int .i64 ((k : Int) + 1), .int .i64 units] w0 (.tuple [.int .i64 0, .int .i64 25].toArray) := by
  refine c_enter [(0, .pointer (some ⟨bk, 0, none⟩)), (1, .int .i64 ((k : Int) + 1)), (2, .int .i64 units)] [bookA bk sv its false] noB Try.func18 rfl Try.ntmps18 ⟨rfl, rfl, rfl, trivial⟩ rfl (by intro X hX; obtain rfl := List.mem_singleton.1 hX; exact book_ok false h) (by simp) (by intro X hX hm; obtain rfl := List.mem_singleton.1 hX; cases hm) ?_
  intro a hS
  refine c_seq ?_
  refine c_region ?_
  refine L_op (s_e hS (e_assign rfl) rfl ?_); clear hS a; intro a hS
  refine L_op (s_e hS (e_assign rfl) rfl ?_); clear hS a; intro a hS
  refine L_nil ?_
  refine n_then ?_
  refine c_seq ?_
  refine c_region ?_
  refine L_op (s_e hS (e_move rfl) rfl ?_); clear hS a; intro a hS
  refine L_op (s_e hS (e_move rfl) rfl ?_); clear hS a; intro a hS
  refine L_op (s_e hS (e_move rfl) rfl ?_); clear hS a; intro a hS
  refine L_op (s_callP hS (.cons rfl (.cons rfl (.cons rfl (.cons rfl .nil)))) cf60 rfl (settles_shut bk sv its k x hx hst units 61 hn _ (hS.get (X := bookA bk sv its false) (by repeat (first | exact .head _ | refine .tail _ ?_)))) ?_); clear hS a; (try clear w); intro a w hS
  refine L_op (s_e hS (e_extract rfl rfl) rfl ?_); clear hS a; intro a hS
  refine L_op (s_e hS (e_extract rfl rfl) rfl ?_); clear hS a; intro a hS
  refine L_op (s_e hS (e_assign rfl) rfl ?_); clear hS a; intro a hS
  refine L_op (s_e hS (e_assign rfl) rfl ?_); clear hS a; intro a hS
  refine L_nil ?_
  refine n_then ?_
  refine wp_ret ?_
  refine c_retN hS Try.results18 (.cons (.tmp rfl) (.cons (.tmp rfl) .nil)) rfl ?_
  exact ⟨rfl, hS.chg⟩
set_option maxRecDepth 100000 in
theorem Pay_bad (bk : Nat) (sv : Value) (its : List IA) (k : Nat) (x : IA) (hx : its[k]? = some x) (hst : x.v.state = 1) (hg : goodI x.v) (units : Int) (hn : its.length ≤ 1000000) (hbad : units < 1 ∨ leftI x.v < units) (w0 : World) (h : bookφ bk sv its w0) :
    PureC Try.prog 18 [.pointer (some ⟨bk, 0, none⟩), .int .i64 ((k : Int) + 1), .int .i64 units] w0 (.tuple [.int .i64 0, .int .i64 6].toArray) := by
  refine c_enter [(0, .pointer (some ⟨bk, 0, none⟩)), (1, .int .i64 ((k : Int) + 1)), (2, .int .i64 units)] [bookA bk sv its false] noB Try.func18 rfl Try.ntmps18 ⟨rfl, rfl, rfl, trivial⟩ rfl (by intro X hX; obtain rfl := List.mem_singleton.1 hX; exact book_ok false h) (by simp) (by intro X hX hm; obtain rfl := List.mem_singleton.1 hX; cases hm) ?_
  intro a hS
  refine c_seq ?_
  refine c_region ?_
  refine L_op (s_e hS (e_assign rfl) rfl ?_); clear hS a; intro a hS
  refine L_op (s_e hS (e_assign rfl) rfl ?_); clear hS a; intro a hS
  refine L_nil ?_
  refine n_then ?_
  refine c_seq ?_
  refine c_region ?_
  refine L_op (s_e hS (e_move rfl) rfl ?_); clear hS a; intro a hS
  refine L_op (s_e hS (e_move rfl) rfl ?_); clear hS a; intro a hS
  refine L_op (s_e hS (e_move rfl) rfl ?_); clear hS a; intro a hS
  refine L_op (s_callP hS (.cons rfl (.cons rfl (.cons rfl (.cons rfl .nil)))) cf60 rfl (settles_bad bk sv its k x hx hst hg units 61 hn hbad _ (hS.get (X := bookA bk sv its false) (by repeat (first | exact .head _ | refine .tail _ ?_)))) ?_); clear hS a; (try clear w); intro a w hS
  refine L_op (s_e hS (e_extract rfl rfl) rfl ?_); clear hS a; intro a hS
  refine L_op (s_e hS (e_extract rfl rfl) rfl ?_); clear hS a; intro a hS
  refine L_op (s_e hS (e_assign rfl) rfl ?_); clear hS a; intro a hS
  refine L_op (s_e hS (e_assign rfl) rfl ?_); clear hS a; intro a hS
  refine L_nil ?_
  refine n_then ?_
  refine wp_ret ?_
  refine c_retN hS Try.results18 (.cons (.tmp rfl) (.cons (.tmp rfl) .nil)) rfl ?_
  exact ⟨rfl, hS.chg⟩
set_option maxRecDepth 100000 in
theorem Pay_ok (bk : Nat) (sv : Value) (its : List IA) (k : Nat) (x : IA) (hx : its[k]? = some x) (hst : x.v.state = 1) (hg : goodI x.v) (units : Int) (hn : its.length ≤ 1000000) (hok : 1 ≤ units ∧ units ≤ leftI x.v) (w0 : World) (h : bookφ bk sv its w0) :
    MutC Try.prog 18 [.pointer (some ⟨bk, 0, none⟩), .int .i64 ((k : Int) + 1), .int .i64 units] w0 (bookA bk sv its true) (fun _ : Unit => .tuple [.int .i64 (leftI (addP x.v units)), .int .i64 0].toArray) (fun _ => bookA bk sv (its.set k ⟨doneI (addP x.v units), x.b, x.c⟩) true) := by
  refine c_enter [(0, .pointer (some ⟨bk, 0, none⟩)), (1, .int .i64 ((k : Int) + 1)), (2, .int .i64 units)] [bookA bk sv its true] (bookF bk sv its) Try.func18 rfl Try.ntmps18 ⟨rfl, rfl, rfl, trivial⟩ rfl (by intro X hX; obtain rfl := List.mem_singleton.1 hX; exact book_ok true h) (by simp) (by intro X hX hm b hb; obtain rfl := List.mem_singleton.1 hX; exact .inr hb) ?_
  intro a hS
  refine c_seq ?_
  refine c_region ?_
  refine L_op (s_e hS (e_assign rfl) rfl ?_); clear hS a; intro a hS
  refine L_op (s_e hS (e_assign rfl) rfl ?_); clear hS a; intro a hS
  refine L_nil ?_
  refine n_then ?_
  refine c_seq ?_
  refine c_region ?_
  refine L_op (s_e hS (e_move rfl) rfl ?_); clear hS a; intro a hS
  refine L_op (s_e hS (e_move rfl) rfl ?_); clear hS a; intro a hS
  refine L_op (s_e hS (e_move rfl) rfl ?_); clear hS a; intro a hS
  refine L_op (s_callM hS (.cons rfl (.cons rfl (.cons rfl (.cons rfl .nil)))) cf60 rfl (settles_ok bk sv its k x ⟨addP x.v units, x.b, x.c⟩ ⟨doneI (addP x.v units), x.b, x.c⟩ hx hst hg 10 _ units 61 (settle_P hg hok.1 hok.2) ⟨rfl, rfl, doneI_lines _⟩ hn hok cf61 (fun g j w => Pay1_P g j w) _ (hS.get (X := bookA bk sv its true) (by repeat (first | exact .head _ | refine .tail _ ?_)))) (fun x => (by repeat constructor)) rfl ?_); clear hS a; (try clear w); intro x11 a w hS
  refine L_op (s_e hS (e_extract rfl rfl) rfl ?_); clear hS a; intro a hS
  refine L_op (s_e hS (e_extract rfl rfl) rfl ?_); clear hS a; intro a hS
  refine L_op (s_e hS (e_assign rfl) rfl ?_); clear hS a; intro a hS
  refine L_op (s_e hS (e_assign rfl) rfl ?_); clear hS a; intro a hS
  refine L_nil ?_
  refine n_then ?_
  refine wp_ret ?_
  refine c_retN hS Try.results18 (.cons (.tmp rfl) (.cons (.tmp rfl) .nil)) rfl ?_
  exact ⟨(), rfl, hS.chg, hS.ok _ (.head _), fun b hb => (hS.mine _ (.head _) rfl b hb).symm⟩

set_option maxRecDepth 100000 in
theorem Credit_none (bk : Nat) (sv : Value) (its : List IA) (number units : Int) (hn : its.length ≤ 1000000) (w0 : World) (h : bookφ bk sv its w0) (hno : number < 1 ∨ (its.length : Int) < number) :
    PureC Try.prog 19 [.pointer (some ⟨bk, 0, none⟩), .int .i64 number, .int .i64 units] w0 (.tuple [.int .i64 0, .int .i64 2].toArray) := by
  refine c_enter [(0, .pointer (some ⟨bk, 0, none⟩)), (1, .int .i64 number), (2, .int .i64 units)] [bookA bk sv its false] noB Try.func19 rfl Try.ntmps19 ⟨rfl, rfl, rfl, trivial⟩ rfl (by intro X hX; obtain rfl := List.mem_singleton.1 hX; exact book_ok false h) (by simp) (by intro X hX hm; obtain rfl := List.mem_singleton.1 hX; cases hm) ?_
  intro a hS
  refine c_seq ?_
  refine c_region ?_
  refine L_op (s_e hS (e_assign rfl) rfl ?_); clear hS a; intro a hS
  refine L_op (s_e hS (e_assign rfl) rfl ?_); clear hS a; intro a hS
  refine L_nil ?_
  refine n_then ?_
  refine c_seq ?_
  refine c_region ?_
  refine L_op (s_e hS (e_move rfl) rfl ?_); clear hS a; intro a hS
  refine L_op (s_e hS (e_move rfl) rfl ?_); clear hS a; intro a hS
  refine L_op (s_e hS (e_move rfl) rfl ?_); clear hS a; intro a hS
  refine L_op (s_callP hS (.cons rfl (.cons rfl (.cons rfl (.cons rfl .nil)))) cf60 rfl (settles_none bk sv its number units 62 hn _ (hS.get (X := bookA bk sv its false) (by repeat (first | exact .head _ | refine .tail _ ?_))) hno) ?_); clear hS a; (try clear w); intro a w hS
  refine L_op (s_e hS (e_extract rfl rfl) rfl ?_); clear hS a; intro a hS
  refine L_op (s_e hS (e_extract rfl rfl) rfl ?_); clear hS a; intro a hS
  refine L_op (s_e hS (e_assign rfl) rfl ?_); clear hS a; intro a hS
  refine L_op (s_e hS (e_assign rfl) rfl ?_); clear hS a; intro a hS
  refine L_nil ?_
  refine n_then ?_
  refine wp_ret ?_
  refine c_retN hS Try.results19 (.cons (.tmp rfl) (.cons (.tmp rfl) .nil)) rfl ?_
  exact ⟨rfl, hS.chg⟩
set_option maxRecDepth 100000 in
theorem Credit_shut (bk : Nat) (sv : Value) (its : List IA) (k : Nat) (x : IA) (hx : its[k]? = some x) (hst : x.v.state = 2 ∨ x.v.state = 3) (units : Int) (hn : its.length ≤ 1000000) (w0 : World) (h : bookφ bk sv its w0) :
    PureC Try.prog 19 [.pointer (some ⟨bk, 0, none⟩), .int .i64 ((k : Int) + 1), .int .i64 units] w0 (.tuple [.int .i64 0, .int .i64 25].toArray) := by
  refine c_enter [(0, .pointer (some ⟨bk, 0, none⟩)), (1, .int .i64 ((k : Int) + 1)), (2, .int .i64 units)] [bookA bk sv its false] noB Try.func19 rfl Try.ntmps19 ⟨rfl, rfl, rfl, trivial⟩ rfl (by intro X hX; obtain rfl := List.mem_singleton.1 hX; exact book_ok false h) (by simp) (by intro X hX hm; obtain rfl := List.mem_singleton.1 hX; cases hm) ?_
  intro a hS
  refine c_seq ?_
  refine c_region ?_
  refine L_op (s_e hS (e_assign rfl) rfl ?_); clear hS a; intro a hS
  refine L_op (s_e hS (e_assign rfl) rfl ?_); clear hS a; intro a hS
  refine L_nil ?_
  refine n_then ?_
  refine c_seq ?_
  refine c_region ?_
  refine L_op (s_e hS (e_move rfl) rfl ?_); clear hS a; intro a hS
  refine L_op (s_e hS (e_move rfl) rfl ?_); clear hS a; intro a hS
  refine L_op (s_e hS (e_move rfl) rfl ?_); clear hS a; intro a hS
  refine L_op (s_callP hS (.cons rfl (.cons rfl (.cons rfl (.cons rfl .nil)))) cf60 rfl (settles_shut bk sv its k x hx hst units 62 hn _ (hS.get (X := bookA bk sv its false) (by repeat (first | exact .head _ | refine .tail _ ?_)))) ?_); clear hS a; (try clear w); intro a w hS
  refine L_op (s_e hS (e_extract rfl rfl) rfl ?_); clear hS a; intro a hS
  refine L_op (s_e hS (e_extract rfl rfl) rfl ?_); clear hS a; intro a hS
  refine L_op (s_e hS (e_assign rfl) rfl ?_); clear hS a; intro a hS
  refine L_op (s_e hS (e_assign rfl) rfl ?_); clear hS a; intro a hS
  refine L_nil ?_
  refine n_then ?_
  refine wp_ret ?_
  refine c_retN hS Try.results19 (.cons (.tmp rfl) (.cons (.tmp rfl) .nil)) rfl ?_
  exact ⟨rfl, hS.chg⟩
set_option maxRecDepth 100000 in
theorem Credit_bad (bk : Nat) (sv : Value) (its : List IA) (k : Nat) (x : IA) (hx : its[k]? = some x) (hst : x.v.state = 1) (hg : goodI x.v) (units : Int) (hn : its.length ≤ 1000000) (hbad : units < 1 ∨ leftI x.v < units) (w0 : World) (h : bookφ bk sv its w0) :
    PureC Try.prog 19 [.pointer (some ⟨bk, 0, none⟩), .int .i64 ((k : Int) + 1), .int .i64 units] w0 (.tuple [.int .i64 0, .int .i64 6].toArray) := by
  refine c_enter [(0, .pointer (some ⟨bk, 0, none⟩)), (1, .int .i64 ((k : Int) + 1)), (2, .int .i64 units)] [bookA bk sv its false] noB Try.func19 rfl Try.ntmps19 ⟨rfl, rfl, rfl, trivial⟩ rfl (by intro X hX; obtain rfl := List.mem_singleton.1 hX; exact book_ok false h) (by simp) (by intro X hX hm; obtain rfl := List.mem_singleton.1 hX; cases hm) ?_
  intro a hS
  refine c_seq ?_
  refine c_region ?_
  refine L_op (s_e hS (e_assign rfl) rfl ?_); clear hS a; intro a hS
  refine L_op (s_e hS (e_assign rfl) rfl ?_); clear hS a; intro a hS
  refine L_nil ?_
  refine n_then ?_
  refine c_seq ?_
  refine c_region ?_
  refine L_op (s_e hS (e_move rfl) rfl ?_); clear hS a; intro a hS
  refine L_op (s_e hS (e_move rfl) rfl ?_); clear hS a; intro a hS
  refine L_op (s_e hS (e_move rfl) rfl ?_); clear hS a; intro a hS
  refine L_op (s_callP hS (.cons rfl (.cons rfl (.cons rfl (.cons rfl .nil)))) cf60 rfl (settles_bad bk sv its k x hx hst hg units 62 hn hbad _ (hS.get (X := bookA bk sv its false) (by repeat (first | exact .head _ | refine .tail _ ?_)))) ?_); clear hS a; (try clear w); intro a w hS
  refine L_op (s_e hS (e_extract rfl rfl) rfl ?_); clear hS a; intro a hS
  refine L_op (s_e hS (e_extract rfl rfl) rfl ?_); clear hS a; intro a hS
  refine L_op (s_e hS (e_assign rfl) rfl ?_); clear hS a; intro a hS
  refine L_op (s_e hS (e_assign rfl) rfl ?_); clear hS a; intro a hS
  refine L_nil ?_
  refine n_then ?_
  refine wp_ret ?_
  refine c_retN hS Try.results19 (.cons (.tmp rfl) (.cons (.tmp rfl) .nil)) rfl ?_
  exact ⟨rfl, hS.chg⟩
set_option maxRecDepth 100000 in
theorem Credit_ok (bk : Nat) (sv : Value) (its : List IA) (k : Nat) (x : IA) (hx : its[k]? = some x) (hst : x.v.state = 1) (hg : goodI x.v) (units : Int) (hn : its.length ≤ 1000000) (hok : 1 ≤ units ∧ units ≤ leftI x.v) (w0 : World) (h : bookφ bk sv its w0) :
    MutC Try.prog 19 [.pointer (some ⟨bk, 0, none⟩), .int .i64 ((k : Int) + 1), .int .i64 units] w0 (bookA bk sv its true) (fun _ : Unit => .tuple [.int .i64 (leftI (addC x.v units)), .int .i64 0].toArray) (fun _ => bookA bk sv (its.set k ⟨doneI (addC x.v units), x.b, x.c⟩) true) := by
  refine c_enter [(0, .pointer (some ⟨bk, 0, none⟩)), (1, .int .i64 ((k : Int) + 1)), (2, .int .i64 units)] [bookA bk sv its true] (bookF bk sv its) Try.func19 rfl Try.ntmps19 ⟨rfl, rfl, rfl, trivial⟩ rfl (by intro X hX; obtain rfl := List.mem_singleton.1 hX; exact book_ok true h) (by simp) (by intro X hX hm b hb; obtain rfl := List.mem_singleton.1 hX; exact .inr hb) ?_
  intro a hS
  refine c_seq ?_
  refine c_region ?_
  refine L_op (s_e hS (e_assign rfl) rfl ?_); clear hS a; intro a hS
  refine L_op (s_e hS (e_assign rfl) rfl ?_); clear hS a; intro a hS
  refine L_nil ?_
  refine n_then ?_
  refine c_seq ?_
  refine c_region ?_
  refine L_op (s_e hS (e_move rfl) rfl ?_); clear hS a; intro a hS
  refine L_op (s_e hS (e_move rfl) rfl ?_); clear hS a; intro a hS
  refine L_op (s_e hS (e_move rfl) rfl ?_); clear hS a; intro a hS
  refine L_op (s_callM hS (.cons rfl (.cons rfl (.cons rfl (.cons rfl .nil)))) cf60 rfl (settles_ok bk sv its k x ⟨addC x.v units, x.b, x.c⟩ ⟨doneI (addC x.v units), x.b, x.c⟩ hx hst hg 11 _ units 62 (settle_C hg hok.1 hok.2) ⟨rfl, rfl, doneI_lines _⟩ hn hok cf62 (fun g j w => Credit1_P g j w) _ (hS.get (X := bookA bk sv its true) (by repeat (first | exact .head _ | refine .tail _ ?_)))) (fun x => (by repeat constructor)) rfl ?_); clear hS a; (try clear w); intro x11 a w hS
  refine L_op (s_e hS (e_extract rfl rfl) rfl ?_); clear hS a; intro a hS
  refine L_op (s_e hS (e_extract rfl rfl) rfl ?_); clear hS a; intro a hS
  refine L_op (s_e hS (e_assign rfl) rfl ?_); clear hS a; intro a hS
  refine L_op (s_e hS (e_assign rfl) rfl ?_); clear hS a; intro a hS
  refine L_nil ?_
  refine n_then ?_
  refine wp_ret ?_
  refine c_retN hS Try.results19 (.cons (.tmp rfl) (.cons (.tmp rfl) .nil)) rfl ?_
  exact ⟨(), rfl, hS.chg, hS.ok _ (.head _), fun b hb => (hS.mine _ (.head _) rfl b hb).symm⟩
end Go.Proofs.Ytfiaobhkhedpiaa
