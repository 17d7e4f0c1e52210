/- The chapter's example of invoices, walked: it answers true. -/
import Derived.Test.YtfiaobhkhedpiaaInv7
namespace Go.Proofs.Ytfiaobhkhedpiaa
open Go.RowKit

def acme : ByteArray := ⟨#[97, 99, 109, 101]⟩
def usd : ByteArray := ⟨#[85, 83, 68]⟩
def exLine : RLine := ⟨⟨#[99, 97, 108, 108, 115]⟩, 5, 10, 2⟩
def exInv : Inv := newInv 0 acme usd 40 0 30 [exLine]
theorem exLine_fits : ∀ x ∈ [exLine], x.fits := by
  intro x hx; obtain rfl := List.mem_singleton.1 hx
  exact ⟨by decide, by decide, by decide, by decide⟩
theorem exE1 : issueE [] acme usd 40 0 30 [exLine] = 0 := by decide +kernel
theorem exE2 (it : IA) (h : it.v = exInv) : issueE [it] acme usd 41 29 31 [exLine] = 3 := by
  have : ([it].map (·.v)) = [exInv] := by simp [h]
  unfold issueE someL
  rw [this, show [it].length = 1 from rfl]
  decide +kernel
theorem exGood : goodI exInv := ⟨by decide, by decide, by decide, by decide, by decide, by decide⟩

/-- a list of structs, one, in a block of its own: read as lines. -/
theorem rowP_blk {b : Nat} {l : List RLine} {w : World} {cs : List Value} (h : w.heap[b]? = some (.cells cs.toArray 26 (0, 0))) (hc : cs = l.flatMap encL) : RowP (some (b, 0)) 4 (l.map encL) w := by
  subst hc
  exact row_of_flat (enc := encL) (fun _ => rfl) h

set_option maxRecDepth 100000 in
theorem ifirst_P (w0 : World) : PureC Try.prog 13 [] w0 (.bool true) := by
  refine c_enter [] [] noB Try.func13 rfl Try.ntmps13 trivial rfl (by simp) (by simp) (by simp) ?_
  intro a hS
  refine c_seq ?_
  refine c_region ?_
  refine L_op (s_e hS (e_assign rfl) rfl ?_); clear hS a; intro a hS
  refine L_nil ?_
  refine n_then ?_
  refine c_seq ?_
  refine c_region ?_
  refine L_op (s_callN hS .nil cf14 rfl (New_P _) ?_); clear hS a; (try clear w); intro x12 a w hS
  refine L_op (s_e hS (e_assign rfl) rfl ?_); clear hS a; intro a hS
  refine L_nil ?_
  refine n_then ?_
  refine c_seq ?_
  refine c_seq ?_
  refine c_region ?_
  refine L_op (s_e hS (e_move rfl) rfl ?_); clear hS a; intro a hS
  refine L_op (s_e hS (e_nil rfl ty_u27) rfl ?_); clear hS a; intro a hS
  refine L_nil ?_
  refine n_then ?_
  replace hS := hS.is (t := 14) (c := false) rfl (rfl)
  refine c_if_f hS rfl ?_
  refine wp_skip ?_
  refine n_then ?_
  refine c_seq ?_
  refine c_region ?_
  refine L_op (s_e hS (e_move rfl) rfl ?_); clear hS a; intro a hS
  refine L_op (s_e hS (e_build ty_z26 ty_pl26 (.one rfl rfl rfl (by repeat constructor) (.one rfl rfl rfl (by repeat constructor) (.one rfl rfl rfl (by repeat constructor) (.one rfl rfl rfl (by repeat constructor) .nil))))) rfl ?_); clear hS a; intro a hS
  refine L_op (s_bslice hS ty_sl22 ty_sz26 ty_z26 rfl rfl rfl rfl (.agg rfl rfl .nil) rfl ?_); clear hS a; (try clear w); intro a w b18 hS
  refine L_op (s_callM hS (.cons rfl (.cons rfl (.cons rfl (.cons rfl (.cons rfl (.cons rfl (.cons rfl .nil))))))) cf15 rfl (Issue_ok x12 (.slice none 0 0) [] acme usd 40 0 30 (some (b18, 0)) 1 (fun e => by cases e) [exLine] (by decide) (fun x hx => by cases hx) exLine_fits _ (hS.get (X := bookA x12 (.slice none 0 0) [] true) (by repeat (first | exact .head _ | refine .tail _ ?_))) (rowP_blk (hS.get (X := .blk b18 _ _) (.head _)) rfl) (fun q hq => by cases hq; exact ⟨(hS.ok _ (.head _)).lt b18 rfl, fun hb => (List.pairwise_cons.1 hS.dis).1 _ (.head _) b18 rfl hb⟩) exE1) (fun x => (by repeat constructor)) rfl ?_); clear hS a; (try clear w); intro x19 a w hS
  obtain ⟨⟨sv, it⟩, hv⟩ := x19
  simp only [List.nil_append] at hS
  have hv : it.v = exInv := hv
  have hgd : goodI it.v := by rw [hv]; exact exGood
  refine L_op (s_e hS (e_move rfl) rfl ?_); clear hS a; intro a hS
  refine L_op (s_e hS (e_extract rfl rfl) rfl ?_); clear hS a; intro a hS
  refine L_op (s_e hS (e_extract rfl rfl) rfl ?_); clear hS a; intro a hS
  refine L_op (s_e hS (e_assign rfl) rfl ?_); clear hS a; intro a hS
  refine L_op (s_e hS (e_assign rfl) rfl ?_); clear hS a; intro a hS
  refine L_nil ?_
  refine n_then ?_
  refine c_seq ?_
  refine c_region ?_
  refine L_op (s_e hS (e_move rfl) rfl ?_); clear hS a; intro a hS
  refine L_op (s_e hS (e_build ty_z26 ty_pl26 (.one rfl rfl rfl (by repeat constructor) (.one rfl rfl rfl (by repeat constructor) (.one rfl rfl rfl (by repeat constructor) (.one rfl rfl rfl (by repeat constructor) .nil))))) rfl ?_); clear hS a; intro a hS
  refine L_op (s_bslice hS ty_sl22 ty_sz26 ty_z26 rfl rfl rfl rfl (.agg rfl rfl .nil) rfl ?_); clear hS a; (try clear w); intro a w b25 hS
  refine L_op (s_callP hS (.cons rfl (.cons rfl (.cons rfl (.cons rfl (.cons rfl (.cons rfl (.cons rfl .nil))))))) cf15 rfl (Issue_err x12 sv [it] acme usd 41 29 31 (some (b25, 0)) 1 [exLine] (by decide) (by simp) (fun x hx => by obtain rfl := List.mem_singleton.1 hx; have := hgd.lines; omega) (by decide) exLine_fits _ (hS.get (X := bookA x12 sv [it] true) (by repeat (first | exact .head _ | refine .tail _ ?_))) (rowP_blk (hS.get (X := .blk b25 _ _) (.head _)) rfl) (fun q hq => by cases hq; exact ⟨(hS.ok _ (.head _)).lt b25 rfl, fun hb => (List.pairwise_cons.1 hS.dis).1 (bookA x12 sv [it] true) (by repeat (first | exact .head _ | refine .tail _ ?_)) b25 rfl hb⟩) (by rw [exE2 it hv]; decide)) ?_); clear hS a; (try clear w); intro a w hS
  rw [exE2 it hv] at hS
  refine L_op (s_e hS (e_move rfl) rfl ?_); clear hS a; intro a hS
  refine L_op (s_e hS (e_extract rfl rfl) rfl ?_); clear hS a; intro a hS
  refine L_op (s_e hS (e_extract rfl rfl) rfl ?_); clear hS a; intro a hS
  refine L_op (s_e hS (e_assign rfl) rfl ?_); clear hS a; intro a hS
  refine L_op (s_e hS (e_assign rfl) rfl ?_); clear hS a; intro a hS
  refine L_nil ?_
  refine n_then ?_
  refine c_seq ?_
  refine c_region ?_
  refine L_op (s_e hS (e_move rfl) rfl ?_); clear hS a; intro a hS
  refine L_op (s_callP hS (.cons rfl (.cons rfl (.cons rfl .nil))) cf18 rfl (Pay_bad x12 sv [it] 0 it rfl (by rw [hv]; decide) hgd 13 (by simp) (by rw [hv]; decide) _ (hS.get (X := bookA x12 sv [it] true) (by repeat (first | exact .head _ | refine .tail _ ?_)))) ?_); clear hS a; (try clear w); intro a w hS
  refine L_op (s_e hS (e_move rfl) rfl ?_); clear hS a; intro a hS
  refine L_op (s_e hS (e_extract rfl rfl) rfl ?_); clear hS a; intro a hS
  refine L_op (s_e hS (e_extract rfl rfl) rfl ?_); clear hS a; intro a hS
  refine L_op (s_e hS (e_assign rfl) rfl ?_); clear hS a; intro a hS
  refine L_op (s_e hS (e_assign rfl) rfl ?_); clear hS a; intro a hS
  refine L_nil ?_
  refine n_then ?_
  refine c_seq ?_
  refine c_region ?_
  refine L_op (s_e hS (e_move rfl) rfl ?_); clear hS a; intro a hS
  refine L_op (s_callM hS (.cons rfl (.cons rfl (.cons rfl .nil))) cf18 rfl (Pay_ok x12 sv [it] 0 it rfl (by rw [hv]; decide) hgd 5 (by simp) (by rw [hv]; decide) _ (hS.get (X := bookA x12 sv [it] true) (by repeat (first | exact .head _ | refine .tail _ ?_)))) (fun x => (by repeat constructor)) rfl ?_); clear hS a; (try clear w); intro x36 a w hS
  simp only [List.set_cons_zero] at hS
  have hv2 : doneI (addP it.v 5) = { exInv with paid := 5 } := by rw [hv]; rfl
  rw [hv2] at hS
  have hgd2 : goodI { exInv with paid := 5 } := ⟨by decide, by decide, by decide, by decide, by decide, by decide⟩
  refine L_op (s_e hS (e_move rfl) rfl ?_); clear hS a; intro a hS
  refine L_op (s_e hS (e_extract rfl rfl) rfl ?_); clear hS a; intro a hS
  refine L_op (s_e hS (e_extract rfl rfl) rfl ?_); clear hS a; intro a hS
  refine L_op (s_e hS (e_assign rfl) rfl ?_); clear hS a; intro a hS
  refine L_op (s_e hS (e_assign rfl) rfl ?_); clear hS a; intro a hS
  refine L_nil ?_
  refine n_then ?_
  refine c_seq ?_
  refine c_region ?_
  refine L_op (s_e hS (e_move rfl) rfl ?_); clear hS a; intro a hS
  refine L_op (s_callM hS (.cons rfl (.cons rfl (.cons rfl .nil))) cf19 rfl (Credit_ok x12 sv [⟨{ exInv with paid := 5 }, it.b, it.c⟩] 0 _ rfl (show exInv.state = 1 from by decide) hgd2 7 (by simp) (show 1 ≤ 7 ∧ 7 ≤ leftI { exInv with paid := 5 } from by decide) _ (hS.get (X := bookA x12 sv [⟨{ exInv with paid := 5 }, it.b, it.c⟩] true) (by repeat (first | exact .head _ | refine .tail _ ?_)))) (fun x => (by repeat constructor)) rfl ?_); clear hS a; (try clear w); intro x41 a w hS
  simp only [List.set_cons_zero] at hS
  refine L_op (s_e hS (e_move rfl) rfl ?_); clear hS a; intro a hS
  refine L_op (s_e hS (e_extract rfl rfl) rfl ?_); clear hS a; intro a hS
  refine L_op (s_e hS (e_extract rfl rfl) rfl ?_); clear hS a; intro a hS
  refine L_op (s_e hS (e_assign rfl) rfl ?_); clear hS a; intro a hS
  refine L_op (s_e hS (e_assign rfl) rfl ?_); clear hS a; intro a hS
  refine L_nil ?_
  refine n_then ?_
  refine c_seq ?_
  refine c_region ?_
  refine L_op (s_e hS (e_move rfl) rfl ?_); clear hS a; intro a hS
  refine L_op (s_e hS (e_bin rfl rfl rfl) rfl ?_); clear hS a; intro a hS
  refine L_op (s_e hS (e_move rfl) rfl ?_); clear hS a; intro a hS
  replace hS := hS.is (t := 46) (c := true) rfl ((by decide))
  refine L_go hS rfl rfl (s_e hS (e_move rfl) rfl ?_); clear hS a; intro a hS
  refine L_go hS rfl rfl (s_callP hS (.cons rfl .nil) cf16 rfl (Num_w 0 _) ?_); clear hS a; (try clear w); intro a w hS
  refine L_go hS rfl rfl (s_e hS (e_bin rfl rfl rfl) rfl ?_); clear hS a; intro a hS
  first | (refine L_op (s_e hS (e_pick_t rfl rfl) rfl ?_); clear hS a; intro a hS) | (refine L_op (s_e hS (e_pick_f rfl rfl) rfl ?_); clear hS a; intro a hS)
  refine L_op (s_e hS (e_move rfl) rfl ?_); clear hS a; intro a hS
  replace hS := hS.is (t := 51) (c := true) rfl ((by decide))
  refine L_go hS rfl rfl (s_e hS (e_move rfl) rfl ?_); clear hS a; intro a hS
  refine L_go hS rfl rfl (s_callP hS (.cons rfl .nil) cf16 rfl (Num_w 3 _) ?_); clear hS a; (try clear w); intro a w hS
  refine L_go hS rfl rfl (s_e hS (e_bin rfl rfl rfl) rfl ?_); clear hS a; intro a hS
  first | (refine L_op (s_e hS (e_pick_t rfl rfl) rfl ?_); clear hS a; intro a hS) | (refine L_op (s_e hS (e_pick_f rfl rfl) rfl ?_); clear hS a; intro a hS)
  refine L_op (s_e hS (e_move rfl) rfl ?_); clear hS a; intro a hS
  replace hS := hS.is (t := 56) (c := true) rfl ((by decide))
  refine L_go hS rfl rfl (s_e hS (e_move rfl) rfl ?_); clear hS a; intro a hS
  refine L_go hS rfl rfl (s_callP hS (.cons rfl .nil) cf16 rfl (Num_w 6 _) ?_); clear hS a; (try clear w); intro a w hS
  refine L_go hS rfl rfl (s_e hS (e_bin rfl rfl rfl) rfl ?_); clear hS a; intro a hS
  first | (refine L_op (s_e hS (e_pick_t rfl rfl) rfl ?_); clear hS a; intro a hS) | (refine L_op (s_e hS (e_pick_f rfl rfl) rfl ?_); clear hS a; intro a hS)
  refine L_op (s_e hS (e_move rfl) rfl ?_); clear hS a; intro a hS
  replace hS := hS.is (t := 61) (c := true) rfl ((by decide))
  refine L_go hS rfl rfl (s_e hS (e_move rfl) rfl ?_); clear hS a; intro a hS
  refine L_go hS rfl rfl (s_e hS (e_bin rfl rfl rfl) rfl ?_); clear hS a; intro a hS
  first | (refine L_op (s_e hS (e_pick_t rfl rfl) rfl ?_); clear hS a; intro a hS) | (refine L_op (s_e hS (e_pick_f rfl rfl) rfl ?_); clear hS a; intro a hS)
  refine L_op (s_e hS (e_move rfl) rfl ?_); clear hS a; intro a hS
  replace hS := hS.is (t := 65) (c := true) rfl ((decide_eq_true (by rw [hv]; decide)))
  refine L_go hS rfl rfl (s_e hS (e_move rfl) rfl ?_); clear hS a; intro a hS
  refine L_go hS rfl rfl (s_callP hS (.cons rfl .nil) cf16 rfl (Num_w 0 _) ?_); clear hS a; (try clear w); intro a w hS
  refine L_go hS rfl rfl (s_e hS (e_bin rfl rfl rfl) rfl ?_); clear hS a; intro a hS
  first | (refine L_op (s_e hS (e_pick_t rfl rfl) rfl ?_); clear hS a; intro a hS) | (refine L_op (s_e hS (e_pick_f rfl rfl) rfl ?_); clear hS a; intro a hS)
  refine L_op (s_e hS (e_move rfl) rfl ?_); clear hS a; intro a hS
  replace hS := hS.is (t := 70) (c := true) rfl ((by decide))
  refine L_go hS rfl rfl (s_e hS (e_move rfl) rfl ?_); clear hS a; intro a hS
  refine L_go hS rfl rfl (s_e hS (e_bin rfl rfl rfl) rfl ?_); clear hS a; intro a hS
  first | (refine L_op (s_e hS (e_pick_t rfl rfl) rfl ?_); clear hS a; intro a hS) | (refine L_op (s_e hS (e_pick_f rfl rfl) rfl ?_); clear hS a; intro a hS)
  refine L_op (s_e hS (e_move rfl) rfl ?_); clear hS a; intro a hS
  replace hS := hS.is (t := 74) (c := true) rfl ((decide_eq_true (by decide)))
  refine L_go hS rfl rfl (s_e hS (e_move rfl) rfl ?_); clear hS a; intro a hS
  refine L_go hS rfl rfl (s_callP hS (.cons rfl .nil) cf16 rfl (Num_w 0 _) ?_); clear hS a; (try clear w); intro a w hS
  refine L_go hS rfl rfl (s_e hS (e_bin rfl rfl rfl) rfl ?_); clear hS a; intro a hS
  first | (refine L_op (s_e hS (e_pick_t rfl rfl) rfl ?_); clear hS a; intro a hS) | (refine L_op (s_e hS (e_pick_f rfl rfl) rfl ?_); clear hS a; intro a hS)
  refine L_op (s_e hS (e_move rfl) rfl ?_); clear hS a; intro a hS
  replace hS := hS.is (t := 79) (c := true) rfl ((by decide))
  refine L_go hS rfl rfl (s_e hS (e_move rfl) rfl ?_); clear hS a; intro a hS
  refine L_go hS rfl rfl (s_callP hS (.cons rfl .nil) cf54 rfl (Next_P x12 sv [⟨doneI (addC { exInv with paid := 5 } 7), it.b, it.c⟩] (by simp) _ (hS.get (X := bookA x12 sv [⟨doneI (addC { exInv with paid := 5 } 7), it.b, it.c⟩] true) (by repeat (first | exact .head _ | refine .tail _ ?_)))) ?_); clear hS a; (try clear w); intro a w hS
  refine L_go hS rfl rfl (s_e hS (e_bin rfl rfl rfl) rfl ?_); clear hS a; intro a hS
  first | (refine L_op (s_e hS (e_pick_t rfl rfl) rfl ?_); clear hS a; intro a hS) | (refine L_op (s_e hS (e_pick_f rfl rfl) rfl ?_); clear hS a; intro a hS)
  refine L_op (s_e hS (e_assign rfl) rfl ?_); clear hS a; intro a hS
  refine L_nil ?_
  refine n_then ?_
  refine wp_ret ?_
  refine c_ret1 hS Try.results13 (.tmp rfl) ?_
  exact ⟨by rfl, hS.chg⟩

/-- what a payment of units makes of an invoice: the invoice then, what is left, the error. -/
def PayRel (add : Inv → Int → Inv) (x : IA) (u : Int) (y : IA) (m f : Int) : Prop :=
  ((x.v.state = 2 ∨ x.v.state = 3) ∧ f = 25 ∧ m = 0 ∧ y = x) ∨ (x.v.state = 1 ∧ (u < 1 ∨ leftI x.v < u) ∧ f = 6 ∧ m = 0 ∧ y = x) ∨
  (x.v.state = 1 ∧ (1 ≤ u ∧ u ≤ leftI x.v) ∧ f = 0 ∧ m = leftI (add x.v u) ∧ y = ⟨doneI (add x.v u), x.b, x.c⟩)
theorem pure_mut {γ : Type} {P : Program} {f : FuncId} {args : List Value} {w : World} {v : Value} {X : Asn} {V : γ → Value} {Y : γ → Asn} (h : PureC P f args w v) (hX : X.ok w) (g : γ) (hv : V g = v) (hY : Y g = X) : MutC P f args w X V Y :=
  h.mono fun e w' ⟨he, hc⟩ => ⟨g, by rw [hv]; exact he, hc.mono (fun _ hf => hf.elim), by rw [hY]; exact hX.keep hc (fun _ _ hf => hf), fun b hb => .inl (by rw [hY] at hb; exact hb)⟩
theorem set_self {its : List IA} {k : Nat} {x : IA} (hx : its[k]? = some x) : its.set k x = its := by
  obtain ⟨h1, h2⟩ := List.getElem?_eq_some_iff.1 hx
  rw [← h2, List.set_getElem_self]

theorem Pay_any (bk : Nat) (sv : Value) (its : List IA) (k : Nat) (x : IA) (hx : its[k]? = some x) (hg : goodI x.v) (units : Int) (hn : its.length ≤ 1000000) (w0 : World) (h : bookφ bk sv its w0) :
    MutC Try.prog 18 [.pointer (some ⟨bk, 0, none⟩), .int .i64 ((k : Int) + 1), .int .i64 units] w0 (bookA bk sv its true) (fun y : { y : IA × Int × Int // PayRel addP x units y.1 y.2.1 y.2.2 } => .tuple [.int .i64 y.1.2.1, .int .i64 y.1.2.2].toArray) (fun y => bookA bk sv (its.set k y.1.1) true) := by
  rcases hg.state with h1 | h23
  · by_cases hu : 1 ≤ units ∧ units ≤ leftI x.v
    · exact (Pay_ok bk sv its k x hx h1 hg units hn hu w0 h).mono fun e w' ⟨_, he, hc, hY, hF⟩ => ⟨⟨(⟨doneI (addP x.v units), x.b, x.c⟩, leftI (addP x.v units), 0), .inr (.inr ⟨h1, hu, rfl, rfl, rfl⟩)⟩, he, hc, hY, hF⟩
    · have hb : units < 1 ∨ leftI x.v < units := by omega
      exact pure_mut (Pay_bad bk sv its k x hx h1 hg units hn hb w0 h) (book_ok true h) ⟨(x, 0, 6), .inr (.inl ⟨h1, hb, rfl, rfl, rfl⟩)⟩ rfl (by simp only [set_self hx])
  · exact pure_mut (Pay_shut bk sv its k x hx h23 units hn w0 h) (book_ok true h) ⟨(x, 0, 25), .inl ⟨h23, rfl, rfl, rfl⟩⟩ rfl (by simp only [set_self hx])

theorem Credit_any (bk : Nat) (sv : Value) (its : List IA) (k : Nat) (x : IA) (hx : its[k]? = some x) (hg : goodI x.v) (units : Int) (hn : its.length ≤ 1000000) (w0 : World) (h : bookφ bk sv its w0) :
    MutC Try.prog 19 [.pointer (some ⟨bk, 0, none⟩), .int .i64 ((k : Int) + 1), .int .i64 units] w0 (bookA bk sv its true) (fun y : { y : IA × Int × Int // PayRel addC x units y.1 y.2.1 y.2.2 } => .tuple [.int .i64 y.1.2.1, .int .i64 y.1.2.2].toArray) (fun y => bookA bk sv (its.set k y.1.1) true) := by
  rcases hg.state with h1 | h23
  · by_cases hu : 1 ≤ units ∧ units ≤ leftI x.v
    · exact (Credit_ok bk sv its k x hx h1 hg units hn hu w0 h).mono fun e w' ⟨_, he, hc, hY, hF⟩ => ⟨⟨(⟨doneI (addC x.v units), x.b, x.c⟩, leftI (addC x.v units), 0), .inr (.inr ⟨h1, hu, rfl, rfl, rfl⟩)⟩, he, hc, hY, hF⟩
    · have hb : units < 1 ∨ leftI x.v < units := by omega
      exact pure_mut (Credit_bad bk sv its k x hx h1 hg units hn hb w0 h) (book_ok true h) ⟨(x, 0, 6), .inr (.inl ⟨h1, hb, rfl, rfl, rfl⟩)⟩ rfl (by simp only [set_self hx])
  · exact pure_mut (Credit_shut bk sv its k x hx h23 units hn w0 h) (book_ok true h) ⟨(x, 0, 25), .inl ⟨h23, rfl, rfl, rfl⟩⟩ rfl (by simp only [set_self hx])
end Go.Proofs.Ytfiaobhkhedpiaa
