/- A map's keys, sorted: walked. -/
import Derived.Test.YtheofhegdjjfgaaKey2
import Derived.Sort.OwnSorted
import Derived.Sort.KeysCollected
namespace Go.Proofs.Ytheofhegdjjfgaa
open Go.RowKit

def bytesL (xs : List ByteArray) : List (List UInt8) := xs.map (·.data.toList)
/-- texts in order. -/
def srt (xs : List ByteArray) : List ByteArray := ((bytesL xs).mergeSort fun x y => decide (x ≤ y)).map fun l => ⟨l.toArray⟩
theorem srt_len (xs : List ByteArray) : (srt xs).length = xs.length := by simp [srt, bytesL]
theorem srt_perm {xs ys : List ByteArray} (h : xs.Perm ys) : srt xs = srt ys := by
  unfold srt
  have h2 : (bytesL xs).Perm (bytesL ys) := h.map _
  have h3 := Go.mergeSort_of_perm h2
  exact congrArg (List.map fun l => (⟨l.toArray⟩ : ByteArray)) h3
theorem encStr_map (xs : List ByteArray) : (bytesL xs).map encStr = xs.map Value.string := by
  unfold bytesL
  rw [List.map_map]
  apply List.map_congr_left
  intro x _
  show Value.string ⟨x.data.toList.toArray⟩ = _
  simp
theorem SortS_P (v : Value) (xs : List ByteArray) (hx : xs.length ≤ 1000000) (w0 : World) (h : w0.ownsRow 0 9 1 v xs.length (xs.map .string)) :
    MutC Try.prog 100 [v] w0 (strA v xs) (fun _ : Unit => .tuple #[]) (fun _ => strA v (srt xs)) := by
  have hl : (bytesL xs).length = xs.length := by simp [bytesL]
  rcases h.2 with ⟨rfl, h0⟩ | ⟨g, cap, cur, rfl, hbase, hb, h1, h2, h3, h4⟩
  · obtain rfl : xs = [] := List.eq_nil_of_length_eq_zero h0
    refine (Try.slices_Sort_string_none none 0 w0).mono fun e w' ⟨he, hw⟩ => ?_
    subst hw
    exact ⟨(), he, Chg.refl _ _, (by have e : srt [] = [] := List.eq_nil_of_length_eq_zero (srt_len []); rw [e]; exact ok_own (World.ownsRow_nil _ _ _ _)), fun b hb => (by cases hb)⟩
  · have hH := Go.holds_of_block (ss := bytesL xs) hb (by rw [hl, encStr_map]; simpa using h4)
    have hc := Try.slices_Sort_string g 0 cap (bytesL xs) w0 hH (Array.getElem?_eq_some_iff.1 hb).1 (by omega)
    rw [hl] at hc
    refine hc.mono fun e w' ⟨he, n, os, hw⟩ => ?_
    have hgb : w0.grownBy w' (some g) := by rw [hw]; exact Go.grownBy_sorted _
    have hrow := Go.ownsRow_sorted (n := n) (os := os) (ss := bytesL xs) (ts := (bytesL xs).mergeSort fun x y => decide (x ≤ y)) (by simp) hbase hb (by omega) h2 h3
    rw [← hw, hl] at hrow
    have hsm : ((bytesL xs).mergeSort fun x y => decide (x ≤ y)).map encStr = (srt xs).map Value.string := by unfold srt; rw [List.map_map]; rfl
    rw [hsm] at hrow
    refine ⟨(), he, ?_, ?_, fun b hb2 => .inl hb2⟩
    · exact ⟨hgb.os, hgb.tape, hgb.output, hgb.size, fun k hk hn => hgb.block k hk (fun e => hn (congrArg some (Option.some.inj e).symm))⟩
    · have e1 := srt_len xs
      refine ok_own ?_
      rw [e1]; exact hrow

set_option maxRecDepth 100000 in
theorem CollectS_P {gf : Nat} {lb : Array Value} (eg : CallsTo Try.prog gf) {S Sp : List ByteArray → Prop} {N : Nat} (hN : N ≤ 1000000) (X : Asn) (hXm : X.mine = false) (hseq : SeqD Try.prog gf lb keyV S Sp N X.φ) (w0 : World) (hX : X.ok w0) :
    NewC Try.prog 99 [.func (.func gf) #[] lb] w0 (fun y : { y : Value × List ByteArray // S y.2 } => y.1.1) (fun y => strA y.1.1 y.1.2) := by
  refine c_enter [(0, .func (.func gf) #[] lb)] [X] noB Try.func99 rfl Try.ntmps99 ⟨rfl, trivial⟩ rfl (okC (hX) okN) dis1 (mineC hXm mineN) ?_
  intro a hS
  refine c_seq ?_
  refine c_region ?_
  refine L_op (s_e hS (e_assign rfl) rfl ?_); clear hS a; intro a hS
  refine L_nil ?_
  refine n_then ?_
  refine c_seq ?_
  refine c_region ?_
  refine L_op (s_e hS (e_move rfl) rfl ?_); clear hS a; intro a hS
  refine L_op (s_callN hS (.cons rfl (.cons rfl .nil)) cf115 rfl (AppendSeq_P eg hN X hXm hseq _ (hS.ok X (by repeat constructor))) ?_); clear hS a; (try clear w); intro x4 a w hS
  refine L_op (s_e hS (e_assign rfl) rfl ?_); clear hS a; intro a hS
  refine L_nil ?_
  refine n_then ?_
  refine wp_ret ?_
  refine c_ret1 hS Try.results99 (.tmp rfl) ?_
  exact ⟨x4, rfl, hS.chg, hS.new (X := strA x4.1.1 x4.1.2) (by repeat constructor) rfl⟩
set_option maxRecDepth 100000 in
/-- slices.Sorted over an iterator of texts. -/
theorem SortedS_P {gf : Nat} {lb : Array Value} (eg : CallsTo Try.prog gf) {S Sp : List ByteArray → Prop} {N : Nat} (hN : N ≤ 1000000) (hSN : ∀ xs, S xs → xs.length ≤ N) (X : Asn) (hXm : X.mine = false) (hseq : SeqD Try.prog gf lb keyV S Sp N X.φ) (w0 : World) (hX : X.ok w0) :
    NewC Try.prog 72 [.func (.func gf) #[] lb] w0 (fun y : { y : Value × List ByteArray // ∃ xs, S xs ∧ y.2 = srt xs } => y.1.1) (fun y => strA y.1.1 y.1.2) := by
  refine c_enter [(0, .func (.func gf) #[] lb)] [X] noB Try.func72 rfl Try.ntmps72 ⟨rfl, trivial⟩ rfl (okC (hX) okN) dis1 (mineC hXm mineN) ?_
  intro a hS
  refine c_seq ?_
  refine c_region ?_
  refine L_op (s_e hS (e_assign rfl) rfl ?_); clear hS a; intro a hS
  refine L_nil ?_
  refine n_then ?_
  refine c_seq ?_
  refine c_region ?_
  refine L_op (s_e hS (e_move rfl) rfl ?_); clear hS a; intro a hS
  refine L_op (s_callN hS (.cons rfl .nil) cf99 rfl (CollectS_P eg hN X hXm hseq _ (hS.ok X (by repeat constructor))) ?_); clear hS a; (try clear w); intro x5 a w hS
  obtain ⟨⟨v5, xs5⟩, hs5⟩ := x5
  simp only at hs5 hS
  have hn5 := hSN _ hs5
  refine L_op (s_e hS (e_assign rfl) rfl ?_); clear hS a; intro a hS
  refine L_nil ?_
  refine n_then ?_
  refine c_seq ?_
  refine c_region ?_
  refine L_op (s_e hS (e_move rfl) rfl ?_); clear hS a; intro a hS
  refine L_op (s_callM hS (.cons rfl .nil) cf100 rfl (SortS_P v5 xs5 (by omega) _ (hS.get (X := strA v5 xs5) (by repeat constructor))) (fun x => (by repeat constructor)) rfl ?_); clear hS a; (try clear w); intro x7 a w hS
  refine L_nil ?_
  refine n_then ?_
  refine c_seq ?_
  refine c_region ?_
  refine L_op (s_e hS (e_move rfl) rfl ?_); clear hS a; intro a hS
  refine L_op (s_e hS (e_assign rfl) rfl ?_); clear hS a; intro a hS
  refine L_nil ?_
  refine n_then ?_
  refine wp_ret ?_
  refine c_ret1 hS Try.results72 (.tmp rfl) ?_
  exact ⟨⟨(v5, srt xs5), xs5, hs5, rfl⟩, rfl, hS.chg, hS.new (X := strA v5 (srt xs5)) (by repeat constructor) rfl⟩
end Go.Proofs.Ytheofhegdjjfgaa
