/- slices.AppendSeq, Collect and Sorted over an iterator that yields texts, walked. -/
import Derived.Test.YtheofhegdjjfgaaKey1
import Derived.Test.YtheofhegdjjfgaaSe12
import Derived.Test.YtheofhegdjjfgaaShelf
namespace Go.Proofs.Ytheofhegdjjfgaa
open Go.RowKit

def strA (v : Value) (xs : List ByteArray) : Asn := ownA 9 1 v xs.length (xs.map .string)
theorem owns_keepK {w w' : World} {E s : Nat} {v : Value} {m : Nat} {xs : List Value} (h : w.ownsRow 0 E s v m xs) (hw : ∀ b, v.ownBlock = some b → w'.heap[b]? = w.heap[b]?) : w'.ownsRow 0 E s v m xs :=
  (ok_own h).hold w' hw
/-- what holds between two rounds. -/
structure apI (w0 : World) (bx hi : Nat) (xs : List ByteArray) (W : World) : Prop where
  chg : Chg noB w0 W
  row : ∃ v, W.heap[bx]? = some (.cells [v].toArray 142 (0, 0)) ∧ W.ownsRow 0 9 1 v xs.length (xs.map .string) ∧ ∀ k, v.ownBlock = some k → hi ≤ k
theorem apI_ab {w0 : World} {bx B hi : Nat} (hB : w0.heap.size ≤ B) (h2 : bx < B) : AbR B hi (apI w0 bx hi) := fun _ _ _ h e1 e2 e3 e4 e5 => by
  obtain ⟨v, q1, q2, q3⟩ := h.row
  have hs := h.chg.size
  refine ⟨⟨e1.trans h.chg.os, e2.trans h.chg.tape, e3.trans h.chg.output, Nat.le_trans hs e4, fun k hk hn => (e5 k (by omega) (.inl (by omega))).trans (h.chg.block k hk hn)⟩, v, ?_, ?_, q3⟩
  · exact (e5 bx (Array.getElem?_eq_some_iff.1 q1).1 (.inl h2)).trans q1
  · exact owns_keepK q2 (fun k hk => e5 k (World.ownsRow.lt q2 k hk).2 (.inr (q3 k hk)))
theorem chg_roundK {w0 W W1 W2 W3 : World} {B : Nat} {F : Nat → Prop} (h : Chg noB w0 W) (hB : w0.heap.size ≤ B) (h1 : Chg noB W W1) (hT : Turn (B + 1) W1 W2) (h3 : Chg F W2 W3) (hF : ∀ k, F k → w0.heap.size ≤ k) : Chg noB w0 W3 := by
  refine ⟨h3.os.trans (hT.os.trans (h1.os.trans h.os)), h3.tape.trans (hT.tape.trans (h1.tape.trans h.tape)), h3.output.trans (hT.output.trans (h1.output.trans h.output)), ?_, fun k hk _ => ?_⟩
  · have := h.size; have := h1.size; have := hT.size; have := h3.size; omega
  · have e1 := h.block k hk (fun hf => hf)
    have e2 := h1.block k (by have := h.size; omega) (fun hf => hf)
    have e3 := hT.same k (by omega)
    have e4 := h3.block k (by have := h.size; have := h1.size; have := hT.size; omega) (fun hf => by have := hF k hf; omega)
    exact e4.trans (e3.trans (e2.trans e1))

set_option maxRecDepth 100000 in
theorem AppendSeq_P {gf : Nat} {lb : Array Value} (eg : CallsTo Try.prog gf) {S Sp : List ByteArray → Prop} {N : Nat} (hN : N ≤ 1000000) (X : Asn) (hXm : X.mine = false) (hseq : SeqD Try.prog gf lb keyV S Sp N X.φ) (w0 : World) (hX : X.ok w0) :
    NewC Try.prog 115 [.slice none 0 0, .func (.func gf) #[] lb] w0 (fun y : { y : Value × List ByteArray // S y.2 } => y.1.1) (fun y => strA y.1.1 y.1.2) := by
  refine callsM_enter [(0, .slice none 0 0), (1, .func (.func gf) #[] lb)] [X] noB Try.func115 rfl Try.ntmps115 ⟨rfl, rfl, trivial⟩ rfl (okC (hX) okN) dis1 (mineC hXm mineN) ?_
  intro a hS
  refine R_seq ?_
  refine R_region ?_
  refine R_op rfl (s_box1 hS rfl rfl rfl ?_); clear hS a; (try clear w); intro a w b2 hS
  refine R_op rfl (s_e hS (e_assign rfl) rfl ?_); clear hS a; intro a hS
  refine R_nil ?_
  refine n_then ?_
  refine R_seq ?_
  refine R_seq ?_
  refine R_region ?_
  refine R_op rfl (s_e hS (e_move rfl) rfl ?_); clear hS a; intro a hS
  refine R_nil ?_
  refine n_then ?_
  refine R_block ?_
  obtain ⟨B, hB⟩ : ∃ B, w.heap.size = B := ⟨_, rfl⟩
  have g2 := hS.get (X := .blk b2 [.slice none 0 0] 142) (by repeat constructor)
  have l2 : b2 < B := by rw [← hB]; exact (Array.getElem?_eq_some_iff.1 g2).1
  have m2 : w0.heap.size ≤ b2 := (hS.mine (.blk b2 [.slice none 0 0] 142) (by repeat constructor) rfl b2 rfl).resolve_right (fun h => h)
  have hB0 : w0.heap.size ≤ B := by rw [← hB]; exact hS.chg.size
  refine rangeFunc_D2 (α := ByteArray) hB (hS.sl.ev rfl) eg hseq (fun _ => rfl) (apI w0 b2) (fun _ _ _ _ => False) (fun hi hh => apI_ab hB0 l2) (fun _ _ _ _ _ _ h => h.elim)
    (fun hi pre W h => hX.hold W (fun b hb => h.chg.block b (hX.lt b hb) (fun e => e))) (fun hi hh => ⟨hS.chg, .slice none 0 0, g2, World.ownsRow_nil _ _ _ _, fun k hk => (by cases hk)⟩) ?_ ?_ ?_
  · intro hi l pre x W hh hhW hI hlen
    obtain ⟨v, q1, q2, q3⟩ := hI.row
    have hR : St 13 noB W (a.put (some 7) (.string x)) W [(7, .string x), (2, .pointer (some ⟨b2, 0, none⟩))] [] :=
      ⟨(hS.sl.put rfl _).sub (by repeat (first | exact trivial | refine ⟨rfl, ?_⟩)), Chg.refl _ _, okN, disN, mineN⟩
    have hact : ({ tmps := (#[7].zip (keyV x)).foldl (fun t (p, v) => t.setIfInBounds p v) a.tmps, defers := [] } : Act) = a.put (some 7) (.string x) := by
      simp [Act.put, hS.sl.defers, keyV]
    rw [hact]
    clear hS hact g2 hB
    generalize a.put (some 7) (.string x) = a2 at hR ⊢
    clear a; rename Act => a
    clear w
    have hS := hR
    clear hR
    refine R_region ?_
    refine R_op rfl (s_e hS (e_assign rfl) rfl ?_); clear hS a; intro a hS
    refine R_nil ?_
    refine n_then ?_
    have hCW := hS.chg
    have hC1 := hCW.size
    refine ⟨⟨hC1, fun k h1 h2 => hCW.block k (by omega) (fun h => h)⟩, fun W2 hT => ?_⟩
    have hT1 := hT.size
    have hlow : ∀ k, k < W.heap.size → (k < B ∨ hi ≤ k) → W2.heap[k]? = W.heap[k]? := fun k hk hk2 => (hT.same k (by omega)).trans (hCW.block k hk (fun h => h))
    have hR : St 13 (fun k => k = b2 ∨ v.ownBlock = some k) W2 a W2 [(5, .string x), (2, .pointer (some ⟨b2, 0, none⟩))] [.blk b2 [v] 142, ownA 9 1 v pre.length (pre.map .string)] :=
      ⟨hS.sl.sub (by repeat (first | exact trivial | refine ⟨rfl, ?_⟩)), Chg.refl _ _, okC (ok_blk ((hlow b2 (by omega) (.inl l2)).trans q1)) (okC (ok_own (owns_keepK q2 (fun k hk => hlow k (World.ownsRow.lt q2 k hk).2 (.inr (q3 k hk))))) okN),
       disC (sepC (fun b h1 h2 => by have h1 : b = b2 := h1; have := q3 b h2; omega) sepN) dis1, mineO (fun b hb => .inl hb) (mineO (fun b hb => .inr hb) mineN)⟩
    clear hS
    have hS := hR
    clear hR
    refine R_block ?_
    refine R_region ?_
    refine R_op rfl (s_e hS (e_load rfl (by repeat constructor) ty_sc142 (by rfl)) rfl ?_); clear hS a; intro a hS
    refine R_op rfl (s_e hS (e_move rfl) rfl ?_); clear hS a; intro a hS
    refine R_op rfl (s_bslice hS ty_sl142 ty_sz9 ty_z9 rfl rfl rfl rfl (.one rfl rfl rfl .nil) rfl ?_); clear hS a; (try clear w); intro a w b10 hS
    refine R_op rfl (s_append1 hS rfl rfl ty_sl142 ty_sz9 ty_by9 ty_z9 rfl rfl rfl (by repeat constructor) (by repeat constructor) (by rfl) (by rfl) (fun _ => (by repeat constructor)) (by omega) ?_); clear hS a; (try clear w); intro v11 a w hv11 hS
    obtain ⟨q11, c11, rfl⟩ := own_slice (hS.get (X := ownA 9 1 v11 (pre.length + 1) (pre.map .string ++ [.string x])) (by repeat constructor))
    refine R_op rfl (s_store hS rfl rfl rfl ty_sz142 (by repeat constructor) (by repeat constructor) ?_); clear hS; (try clear w); intro w hS
    refine R_nil ?_
    refine n_block ?_
    have hC2 := hS.chg
    have hnew : ∀ k, (Value.slice q11 (pre.length + 1) c11).ownBlock = some k → hi ≤ k := fun k hk => by
      rcases hS.mine (ownA 9 1 (.slice q11 (pre.length + 1) c11) (pre.length + 1) (pre.map Value.string ++ [Value.string x])) (by repeat constructor) rfl k hk with h | h | h
      · omega
      · exact absurd h.symm (fun e => hS.sep (X := ownA 9 1 (.slice q11 (pre.length + 1) c11) (pre.length + 1) (pre.map Value.string ++ [Value.string x])) (Y := .blk b2 [(.slice q11 (pre.length + 1) c11)] 142) (by repeat (first | exact Rem.head | apply Rem.tail)) (by repeat constructor) k hk e.symm)
      · exact q3 k h
    have hrow : World.ownsRow w 0 9 1 (.slice q11 (pre.length + 1) c11) (pre.length + 1) (pre.map Value.string ++ [Value.string x]) := hS.get (X := ownA 9 1 (.slice q11 (pre.length + 1) c11) (pre.length + 1) (pre.map Value.string ++ [Value.string x])) (by repeat constructor)
    refine ⟨⟨hC2.size, fun k h1 h2 => hC2.block k (by omega) (fun h => h.elim (fun h => by omega) (fun h => by have := q3 k h; omega))⟩, ⟨chg_roundK hI.chg hB0 hCW hT hC2 (fun k h => h.elim (fun h => by omega) (fun h => by have := q3 k h; omega)), (.slice q11 (pre.length + 1) c11), hS.get (X := .blk b2 [(.slice q11 (pre.length + 1) c11)] 142) (by repeat constructor), by simpa using hrow, hnew⟩⟩
  · intro hi D xs W hh hBD hDh hxs hI hDc
    obtain ⟨v, q1, q2, q3⟩ := hI.row
    have hd : St 13 noB w0 a W [(2, .pointer (some ⟨b2, 0, none⟩))] [.blk b2 [v] 142, strA v xs] :=
      ⟨hS.sl.sub (by repeat (first | exact trivial | refine ⟨rfl, ?_⟩)), hI.chg, okC (ok_blk q1) (okC (ok_own q2) okN), disC (sepC (fun b h1 h2 => by have h1 : b = b2 := h1; have := q3 b h2; omega) sepN) dis1, fun X hX _ k hk => .inl (by
        rcases List.mem_cons.1 hX with rfl | hX
        · have : k = b2 := hk; omega
        · obtain rfl := List.mem_singleton.1 hX; have := q3 k hk; omega)⟩
    clear hS
    refine n_block ?_
    refine n_then ?_
    refine R_seq ?_
    refine R_region ?_
    obtain ⟨p1, c1, rfl⟩ := own_slice q2
    rw [hd.sl.defers]
    refine R_op rfl (s_eD hd (e_loadC rfl ty_sc142 (fun w hh => cell_of_blk (cs := [.slice p1 xs.length c1]) (hh (.blk b2 [.slice p1 xs.length c1] 142) (by repeat constructor)) rfl)) rfl ?_); clear hd a; intro a hd
    refine R_op rfl (s_eD hd (e_assign rfl) rfl ?_); clear hd a; intro a hd
    refine R_nil ?_
    refine n_then ?_
    refine R_ret ?_
    have hd3 := hd.putD (D := D) (o := .deferred none) (by omega) (fun X hX k hk => by
      rcases List.mem_cons.1 hX with rfl | hX
      · have : k = b2 := hk; omega
      · obtain rfl := List.mem_singleton.1 hX; have := q3 k hk; omega)
    exact end1 hd3 (.inl rfl) hDc Try.results115 (.cons (.tmp rfl) .nil) ⟨⟨(.slice p1 xs.length c1, xs), hxs⟩, rfl, hd3.chg, hd3.new (X := strA (.slice p1 xs.length c1) xs) (by repeat constructor) rfl⟩
  · intro hi D c pre W _ _ _ _ hF; exact hF.elim
end Go.Proofs.Ytheofhegdjjfgaa
