/- PoolLazy: for every argument the law returns true, and each argument reads afterwards as it read before. No conditions. (text 2 of 2) -/
import Derived.Test.YtjmkjkhcognoeaaGreatDoorLLzC1
import Derived.Test.YtjmkjkhcognoeaaGreatDoorProg
import Derived.KernelRfl
import Derived.Laws.LoneSync
import Derived.Handed
import Derived.SizedLaws
import Derived.Shelf.Vars
import Derived.ProofKit
import Derived.OpenShut
import Derived.ShutString
import Derived.ChangeOld
import Derived.Below
import Derived.Lib.SmallJoins
import Derived.LaidMore
import Derived.Lay
import Derived.SevenTiedAt
import Derived.Stop.Joined
import Derived.Test.YtjmkjkhcognoeaaGreatDoorTie
import Derived.Test.YtjmkjkhcognoeaaGreatDoorCards
namespace Go.Proofs.YtjmkjkhcognoeaaGreatDoor
open Go.RowKit

def hreq : List Int := [71, 69, 84, 32, 47, 104, 101, 97, 108, 116, 104, 32, 72, 84, 84, 80, 47, 49, 46, 49, 13, 10, 13, 10]
def it0 (g : Nat) : Int × Value := (22, .slice (tailP (some ⟨g, 0, none⟩) 0 24 1) 20 24)
def it1 (g : Nat) : Int × Value := (24, .slice (tailP (some ⟨g, 0, none⟩) 22 24 1) 0 2)
theorem items_req (g : Nat) : itemsW (some ⟨g, 0, none⟩) 24 hreq 0 = [it0 g, it1 g] := by
  have e0 : lineF (hreq.drop 0) = (20, 0) := by decide +kernel
  have e1 : lineF (hreq.drop 22) = (0, 0) := by decide +kernel
  have e2 : lineF (hreq.drop 24) = (-1, 0) := by decide +kernel
  rw [items_go (by rw [e0]; decide), e0]
  show _ :: itemsW (some ⟨g, 0, none⟩) 24 hreq 22 = _
  rw [items_go (by rw [e1]; decide), e1]
  show _ :: _ :: itemsW (some ⟨g, 0, none⟩) 24 hreq 24 = _
  rw [items_end (by rw [e2]; decide), e2]
  rfl
theorem byF_is {g off m c k : Nat} {l : List Int} (h : byF (.slice (some ⟨g, off, none⟩) m c) l k) : k = g := by
  obtain ⟨_, o, m', c', e⟩ := h
  injection e with e1; injection e1 with e2; injection e2 with e3; exact e3.symm
theorem str0 : strOfNums ((hreq.take 20).drop 0) = sReq := by decide +kernel
theorem str1 : strOfNums ((hreq.take 22).drop 22) = sNo := by decide +kernel

/-- what a round only reads. -/
structure roφ (g b1 b6 b12 : Nat) (m : Int) (w : World) : Prop where
  h1 : w.heap[b1]? = some (.cells [Value.slice (some ⟨g, 0, none⟩) 24 24].toArray 22 (0, 0))
  h6 : w.heap[b6]? = some (.cells [Value.pointer (some ⟨b12, 0, none⟩)].toArray 93 (0, 0))
  by_ : ByAt (.slice (some ⟨g, 0, none⟩) 24 24) hreq w
  cm : w.cell? ⟨1, 0, none⟩ = some (.int .i64 m)
def roF (g b1 b6 : Nat) (k : Nat) : Prop := k = b1 ∨ k = b6 ∨ k = g ∨ k = 1
def roK (g b1 b6 b12 : Nat) (m : Int) : Asn := .any (roF g b1 b6) (roφ g b1 b6 b12 m) false
theorem by_in {g : Nat} {l : List Int} {w : World} (hne : l ≠ []) (h : ByAt (.slice (some ⟨g, 0, none⟩) 24 24) l w) : g < w.heap.size := h.lt g ⟨hne, 0, 24, 24, rfl⟩
theorem ro_ok {g b1 b6 b12 : Nat} {m : Int} {w : World} (h : roφ g b1 b6 b12 m w) : (roK g b1 b6 b12 m).ok w := by
  refine ⟨fun k hk => ?_, fun w' hw => ⟨?_, ?_, h.by_.keep fun k hk => hw k (.inr (.inr (.inl (byF_is hk)))), ?_⟩⟩
  · rcases hk with rfl | rfl | rfl | rfl
    · exact (Array.getElem?_eq_some_iff.1 h.h1).1
    · exact (Array.getElem?_eq_some_iff.1 h.h6).1
    · exact by_in (by decide) h.by_
    · exact (ce_ok h.cm).lt _ rfl
  · rw [hw b1 (.inl rfl)]; exact h.h1
  · rw [hw b6 (.inr (.inl rfl))]; exact h.h6
  · exact (ce_ok h.cm).hold w' (fun k hk => by obtain rfl : k = 1 := hk; exact hw _ (.inr (.inr (.inr rfl))))

/-- what holds between two rounds. -/
structure prI (w0 : World) (g x14 b1 b2 b3 b4 b5 b6 b10 b12 : Nat) (m : Int) (hi : Nat) (pre : List (Int × Value)) (W : World) : Prop where
  chg : Chg noB w0 W
  k : linesK x14 (.slice (some ⟨g, 0, none⟩) 24 24) hreq W
  ro : roφ g b1 b6 b12 m W
  h2 : W.heap[b2]? = some (.cells [Value.string ⟨#[]⟩, .string ⟨#[]⟩, .slice none 0 0, .bool false].toArray 35 (0, 0))
  h3 : W.heap[b3]? = some (.cells [Value.int .i64 0].toArray 3 (0, 0))
  h4 : W.heap[b4]? = some (.cells [Value.bool false].toArray 4 (0, 0))
  h5 : W.heap[b5]? = some (.cells [Value.int .i64 0].toArray 25 (0, 0))
  rd : (pre = [] ∧ W.heap[b12]? = some (.cells (rdC sNo sNo (.slice none 0 0) false 0 0 b10 false).toArray 96 (0, 0))) ∨ (pre = [it0 g] ∧ W.heap[b12]? = some (.cells (rdC sGet sHealth (.slice none 0 0) false 1 0 b10 false).toArray 96 (0, 0)))
structure prX (w0 : World) (b2 b3 b4 b5 : Nat) (hi : Nat) (c : Code) (pre : List (Int × Value)) (W : World) : Prop where
  chg : Chg noB w0 W
  ret : c = .ret
  got : ∃ x : Option Addr × Nat, W.heap[b2]? = some (.cells [Value.string sGet, .string sHealth, .slice x.1 0 x.2, .bool false].toArray 35 (0, 0)) ∧ W.heap[b3]? = some (.cells [Value.int .i64 24].toArray 3 (0, 0)) ∧ W.heap[b4]? = some (.cells [Value.bool true].toArray 4 (0, 0)) ∧ W.heap[b5]? = some (.cells [Value.int .i64 0].toArray 25 (0, 0))
theorem chg_low {w0 W W' : World} {B hi : Nat} (h : Chg noB w0 W) (hB : w0.heap.size ≤ B) (e1 : W'.os = W.os) (e2 : W'.tape = W.tape) (e3 : W'.output = W.output) (e4 : W.heap.size ≤ W'.heap.size) (e5 : ∀ k, k < W.heap.size → (k < B ∨ hi ≤ k) → W'.heap[k]? = W.heap[k]?) : Chg noB w0 W' :=
  ⟨e1.trans h.os, e2.trans h.tape, e3.trans h.output, Nat.le_trans h.size e4, fun k hk hn => (e5 k (by have := h.size; omega) (.inl (by omega))).trans (h.block k hk hn)⟩
theorem prI_ab {w0 : World} {g x14 b1 b2 b3 b4 b5 b6 b10 b12 : Nat} {m : Int} {B hi : Nat} (hB : w0.heap.size ≤ B) (lx : x14 < B) (l1 : b1 < B) (l2 : b2 < B) (l3 : b3 < B) (l4 : b4 < B) (l5 : b5 < B) (l6 : b6 < B) (l12 : b12 < B) (lg : g < B) (lm : 1 < B) : AbR B hi (prI w0 g x14 b1 b2 b3 b4 b5 b6 b10 b12 m hi) := fun _ W W' h e1 e2 e3 e4 e5 => by
  have low : ∀ {k : Nat} {o : Obj}, k < B → W.heap[k]? = some o → W'.heap[k]? = some o := fun hk ho => (e5 _ (Array.getElem?_eq_some_iff.1 ho).1 (.inl hk)).trans ho
  have hby : ByAt (.slice (some ⟨g, 0, none⟩) 24 24) hreq W' := h.ro.by_.keep fun k hk => by obtain rfl := byF_is hk; exact e5 _ (by_in (by decide) h.ro.by_) (.inl lg)
  refine ⟨chg_low h.chg hB e1 e2 e3 e4 e5, ⟨low lx h.k.1, hby⟩, ⟨low l1 h.ro.h1, low l6 h.ro.h6, hby, ?_⟩, low l2 h.h2, low l3 h.h3, low l4 h.h4, low l5 h.h5, h.rd.imp (fun q => ⟨q.1, low l12 q.2⟩) (fun q => ⟨q.1, low l12 q.2⟩)⟩
  exact (ce_ok h.ro.cm).hold W' (fun k hk => by obtain rfl : k = 1 := hk; exact e5 _ ((ce_ok h.ro.cm).lt _ rfl) (.inl lm))
theorem prX_ab {w0 : World} {b2 b3 b4 b5 B hi : Nat} {c : Code} (hB : w0.heap.size ≤ B) (l2 : b2 < B) (l3 : b3 < B) (l4 : b4 < B) (l5 : b5 < B) : AbR B hi (prX w0 b2 b3 b4 b5 hi c) := fun _ W W' h e1 e2 e3 e4 e5 => by
  have low : ∀ {k : Nat} {o : Obj}, k < B → W.heap[k]? = some o → W'.heap[k]? = some o := fun hk ho => (e5 _ (Array.getElem?_eq_some_iff.1 ho).1 (.inl hk)).trans ho
  obtain ⟨x, q2, q3, q4, q5⟩ := h.got
  exact ⟨chg_low h.chg hB e1 e2 e3 e4 e5, h.ret, x, low l2 q2, low l3 q3, low l4 q4, low l5 q5⟩
theorem chg_turn {w0 W W1 W2 W3 : World} {B : Nat} {F : Nat → Prop} (h : Chg noB w0 W) (hB : w0.heap.size ≤ B) (h1 : Chg noB W W1) (hT : Turn (B + 1) W1 W2) (h3 : Chg F W2 W3) (hF : ∀ k, F k → w0.heap.size ≤ k) : Chg noB w0 W3 := by
  refine ⟨h3.os.trans (hT.os.trans (h1.os.trans h.os)), h3.tape.trans (hT.tape.trans (h1.tape.trans h.tape)), h3.output.trans (hT.output.trans (h1.output.trans h.output)), ?_, fun k hk _ => ?_⟩
  · have := h.size; have := h1.size; have := hT.size; have := h3.size; omega
  · have e1 := h.block k hk (fun hf => hf)
    have e2 := h1.block k (by have := h.size; omega) (fun hf => hf)
    have e3 := hT.same k (by omega)
    have e4 := h3.block k (by have := h.size; have := h1.size; have := hT.size; omega) (fun hf => by have := hF k hf; omega)
    exact e4.trans (e3.trans (e2.trans e1))

/-- what a round's line is and makes. -/
structure rnd (g b12 b10 : Nat) (m : Int) (pre : List (Int × Value)) (x : Int × Value) (cs0 cs1 : List Value) (ls : List Int) (s : ByteArray) (ov : Bool) : Prop where
  pos : 0 ≤ x.1
  str : strOfNums ls = s
  at_ : ∀ w, ByAt (.slice (some ⟨g, 0, none⟩) 24 24) hreq w → ByAt x.2 ls w
  rl : ∀ w, (Asn.blk b12 cs0 96).φ w → w.cell? ⟨1, 0, none⟩ = some (.int .i64 m) → b12 ≠ 1 → MutC Tryz.prog 39 [.pointer (some ⟨b12, 0, none⟩), .string s] w (.blk b12 cs0 96) (fun _ : Unit => .int .i64 0) (fun _ => .blk b12 cs1 96)
  over : nth cs1 7 = some (.bool ov)
  yes : ov = true → x.1 = 24 ∧ cs1 = rdC sGet sHealth (.slice none 0 0) false 2 0 b10 true
  no : ov = false → pre ++ [x] = [it0 g] ∧ cs1 = rdC sGet sHealth (.slice none 0 0) false 1 0 b10 false
theorem rnd0 (g b12 b10 : Nat) (m : Int) : rnd g b12 b10 m [] (it0 g) (rdC sNo sNo (.slice none 0 0) false 0 0 b10 false) (rdC sGet sHealth (.slice none 0 0) false 1 0 b10 false) ((hreq.take 20).drop 0) sReq false :=
  ⟨Int.natCast_nonneg _, str0, fun _ h => h.piece (j := 0) (k := 20) (by decide) (by decide), fun w h hm hd => RLine1 b12 b10 m w h hm hd, rfl, fun h => (by cases h), fun _ => ⟨rfl, rfl⟩⟩
theorem rnd1 (g b12 b10 : Nat) (m : Int) : rnd g b12 b10 m [it0 g] (it1 g) (rdC sGet sHealth (.slice none 0 0) false 1 0 b10 false) (rdC sGet sHealth (.slice none 0 0) false 2 0 b10 true) ((hreq.take 22).drop 22) sNo true :=
  ⟨Int.natCast_nonneg _, str1, fun _ h => h.piece (j := 22) (k := 22) (by decide) (by decide), fun w h _ _ => RLine2 b12 b10 sGet sHealth w h, rfl, fun _ => ⟨rfl, rfl⟩, fun h => by cases h⟩

structure prN (g x14 b1 b2 b3 b4 b5 b6 b12 : Nat) : Prop where
  n12_2 : b12 ≠ b2
  n12_3 : b12 ≠ b3
  n12_4 : b12 ≠ b4
  n12_5 : b12 ≠ b5
  n2_3 : b2 ≠ b3
  n2_4 : b2 ≠ b4
  n2_5 : b2 ≠ b5
  n3_4 : b3 ≠ b4
  n3_5 : b3 ≠ b5
  n4_5 : b4 ≠ b5
  n1_12 : b1 ≠ b12
  n6_12 : b6 ≠ b12
  nx_12 : x14 ≠ b12
  ng_12 : g ≠ b12
  nc_12 : 1 ≠ b12
  n1_2 : b1 ≠ b2
  n6_2 : b6 ≠ b2
  nx_2 : x14 ≠ b2
  ng_2 : g ≠ b2
  nc_2 : 1 ≠ b2
  n1_3 : b1 ≠ b3
  n6_3 : b6 ≠ b3
  nx_3 : x14 ≠ b3
  ng_3 : g ≠ b3
  nc_3 : 1 ≠ b3
  n1_4 : b1 ≠ b4
  n6_4 : b6 ≠ b4
  nx_4 : x14 ≠ b4
  ng_4 : g ≠ b4
  nc_4 : 1 ≠ b4
  n1_5 : b1 ≠ b5
  n6_5 : b6 ≠ b5
  nx_5 : x14 ≠ b5
  ng_5 : g ≠ b5
  nc_5 : 1 ≠ b5

theorem four_mine {w0 : World} {F0 : Nat → Prop} {b2 b3 b4 b5 E2 E3 E4 E5 : Nat} {l2 l3 l4 l5 : List Value} (m2 : w0.heap.size ≤ b2) (m3 : w0.heap.size ≤ b3) (m4 : w0.heap.size ≤ b4) (m5 : w0.heap.size ≤ b5) : ∀ X ∈ [Asn.blk b2 l2 E2, Asn.blk b3 l3 E3, Asn.blk b4 l4 E4, Asn.blk b5 l5 E5], X.mine = true → ∀ k, X.F k → w0.heap.size ≤ k ∨ F0 k := fun X hX _ k hk => .inl (by
  rcases List.mem_cons.1 hX with rfl | hX
  · have : k = b2 := hk; omega
  rcases List.mem_cons.1 hX with rfl | hX
  · have : k = b3 := hk; omega
  rcases List.mem_cons.1 hX with rfl | hX
  · have : k = b4 := hk; omega
  obtain rfl := List.mem_singleton.1 hX
  have : k = b5 := hk
  omega)
theorem four_ne {D b2 b3 b4 b5 E2 E3 E4 E5 : Nat} {l2 l3 l4 l5 : List Value} (m2 : b2 < D) (m3 : b3 < D) (m4 : b4 < D) (m5 : b5 < D) : ∀ X ∈ [Asn.blk b2 l2 E2, Asn.blk b3 l3 E3, Asn.blk b4 l4 E4, Asn.blk b5 l5 E5], ∀ k, X.F k → k ≠ D := fun X hX k hk => by
  rcases List.mem_cons.1 hX with rfl | hX
  · have : k = b2 := hk; omega
  rcases List.mem_cons.1 hX with rfl | hX
  · have : k = b3 := hk; omega
  rcases List.mem_cons.1 hX with rfl | hX
  · have : k = b4 := hk; omega
  obtain rfl := List.mem_singleton.1 hX
  have : k = b5 := hk
  omega

set_option maxHeartbeats 1000000 in
set_option maxRecDepth 100000 in
theorem Parse_req (g : Nat) (m : Int) (w0 : World) (h : ByAt (.slice (some ⟨g, 0, none⟩) 24 24) hreq w0) (hm : w0.cell? ⟨1, 0, none⟩ = some (.int .i64 m)) (hd : g ≠ 1) :
    NewC Tryz.prog 22 [.slice (some ⟨g, 0, none⟩) 24 24] w0 (fun x : Option Addr × Nat => .tuple [.agg [.string sGet, .string sHealth, .slice x.1 0 x.2, .bool false].toArray, .int .i64 24, .bool true, .int .i64 0].toArray) (fun _ => none_) := by
  refine callsM_enter [(0, .slice (some ⟨g, 0, none⟩) 24 24)] [byA (.slice (some ⟨g, 0, none⟩) 24 24) hreq, ceA 1 0 (.int .i64 m)] noB Tryz.func22 rfl Tryz.ntmps22 ⟨rfl, trivial⟩ rfl (okC (by_ok h) (okC (ce_ok hm) okN)) (disC (sepC (fun b h1 h2 => hd ((byF_is h1).symm.trans h2)) sepN) dis1) (mineC (by rfl) (mineC (by rfl) mineN)) ?_
  intro a hS
  refine R_seq ?_
  refine R_region ?_
  refine R_op rfl (s_box1 hS rfl rfl rfl ?_); clear hS a; (try clear w); intro a w b1 hS
  refine R_op rfl (s_alloc hS ty_z35 rfl ?_); clear hS a; (try clear w); intro a w b2 hS
  refine R_op rfl (s_alloc hS ty_z3 rfl ?_); clear hS a; (try clear w); intro a w b3 hS
  refine R_op rfl (s_alloc hS ty_z4 rfl ?_); clear hS a; (try clear w); intro a w b4 hS
  refine R_op rfl (s_alloc hS ty_z25 rfl ?_); clear hS a; (try clear w); intro a w b5 hS
  refine R_nil ?_
  refine n_then ?_
  refine R_seq ?_
  refine R_region ?_
  refine R_op rfl (s_makeMapS hS rfl ?_); clear hS a; (try clear w); intro a w b10 hS
  refine R_op rfl (s_e hS (e_build ty_z96 ty_pl96 (.one rfl rfl rfl (by repeat constructor) .nil)) rfl ?_); clear hS a; intro a hS
  refine R_op rfl (s_boxA hS rfl rfl ?_); clear hS a; (try clear w); intro a w b12 hS
  refine R_op rfl (s_alloc hS ty_z93 rfl ?_); clear hS a; (try clear w); intro a w b6 hS
  refine R_op rfl (s_store hS rfl rfl rfl ty_sz93 (by repeat constructor) (by repeat constructor) ?_); clear hS; (try clear w); intro w hS
  refine R_nil ?_
  refine n_then ?_
  refine R_seq ?_
  refine R_seq ?_
  refine R_region ?_
  refine R_op rfl (s_e hS (e_load rfl (by repeat constructor) ty_sc22 (by rfl)) rfl ?_); clear hS a; intro a hS
  refine R_op rfl (s_callN hS (.cons rfl .nil) cf38 rfl (lines_P (.slice (some ⟨g, 0, none⟩) 24 24) rfl _) ?_); clear hS a; (try clear w); intro x14 a w hS
  refine R_nil ?_
  refine n_then ?_
  refine R_block ?_
  obtain ⟨B, hB⟩ : ∃ B, w.heap.size = B := ⟨_, rfl⟩
  have g12 := hS.get (X := .blk b12 (rdC sNo sNo (.slice none 0 0) false 0 0 b10 false) 96) (by repeat constructor)
  have g2 := hS.get (X := .blk b2 [.string ⟨#[]⟩, .string ⟨#[]⟩, .slice none 0 0, .bool false] 35) (by repeat constructor)
  have g3 := hS.get (X := .blk b3 [.int .i64 0] 3) (by repeat constructor)
  have g4 := hS.get (X := .blk b4 [.bool false] 4) (by repeat constructor)
  have g5 := hS.get (X := .blk b5 [.int .i64 0] 25) (by repeat constructor)
  have g1 := hS.get (X := .blk b1 [.slice (some ⟨g, 0, none⟩) 24 24] 22) (by repeat constructor)
  have g6 := hS.get (X := .blk b6 [.pointer (some ⟨b12, 0, none⟩)] 93) (by repeat constructor)
  have gx := hS.get (X := .blk x14 [.slice (some ⟨g, 0, none⟩) 24 24] 22) (by repeat constructor)
  have gby : ByAt (.slice (some ⟨g, 0, none⟩) 24 24) hreq w := hS.get (X := byA (.slice (some ⟨g, 0, none⟩) 24 24) hreq) (by repeat constructor)
  have gcm : w.cell? ⟨1, 0, none⟩ = some (.int .i64 m) := hS.get (X := ceA 1 0 (.int .i64 m)) (by repeat constructor)
  have l12 : b12 < B := by rw [← hB]; exact (Array.getElem?_eq_some_iff.1 g12).1
  have m12 : w0.heap.size ≤ b12 := (hS.mine (.blk b12 (rdC sNo sNo (.slice none 0 0) false 0 0 b10 false) 96) (by repeat constructor) rfl b12 rfl).resolve_right (fun h => h)
  have l2 : b2 < B := by rw [← hB]; exact (Array.getElem?_eq_some_iff.1 g2).1
  have m2 : w0.heap.size ≤ b2 := (hS.mine (.blk b2 [.string ⟨#[]⟩, .string ⟨#[]⟩, .slice none 0 0, .bool false] 35) (by repeat constructor) rfl b2 rfl).resolve_right (fun h => h)
  have l3 : b3 < B := by rw [← hB]; exact (Array.getElem?_eq_some_iff.1 g3).1
  have m3 : w0.heap.size ≤ b3 := (hS.mine (.blk b3 [.int .i64 0] 3) (by repeat constructor) rfl b3 rfl).resolve_right (fun h => h)
  have l4 : b4 < B := by rw [← hB]; exact (Array.getElem?_eq_some_iff.1 g4).1
  have m4 : w0.heap.size ≤ b4 := (hS.mine (.blk b4 [.bool false] 4) (by repeat constructor) rfl b4 rfl).resolve_right (fun h => h)
  have l5 : b5 < B := by rw [← hB]; exact (Array.getElem?_eq_some_iff.1 g5).1
  have m5 : w0.heap.size ≤ b5 := (hS.mine (.blk b5 [.int .i64 0] 25) (by repeat constructor) rfl b5 rfl).resolve_right (fun h => h)
  have l1 : b1 < B := by rw [← hB]; exact (Array.getElem?_eq_some_iff.1 g1).1
  have m1 : w0.heap.size ≤ b1 := (hS.mine (.blk b1 [.slice (some ⟨g, 0, none⟩) 24 24] 22) (by repeat constructor) rfl b1 rfl).resolve_right (fun h => h)
  have l6 : b6 < B := by rw [← hB]; exact (Array.getElem?_eq_some_iff.1 g6).1
  have m6 : w0.heap.size ≤ b6 := (hS.mine (.blk b6 [.pointer (some ⟨b12, 0, none⟩)] 93) (by repeat constructor) rfl b6 rfl).resolve_right (fun h => h)
  have lx : x14 < B := by rw [← hB]; exact (Array.getElem?_eq_some_iff.1 gx).1
  have mx : w0.heap.size ≤ x14 := (hS.mine (.blk x14 [.slice (some ⟨g, 0, none⟩) 24 24] 22) (by repeat constructor) rfl x14 rfl).resolve_right (fun h => h)
  have hB0 : w0.heap.size ≤ B := by rw [← hB]; exact hS.chg.size
  have lg0 : g < w0.heap.size := by_in (by decide) h
  have lm0 : 1 < w0.heap.size := (ce_ok hm).lt _ rfl
  have hN : prN g x14 b1 b2 b3 b4 b5 b6 b12 := ⟨fun h => hS.sep (X := .blk b12 (rdC sNo sNo (.slice none 0 0) false 0 0 b10 false) 96) (Y := .blk b2 [.string ⟨#[]⟩, .string ⟨#[]⟩, .slice none 0 0, .bool false] 35) (by repeat (first | exact Rem.head | apply Rem.tail)) (by repeat constructor) b12 rfl h, fun h => hS.sep (X := .blk b12 (rdC sNo sNo (.slice none 0 0) false 0 0 b10 false) 96) (Y := .blk b3 [.int .i64 0] 3) (by repeat (first | exact Rem.head | apply Rem.tail)) (by repeat constructor) b12 rfl h, fun h => hS.sep (X := .blk b12 (rdC sNo sNo (.slice none 0 0) false 0 0 b10 false) 96) (Y := .blk b4 [.bool false] 4) (by repeat (first | exact Rem.head | apply Rem.tail)) (by repeat constructor) b12 rfl h, fun h => hS.sep (X := .blk b12 (rdC sNo sNo (.slice none 0 0) false 0 0 b10 false) 96) (Y := .blk b5 [.int .i64 0] 25) (by repeat (first | exact Rem.head | apply Rem.tail)) (by repeat constructor) b12 rfl h, fun h => hS.sep (X := .blk b2 [.string ⟨#[]⟩, .string ⟨#[]⟩, .slice none 0 0, .bool false] 35) (Y := .blk b3 [.int .i64 0] 3) (by repeat (first | exact Rem.head | apply Rem.tail)) (by repeat constructor) b2 rfl h, fun h => hS.sep (X := .blk b2 [.string ⟨#[]⟩, .string ⟨#[]⟩, .slice none 0 0, .bool false] 35) (Y := .blk b4 [.bool false] 4) (by repeat (first | exact Rem.head | apply Rem.tail)) (by repeat constructor) b2 rfl h, fun h => hS.sep (X := .blk b2 [.string ⟨#[]⟩, .string ⟨#[]⟩, .slice none 0 0, .bool false] 35) (Y := .blk b5 [.int .i64 0] 25) (by repeat (first | exact Rem.head | apply Rem.tail)) (by repeat constructor) b2 rfl h, fun h => hS.sep (X := .blk b3 [.int .i64 0] 3) (Y := .blk b4 [.bool false] 4) (by repeat (first | exact Rem.head | apply Rem.tail)) (by repeat constructor) b3 rfl h, fun h => hS.sep (X := .blk b3 [.int .i64 0] 3) (Y := .blk b5 [.int .i64 0] 25) (by repeat (first | exact Rem.head | apply Rem.tail)) (by repeat constructor) b3 rfl h, fun h => hS.sep (X := .blk b4 [.bool false] 4) (Y := .blk b5 [.int .i64 0] 25) (by repeat (first | exact Rem.head | apply Rem.tail)) (by repeat constructor) b4 rfl h, fun h => hS.sep (X := .blk b1 [.slice (some ⟨g, 0, none⟩) 24 24] 22) (Y := .blk b12 (rdC sNo sNo (.slice none 0 0) false 0 0 b10 false) 96) (by repeat (first | exact Rem.head | apply Rem.tail)) (by repeat constructor) b1 rfl h, fun h => hS.sep (X := .blk b6 [.pointer (some ⟨b12, 0, none⟩)] 93) (Y := .blk b12 (rdC sNo sNo (.slice none 0 0) false 0 0 b10 false) 96) (by repeat (first | exact Rem.head | apply Rem.tail)) (by repeat constructor) b6 rfl h, fun h => hS.sep (X := .blk x14 [.slice (some ⟨g, 0, none⟩) 24 24] 22) (Y := .blk b12 (rdC sNo sNo (.slice none 0 0) false 0 0 b10 false) 96) (by repeat (first | exact Rem.head | apply Rem.tail)) (by repeat constructor) x14 rfl h, Nat.ne_of_lt (Nat.lt_of_lt_of_le lg0 m12), Nat.ne_of_lt (Nat.lt_of_lt_of_le lm0 m12), fun h => hS.sep (X := .blk b1 [.slice (some ⟨g, 0, none⟩) 24 24] 22) (Y := .blk b2 [.string ⟨#[]⟩, .string ⟨#[]⟩, .slice none 0 0, .bool false] 35) (by repeat (first | exact Rem.head | apply Rem.tail)) (by repeat constructor) b1 rfl h, fun h => hS.sep (X := .blk b6 [.pointer (some ⟨b12, 0, none⟩)] 93) (Y := .blk b2 [.string ⟨#[]⟩, .string ⟨#[]⟩, .slice none 0 0, .bool false] 35) (by repeat (first | exact Rem.head | apply Rem.tail)) (by repeat constructor) b6 rfl h, fun h => hS.sep (X := .blk x14 [.slice (some ⟨g, 0, none⟩) 24 24] 22) (Y := .blk b2 [.string ⟨#[]⟩, .string ⟨#[]⟩, .slice none 0 0, .bool false] 35) (by repeat (first | exact Rem.head | apply Rem.tail)) (by repeat constructor) x14 rfl h, Nat.ne_of_lt (Nat.lt_of_lt_of_le lg0 m2), Nat.ne_of_lt (Nat.lt_of_lt_of_le lm0 m2), fun h => hS.sep (X := .blk b1 [.slice (some ⟨g, 0, none⟩) 24 24] 22) (Y := .blk b3 [.int .i64 0] 3) (by repeat (first | exact Rem.head | apply Rem.tail)) (by repeat constructor) b1 rfl h, fun h => hS.sep (X := .blk b6 [.pointer (some ⟨b12, 0, none⟩)] 93) (Y := .blk b3 [.int .i64 0] 3) (by repeat (first | exact Rem.head | apply Rem.tail)) (by repeat constructor) b6 rfl h, fun h => hS.sep (X := .blk x14 [.slice (some ⟨g, 0, none⟩) 24 24] 22) (Y := .blk b3 [.int .i64 0] 3) (by repeat (first | exact Rem.head | apply Rem.tail)) (by repeat constructor) x14 rfl h, Nat.ne_of_lt (Nat.lt_of_lt_of_le lg0 m3), Nat.ne_of_lt (Nat.lt_of_lt_of_le lm0 m3), fun h => hS.sep (X := .blk b1 [.slice (some ⟨g, 0, none⟩) 24 24] 22) (Y := .blk b4 [.bool false] 4) (by repeat (first | exact Rem.head | apply Rem.tail)) (by repeat constructor) b1 rfl h, fun h => hS.sep (X := .blk b6 [.pointer (some ⟨b12, 0, none⟩)] 93) (Y := .blk b4 [.bool false] 4) (by repeat (first | exact Rem.head | apply Rem.tail)) (by repeat constructor) b6 rfl h, fun h => hS.sep (X := .blk x14 [.slice (some ⟨g, 0, none⟩) 24 24] 22) (Y := .blk b4 [.bool false] 4) (by repeat (first | exact Rem.head | apply Rem.tail)) (by repeat constructor) x14 rfl h, Nat.ne_of_lt (Nat.lt_of_lt_of_le lg0 m4), Nat.ne_of_lt (Nat.lt_of_lt_of_le lm0 m4), fun h => hS.sep (X := .blk b1 [.slice (some ⟨g, 0, none⟩) 24 24] 22) (Y := .blk b5 [.int .i64 0] 25) (by repeat (first | exact Rem.head | apply Rem.tail)) (by repeat constructor) b1 rfl h, fun h => hS.sep (X := .blk b6 [.pointer (some ⟨b12, 0, none⟩)] 93) (Y := .blk b5 [.int .i64 0] 25) (by repeat (first | exact Rem.head | apply Rem.tail)) (by repeat constructor) b6 rfl h, fun h => hS.sep (X := .blk x14 [.slice (some ⟨g, 0, none⟩) 24 24] 22) (Y := .blk b5 [.int .i64 0] 25) (by repeat (first | exact Rem.head | apply Rem.tail)) (by repeat constructor) x14 rfl h, Nat.ne_of_lt (Nat.lt_of_lt_of_le lg0 m5), Nat.ne_of_lt (Nat.lt_of_lt_of_le lm0 m5)⟩
  refine rangeFunc_E2 (α := Int × Value) hB (hS.sl.ev rfl) cf51 (lines_seq x14 (some ⟨g, 0, none⟩) 24 hreq (by decide) (fun _ => by decide)) (fun _ => rfl) (prI w0 g x14 b1 b2 b3 b4 b5 b6 b10 b12 m) (prX w0 b2 b3 b4 b5) (fun hi hh => prI_ab hB0 lx l1 l2 l3 l4 l5 l6 l12 (by omega) (by omega)) (fun hi c hh => prX_ab hB0 l2 l3 l4 l5)
    (fun hi pre W h => h.k) (fun hi hh => ⟨hS.chg, ⟨gx, gby⟩, ⟨g1, g6, gby, gcm⟩, g2, g3, g4, g5, .inl ⟨rfl, g12⟩⟩) ?_ ?_ ?_
  · intro hi l pre x W hh hhW hI hx
    obtain ⟨rst, hx⟩ := hx
    rw [items_req] at hx
    obtain ⟨cs0, cs1, ls, s, ov, hrn, hrd⟩ : ∃ cs0 cs1 ls s ov, rnd g b12 b10 m pre x cs0 cs1 ls s ov ∧ W.heap[b12]? = some (.cells cs0.toArray 96 (0, 0)) := by
      rcases hI.rd with ⟨rfl, q⟩ | ⟨rfl, q⟩
      · injection hx with e1 _; subst e1; exact ⟨_, _, _, _, _, rnd0 g b12 b10 m, q⟩
      · injection hx with _ e2; injection e2 with e1 _; subst e1; exact ⟨_, _, _, _, _, rnd1 g b12 b10 m, q⟩
    have hR : St 74 noB W ((a.put (some 15) (.int .i64 x.1)).put (some 16) x.2) W [(16, x.2), (15, .int .i64 x.1), (1, .pointer (some ⟨b1, 0, none⟩)), (2, .pointer (some ⟨b2, 0, none⟩)), (3, .pointer (some ⟨b3, 0, none⟩)), (4, .pointer (some ⟨b4, 0, none⟩)), (5, .pointer (some ⟨b5, 0, none⟩)), (6, .pointer (some ⟨b6, 0, none⟩))] [] :=
      ⟨((hS.sl.put rfl _).put rfl _).sub (by repeat (first | exact trivial | refine ⟨rfl, ?_⟩)), Chg.refl _ _, okN, disN, mineN⟩
    have hact : ({ tmps := (#[15, 16].zip (encI x)).foldl (fun t (p, v) => t.setIfInBounds p v) a.tmps, defers := [] } : Act) = (a.put (some 15) (.int .i64 x.1)).put (some 16) x.2 := by
      have hdf : a.defers = [] := hS.sl.defers
      simp [Act.put, hdf, encI]
    rw [hact]
    clear hS hact g12 g1 g2 g3 g4 g5 g6 gx gby gcm hB
    generalize (a.put (some 15) (.int .i64 x.1)).put (some 16) x.2 = a2 at hR ⊢
    clear a; rename Act => a
    clear w
    have hS := hR
    clear hR
    refine R_seq ?_
    refine R_region ?_
    refine R_op rfl (s_e hS (e_assign rfl) rfl ?_); clear hS a; intro a hS
    refine R_nil ?_
    refine n_then ?_
    refine R_region ?_
    refine R_op rfl (s_e hS (e_assign rfl) rfl ?_); clear hS a; intro a hS
    refine R_nil ?_
    refine n_then ?_
    have hCW := hS.chg
    have hC1 := hCW.size
    refine ⟨⟨hC1, fun k h1 h2 => hCW.block k (by omega) (fun h => h)⟩, fun W2 hT => ?_⟩
    have hT1 := hT.size
    have hlow : ∀ k, k < W.heap.size → (k < B ∨ hi ≤ k) → W2.heap[k]? = W.heap[k]? := fun k hk hk2 => (hT.same k (by omega)).trans (hCW.block k hk (fun h => h))
    have low : ∀ {k : Nat} {o : Obj}, k < B → W.heap[k]? = some o → W2.heap[k]? = some o := fun hk ho => (hlow _ (Array.getElem?_eq_some_iff.1 ho).1 (.inl hk)).trans ho
    have hby2 : ByAt (.slice (some ⟨g, 0, none⟩) 24 24) hreq W2 := hI.ro.by_.keep fun k hk => by obtain rfl := byF_is hk; exact hlow _ (by_in (by decide) hI.ro.by_) (.inl (by omega))
    have hcm2 : W2.cell? ⟨1, 0, none⟩ = some (.int .i64 m) := (ce_ok hI.ro.cm).hold W2 (fun k hk => by obtain rfl : k = 1 := hk; exact hlow _ ((ce_ok hI.ro.cm).lt _ rfl) (.inl (by omega)))
    have hR : St 74 (fun k => k = b12 ∨ k = b2 ∨ k = b3 ∨ k = b4 ∨ k = b5) W2 a W2 [(8, x.2), (7, .int .i64 x.1), (1, .pointer (some ⟨b1, 0, none⟩)), (2, .pointer (some ⟨b2, 0, none⟩)), (3, .pointer (some ⟨b3, 0, none⟩)), (4, .pointer (some ⟨b4, 0, none⟩)), (5, .pointer (some ⟨b5, 0, none⟩)), (6, .pointer (some ⟨b6, 0, none⟩))]
        [.blk b12 cs0 96, .blk b2 [.string ⟨#[]⟩, .string ⟨#[]⟩, .slice none 0 0, .bool false] 35, .blk b3 [.int .i64 0] 3, .blk b4 [.bool false] 4, .blk b5 [.int .i64 0] 25, roK g b1 b6 b12 m] :=
      ⟨hS.sl.sub (by repeat (first | exact trivial | refine ⟨rfl, ?_⟩)), Chg.refl _ _, okC (ok_blk (low l12 hrd)) (okC (ok_blk (low l2 hI.h2)) (okC (ok_blk (low l3 hI.h3)) (okC (ok_blk (low l4 hI.h4)) (okC (ok_blk (low l5 hI.h5)) (okC (ro_ok ⟨low l1 hI.ro.h1, low l6 hI.ro.h6, hby2, hcm2⟩) okN))))),
       (disC (sepC (fun b h1 h2 => hN.n12_2 (h1.symm.trans h2)) (sepC (fun b h1 h2 => hN.n12_3 (h1.symm.trans h2)) (sepC (fun b h1 h2 => hN.n12_4 (h1.symm.trans h2)) (sepC (fun b h1 h2 => hN.n12_5 (h1.symm.trans h2)) (sepC (fun b h1 h2 => h2.elim (fun h => hN.n1_12 (h.symm.trans h1)) fun h2 => h2.elim (fun h => hN.n6_12 (h.symm.trans h1)) fun h2 => h2.elim (fun h => hN.ng_12 (h.symm.trans h1)) fun h => hN.nc_12 (h.symm.trans h1)) sepN))))) (disC (sepC (fun b h1 h2 => hN.n2_3 (h1.symm.trans h2)) (sepC (fun b h1 h2 => hN.n2_4 (h1.symm.trans h2)) (sepC (fun b h1 h2 => hN.n2_5 (h1.symm.trans h2)) (sepC (fun b h1 h2 => h2.elim (fun h => hN.n1_2 (h.symm.trans h1)) fun h2 => h2.elim (fun h => hN.n6_2 (h.symm.trans h1)) fun h2 => h2.elim (fun h => hN.ng_2 (h.symm.trans h1)) fun h => hN.nc_2 (h.symm.trans h1)) sepN)))) (disC (sepC (fun b h1 h2 => hN.n3_4 (h1.symm.trans h2)) (sepC (fun b h1 h2 => hN.n3_5 (h1.symm.trans h2)) (sepC (fun b h1 h2 => h2.elim (fun h => hN.n1_3 (h.symm.trans h1)) fun h2 => h2.elim (fun h => hN.n6_3 (h.symm.trans h1)) fun h2 => h2.elim (fun h => hN.ng_3 (h.symm.trans h1)) fun h => hN.nc_3 (h.symm.trans h1)) sepN))) (disC (sepC (fun b h1 h2 => hN.n4_5 (h1.symm.trans h2)) (sepC (fun b h1 h2 => h2.elim (fun h => hN.n1_4 (h.symm.trans h1)) fun h2 => h2.elim (fun h => hN.n6_4 (h.symm.trans h1)) fun h2 => h2.elim (fun h => hN.ng_4 (h.symm.trans h1)) fun h => hN.nc_4 (h.symm.trans h1)) sepN)) (disC (sepC (fun b h1 h2 => h2.elim (fun h => hN.n1_5 (h.symm.trans h1)) fun h2 => h2.elim (fun h => hN.n6_5 (h.symm.trans h1)) fun h2 => h2.elim (fun h => hN.ng_5 (h.symm.trans h1)) fun h => hN.nc_5 (h.symm.trans h1)) sepN) dis1))))),
       mineO (fun b hb => .inl hb) (mineO (fun b hb => .inr (.inl hb)) (mineO (fun b hb => .inr (.inr (.inl hb))) (mineO (fun b hb => .inr (.inr (.inr (.inl hb)))) (mineO (fun b hb => .inr (.inr (.inr (.inr hb)))) (mineC rfl mineN)))))⟩
    clear hS
    have hS := hR
    clear hR
    refine R_block ?_
    refine R_seq ?_
    refine R_seq ?_
    refine R_region ?_
    refine R_op rfl (s_e hS (e_move rfl) rfl ?_); clear hS a; intro a hS
    refine R_op rfl (s_e hS (e_bin rfl rfl rfl) rfl ?_); clear hS a; intro a hS
    refine R_nil ?_
    refine n_then ?_
    replace hS := hS.is (t := 18) (c := false) rfl ((decide_eq_false (by have := hrn.pos; omega)))
    refine R_if_f hS rfl ?_
    refine R_skip ?_
    refine n_then ?_
    refine R_seq ?_
    refine R_seq ?_
    refine R_region ?_
    refine R_op rfl (s_e hS (e_loadC rfl ty_sc93 (fun w hh => cell_of_blk (cs := [.pointer (some ⟨b12, 0, none⟩)]) (hh (roK g b1 b6 b12 m) (by repeat constructor)).h6 rfl)) rfl ?_); clear hS a; intro a hS
    refine R_op rfl (s_e hS (e_move rfl) rfl ?_); clear hS a; intro a hS
    refine R_op rfl (s_e hS (e_str rfl ty_sl22 ty_u5 ty_u9 (fun w hh => hrn.at_ w (hh (roK g b1 b6 b12 m) (by repeat constructor)).by_)) rfl ?_); clear hS a; intro a hS
    rw [hrn.str] at hS
    refine R_op rfl (s_callM hS (.cons rfl (.cons rfl .nil)) cf39 rfl (hrn.rl _ (hS.get (X := .blk b12 cs0 96) (by repeat constructor)) (hS.get (X := roK g b1 b6 b12 m) (by repeat constructor)).cm (fun e => hN.nc_12 e.symm)) (fun x => (by repeat constructor)) rfl ?_); clear hS a; (try clear w); intro x25 a w hS
    refine R_op rfl (s_e hS (e_assign rfl) rfl ?_); clear hS a; intro a hS
    refine R_nil ?_
    refine n_then ?_
    refine R_seq ?_
    refine R_region ?_
    refine R_op rfl (s_e hS (e_move rfl) rfl ?_); clear hS a; intro a hS
    refine R_op rfl (s_e hS (e_bin rfl rfl rfl) rfl ?_); clear hS a; intro a hS
    refine R_nil ?_
    refine n_then ?_
    replace hS := hS.is (t := 27) (c := false) rfl ((by decide))
    refine R_if_f hS rfl ?_
    refine R_skip ?_
    refine n_then ?_
    refine R_seq ?_
    refine R_seq ?_
    refine R_region ?_
    refine R_op rfl (s_e hS (e_loadC rfl ty_sc93 (fun w hh => cell_of_blk (cs := [.pointer (some ⟨b12, 0, none⟩)]) (hh (roK g b1 b6 b12 m) (by repeat constructor)).h6 rfl)) rfl ?_); clear hS a; intro a hS
    refine R_op rfl (s_e hS (e_nilCheck rfl) rfl ?_); clear hS a; intro a hS
    first | (refine R_op rfl (s_e hS (e_fa0 rfl ty_fo96_4) rfl ?_); clear hS a; intro a hS) | (refine R_op rfl (s_e hS (e_faK rfl ty_fo96_4) rfl ?_); clear hS a; intro a hS)
    refine R_op rfl (s_e hS (e_load rfl (by repeat constructor) ty_sc4 hrn.over) rfl ?_); clear hS a; intro a hS
    refine R_op rfl (s_e hS (e_not rfl) rfl ?_); clear hS a; intro a hS
    refine R_nil ?_
    refine n_then ?_
    first | refine R_ifD hS rfl (fun hc34 => ?_) (fun hc34 => ?_) | refine R_if hS rfl (fun hc34 => ?_) (fun hc34 => ?_)
    ·
      obtain rfl : ov = false := by cases ov <;> first | rfl | cases hc34
      refine R_exit ?_
      refine x_then (x_hit ?_)
      have hC3 := hS.chg
      obtain ⟨hpre, hcs⟩ := hrn.no rfl
      have hrd2 := hS.get (X := .blk b12 cs1 96) (by repeat constructor)
      rw [hcs] at hrd2
      have hro := hS.get (X := roK g b1 b6 b12 m) (by repeat constructor)
      have hx := (hC3.block x14 (by omega) (fun h => h.elim hN.nx_12 fun h => h.elim hN.nx_2 fun h => h.elim hN.nx_3 fun h => h.elim hN.nx_4 hN.nx_5)).trans (low lx hI.k.1)
      exact ⟨⟨hC3.size, fun k h1 h2 => hC3.block k (by omega) (by rintro (h | h | h | h | h) <;> omega)⟩, ⟨chg_turn hI.chg hB0 hCW hT hC3 (by rintro k (h | h | h | h | h) <;> omega), ⟨hx, hro.by_⟩, hro, hS.get (X := .blk b2 [.string ⟨#[]⟩, .string ⟨#[]⟩, .slice none 0 0, .bool false] 35) (by repeat constructor), hS.get (X := .blk b3 [.int .i64 0] 3) (by repeat constructor), hS.get (X := .blk b4 [.bool false] 4) (by repeat constructor), hS.get (X := .blk b5 [.int .i64 0] 25) (by repeat constructor), .inr ⟨hpre, hrd2⟩⟩⟩
    ·
      obtain rfl : ov = true := by cases ov <;> first | rfl | exact absurd rfl hc34 | cases hc34
      obtain ⟨hx1, hcs⟩ := hrn.yes rfl
      rw [hx1] at hS
      subst hcs
      unfold rdC at hS
      refine R_skip ?_
      refine n_then ?_
      refine R_seq ?_
      refine R_seq ?_
      refine R_draw1 (by kernel_rfl) (by rintro ⟨_, _, h⟩; exact h) [] (by kernel_rfl) hS ?_; clear hS; (try clear w); intro w hS
      simp only [List.length_cons, List.length_nil, Nat.zero_add, Nat.reduceAdd, List.replicate]
      refine Z_take (i := 0) hS rfl want_none (e_loadC rfl ty_sc22 (fun w hh => cell_of_blk (cs := [.slice (some ⟨g, 0, none⟩) 24 24]) (hh (roK g b1 b6 b12 m) (by repeat constructor)).h1 rfl)) (listed' := [true, false, false, false, false, false, false, false, false]) rfl (by kernel_rfl) (by kernel_rfl) (by kernel_rfl) (by kernel_rfl) (by kernel_rfl) (by intro X hX; repeat (first | exact hX | apply List.Mem.tail)) (fun _ _ _ h => h) rfl ?_; clear hS a; intro a hS
      refine Z_take0 (i := 1) hS rfl want_none (e_len rfl rfl ty_sl22) (listed' := [true, true, false, false, false, false, false, false, false]) rfl (by kernel_rfl) (by kernel_rfl) (by kernel_rfl) (fun _ _ _ h => h) rfl ?_; clear hS a; intro a hS
      refine Z_take0 (i := 2) hS rfl want_none (e_move rfl) (listed' := [true, true, true, false, false, false, false, false, false]) rfl (by kernel_rfl) (by kernel_rfl) (by kernel_rfl) (fun _ _ _ h => h) rfl ?_; clear hS a; intro a hS
      first | (refine Z_take0 (i := 3) hS rfl want_none (e_binN rfl rfl rfl (by omega)) (listed' := [true, true, true, true, false, false, false, false, false]) rfl (by kernel_rfl) (by kernel_rfl) (by kernel_rfl) (fun _ _ _ h => h) rfl ?_; clear hS a; intro a hS) | (refine Z_take0 (i := 3) hS rfl want_none (e_bin rfl rfl rfl) (listed' := [true, true, true, true, false, false, false, false, false]) rfl (by kernel_rfl) (by kernel_rfl) (by kernel_rfl) (fun _ _ _ h => h) rfl ?_; clear hS a; intro a hS)
      refine Z_take (i := 4) hS rfl want_none (e_loadC rfl ty_sc93 (fun w hh => cell_of_blk (cs := [.pointer (some ⟨b12, 0, none⟩)]) (hh (roK g b1 b6 b12 m) (by repeat constructor)).h6 rfl)) (listed' := [true, true, true, true, true, false, false, false, false]) rfl (by kernel_rfl) (by kernel_rfl) (by kernel_rfl) (by kernel_rfl) (by kernel_rfl) (by intro X hX; repeat (first | exact hX | apply List.Mem.tail)) (fun _ _ _ h => h) rfl ?_; clear hS a; intro a hS
      refine Z_take0 (i := 5) hS rfl want_none (e_nilCheck rfl) (listed' := [true, true, true, true, true, true, false, false, false]) rfl (by kernel_rfl) (by kernel_rfl) (by kernel_rfl) (fun _ _ _ h => h) rfl ?_; clear hS a; intro a hS
      first | (refine Z_take0 (i := 6) hS rfl want_none (e_fa0 rfl ty_fo96_2) (listed' := [true, true, true, true, true, true, true, false, false]) rfl (by kernel_rfl) (by kernel_rfl) (by kernel_rfl) (fun _ _ _ h => h) rfl ?_; clear hS a; intro a hS) | (refine Z_take0 (i := 6) hS rfl want_none (e_faK rfl ty_fo96_2) (listed' := [true, true, true, true, true, true, true, false, false]) rfl (by kernel_rfl) (by kernel_rfl) (by kernel_rfl) (fun _ _ _ h => h) rfl ?_; clear hS a; intro a hS)
      refine Z_take (i := 7) hS rfl want_none (e_load rfl (by repeat constructor) ty_sc3 (by rfl)) (listed' := [true, true, true, true, true, true, true, true, false]) rfl (by kernel_rfl) (by kernel_rfl) (by kernel_rfl) (by kernel_rfl) (by kernel_rfl) (by intro X hX; repeat (first | exact hX | apply List.Mem.tail)) (fun _ _ _ h => h) rfl ?_; clear hS a; intro a hS
      refine Z_take0 (i := 8) hS rfl want_none (e_bin rfl rfl rfl) (listed' := [true, true, true, true, true, true, true, true, true]) rfl (by kernel_rfl) (by kernel_rfl) (by kernel_rfl) (fun _ _ _ h => h) rfl ?_; clear hS a; intro a hS
      refine Z_done (by kernel_rfl) ?_
      refine n_then ?_
      replace hS := hS.is (t := 43) (c := false) rfl ((by decide))
      refine R_if_f hS rfl ?_
      refine R_skip ?_
      refine n_then ?_
      refine R_seq ?_
      refine R_drawS (by kernel_rfl) (by rintro ⟨_, _, h⟩; exact h) [19] (by kernel_rfl) hS (sub_cons (X := .blk b12 [.string sGet, .string sHealth, .slice none 0 0, .bool false, .int .i64 2, .int .i64 0, .map (some b10), .bool true] 96) (by repeat constructor) (sub_cons (X := roK g b1 b6 b12 m) (by repeat constructor) sub_nil)) ?_; clear hS; (try clear w); intro w hS
      simp only [List.length_cons, List.length_nil, Nat.zero_add, Nat.reduceAdd, List.replicate]
      refine Z_take (i := 0) hS rfl want_none (e_loadC rfl ty_sc93 (fun w hh => cell_of_blk (cs := [.pointer (some ⟨b12, 0, none⟩)]) (hh (roK g b1 b6 b12 m) (by repeat constructor)).h6 rfl)) (listed' := [true, false, false, false, false, false, false, false, false, false, false, false, false, false, false, false, false, false, false, false]) rfl (by kernel_rfl) (by kernel_rfl) (by kernel_rfl) (by kernel_rfl) (by kernel_rfl) (sub_cons (by repeat constructor) (sub_cons (by repeat constructor) sub_nil)) (fun _ _ _ h => h) rfl ?_; clear hS a; intro a hS
      refine Z_take (i := 1) hS rfl want_none (e_loadC rfl ty_sc93 (fun w hh => cell_of_blk (cs := [.pointer (some ⟨b12, 0, none⟩)]) (hh (roK g b1 b6 b12 m) (by repeat constructor)).h6 rfl)) (listed' := [true, true, false, false, false, false, false, false, false, false, false, false, false, false, false, false, false, false, false, false]) rfl (by kernel_rfl) (by kernel_rfl) (by kernel_rfl) (by kernel_rfl) (by kernel_rfl) (sub_cons (by repeat constructor) (sub_cons (by repeat constructor) sub_nil)) (fun _ _ _ h => h) rfl ?_; clear hS a; intro a hS
      refine Z_take0 (i := 2) hS rfl want_none (e_nilCheck rfl) (listed' := [true, true, true, false, false, false, false, false, false, false, false, false, false, false, false, false, false, false, false, false]) rfl (by kernel_rfl) (by kernel_rfl) (by kernel_rfl) (fun _ _ _ h => h) rfl ?_; clear hS a; intro a hS
      first | (refine Z_take0 (i := 3) hS rfl want_none (e_fa0 rfl ty_fo96_2) (listed' := [true, true, true, true, false, false, false, false, false, false, false, false, false, false, false, false, false, false, false, false]) rfl (by kernel_rfl) (by kernel_rfl) (by kernel_rfl) (fun _ _ _ h => h) rfl ?_; clear hS a; intro a hS) | (refine Z_take0 (i := 3) hS rfl want_none (e_faK rfl ty_fo96_2) (listed' := [true, true, true, true, false, false, false, false, false, false, false, false, false, false, false, false, false, false, false, false]) rfl (by kernel_rfl) (by kernel_rfl) (by kernel_rfl) (fun _ _ _ h => h) rfl ?_; clear hS a; intro a hS)
      refine Z_take (i := 4) hS rfl want_none (e_load rfl (by repeat constructor) ty_sc3 (by rfl)) (listed' := [true, true, true, true, true, false, false, false, false, false, false, false, false, false, false, false, false, false, false, false]) rfl (by kernel_rfl) (by kernel_rfl) (by kernel_rfl) (by kernel_rfl) (by kernel_rfl) (sub_cons (by repeat constructor) (sub_cons (by repeat constructor) sub_nil)) (fun _ _ _ h => h) rfl ?_; clear hS a; intro a hS
      refine Z_take (i := 6) hS rfl want_none (e_loadC rfl ty_sc22 (fun w hh => cell_of_blk (cs := [.slice (some ⟨g, 0, none⟩) 24 24]) (hh (roK g b1 b6 b12 m) (by repeat constructor)).h1 rfl)) (listed' := [true, true, true, true, true, false, true, false, false, false, false, false, false, false, false, false, false, false, false, false]) rfl (by kernel_rfl) (by kernel_rfl) (by kernel_rfl) (by kernel_rfl) (by kernel_rfl) (sub_cons (by repeat constructor) (sub_cons (by repeat constructor) sub_nil)) (fun _ _ _ h => h) rfl ?_; clear hS a; intro a hS
      refine Z_take0 (i := 7) hS rfl want_none (e_move rfl) (listed' := [true, true, true, true, true, false, true, true, false, false, false, false, false, false, false, false, false, false, false, false]) rfl (by kernel_rfl) (by kernel_rfl) (by kernel_rfl) (fun _ _ _ h => h) rfl ?_; clear hS a; intro a hS
      refine Z_take0 (i := 8) hS rfl want_none (e_move rfl) (listed' := [true, true, true, true, true, false, true, true, true, false, false, false, false, false, false, false, false, false, false, false]) rfl (by kernel_rfl) (by kernel_rfl) (by kernel_rfl) (fun _ _ _ h => h) rfl ?_; clear hS a; intro a hS
      refine Z_take (i := 9) hS rfl want_none (e_loadC rfl ty_sc93 (fun w hh => cell_of_blk (cs := [.pointer (some ⟨b12, 0, none⟩)]) (hh (roK g b1 b6 b12 m) (by repeat constructor)).h6 rfl)) (listed' := [true, true, true, true, true, false, true, true, true, true, false, false, false, false, false, false, false, false, false, false]) rfl (by kernel_rfl) (by kernel_rfl) (by kernel_rfl) (by kernel_rfl) (by kernel_rfl) (sub_cons (by repeat constructor) (sub_cons (by repeat constructor) sub_nil)) (fun _ _ _ h => h) rfl ?_; clear hS a; intro a hS
      refine Z_take0 (i := 10) hS rfl want_none (e_nilCheck rfl) (listed' := [true, true, true, true, true, false, true, true, true, true, true, false, false, false, false, false, false, false, false, false]) rfl (by kernel_rfl) (by kernel_rfl) (by kernel_rfl) (fun _ _ _ h => h) rfl ?_; clear hS a; intro a hS
      first | (refine Z_take0 (i := 11) hS rfl want_none (e_fa0 rfl ty_fo96_2) (listed' := [true, true, true, true, true, false, true, true, true, true, true, true, false, false, false, false, false, false, false, false]) rfl (by kernel_rfl) (by kernel_rfl) (by kernel_rfl) (fun _ _ _ h => h) rfl ?_; clear hS a; intro a hS) | (refine Z_take0 (i := 11) hS rfl want_none (e_faK rfl ty_fo96_2) (listed' := [true, true, true, true, true, false, true, true, true, true, true, true, false, false, false, false, false, false, false, false]) rfl (by kernel_rfl) (by kernel_rfl) (by kernel_rfl) (fun _ _ _ h => h) rfl ?_; clear hS a; intro a hS)
      refine Z_take (i := 12) hS rfl want_none (e_load rfl (by repeat constructor) ty_sc3 (by rfl)) (listed' := [true, true, true, true, true, false, true, true, true, true, true, true, true, false, false, false, false, false, false, false]) rfl (by kernel_rfl) (by kernel_rfl) (by kernel_rfl) (by kernel_rfl) (by kernel_rfl) (sub_cons (by repeat constructor) (sub_cons (by repeat constructor) sub_nil)) (fun _ _ _ h => h) rfl ?_; clear hS a; intro a hS
      first | (refine Z_take0 (i := 13) hS rfl want_none (e_binN rfl rfl rfl (by omega)) (listed' := [true, true, true, true, true, false, true, true, true, true, true, true, true, true, false, false, false, false, false, false]) rfl (by kernel_rfl) (by kernel_rfl) (by kernel_rfl) (fun _ _ _ h => h) rfl ?_; clear hS a; intro a hS) | (refine Z_take0 (i := 13) hS rfl want_none (e_bin rfl rfl rfl) (listed' := [true, true, true, true, true, false, true, true, true, true, true, true, true, true, false, false, false, false, false, false]) rfl (by kernel_rfl) (by kernel_rfl) (by kernel_rfl) (fun _ _ _ h => h) rfl ?_; clear hS a; intro a hS)
      refine Z_take0 (i := 14) hS rfl want_none (e_slB (i := 24) (j := 24) rfl rfl rfl ty_sl22 ty_sz5 (by decide)) (listed' := [true, true, true, true, true, false, true, true, true, true, true, true, true, true, true, false, false, false, false, false]) rfl (by kernel_rfl) (by kernel_rfl) (by kernel_rfl) (fun _ _ _ h => h) rfl ?_; clear hS a; intro a hS
      refine Z_one (i := 5) rfl (want_none a hS.sl) (listed' := [true, true, true, true, true, true, true, true, true, true, true, true, true, true, true, false, false, false, false, false]) rfl (by kernel_rfl) (s_make0 (c := 0) hS rfl rfl ty_sl22 ty_sz5 ty_by5 ty_z5 rfl (by decide) ?_); clear hS a; (try clear w); intro x49 a w hS
      refine Z_and hS (sub_cons (by repeat constructor) (sub_cons (by repeat constructor) sub_nil)) ?_
      refine Z_one (i := 15) rfl (want_none a hS.sl) (listed' := [true, true, true, true, true, true, true, true, true, true, true, true, true, true, true, true, false, false, false, false]) rfl (by kernel_rfl) (s_appendL hS rfl rfl ty_sl22 ty_sz5 ty_by5 ty_z5 rfl rfl rfl (by repeat constructor) (ys := []) rfl (.inl ⟨rfl, rfl⟩) (fun u hu => by cases hu) (by omega) (fun _ => (by repeat constructor)) ?_); clear hS a; (try clear w); intro v59 a w hv59 hS
      obtain ⟨q59, c59, rfl⟩ := own_slice (hS.get (X := ownA 5 1 v59 (0 + 0) ([] ++ [])) (by repeat constructor))
      refine Z_and hS (sub_cons (by repeat constructor) (sub_cons (by repeat constructor) sub_nil)) ?_
      refine Z_take0 (i := 16) hS rfl want_none (e_nilCheck rfl) (listed' := [true, true, true, true, true, true, true, true, true, true, true, true, true, true, true, true, true, false, false, false]) rfl (by kernel_rfl) (by kernel_rfl) (by kernel_rfl) (fun _ _ _ h => h) rfl ?_; clear hS a; intro a hS
      first | (refine Z_take0 (i := 17) hS rfl want_none (e_fa0 rfl ty_fo96_0) (listed' := [true, true, true, true, true, true, true, true, true, true, true, true, true, true, true, true, true, true, false, false]) rfl (by kernel_rfl) (by kernel_rfl) (by kernel_rfl) (fun _ _ _ h => h) rfl ?_; clear hS a; intro a hS) | (refine Z_take0 (i := 17) hS rfl want_none (e_faK rfl ty_fo96_0) (listed' := [true, true, true, true, true, true, true, true, true, true, true, true, true, true, true, true, true, true, false, false]) rfl (by kernel_rfl) (by kernel_rfl) (by kernel_rfl) (fun _ _ _ h => h) rfl ?_; clear hS a; intro a hS)
      first | (refine Z_take0 (i := 18) hS rfl want_none (e_fa0 rfl ty_fo35_2) (listed' := [true, true, true, true, true, true, true, true, true, true, true, true, true, true, true, true, true, true, true, false]) rfl (by kernel_rfl) (by kernel_rfl) (by kernel_rfl) (fun _ _ _ h => h) rfl ?_; clear hS a; intro a hS) | (refine Z_take0 (i := 18) hS rfl want_none (e_faK rfl ty_fo35_2) (listed' := [true, true, true, true, true, true, true, true, true, true, true, true, true, true, true, true, true, true, true, false]) rfl (by kernel_rfl) (by kernel_rfl) (by kernel_rfl) (fun _ _ _ h => h) rfl ?_; clear hS a; intro a hS)
      refine Z_one (i := 19) rfl (want_none a hS.sl) (listed' := [true, true, true, true, true, true, true, true, true, true, true, true, true, true, true, true, true, true, true, true]) rfl (by kernel_rfl) (s_store hS rfl rfl rfl ty_sz22 (by repeat constructor) (by repeat constructor) ?_); clear hS; (try clear w); intro w hS
      refine Z_last (by simp) ?_
      refine Z_done (by kernel_rfl) ?_
      refine n_then ?_
      refine R_seq ?_
      refine R_drawS (by kernel_rfl) (by rintro ⟨_, _, h⟩; exact h) [] (by kernel_rfl) hS (sub_cons (X := .blk b12 [.string sGet, .string sHealth, .slice q59 (0 + 0) c59, .bool false, .int .i64 2, .int .i64 0, .map (some b10), .bool true] 96) (by repeat constructor) (sub_cons (X := roK g b1 b6 b12 m) (by repeat constructor) sub_nil)) ?_; clear hS; (try clear w); intro w hS
      simp only [List.length_cons, List.length_nil, Nat.zero_add, Nat.reduceAdd, List.replicate]
      refine Z_take (i := 0) hS rfl want_none (e_loadC rfl ty_sc93 (fun w hh => cell_of_blk (cs := [.pointer (some ⟨b12, 0, none⟩)]) (hh (roK g b1 b6 b12 m) (by repeat constructor)).h6 rfl)) (listed' := [true, false, false, false, false, false, false, false, false, false, false, false, false, false]) rfl (by kernel_rfl) (by kernel_rfl) (by kernel_rfl) (by kernel_rfl) (by kernel_rfl) (sub_cons (by repeat constructor) (sub_cons (by repeat constructor) sub_nil)) (fun _ _ _ h => h) rfl ?_; clear hS a; intro a hS
      refine Z_take0 (i := 1) hS rfl want_none (e_nilCheck rfl) (listed' := [true, true, false, false, false, false, false, false, false, false, false, false, false, false]) rfl (by kernel_rfl) (by kernel_rfl) (by kernel_rfl) (fun _ _ _ h => h) rfl ?_; clear hS a; intro a hS
      first | (refine Z_take0 (i := 2) hS rfl want_none (e_fa0 rfl ty_fo96_0) (listed' := [true, true, true, false, false, false, false, false, false, false, false, false, false, false]) rfl (by kernel_rfl) (by kernel_rfl) (by kernel_rfl) (fun _ _ _ h => h) rfl ?_; clear hS a; intro a hS) | (refine Z_take0 (i := 2) hS rfl want_none (e_faK rfl ty_fo96_0) (listed' := [true, true, true, false, false, false, false, false, false, false, false, false, false, false]) rfl (by kernel_rfl) (by kernel_rfl) (by kernel_rfl) (fun _ _ _ h => h) rfl ?_; clear hS a; intro a hS)
      refine Z_take (i := 3) hS rfl want_none (e_loadSub (b := b12) (cs := [.string sGet, .string sHealth, .slice q59 (0 + 0) c59, .bool false, .int .i64 2, .int .i64 0, .map (some b10), .bool true]) (l := [.string sGet, .string sHealth, .slice q59 (0 + 0) c59, .bool false]) rfl (by repeat constructor) ty_st35 ty_sz35 rfl) (listed' := [true, true, true, true, false, false, false, false, false, false, false, false, false, false]) rfl (by kernel_rfl) (by kernel_rfl) (by kernel_rfl) (by kernel_rfl) (by kernel_rfl) (sub_cons (by repeat constructor) (sub_cons (by repeat constructor) sub_nil)) (fun _ _ _ h => h) rfl ?_; clear hS a; intro a hS
      refine Z_take0 (i := 4) hS rfl want_none (e_move rfl) (listed' := [true, true, true, true, true, false, false, false, false, false, false, false, false, false]) rfl (by kernel_rfl) (by kernel_rfl) (by kernel_rfl) (fun _ _ _ h => h) rfl ?_; clear hS a; intro a hS
      refine Z_take (i := 5) hS rfl want_none (e_loadC rfl ty_sc93 (fun w hh => cell_of_blk (cs := [.pointer (some ⟨b12, 0, none⟩)]) (hh (roK g b1 b6 b12 m) (by repeat constructor)).h6 rfl)) (listed' := [true, true, true, true, true, true, false, false, false, false, false, false, false, false]) rfl (by kernel_rfl) (by kernel_rfl) (by kernel_rfl) (by kernel_rfl) (by kernel_rfl) (sub_cons (by repeat constructor) (sub_cons (by repeat constructor) sub_nil)) (fun _ _ _ h => h) rfl ?_; clear hS a; intro a hS
      refine Z_take0 (i := 6) hS rfl want_none (e_nilCheck rfl) (listed' := [true, true, true, true, true, true, true, false, false, false, false, false, false, false]) rfl (by kernel_rfl) (by kernel_rfl) (by kernel_rfl) (fun _ _ _ h => h) rfl ?_; clear hS a; intro a hS
      first | (refine Z_take0 (i := 7) hS rfl want_none (e_fa0 rfl ty_fo96_2) (listed' := [true, true, true, true, true, true, true, true, false, false, false, false, false, false]) rfl (by kernel_rfl) (by kernel_rfl) (by kernel_rfl) (fun _ _ _ h => h) rfl ?_; clear hS a; intro a hS) | (refine Z_take0 (i := 7) hS rfl want_none (e_faK rfl ty_fo96_2) (listed' := [true, true, true, true, true, true, true, true, false, false, false, false, false, false]) rfl (by kernel_rfl) (by kernel_rfl) (by kernel_rfl) (fun _ _ _ h => h) rfl ?_; clear hS a; intro a hS)
      refine Z_take (i := 8) hS rfl want_none (e_load rfl (by repeat constructor) ty_sc3 (by rfl)) (listed' := [true, true, true, true, true, true, true, true, true, false, false, false, false, false]) rfl (by kernel_rfl) (by kernel_rfl) (by kernel_rfl) (by kernel_rfl) (by kernel_rfl) (sub_cons (by repeat constructor) (sub_cons (by repeat constructor) sub_nil)) (fun _ _ _ h => h) rfl ?_; clear hS a; intro a hS
      first | (refine Z_take0 (i := 9) hS rfl want_none (e_binN rfl rfl rfl (by omega)) (listed' := [true, true, true, true, true, true, true, true, true, true, false, false, false, false]) rfl (by kernel_rfl) (by kernel_rfl) (by kernel_rfl) (fun _ _ _ h => h) rfl ?_; clear hS a; intro a hS) | (refine Z_take0 (i := 9) hS rfl want_none (e_bin rfl rfl rfl) (listed' := [true, true, true, true, true, true, true, true, true, true, false, false, false, false]) rfl (by kernel_rfl) (by kernel_rfl) (by kernel_rfl) (fun _ _ _ h => h) rfl ?_; clear hS a; intro a hS)
      refine Z_one (i := 10) rfl (want_none a hS.sl) (listed' := [true, true, true, true, true, true, true, true, true, true, true, false, false, false]) rfl (by kernel_rfl) (s_storeA hS rfl rfl ty_sz35 (by repeat constructor) (by rfl) (by rfl) (by rfl) ?_); clear hS; (try clear w); intro w hS
      refine Z_and hS (sub_cons (by repeat constructor) (sub_cons (by repeat constructor) sub_nil)) ?_
      refine Z_one (i := 11) rfl (want_none a hS.sl) (listed' := [true, true, true, true, true, true, true, true, true, true, true, true, false, false]) rfl (by kernel_rfl) (s_store hS rfl rfl rfl ty_sz3 (by repeat constructor) (by repeat constructor) ?_); clear hS; (try clear w); intro w hS
      refine Z_and hS (sub_cons (by repeat constructor) (sub_cons (by repeat constructor) sub_nil)) ?_
      refine Z_one (i := 12) rfl (want_none a hS.sl) (listed' := [true, true, true, true, true, true, true, true, true, true, true, true, true, false]) rfl (by kernel_rfl) (s_store hS rfl rfl rfl ty_sz4 (by repeat constructor) (by repeat constructor) ?_); clear hS; (try clear w); intro w hS
      refine Z_and hS (sub_cons (by repeat constructor) (sub_cons (by repeat constructor) sub_nil)) ?_
      refine Z_one (i := 13) rfl (want_none a hS.sl) (listed' := [true, true, true, true, true, true, true, true, true, true, true, true, true, true]) rfl (by kernel_rfl) (s_store hS rfl rfl rfl ty_sz25 (by repeat constructor) (by repeat constructor) ?_); clear hS; (try clear w); intro w hS
      refine Z_and hS (sub_cons (by repeat constructor) (sub_cons (by repeat constructor) sub_nil)) ?_
      refine Z_done (by kernel_rfl) ?_
      refine n_then ?_
      refine R_ret ?_
      refine r_block ?_
      have hC3 := hS.chg
      rw [show (24 : Int) + 0 = 24 from rfl] at hS
      exact ⟨⟨hC3.size, fun k h1 h2 => hC3.block k (by omega) (by rintro (h | h | h | h | h) <;> omega)⟩, ⟨chg_turn hI.chg hB0 hCW hT hC3 (by rintro k (h | h | h | h | h) <;> omega), rfl, (q59, c59), hS.get (X := .blk b2 [.string sGet, .string sHealth, .slice q59 (0 + 0) c59, .bool false] 35) (by repeat constructor), hS.get (X := .blk b3 [.int .i64 24] 3) (by repeat constructor), hS.get (X := .blk b4 [.bool true] 4) (by repeat constructor), hS.get (X := .blk b5 [.int .i64 0] 25) (by repeat constructor)⟩⟩
  · intro hi D xs W hh hBD hDh hxs hI hDc
    exfalso
    have hxs2 : xs = itemsW (some ⟨g, 0, none⟩) 24 hreq 0 := hxs
    rw [items_req] at hxs2
    rcases hI.rd with ⟨e, _⟩ | ⟨e, _⟩
    · rw [hxs2] at e; cases e
    · rw [hxs2] at e; injection e with _ e2; cases e2
  · intro hi D c pre W hh hBD hDh hSp hX hDc
    obtain rfl := hX.ret
    obtain ⟨x, q2, q3, q4, q5⟩ := hX.got
    have hd : St 74 noB w0 a W [(2, .pointer (some ⟨b2, 0, none⟩)), (3, .pointer (some ⟨b3, 0, none⟩)), (4, .pointer (some ⟨b4, 0, none⟩)), (5, .pointer (some ⟨b5, 0, none⟩))] [.blk b2 [.string sGet, .string sHealth, .slice x.1 0 x.2, .bool false] 35, .blk b3 [.int .i64 24] 3, .blk b4 [.bool true] 4, .blk b5 [.int .i64 0] 25] :=
      ⟨hS.sl.sub (by repeat (first | exact trivial | refine ⟨rfl, ?_⟩)), hX.chg, okC (ok_blk q2) (okC (ok_blk q3) (okC (ok_blk q4) (okC (ok_blk q5) okN))), disC (sepC (fun b h1 h2 => hN.n2_3 (h1.symm.trans h2)) (sepC (fun b h1 h2 => hN.n2_4 (h1.symm.trans h2)) (sepC (fun b h1 h2 => hN.n2_5 (h1.symm.trans h2)) sepN)))
        (disC (sepC (fun b h1 h2 => hN.n3_4 (h1.symm.trans h2)) (sepC (fun b h1 h2 => hN.n3_5 (h1.symm.trans h2)) sepN)) (disC (sepC (fun b h1 h2 => hN.n4_5 (h1.symm.trans h2)) sepN) dis1)),
       four_mine m2 m3 m4 m5⟩
    refine R_ret ?_
    refine r_block (r_then ?_)
    have hd3 := hd.putD (D := D) (o := .deferred none) (by omega) (four_ne (by omega) (by omega) (by omega) (by omega))
    exact endN hd3 (.inl rfl) hDc Tryz.results22 (.cons (.cellA rfl (by repeat constructor) ty_st35 ty_sz35 rfl) (.cons (.cell rfl (by repeat constructor) ty_sc3 rfl) (.cons (.cell rfl (by repeat constructor) ty_sc4 rfl) (.cons (.cell rfl (by repeat constructor) ty_sc25 rfl) .nil)))) rfl ⟨x, rfl, hd3.chg, none_ok _, fun b hb => hb.elim⟩
end Go.Proofs.YtjmkjkhcognoeaaGreatDoor

namespace Go.Proofs.YtjmkjkhcognoeaaGreatDoor
abbrev muLink : Go.Conc.Locks.MuLink := { lock := 35, unlock := 36, ilock := 48, iunlock := 49, lockSlow := 61, unlockSlow := 64, disable := 57, enable := 59, acquire := 60, relMerge := 62, cas32 := 58, add32 := 63, tMutex := 77, tIMutex := 75, tPMutex := 109, tPIMutex := 117, tPI32 := 119, tUP := 121, tNoCopy := 69, tU32 := 71 }
theorem muLib : Go.Conc.Locks.MuLib Tryz.prog muLink :=
  ⟨Tryz.func35, Tryz.func36, Tryz.func48, Tryz.func49, Tryz.func57, Tryz.func59, Tryz.func60, Tryz.func62, Tryz.func58, Tryz.func63, Tryz.underlying75, Tryz.runUnderlying75, Tryz.sizeOf75, Tryz.isAgg75, Tryz.zeroValue75, Tryz.underlying77, Tryz.runUnderlying77, Tryz.sizeOf77, Tryz.isAgg77, Tryz.zeroValue77, Tryz.underlying109, Tryz.runUnderlying109, Tryz.sizeOf109, Tryz.isAgg109, Tryz.zeroValue109, Tryz.underlying117, Tryz.runUnderlying117, Tryz.sizeOf117, Tryz.isAgg117, Tryz.zeroValue117, Tryz.underlying119, Tryz.runUnderlying119, Tryz.sizeOf119, Tryz.isAgg119, Tryz.zeroValue119, Tryz.underlying121, Tryz.runUnderlying121, Tryz.sizeOf121, Tryz.isAgg121, Tryz.zeroValue121, Tryz.underlying69, Tryz.runUnderlying69, Tryz.sizeOf69, Tryz.isAgg69, Tryz.zeroValue69, Tryz.underlying21, Tryz.runUnderlying21, Tryz.sizeOf21, Tryz.isAgg21, Tryz.zeroValue21, (by kernel_rfl)⟩
end Go.Proofs.YtjmkjkhcognoeaaGreatDoor

namespace Go.Proofs.YtjmkjkhcognoeaaGreatDoor
open Go.RowKit

def encN (s : ByteArray) : List Value := [.string s]
/-- a slice of texts, wherever it lies. -/
def NmAt (v : Value) (l : List ByteArray) (w : World) : Prop := (l = [] ∧ ∃ a c, v = .slice a 0 c) ∨ ∃ b off c, l ≠ [] ∧ v = .slice (some ⟨b, off, none⟩) l.length c ∧ RowAt b off 1 (l.map encN) w ∧ b < w.heap.size
def nmF (v : Value) (l : List ByteArray) (k : Nat) : Prop := l ≠ [] ∧ ∃ off m c, v = .slice (some ⟨k, off, none⟩) m c
theorem NmAt.shape {v : Value} {l : List ByteArray} {w : World} (h : NmAt v l w) : ∃ a c, v = .slice a l.length c := by
  rcases h with ⟨rfl, a, c, rfl⟩ | ⟨b, off, c, _, rfl, _, _⟩
  · exact ⟨a, c, rfl⟩
  · exact ⟨_, c, rfl⟩
theorem NmAt.some {v : Value} {l : List ByteArray} {w : World} (h : NmAt v l w) (hne : l ≠ []) : ∃ b off c, v = .slice (some ⟨b, off, none⟩) l.length c ∧ RowAt b off 1 (l.map encN) w := by
  rcases h with ⟨h0, _⟩ | ⟨b, off, c, _, h1, h2, _⟩
  · exact absurd h0 hne
  · exact ⟨b, off, c, h1, h2⟩
theorem NmAt.lt {v : Value} {l : List ByteArray} {w : World} (h : NmAt v l w) (k : Nat) (hk : nmF v l k) : k < w.heap.size := by
  obtain ⟨hne, off, m, c, e⟩ := hk
  rcases h with ⟨h0, _⟩ | ⟨b, off', c', _, h1, _, h3⟩
  · exact absurd h0 hne
  · rw [h1] at e; injection e with e1; injection e1 with e2; injection e2 with e3; omega
theorem NmAt.keep {v : Value} {l : List ByteArray} {w w' : World} (h : NmAt v l w) (hw : ∀ k, nmF v l k → w'.heap[k]? = w.heap[k]?) : NmAt v l w' := by
  rcases h with h | ⟨b, off, c, h0, h1, h2, h3⟩
  · exact .inl h
  · have hb := hw b ⟨h0, off, _, c, h1⟩
    refine .inr ⟨b, off, c, h0, h1, h2.keep hb, ?_⟩
    rw [Array.getElem?_eq_getElem h3] at hb
    exact (Array.getElem?_eq_some_iff.1 hb).1
def nmA (v : Value) (l : List ByteArray) : Asn := .any (nmF v l) (NmAt v l) false
theorem nm_ok {v : Value} {l : List ByteArray} {w : World} (h : NmAt v l w) : (nmA v l).ok w := ⟨h.lt, fun _ hw => h.keep hw⟩
def nm2A (va : Value) (a : List ByteArray) (vb : Value) (b : List ByteArray) : Asn := .any (fun k => nmF va a k ∨ nmF vb b k) (fun w => NmAt va a w ∧ NmAt vb b w) false
theorem nm2_ok {va vb : Value} {a b : List ByteArray} {w : World} (h : NmAt va a w) (h2 : NmAt vb b w) : (nm2A va a vb b).ok w :=
  ⟨fun k hk => hk.elim (h.lt k) (h2.lt k), fun _ hw => ⟨h.keep fun k hk => hw k (.inl hk), h2.keep fun k hk => hw k (.inr hk)⟩⟩
theorem nm_cell {b off : Nat} {l : List ByteArray} {w : World} (h : RowAt b off 1 (l.map encN) w) {i : Nat} {x : ByteArray} (hx : l[i]? = some x) : w.cell? ⟨b, off + i * 1, none⟩ = some (.string x) := by
  have := h i (encN x) (by simp [hx]) 0 (.string x) rfl
  exact this
/-- a row of one's own is such a slice. -/
theorem nm_own {E : Nat} {v : Value} {l : List ByteArray} {w : World} (h : w.ownsRow 0 E 1 v l.length (l.flatMap encN)) : NmAt v l w := by
  rcases h.2 with ⟨rfl, e2⟩ | ⟨g, cap, cur, rfl, _⟩
  · refine .inl ⟨List.eq_nil_of_length_eq_zero e2, none, 0, rfl⟩
  · by_cases hl : l = []
    · subst hl; exact .inl ⟨rfl, _, _, rfl⟩
    · exact .inr ⟨g, 0, cap, hl, rfl, row_of_own (enc := encN) (fun _ => rfl) h, (World.ownsRow.lt h g rfl).2⟩
def meetsF (A B : List ByteArray) : Prop := ∃ x ∈ A, x ∈ B
instance (A B : List ByteArray) : Decidable (meetsF A B) := decidable_of_iff (A.any (fun x => B.any fun y => decide (x = y)) = true) (by unfold meetsF; simp)

set_option maxRecDepth 100000 in
theorem meets_P (va vb : Value) (A B : List ByteArray) (ha : A.length ≤ 4611686018427387904) (hb : B.length ≤ 4611686018427387904) (w0 : World) (h1 : NmAt va A w0) (h2 : NmAt vb B w0) : PureC Tryz.prog 65 [va, vb] w0 (.bool (decide (meetsF A B))) := by
   obtain ⟨pa, ca, rfl⟩ := h1.shape
   obtain ⟨pb, cb, rfl⟩ := h2.shape
   refine c_enter [(0, .slice pa A.length ca), (1, .slice pb B.length cb)] [nm2A (.slice pa A.length ca) A (.slice pb B.length cb) B] noB Tryz.func65 rfl Tryz.ntmps65 ⟨rfl, rfl, trivial⟩ rfl (okC (nm2_ok h1 h2) okN) dis1 (mineC (by rfl) mineN) ?_
   intro a hS
   refine c_seq ?_
   refine c_region ?_
   refine L_op (s_e hS (e_assign rfl) rfl ?_); clear hS a; intro a hS
   refine L_nil ?_
   refine n_then ?_
   refine c_seq ?_
   refine c_seq ?_
   refine c_region ?_
   refine L_op (s_e hS (e_move rfl) rfl ?_); clear hS a; intro a hS
   refine L_op (s_e hS (e_len rfl rfl ty_sl45) rfl ?_); clear hS a; intro a hS
   refine L_op (s_e hS (e_move rfl) rfl ?_); clear hS a; intro a hS
   refine L_nil ?_
   refine n_then ?_
   refine wp_block ?_
   skip
   refine c_loop (γ := Nat) (fun k a w => St 26 noB w0 a w [(11, .int .i64 (k : Int)), (10, .int .i64 (A.length : Int)), (9, .slice pa A.length ca), (1, .slice pb B.length cb)] [nm2A (.slice pa A.length ca) A (.slice pb B.length cb) B] ∧ k ≤ A.length ∧ ∀ j, j < k → ∀ x, A[j]? = some x → x ∉ B) (fun k => A.length - k) 0 ⟨hS.slots ⟨rfl, rfl, rfl, rfl, trivial⟩, Nat.zero_le _, fun j hj => by omega⟩ ?_
   clear hS a; (try clear w); intro k a w hI
   obtain ⟨hS, hk, hno⟩ := hI
   refine c_seq ?_
   refine c_region ?_
   refine L_op (s_e hS (e_bin rfl rfl rfl) rfl ?_); clear hS a; intro a hS
   refine L_nil ?_
   refine n_then ?_
   refine c_seq ?_
   first | refine c_ifD hS rfl (fun hc12 => ?_) (fun hc12 => ?_) | refine c_if hS rfl (fun hc12 => ?_) (fun hc12 => ?_)
   ·
     have hkl : k < A.length := by omega
     obtain ⟨x, hx⟩ : ∃ x, A[k]? = some x := ⟨A[k], by simp⟩
     obtain ⟨ba, oa, ca', e1, _⟩ := h1.some (fun e => by rw [e] at hkl; exact absurd hkl (Nat.not_lt_zero _))
     injection e1 with e2 _ e3
     subst e2; subst e3
     refine wp_skip ?_
     refine n_then ?_
     refine c_seq ?_
     refine wp_block ?_
     refine c_seq ?_
     refine c_region ?_
     refine L_op (s_e hS (e_ixN rfl rfl ty_sl45 ty_sz9 (by omega)) rfl ?_); clear hS a; intro a hS
     refine L_op (s_e hS (e_loadC rfl ty_sc9 (fun w hh => by
 obtain ⟨b2, o2, c2, e4, hr⟩ := NmAt.some (hh (nm2A _ A _ B) (by repeat constructor)).1 (fun e => by rw [e] at hkl; exact absurd hkl (Nat.not_lt_zero _))
 injection e4 with e5; injection e5 with e6; injection e6 with e7 e8; subst e7; subst e8
 exact nm_cell hr hx)) rfl ?_); clear hS a; intro a hS
     refine L_op (s_e hS (e_assign rfl) rfl ?_); clear hS a; intro a hS
     refine L_nil ?_
     refine n_then ?_
     refine c_seq ?_
     refine c_region ?_
     refine L_op (s_e hS (e_move rfl) rfl ?_); clear hS a; intro a hS
     refine L_op (s_e hS (e_len rfl rfl ty_sl45) rfl ?_); clear hS a; intro a hS
     refine L_op (s_e hS (e_move rfl) rfl ?_); clear hS a; intro a hS
     refine L_nil ?_
     refine n_then ?_
     refine wp_block ?_
     skip
     refine c_loop (γ := Nat) (fun l a w => St 26 noB w0 a w [(17, .int .i64 (l : Int)), (16, .int .i64 (B.length : Int)), (15, .slice pb B.length cb), (6, .string x), (11, .int .i64 (k : Int)), (10, .int .i64 (A.length : Int)), (9, .slice (some ⟨ba, oa, none⟩) A.length ca), (1, .slice pb B.length cb)] [nm2A (.slice (some ⟨ba, oa, none⟩) A.length ca) A (.slice pb B.length cb) B] ∧ l ≤ B.length ∧ ∀ j, j < l → ∀ y, B[j]? = some y → x ≠ y) (fun l => B.length - l) 0 ⟨hS.slots ⟨rfl, rfl, rfl, rfl, rfl, rfl, rfl, rfl, trivial⟩, Nat.zero_le _, fun j hj => by omega⟩ ?_
     clear hS a; (try clear w); intro l a w hI
     obtain ⟨hS, hl, hno2⟩ := hI
     refine c_seq ?_
     refine c_region ?_
     refine L_op (s_e hS (e_bin rfl rfl rfl) rfl ?_); clear hS a; intro a hS
     refine L_nil ?_
     refine n_then ?_
     refine c_seq ?_
     first | refine c_ifD hS rfl (fun hc18 => ?_) (fun hc18 => ?_) | refine c_if hS rfl (fun hc18 => ?_) (fun hc18 => ?_)
     ·
       have hll : l < B.length := by omega
       obtain ⟨y, hy⟩ : ∃ y, B[l]? = some y := ⟨B[l], by simp⟩
       obtain ⟨bb, ob, cb', e1, _⟩ := h2.some (fun e => by rw [e] at hll; exact absurd hll (Nat.not_lt_zero _))
       injection e1 with e2 _ e3
       subst e2; subst e3
       refine wp_skip ?_
       refine n_then ?_
       refine c_seq ?_
       refine wp_block ?_
       refine c_seq ?_
       refine c_region ?_
       refine L_op (s_e hS (e_ixN rfl rfl ty_sl45 ty_sz9 (by omega)) rfl ?_); clear hS a; intro a hS
       refine L_op (s_e hS (e_loadC rfl ty_sc9 (fun w hh => by
 obtain ⟨b2, o2, c2, e4, hr⟩ := NmAt.some (hh (nm2A _ A _ B) (by repeat constructor)).2 (fun e => by rw [e] at hll; exact absurd hll (Nat.not_lt_zero _))
 injection e4 with e5; injection e5 with e6; injection e6 with e7 e8; subst e7; subst e8
 exact nm_cell hr hy)) rfl ?_); clear hS a; intro a hS
       refine L_op (s_e hS (e_assign rfl) rfl ?_); clear hS a; intro a hS
       refine L_nil ?_
       refine n_then ?_
       refine c_seq ?_
       refine c_region ?_
       refine L_op (s_e hS (e_move rfl) rfl ?_); clear hS a; intro a hS
       refine L_op (s_e hS (e_move rfl) rfl ?_); clear hS a; intro a hS
       refine L_op (s_e hS (e_binS rfl rfl rfl) rfl ?_); clear hS a; intro a hS
       refine L_nil ?_
       refine n_then ?_
       first | refine c_ifD hS rfl (fun hc23 => ?_) (fun hc23 => ?_) | refine c_if hS rfl (fun hc23 => ?_) (fun hc23 => ?_)
       ·
         refine c_seq ?_
         refine c_region ?_
         refine L_op (s_e hS (e_assign rfl) rfl ?_); clear hS a; intro a hS
         refine L_nil ?_
         refine n_then ?_
         refine wp_ret ?_
         refine r_block (r_then (r_then (r_block (r_block (r_then (r_then (r_block (r_then ?_))))))))
         refine c_ret1 hS Tryz.results65 (.tmp rfl) ?_
         have : meetsF A B := ⟨x, List.mem_of_getElem? hx, hc23 ▸ List.mem_of_getElem? hy⟩
         exact ⟨by rw [decide_eq_true this], hS.chg⟩
       ·
         refine wp_skip ?_
         refine n_block ?_
         refine n_then ?_
         refine c_region ?_
         first | (refine L_op (s_e hS (e_binN rfl rfl rfl (by omega)) rfl ?_); clear hS a; intro a hS) | (refine L_op (s_e hS (e_bin rfl rfl rfl) rfl ?_); clear hS a; intro a hS)
         refine L_op (s_e hS (e_move rfl) rfl ?_); clear hS a; intro a hS
         refine L_nil ?_
         exact ⟨l + 1, by omega, hS.slots ⟨rfl, rfl, rfl, rfl, rfl, rfl, rfl, rfl, trivial⟩, by omega, fun j hj z hz => by
         rcases Nat.lt_or_ge j l with h | h
         · exact hno2 j h z hz
         obtain rfl : j = l := (by omega); rw [hy] at hz; cases hz; exact hc23⟩
     ·
       refine wp_exit ?_
       refine x_then (x_then (x_hit ?_))
       refine n_block ?_
       refine n_then ?_
       refine c_region ?_
       first | (refine L_op (s_e hS (e_binN rfl rfl rfl (by omega)) rfl ?_); clear hS a; intro a hS) | (refine L_op (s_e hS (e_bin rfl rfl rfl) rfl ?_); clear hS a; intro a hS)
       refine L_op (s_e hS (e_move rfl) rfl ?_); clear hS a; intro a hS
       refine L_nil ?_
       have hxb : x ∉ B := fun hm => by
         obtain ⟨j, hj⟩ := List.mem_iff_getElem?.1 hm
         exact hno2 j (by have := (List.getElem?_eq_some_iff.1 hj).1; omega) x hj rfl
       exact ⟨k + 1, by omega, hS.slots ⟨rfl, rfl, rfl, rfl, trivial⟩, by omega, fun j hj z hz => by
         rcases Nat.lt_or_ge j k with h | h
         · exact hno j h z hz
         obtain rfl : j = k := (by omega); rw [hx] at hz; cases hz; exact hxb⟩
   ·
     refine wp_exit ?_
     refine x_then (x_then (x_hit ?_))
     refine n_then ?_
     refine c_seq ?_
     refine c_region ?_
     refine L_op (s_e hS (e_assign rfl) rfl ?_); clear hS a; intro a hS
     refine L_nil ?_
     refine n_then ?_
     refine wp_ret ?_
     refine c_ret1 hS Tryz.results65 (.tmp rfl) ?_
     have : ¬ meetsF A B := fun ⟨x, h3, h4⟩ => by
       obtain ⟨j, hj⟩ := List.mem_iff_getElem?.1 h3
       exact hno j (by have := (List.getElem?_eq_some_iff.1 hj).1; omega) x hj h4
     exact ⟨by rw [decide_eq_false this], hS.chg⟩
end Go.Proofs.YtjmkjkhcognoeaaGreatDoor

namespace Go.Proofs.YtjmkjkhcognoeaaGreatDoor
open Go.RowKit

/-- what a ticket holds: its names, whether alone, the slice that holds the names, when it came. -/
structure HE where
  t : Int
  names : List ByteArray
  alone : Bool
  v : Value
  b : Nat
def entI (l : List HE) : List IE := l.map fun e => ⟨e.t, .agg [e.v, .bool e.alone].toArray, e.b⟩
def holdT (e : HE) (w : World) : Prop := w.ownsRow 0 9 1 e.v e.names.length (e.names.flatMap encN)
def holdsT (l : List HE) : Asn := .any (fun k => ∃ e ∈ l, e.v.ownBlock = some k) (fun w => ∀ e ∈ l, holdT e w) true
theorem holds_ok {l : List HE} {w : World} (h : ∀ e ∈ l, holdT e w) : (holdsT l).ok w := by
  refine ⟨fun b hb => ?_, fun w' hw e he => (ok_own (h e he)).hold w' (fun b hb => hw b ⟨e, he, hb⟩)⟩
  obtain ⟨e, he, hb⟩ := hb
  exact (World.ownsRow.lt (h e he) b hb).2
theorem nodup_lt : ∀ (n : Nat) (l : List Nat), l.Nodup → (∀ x ∈ l, x < n) → l.length ≤ n := by
  intro n
  induction n with
  | zero => intro l _ h; cases l with
    | nil => simp
    | cons x l => exact absurd (h x (.head _)) (Nat.not_lt_zero _)
  | succ n ih =>
    intro l hn h
    have h1 := ih (l.erase n) (hn.erase _) (fun x hx => by
      have h2 := h x (List.mem_of_mem_erase hx)
      have h3 : x ≠ n := fun e => by subst e; exact (List.Nodup.not_mem_erase hn) hx
      omega)
    have h4 : l.length ≤ (l.erase n).length + 1 := by rw [List.length_erase]; split <;> omega
    omega
theorem nodup_inj {α β : Type} {f : α → β} (l : List α) (h : (l.map f).Nodup) : ∀ x ∈ l, ∀ y ∈ l, f x = f y → x = y := by
  induction l with
  | nil => intro x hx; cases hx
  | cons z l ih =>
    have h' := List.nodup_cons.1 (show (f z :: l.map f).Nodup from h)
    intro x hx y hy e
    rcases List.mem_cons.1 hx with hx2 | hx2 <;> rcases List.mem_cons.1 hy with hy2 | hy2
    · rw [hx2, hy2]
    · exact absurd (show f z ∈ l.map f from List.mem_map.2 ⟨y, hy2, by rw [← e, hx2]⟩) h'.1
    · exact absurd (show f z ∈ l.map f from List.mem_map.2 ⟨x, hx2, by rw [e, hy2]⟩) h'.1
    · exact ih h'.2 x hx2 y hy2 e
/-- may names be held with what is held? -/
def mayF (l : List HE) (nm : List ByteArray) (al : Bool) : Prop := ∀ e ∈ l, ¬ ((al = true ∨ e.alone = true) ∧ meetsF nm e.names)
instance (l : List HE) (nm : List ByteArray) (al : Bool) : Decidable (mayF l nm al) :=
  decidable_of_iff ((l.all fun e => decide (¬ ((al = true ∨ e.alone = true) ∧ meetsF nm e.names))) = true) (by unfold mayF; rw [List.all_eq_true]; exact ⟨fun h e he => of_decide_eq_true (h e he), fun h e he => decide_eq_true (h e he)⟩)

/-- what may reads. -/
structure mayφ (k mb : Nat) (l : List HE) (c : Nat) (w : World) : Prop where
  held : w.cell? ⟨k, 2, none⟩ = some (.map (some mb))
  mp : w.heap[mb]? = some (.map (mkI (entI l)).toArray c)
  rows : ∀ e ∈ l, holdT e w
def mayK (k mb : Nat) (l : List HE) (i : Nat) : Prop := i = k ∨ i = mb ∨ ∃ e ∈ l, e.v.ownBlock = some i
def mayA (k mb : Nat) (l : List HE) (c : Nat) : Asn := .any (mayK k mb l) (mayφ k mb l c) false
theorem may_ok {k mb : Nat} {l : List HE} {c : Nat} {w : World} (h : mayφ k mb l c w) : (mayA k mb l c).ok w := by
  refine ⟨fun i hi => ?_, fun w' hw => ⟨?_, ?_, fun e he => (ok_own (h.rows e he)).hold w' (fun b hb => hw b (.inr (.inr ⟨e, he, hb⟩)))⟩⟩
  · rcases hi with rfl | rfl | ⟨e, he, hb⟩
    · exact (ce_ok h.held).lt i rfl
    · exact (Array.getElem?_eq_some_iff.1 h.mp).1
    · exact (World.ownsRow.lt (h.rows e he) i hb).2
  · exact (ce_ok h.held).hold w' (fun b hb => by obtain rfl : b = k := hb; exact hw b (.inl rfl))
  · rw [hw mb (.inr (.inl rfl))]; exact h.mp

set_option maxRecDepth 100000 in
theorem may_P (k mb : Nat) (l : List HE) (c : Nat) (nv : Value) (nm : List ByteArray) (al : Bool) (hnm : nm.length ≤ 4611686018427387904) (hl : ∀ e ∈ l, e.names.length ≤ 4611686018427387904) (hg : goodI (entI l) c) (w0 : World) (h : mayφ k mb l c w0) (hn : NmAt nv nm w0) (hd : ∀ i, mayK k mb l i → ¬ nmF nv nm i) :
    PureC Tryz.prog 50 [.pointer (some ⟨k, 0, none⟩), nv, .bool al] w0 (.bool (decide (mayF l nm al))) := by
  refine c_enter [(0, .pointer (some ⟨k, 0, none⟩)), (1, nv), (2, .bool al)] [mayA k mb l c, nmA nv nm] noB Tryz.func50 rfl Tryz.ntmps50 ⟨rfl, rfl, rfl, trivial⟩ rfl (okC (may_ok h) (okC (nm_ok hn) okN)) (disC (sepC hd sepN) dis1) (mineC (by rfl) (mineC (by rfl) mineN)) ?_
  intro a hS
  refine c_seq ?_
  refine c_region ?_
  refine L_op (s_e hS (e_assign rfl) rfl ?_); clear hS a; intro a hS
  refine L_nil ?_
  refine n_then ?_
  refine c_seq ?_
  refine c_seq ?_
  refine c_region ?_
  refine L_op (s_e hS (e_move rfl) rfl ?_); clear hS a; intro a hS
  refine L_op (s_e hS (e_nilCheck rfl) rfl ?_); clear hS a; intro a hS
  first | (refine L_op (s_e hS (e_fa0 rfl ty_fo87_1) rfl ?_); clear hS a; intro a hS) | (refine L_op (s_e hS (e_faK rfl ty_fo87_1) rfl ?_); clear hS a; intro a hS)
  refine L_op (s_e hS (e_loadC rfl ty_sc84 (fun w hh => (hh (mayA k mb l c) (by repeat constructor)).held)) rfl ?_); clear hS a; intro a hS
  refine L_op (s_rangeI (l := entI l) (c := c) hS rfl ty_mp84 (fun w hh => (hh (mayA k mb l c) (by repeat constructor)).mp) (by rfl) ?_); clear hS a; (try clear w); intro a w it hS
  refine L_nil ?_
  refine n_then ?_
  refine wp_block ?_
  skip
  refine c_loop (γ := List Nat) (fun sn a w => St 29 noB w0 a w [(13, .pointer (some ⟨it, 0, none⟩)), (1, nv), (2, .bool al)] [itA it mb sn c, mayA k mb l c, nmA nv nm] ∧ sn.Nodup ∧ (∀ i ∈ sn, i < c) ∧ ∀ e ∈ l, e.b ∈ sn → ¬ ((al = true ∨ e.alone = true) ∧ meetsF nm e.names)) (fun sn => c - sn.length) [] ⟨(hS.slots (by repeat (first | exact trivial | refine ⟨rfl, ?_⟩))).pick (by repeat (first | exact Pick.nil | (refine Pick.cons (by repeat (first | exact Rem.head | apply Rem.tail)) ?_))), .nil, fun i hi => (by cases hi), fun e he hi => (by cases hi)⟩ ?_
  clear hS a; (try clear w); intro sn a w hI
  obtain ⟨hS, hnd, hlt, hno⟩ := hI
  refine c_seq ?_
  refine c_region ?_
  refine L_op (s_nextI (l := entI l) hS rfl (fun w hh => (hh (mayA k mb l c) (by repeat constructor)).mp) hg (by rfl) (fun _ => .head) ?_); intro o ho a1 w1 hS1; clear hS a; revert a1; intro a hS
  refine L_op (s_e hS (e_extract rfl (ny0 o)) rfl ?_); clear hS a; intro a hS
  refine L_nil ?_
  refine n_then ?_
  refine c_seq ?_
  first | refine c_ifD hS rfl (fun hc15 => ?_) (fun hc15 => ?_) | refine c_if hS rfl (fun hc15 => ?_) (fun hc15 => ?_)
  ·
    obtain ⟨ie, rfl⟩ : ∃ q, o = some q := Option.isSome_iff_exists.1 hc15
    obtain ⟨hie, hns⟩ := ho
    obtain ⟨e, he, rfl⟩ := List.mem_map.1 (show ie ∈ l.map fun e => (⟨e.t, .agg [e.v, .bool e.alone].toArray, e.b⟩ : IE) from hie)
    simp only [nyS] at hS
    have hnd2 : (sn ++ [e.b]).Nodup := List.nodup_append.2 ⟨hnd, by simp, fun x hx y hy => by obtain rfl := List.mem_singleton.1 hy; exact fun e => hns (e ▸ hx)⟩
    have hlt2 : ∀ j ∈ sn ++ [e.b], j < c := fun j hj => by
      rcases List.mem_append.1 hj with hj | hj
      · exact hlt j hj
      · obtain rfl := List.mem_singleton.1 hj; exact hg.lt _ hie
    have hsl := nodup_lt _ _ hnd2 hlt2
    rw [List.length_append, List.length_singleton] at hsl
    have hel := hl e he
    obtain ⟨q, cq, hev⟩ := (nm_own (h.rows e he)).shape
    refine wp_skip ?_
    refine n_then ?_
    refine wp_block ?_
    refine c_seq ?_
    refine c_region ?_
    refine L_op (s_e hS (e_entryI (l := entI l) (seen := sn) (e := ⟨e.t, .agg [e.v, .bool e.alone].toArray, e.b⟩) rfl (fun w hh => (hh (mayA k mb l c) (by repeat constructor)).mp) (by repeat constructor) hie hg) rfl ?_); clear hS a; intro a hS
    rw [hev] at hS
    refine L_op (s_e hS (e_extract rfl rfl) rfl ?_); clear hS a; intro a hS
    refine L_op (s_alloc hS ty_z89 rfl ?_); clear hS a; (try clear w); intro a w b8 hS
    refine L_op (s_storeA hS rfl rfl ty_sz89 (by repeat constructor) (by rfl) (by rfl) (by rfl) ?_); clear hS; (try clear w); intro w hS
    refine L_nil ?_
    refine n_then ?_
    refine c_seq ?_
    refine c_region ?_
    refine L_op (s_e hS (e_move rfl) rfl ?_); clear hS a; intro a hS
    refine L_op (s_e hS (e_move rfl) rfl ?_); clear hS a; intro a hS
    refine L_merge 3 22 (.bool (al || e.alone)) hS ?_ ?_
    · intro hcM22
      (first | refine g_splitD (t := 19) hS rfl ?_ ?_ | refine g_split (t := 19) hS rfl ?_ ?_) <;> (clear hS; intro hg19 hS)
      ·
        refine L_skip_f hS rfl rfl rfl ?_; clear hS a; intro a hS
        refine L_skip_f hS rfl rfl rfl ?_; clear hS a; intro a hS
        first | (refine L_op (s_e hS (e_pick_t rfl rfl) rfl ?_); clear hS a; intro a hS) | (refine L_op (s_e hS (e_pick_f rfl rfl) rfl ?_); clear hS a; intro a hS)
        exact hcM22 _ _ (hS.ends 4 22 19 rfl (congrArg Value.bool (by first | rfl | (simp [hg19]; done) | (simp [hg19]; omega) | grind)) rfl rfl (by first | exact congrArg Value.bool (decide_eq_true hg19).symm | exact congrArg Value.bool hg19.symm | simp [hg19]) rfl)
      ·
        first | (refine L_go hS rfl rfl (s_e hS (e_fa0 rfl ty_fo89_1) rfl ?_); clear hS a; intro a hS) | (refine L_go hS rfl rfl (s_e hS (e_faK rfl ty_fo89_1) rfl ?_); clear hS a; intro a hS)
        refine L_go hS rfl rfl (s_e hS (e_load rfl (by repeat constructor) ty_sc4 (by rfl)) rfl ?_); clear hS a; intro a hS
        first | (refine L_op (s_e hS (e_pick_t rfl rfl) rfl ?_); clear hS a; intro a hS) | (refine L_op (s_e hS (e_pick_f rfl rfl) rfl ?_); clear hS a; intro a hS)
        exact hcM22 _ _ (hS.ends 4 22 19 rfl (congrArg Value.bool (by first | rfl | (simp [hg19]; done) | (simp [hg19]; omega) | grind)) rfl rfl (by first | exact congrArg Value.bool (decide_eq_false hg19).symm | exact congrArg Value.bool hg19.symm | simp [hg19]) rfl)
    · clear hS a; (try clear w); intro a w hS
      simp only [List.drop_succ_cons, List.drop_zero]
      refine L_op (s_e hS (e_move rfl) rfl ?_); clear hS a; intro a hS
      refine L_merge 5 28 (.bool (decide ((al = true ∨ e.alone = true) ∧ meetsF nm e.names))) hS ?_ ?_
      · intro hcM28
        (first | refine g_splitD (t := 23) hS rfl ?_ ?_ | refine g_split (t := 23) hS rfl ?_ ?_) <;> (clear hS; intro hg23 hS)
        ·
          refine L_go hS rfl rfl (s_e hS (e_move rfl) rfl ?_); clear hS a; intro a hS
          first | (refine L_go hS rfl rfl (s_e hS (e_fa0 rfl ty_fo89_0) rfl ?_); clear hS a; intro a hS) | (refine L_go hS rfl rfl (s_e hS (e_faK rfl ty_fo89_0) rfl ?_); clear hS a; intro a hS)
          refine L_go hS rfl rfl (s_e hS (e_load rfl (by repeat constructor) ty_sc45 (by rfl)) rfl ?_); clear hS a; intro a hS
          refine L_go hS rfl rfl (s_callP hS (.cons rfl (.cons rfl .nil)) cf65 rfl (meets_P nv (.slice q e.names.length cq) nm e.names hnm hel _ (hS.get (X := nmA nv nm) (by repeat constructor)) (hev ▸ nm_own ((hS.get (X := mayA k mb l c) (by repeat constructor)).rows e he))) ?_); clear hS a; (try clear w); intro a w hS
          first | (refine L_op (s_e hS (e_pick_t rfl rfl) rfl ?_); clear hS a; intro a hS) | (refine L_op (s_e hS (e_pick_f rfl rfl) rfl ?_); clear hS a; intro a hS)
          exact hcM28 _ _ (hS.ends 6 28 23 rfl (congrArg Value.bool (by first | rfl | (simp [hg23]; done) | (simp [hg23]; omega) | grind)) rfl rfl (by first | exact congrArg Value.bool (decide_eq_true hg23).symm | exact congrArg Value.bool hg23.symm | simp [hg23]) rfl)
        ·
          refine L_skip_t hS rfl rfl rfl ?_; clear hS a; intro a hS
          refine L_skip_t hS rfl rfl rfl ?_; clear hS a; intro a hS
          refine L_skip_t hS rfl rfl rfl ?_; clear hS a; intro a hS
          refine L_skip_t hS rfl rfl rfl ?_; clear hS a; intro a hS
          first | (refine L_op (s_e hS (e_pick_t rfl rfl) rfl ?_); clear hS a; intro a hS) | (refine L_op (s_e hS (e_pick_f rfl rfl) rfl ?_); clear hS a; intro a hS)
          exact hcM28 _ _ (hS.ends 6 28 23 rfl (congrArg Value.bool (by first | rfl | (simp [hg23]; done) | (simp [hg23]; omega) | grind)) rfl rfl (by first | exact congrArg Value.bool (decide_eq_false hg23).symm | exact congrArg Value.bool hg23.symm | simp [hg23]) rfl)
      · clear hS a; (try clear w); intro a w hS
        simp only [List.drop_succ_cons, List.drop_zero]
        refine L_nil ?_
        refine n_then ?_
        first | refine c_ifD hS rfl (fun hc28 => ?_) (fun hc28 => ?_) | refine c_if hS rfl (fun hc28 => ?_) (fun hc28 => ?_)
        ·
          refine c_seq ?_
          refine c_region ?_
          refine L_op (s_e hS (e_assign rfl) rfl ?_); clear hS a; intro a hS
          refine L_nil ?_
          refine n_then ?_
          refine wp_ret ?_
          refine r_block (r_then (r_block (r_then ?_)))
          refine c_ret1 hS Tryz.results50 (.tmp rfl) ?_
          have : ¬ mayF l nm al := fun hh => hh e he hc28
          exact ⟨by rw [decide_eq_false this], hS.chg⟩
        ·
          refine wp_skip ?_
          refine n_block ?_
          exact ⟨sn ++ [e.b], by simp only [List.length_append, List.length_singleton]; omega, (hS.slots (by repeat (first | exact trivial | refine ⟨rfl, ?_⟩))).pick (by repeat (first | exact Pick.nil | (refine Pick.cons (by repeat (first | exact Rem.head | apply Rem.tail)) ?_))), hnd2, hlt2, fun x hx hxs => by
          rcases List.mem_append.1 hxs with hxs | hxs
          · exact hno x hx hxs
          · have hbx : x.b = e.b := List.mem_singleton.1 hxs
            have : x = e := nodup_inj (f := HE.b) l (by have := hg.nd; unfold entI at this; rw [List.map_map] at this; exact this) x hx e he hbx
            subst this; exact hc28⟩
  ·
    refine wp_exit ?_
    refine x_then (x_then (x_hit ?_))
    refine n_then ?_
    refine c_seq ?_
    refine c_region ?_
    refine L_op (s_e hS (e_assign rfl) rfl ?_); clear hS a; intro a hS
    refine L_nil ?_
    refine n_then ?_
    refine wp_ret ?_
    refine c_ret1 hS Tryz.results50 (.tmp rfl) ?_
    have hall : ∀ e ∈ l, e.b ∈ sn := by
      cases o with
      | some _ => cases hc15
      | none => exact fun e he => ho _ (List.mem_map.2 ⟨e, he, rfl⟩)
    have : mayF l nm al := fun e he => hno e he (hall e he)
    exact ⟨by rw [decide_eq_true this], hS.chg⟩
end Go.Proofs.YtjmkjkhcognoeaaGreatDoor

namespace Go.Proofs.YtjmkjkhcognoeaaGreatDoor
open Go.RowKit

/-- locks: the map, the channel, the map's clock, what is held, how many were given. -/
structure LK where
  mb : Nat
  ch : Nat
  c : Nat
  hs : List HE
  given : Int
def kCells (s : Int) (D : LK) : List Value := [.int .i32 s, .int .u32 0, .map (some D.mb), .int .i64 D.given, .chan (some D.ch)]
structure LK.wf (D : LK) : Prop where
  good : goodI (entI D.hs) D.c
  len : ∀ e ∈ D.hs, e.names.length ≤ 1000000
  given : 0 ≤ D.given ∧ D.given ≤ 1000000
  keys : ∀ e ∈ D.hs, 1 ≤ e.t ∧ e.t ≤ D.given
structure lkφ (k : Nat) (D : LK) (w : World) : Prop where
  bk : w.heap[k]? = some (.cells (kCells 0 D).toArray 87 (0, 0))
  mp : w.heap[D.mb]? = some (.map (mkI (entI D.hs)).toArray D.c)
  ch : w.heap[D.ch]? = some (.chan 0 #[] false 0 0 false)
  rows : ∀ e ∈ D.hs, holdT e w
  wf : D.wf
def lkF (k : Nat) (D : LK) (i : Nat) : Prop := i = k ∨ i = D.mb ∨ i = D.ch ∨ ∃ e ∈ D.hs, e.v.ownBlock = some i
def lkA (k : Nat) (D : LK) : Asn := .any (lkF k D) (lkφ k D) true
/-- the same, piece by piece. -/
def lkL (k : Nat) (s : Int) (D : LK) : List Asn := [.blk k (kCells s D) 87, .mp D.mb (mkI (entI D.hs)) D.c, chA D.ch false, holdsT D.hs]
theorem mp_ok {b c : Nat} {es : List MapEntry} {w : World} (h : w.heap[b]? = some (.map es.toArray c)) : (Asn.mp b es c).ok w :=
  ⟨fun k hk => by obtain rfl : k = b := hk; exact (Array.getElem?_eq_some_iff.1 h).1, fun w' hw => by show w'.heap[b]? = _; rw [hw b rfl]; exact h⟩
theorem lk_ok {k : Nat} {D : LK} {w : World} (h : lkφ k D w) : (lkA k D).ok w := by
  refine ⟨fun i hi => ?_, fun w' hw => ⟨?_, ?_, ?_, fun e he => (ok_own (h.rows e he)).hold w' (fun b hb => hw b (.inr (.inr (.inr ⟨e, he, hb⟩)))), h.wf⟩⟩
  · rcases hi with rfl | rfl | rfl | ⟨e, he, hb⟩
    · exact (Array.getElem?_eq_some_iff.1 h.bk).1
    · exact (Array.getElem?_eq_some_iff.1 h.mp).1
    · exact (Array.getElem?_eq_some_iff.1 h.ch).1
    · exact (World.ownsRow.lt (h.rows e he) i hb).2
  · rw [hw k (.inl rfl)]; exact h.bk
  · rw [hw D.mb (.inr (.inl rfl))]; exact h.mp
  · rw [hw D.ch (.inr (.inr (.inl rfl)))]; exact h.ch
theorem own_obj {w : World} {E s : Nat} {v : Value} {m : Nat} {xs : List Value} (h : w.ownsRow 0 E s v m xs) {g : Nat} (hg : v.ownBlock = some g) : ∃ cs, w.heap[g]? = some (.cells cs E (0, 0)) := by
  rcases h.2 with ⟨rfl, _⟩ | ⟨g', cap, cur, rfl, _, e2, _⟩
  · cases hg
  · simp [Value.ownBlock] at hg; subst hg; exact ⟨_, e2⟩
theorem lk_oks {k : Nat} {D : LK} {w : World} (h : lkφ k D w) : ∀ X ∈ lkL k 0 D, X.ok w := okC (ok_blk h.bk) (okC (mp_ok h.mp) (okC (ch_ok h.ch) (okC (holds_ok h.rows) okN)))
theorem lk_dis {k : Nat} {D : LK} {w : World} (h : lkφ k D w) : (lkL k 0 D).Pairwise (fun X Y => ∀ b, X.F b → ¬ Y.F b) := by
  have a1 : k ≠ D.mb := fun e => by have := h.bk; rw [e, h.mp] at this; cases this
  have a2 : k ≠ D.ch := fun e => by have := h.bk; rw [e, h.ch] at this; cases this
  have a3 : D.mb ≠ D.ch := fun e => by have := h.mp; rw [e, h.ch] at this; cases this
  have a4 : ∀ e ∈ D.hs, e.v.ownBlock ≠ some k := fun e he hb => by obtain ⟨cs, h1⟩ := own_obj (h.rows e he) hb; rw [h.bk] at h1; cases h1
  have a5 : ∀ e ∈ D.hs, e.v.ownBlock ≠ some D.mb := fun e he hb => by obtain ⟨cs, h1⟩ := own_obj (h.rows e he) hb; rw [h.mp] at h1; cases h1
  have a6 : ∀ e ∈ D.hs, e.v.ownBlock ≠ some D.ch := fun e he hb => by obtain ⟨cs, h1⟩ := own_obj (h.rows e he) hb; rw [h.ch] at h1; cases h1
  exact disC (sepC (fun b h1 h2 => a1 (Eq.trans (Eq.symm h1) h2)) (sepC (fun b h1 h2 => a2 (Eq.trans (Eq.symm h1) h2)) (sepC (fun b h1 h2 => by obtain ⟨e, he, hb⟩ := h2; obtain rfl : b = k := h1; exact a4 e he hb) sepN)))
    (disC (sepC (fun b h1 h2 => a3 (Eq.trans (Eq.symm h1) h2)) (sepC (fun b h1 h2 => by obtain ⟨e, he, hb⟩ := h2; obtain rfl : b = D.mb := h1; exact a5 e he hb) sepN))
      (disC (sepC (fun b h1 h2 => by obtain ⟨e, he, hb⟩ := h2; obtain rfl : b = D.ch := h1; exact a6 e he hb) sepN) dis1))
theorem lk_sub {k : Nat} {s : Int} {D : LK} : ∀ X ∈ lkL k s D, ∀ b, X.F b → lkF k D b := by
  intro X hX b hb
  rcases List.mem_cons.1 hX with rfl | hX
  · exact .inl hb
  rcases List.mem_cons.1 hX with rfl | hX
  · exact .inr (.inl hb)
  rcases List.mem_cons.1 hX with rfl | hX
  · exact .inr (.inr (.inl hb))
  obtain rfl := List.mem_singleton.1 hX
  exact .inr (.inr (.inr hb))
theorem lk_back {k : Nat} {D : LK} {n : NN} {F0 : Nat → Prop} {w0 : World} {a : Act} {w : World} {L : List (Nat × Value)} {Γ : List Asn} (hS : St n F0 w0 a w L (lkL k 0 D ++ Γ)) (hwf : D.wf) : (lkA k D).ok w :=
  lk_ok ⟨hS.get (X := .blk k (kCells 0 D) 87) (.head _), hS.get (X := .mp D.mb (mkI (entI D.hs)) D.c) (.tail _ (.head _)), hS.get (X := chA D.ch false) (.tail _ (.tail _ (.head _))), hS.get (X := holdsT D.hs) (.tail _ (.tail _ (.tail _ (.head _)))), hwf⟩
theorem lk_new {k : Nat} {D : LK} {n : NN} {F0 : Nat → Prop} {w0 : World} {a : Act} {w : World} {L : List (Nat × Value)} {Γ : List Asn} (hS : St n F0 w0 a w L (lkL k 0 D ++ Γ)) (b : Nat) (hb : lkF k D b) : F0 b ∨ w0.heap.size ≤ b := by
  rcases hb with hb | hb | hb | hb
  · exact (hS.mine (.blk k (kCells 0 D) 87) (.head _) rfl b hb).symm
  · exact (hS.mine (.mp D.mb (mkI (entI D.hs)) D.c) (.tail _ (.head _)) rfl b hb).symm
  · exact (hS.mine (chA D.ch false) (.tail _ (.tail _ (.head _))) rfl b hb).symm
  · exact (hS.mine (holdsT D.hs) (.tail _ (.tail _ (.tail _ (.head _)))) rfl b hb).symm

def lk0 (x : Nat × Nat) : LK := ⟨x.1, x.2, 0, [], 0⟩
set_option maxRecDepth 100000 in
theorem NewLocks_P (w0 : World) : NewC Tryz.prog 15 [] w0 (fun x : Nat × Nat × Nat => .pointer (some ⟨x.1, 0, none⟩)) (fun x => lkA x.1 (lk0 x.2)) := by
  refine c_enter [] [] noB Tryz.func15 rfl Tryz.ntmps15 trivial rfl (by simp) (by simp) (by simp) ?_
  intro a hS
  refine c_seq ?_
  refine c_region ?_
  refine L_op (s_e hS (e_assign rfl) rfl ?_); clear hS a; intro a hS
  refine L_nil ?_
  refine n_then ?_
  refine c_seq ?_
  refine c_region ?_
  refine L_op (s_makeMap hS rfl ?_); clear hS a; (try clear w); intro a w b1 hS
  refine L_op (s_makeChan hS ty_ch85 ty_by3 rfl ?_); clear hS a; (try clear w); intro a w b2 hS
  refine L_op (s_e hS (e_build ty_z87 ty_pl87 (.one rfl rfl rfl (by repeat constructor) (.one rfl rfl rfl (by repeat constructor) .nil))) rfl ?_); clear hS a; intro a hS
  refine L_op (s_boxA hS rfl rfl ?_); clear hS a; (try clear w); intro a w b4 hS
  refine L_op (s_e hS (e_assign rfl) rfl ?_); clear hS a; intro a hS
  refine L_nil ?_
  refine n_then ?_
  refine wp_ret ?_
  refine c_ret1 hS Tryz.results15 (.tmp rfl) ?_
  have hS1 := hS.more (Y := holdsT []) (holds_ok (fun e he => by cases he)) (fun b hb => by obtain ⟨e, he, _⟩ := hb; cases he)
  have hS2 := hS1.pick (Γ' := [.blk b4 (kCells 0 (lk0 (b1, b2))) 87, .mp b1 (mkI (entI [])) 0, chA b2 false, holdsT []]) (by repeat (first | exact Pick.nil | (refine Pick.cons (by repeat (first | exact Rem.head | apply Rem.tail)) ?_)))
  exact ⟨(b4, b1, b2), rfl, hS.chg, lk_back (k := b4) (D := lk0 (b1, b2)) (Γ := []) hS2 ⟨⟨fun e he => (by cases he), .nil, .nil⟩, fun e he => (by cases he), ⟨Int.le_refl _, (by decide : (0 : Int) ≤ 1000000)⟩, fun e he => (by cases he)⟩, fun b hb => (lk_new (k := b4) (D := lk0 (b1, b2)) (Γ := []) hS2 b hb).resolve_left (fun h => h)⟩
set_option maxRecDepth 100000 in
theorem Held_P (k : Nat) (D : LK) (w0 : World) (h : lkφ k D w0) : MutC Tryz.prog 19 [.pointer (some ⟨k, 0, none⟩)] w0 (lkA k D) (fun _ : Unit => .int .i64 (D.hs.length : Int)) (fun _ => lkA k D) := by
  have hent : (entI D.hs).length = D.hs.length := by simp [entI]
  refine c_enterD [(0, .pointer (some ⟨k, 0, none⟩))] (lkL k 0 D) (lkF k D) Tryz.func19 rfl Tryz.ntmps19 ⟨rfl, trivial⟩ rfl (lk_oks h) (lk_dis h) (fun X hX _ b hb => .inr (lk_sub X hX b hb)) ?_
  intro a hS
  refine c_seq ?_
  refine c_region ?_
  refine L_op (s_e hS (e_assign rfl) rfl ?_); clear hS a; intro a hS
  refine L_nil ?_
  refine n_then ?_
  refine c_seq ?_
  unfold lkL at hS
  refine c_region ?_
  refine L_op (s_e hS (e_move rfl) rfl ?_); clear hS a; intro a hS
  refine L_op (s_e hS (e_nilCheck rfl) rfl ?_); clear hS a; intro a hS
  first | (refine L_op (s_e hS (e_fa0 rfl ty_fo87_0) rfl ?_); clear hS a; intro a hS) | (refine L_op (s_e hS (e_faK rfl ty_fo87_0) rfl ?_); clear hS a; intro a hS)
  refine L_op (s_callM hS (.cons rfl .nil) cf35 rfl (lock_M muLib (b := k) (k := 0) (cs' := kCells 1 D) (hS.get (X := .blk k (kCells 0 D) 87) (by repeat constructor)) rfl (by unfold kCells; repeat constructor)) (fun x => (by repeat constructor)) rfl ?_); clear hS a; (try clear w); intro x6 a w hS
  refine L_nil ?_
  refine n_then ?_
  refine c_seq ?_
  refine c_region ?_
  refine L_op (s_e hS (e_move rfl) rfl ?_); clear hS a; intro a hS
  refine L_op (s_e hS (e_nilCheck rfl) rfl ?_); clear hS a; intro a hS
  first | (refine L_op (s_e hS (e_fa0 rfl ty_fo87_0) rfl ?_); clear hS a; intro a hS) | (refine L_op (s_e hS (e_faK rfl ty_fo87_0) rfl ?_); clear hS a; intro a hS)
  refine L_op (s_defer hS (.cons rfl .nil) ?_); clear hS a; intro a hS
  refine L_nil ?_
  refine n_then ?_
  refine c_seq ?_
  refine c_region ?_
  refine L_op (s_e hS (e_move rfl) rfl ?_); clear hS a; intro a hS
  refine L_op (s_e hS (e_nilCheck rfl) rfl ?_); clear hS a; intro a hS
  first | (refine L_op (s_e hS (e_fa0 rfl ty_fo87_1) rfl ?_); clear hS a; intro a hS) | (refine L_op (s_e hS (e_faK rfl ty_fo87_1) rfl ?_); clear hS a; intro a hS)
  refine L_op (s_e hS (e_load rfl (by repeat constructor) ty_sc84 (by rfl)) rfl ?_); clear hS a; intro a hS
  refine L_op (s_e hS (e_lenI (l := entI D.hs) rfl rfl ty_mp84 (fun w hh => hh (.mp D.mb (mkI (entI D.hs)) D.c) (by repeat constructor))) rfl ?_); clear hS a; intro a hS
  rw [hent] at hS
  refine L_op (s_e hS (e_assign rfl) rfl ?_); clear hS a; intro a hS
  refine L_nil ?_
  refine n_then ?_
  refine wp_ret ?_
  refine d_open hS ?_
  refine d_call hS cf36 (unlock_D muLib (b := k) (k := 0) (cs' := kCells 0 D) (hS.get (X := .blk k (kCells 1 D) 87) (by repeat constructor)) rfl (by unfold kCells; repeat constructor)) .head rfl ?_
  clear hS w; intro w hS
  refine d_ret1 hS Tryz.results19 (.tmp rfl) ?_
  exact ⟨(), rfl, hS.chg, lk_back (Γ := []) hS h.wf, fun b hb => .inl hb⟩
end Go.Proofs.YtjmkjkhcognoeaaGreatDoor

namespace Go.Proofs.YtjmkjkhcognoeaaGreatDoor
open Go.RowKit

/-- names held by a new ticket. -/
def LK.add (D : LK) (nm : List ByteArray) (al : Bool) (v : Value) : LK := ⟨D.mb, D.ch, D.c + 1, D.hs ++ [⟨D.given + 1, nm, al, v, D.c⟩], D.given + 1⟩
theorem entI_add (D : LK) (nm : List ByteArray) (al : Bool) (v : Value) : entI (D.add nm al v).hs = entI D.hs ++ [⟨D.given + 1, .agg [v, .bool al].toArray, D.c⟩] := by simp [entI, LK.add]
theorem keys_new {D : LK} (h : D.wf) : fI (entI D.hs) (D.given + 1) 0 = none :=
  fI_none (fun e he => by
    obtain ⟨x, hx, rfl⟩ := List.mem_map.1 (show e ∈ D.hs.map _ from he)
    have := (h.keys x hx).2
    show x.t ≠ _
    omega) 0
theorem wf_add {D : LK} (h : D.wf) {nm : List ByteArray} (hn : nm.length ≤ 1000000) (hg : D.given ≤ 999999) (al : Bool) (v : Value) : (D.add nm al v).wf := by
  have e1 := entI_add D nm al v
  have g := h.given
  refine ⟨⟨fun e he => ?_, ?_, ?_⟩, fun e he => ?_, ?_, fun e he => ?_⟩
  · rw [e1] at he
    rcases List.mem_append.1 he with he | he
    · have := h.good.lt e he; show e.b < D.c + 1; omega
    · obtain rfl := List.mem_singleton.1 he; show D.c < D.c + 1; omega
  · rw [e1, List.map_append]
    refine List.nodup_append.2 ⟨h.good.nd, by simp, fun x hx y hy => ?_⟩
    obtain ⟨e, he, rfl⟩ := List.mem_map.1 hx
    have := h.good.lt e he
    have : y = D.c := by simpa using hy
    omega
  · rw [e1, List.map_append]
    refine List.nodup_append.2 ⟨h.good.keys, by simp, fun x hx y hy => ?_⟩
    obtain ⟨e, he, rfl⟩ := List.mem_map.1 hx
    obtain ⟨z, hz, rfl⟩ := List.mem_map.1 (show e ∈ D.hs.map _ from he)
    have := (h.keys z hz).2
    have : y = D.given + 1 := by simpa using hy
    show z.t ≠ y
    omega
  · rcases List.mem_append.1 he with he | he
    · exact h.len e he
    · obtain rfl := List.mem_singleton.1 he; exact hn
  · show 0 ≤ D.given + 1 ∧ D.given + 1 ≤ 1000000
    omega
  · rcases List.mem_append.1 he with he | he
    · have := h.keys e he; show 1 ≤ e.t ∧ e.t ≤ D.given + 1; omega
    · obtain rfl := List.mem_singleton.1 he; show 1 ≤ D.given + 1 ∧ D.given + 1 ≤ D.given + 1; omega
theorem lk_may {k : Nat} {s : Int} {D : LK} {n : NN} {F0 : Nat → Prop} {w0 : World} {a : Act} {w : World} {L : List (Nat × Value)} {Γ : List Asn} (hS : St n F0 w0 a w L Γ) (h1 : .blk k (kCells s D) 87 ∈ Γ) (h2 : .mp D.mb (mkI (entI D.hs)) D.c ∈ Γ) (h3 : holdsT D.hs ∈ Γ) : mayφ k D.mb D.hs D.c w :=
  ⟨cell_of_blk (hS.get h1) rfl, hS.get h2, hS.get h3⟩

theorem one_N (l : List ByteArray) : ∀ u ∈ l.flatMap encN, isOne u = true := fun u hu => by
  obtain ⟨x, _, hx⟩ := List.mem_flatMap.1 hu
  obtain rfl := List.mem_singleton.1 (show u ∈ [.string x] from hx)
  rfl
theorem nm_read {q : Option Addr} {m c : Nat} {l : List ByteArray} {w : World} (hm : NmAt (.slice q m c) l w) : (m = 0 ∧ l.flatMap encN = []) ∨ ∃ bx ox, q = some ⟨bx, ox, none⟩ ∧ ∀ j u, (l.flatMap encN)[j]? = some u → w.cell? ⟨bx, ox + j, none⟩ = some u := by
  rcases hm with ⟨rfl, a, c', e⟩ | ⟨b, off, c', _, e, hr, _⟩
  · injection e with _ e2; exact .inl ⟨e2, rfl⟩
  · injection e with e1
    refine .inr ⟨b, off, e1, fun j u hj => ?_⟩
    have hfl : ∀ l : List ByteArray, l.flatMap encN = l.map Value.string := fun l => by
      induction l with
      | nil => rfl
      | cons x l ih => rw [List.flatMap_cons, ih]; rfl
    rw [hfl, List.getElem?_map] at hj
    cases hx : l[j]? with
    | none => rw [hx] at hj; cases hj
    | some x =>
      rw [hx] at hj; injection hj with hj; subst hj
      have := nm_cell hr hx
      rwa [Nat.mul_one] at this
theorem own_sl {w : World} {E s m : Nat} {v : Value} {xs : List Value} (h : w.ownsRow 0 E s v m xs) : ∃ q c, v = .slice q m c := by
  rcases h.2 with ⟨rfl, e⟩ | ⟨g, cap, cur, rfl, _⟩
  · exact ⟨none, 0, by rw [e]⟩
  · exact ⟨_, _, rfl⟩

set_option maxHeartbeats 1000000 in
set_option maxRecDepth 100000 in
theorem try_M (k : Nat) (D : LK) (nv : Value) (nm : List ByteArray) (al : Bool) (hn : nm.length ≤ 1000000) (hgv : D.given ≤ 999999) (hmay : mayF D.hs nm al) (w0 : World) (h : lkφ k D w0) (hnv : NmAt nv nm w0) (hd : ∀ i, lkF k D i → ¬ nmF nv nm i) :
    MutC Tryz.prog 37 [.pointer (some ⟨k, 0, none⟩), nv, .bool al] w0 (lkA k D) (fun _ : Value => .tuple [.int .i64 (D.given + 1), .chan none].toArray) (fun v => lkA k (D.add nm al v)) := by
  obtain ⟨q, cq, rfl⟩ := hnv.shape
  have wf := h.wf
  have hg := wf.given
  have hsub : ∀ i, mayK k D.mb D.hs i → lkF k D i := fun i hi => by
    rcases hi with hi | hi | hi
    · exact .inl hi
    · exact .inr (.inl hi)
    · exact .inr (.inr (.inr hi))
  refine c_enterD [(0, .pointer (some ⟨k, 0, none⟩)), (1, .slice q nm.length cq), (2, .bool al)] (nmA (.slice q nm.length cq) nm :: lkL k 0 D) (lkF k D) Tryz.func37 rfl Tryz.ntmps37 ⟨rfl, rfl, rfl, trivial⟩ rfl (okC (nm_ok hnv) (lk_oks h)) (disC (fun Y hY b hb hy => hd b (lk_sub Y hY b hy) hb) (lk_dis h)) (mineC rfl (fun X hX _ b hb => .inr (lk_sub X hX b hb))) ?_
  intro a hS
  refine c_seq ?_
  refine c_region ?_
  refine L_op (s_e hS (e_assign rfl) rfl ?_); clear hS a; intro a hS
  refine L_op (s_e hS (e_assign rfl) rfl ?_); clear hS a; intro a hS
  refine L_nil ?_
  refine n_then ?_
  refine c_seq ?_
  unfold lkL at hS
  refine c_region ?_
  refine L_op (s_e hS (e_move rfl) rfl ?_); clear hS a; intro a hS
  refine L_op (s_e hS (e_nilCheck rfl) rfl ?_); clear hS a; intro a hS
  first | (refine L_op (s_e hS (e_fa0 rfl ty_fo87_0) rfl ?_); clear hS a; intro a hS) | (refine L_op (s_e hS (e_faK rfl ty_fo87_0) rfl ?_); clear hS a; intro a hS)
  refine L_op (s_callM hS (.cons rfl .nil) cf35 rfl (lock_M muLib (b := k) (k := 0) (cs' := kCells 1 D) (hS.get (X := .blk k (kCells 0 D) 87) (by repeat constructor)) rfl (by unfold kCells; repeat constructor)) (fun x => (by repeat constructor)) rfl ?_); clear hS a; (try clear w); intro x11 a w hS
  refine L_nil ?_
  refine n_then ?_
  refine c_seq ?_
  refine c_region ?_
  refine L_op (s_e hS (e_move rfl) rfl ?_); clear hS a; intro a hS
  refine L_op (s_e hS (e_nilCheck rfl) rfl ?_); clear hS a; intro a hS
  first | (refine L_op (s_e hS (e_fa0 rfl ty_fo87_0) rfl ?_); clear hS a; intro a hS) | (refine L_op (s_e hS (e_faK rfl ty_fo87_0) rfl ?_); clear hS a; intro a hS)
  refine L_op (s_defer hS (.cons rfl .nil) ?_); clear hS a; intro a hS
  refine L_nil ?_
  refine n_then ?_
  refine c_seq ?_
  refine c_seq ?_
  refine c_region ?_
  refine L_op (s_e hS (e_move rfl) rfl ?_); clear hS a; intro a hS
  refine L_op (s_e hS (e_move rfl) rfl ?_); clear hS a; intro a hS
  refine L_op (s_e hS (e_move rfl) rfl ?_); clear hS a; intro a hS
  refine L_op (s_callP hS (.cons rfl (.cons rfl (.cons rfl .nil))) cf50 rfl (may_P k D.mb D.hs D.c (.slice q nm.length cq) nm al (by omega) (fun e he => by have := wf.len e he; omega) wf.good _ (lk_may (s := 1) hS (by repeat constructor) (by repeat constructor) (by repeat constructor)) (hS.get (X := nmA (.slice q nm.length cq) nm) (by repeat constructor)) (fun i hi => hd i (hsub i hi))) ?_); clear hS a; (try clear w); intro a w hS
  refine L_op (s_e hS (e_not rfl) rfl ?_); clear hS a; intro a hS
  refine L_nil ?_
  refine n_then ?_
  replace hS := hS.is (t := 19) (c := false) rfl ((by rw [decide_eq_true hmay]; rfl))
  refine c_if_f hS rfl ?_
  refine wp_skip ?_
  refine n_then ?_
  refine c_seq ?_
  refine c_region ?_
  refine L_op (s_e hS (e_move rfl) rfl ?_); clear hS a; intro a hS
  refine L_op (s_e hS (e_nilCheck rfl) rfl ?_); clear hS a; intro a hS
  first | (refine L_op (s_e hS (e_fa0 rfl ty_fo87_2) rfl ?_); clear hS a; intro a hS) | (refine L_op (s_e hS (e_faK rfl ty_fo87_2) rfl ?_); clear hS a; intro a hS)
  refine L_op (s_e hS (e_load rfl (by repeat constructor) ty_sc3 (by rfl)) rfl ?_); clear hS a; intro a hS
  first | (refine L_op (s_e hS (e_binN rfl rfl rfl (by omega)) rfl ?_); clear hS a; intro a hS) | (refine L_op (s_e hS (e_bin rfl rfl rfl) rfl ?_); clear hS a; intro a hS)
  refine L_op (s_e hS (e_nilCheck rfl) rfl ?_); clear hS a; intro a hS
  first | (refine L_op (s_e hS (e_fa0 rfl ty_fo87_2) rfl ?_); clear hS a; intro a hS) | (refine L_op (s_e hS (e_faK rfl ty_fo87_2) rfl ?_); clear hS a; intro a hS)
  refine L_op (s_store hS rfl rfl rfl ty_sz3 (by repeat constructor) (by repeat constructor) ?_); clear hS; (try clear w); intro w hS
  refine L_nil ?_
  refine n_then ?_
  refine c_seq ?_
  refine c_drawS [15] (by kernel_rfl) hS (sub_cons (X := .blk k (kCells 1 ⟨D.mb, D.ch, D.c, D.hs, D.given + 1⟩) 87) (by repeat constructor) (sub_cons (X := nmA (.slice q nm.length cq) nm) (by repeat constructor) sub_nil)) ?_; clear hS; (try clear w); intro w hS
  simp only [List.length_cons, List.length_nil, Nat.zero_add, Nat.reduceAdd, List.replicate]
  refine Z_take0 (i := 0) hS rfl want_none (e_move rfl) (listed' := [true, false, false, false, false, false, false, false, false, false, false, false, false, false, false, false]) rfl (by kernel_rfl) (by kernel_rfl) (by kernel_rfl) (fun _ _ _ h => h) rfl ?_; clear hS a; intro a hS
  refine Z_take0 (i := 1) hS rfl want_none (e_nilCheck rfl) (listed' := [true, true, false, false, false, false, false, false, false, false, false, false, false, false, false, false]) rfl (by kernel_rfl) (by kernel_rfl) (by kernel_rfl) (fun _ _ _ h => h) rfl ?_; clear hS a; intro a hS
  first | (refine Z_take0 (i := 2) hS rfl want_none (e_fa0 rfl ty_fo87_1) (listed' := [true, true, true, false, false, false, false, false, false, false, false, false, false, false, false, false]) rfl (by kernel_rfl) (by kernel_rfl) (by kernel_rfl) (fun _ _ _ h => h) rfl ?_; clear hS a; intro a hS) | (refine Z_take0 (i := 2) hS rfl want_none (e_faK rfl ty_fo87_1) (listed' := [true, true, true, false, false, false, false, false, false, false, false, false, false, false, false, false]) rfl (by kernel_rfl) (by kernel_rfl) (by kernel_rfl) (fun _ _ _ h => h) rfl ?_; clear hS a; intro a hS)
  refine Z_take (i := 3) hS rfl want_none (e_load rfl (by repeat constructor) ty_sc84 (by rfl)) (listed' := [true, true, true, true, false, false, false, false, false, false, false, false, false, false, false, false]) rfl (by kernel_rfl) (by kernel_rfl) (by kernel_rfl) (by kernel_rfl) (by kernel_rfl) (sub_cons (by repeat constructor) (sub_cons (by repeat constructor) sub_nil)) (fun _ _ _ h => h) rfl ?_; clear hS a; intro a hS
  refine Z_take0 (i := 4) hS rfl want_none (e_move rfl) (listed' := [true, true, true, true, true, false, false, false, false, false, false, false, false, false, false, false]) rfl (by kernel_rfl) (by kernel_rfl) (by kernel_rfl) (fun _ _ _ h => h) rfl ?_; clear hS a; intro a hS
  refine Z_take0 (i := 5) hS rfl want_none (e_nilCheck rfl) (listed' := [true, true, true, true, true, true, false, false, false, false, false, false, false, false, false, false]) rfl (by kernel_rfl) (by kernel_rfl) (by kernel_rfl) (fun _ _ _ h => h) rfl ?_; clear hS a; intro a hS
  first | (refine Z_take0 (i := 6) hS rfl want_none (e_fa0 rfl ty_fo87_2) (listed' := [true, true, true, true, true, true, true, false, false, false, false, false, false, false, false, false]) rfl (by kernel_rfl) (by kernel_rfl) (by kernel_rfl) (fun _ _ _ h => h) rfl ?_; clear hS a; intro a hS) | (refine Z_take0 (i := 6) hS rfl want_none (e_faK rfl ty_fo87_2) (listed' := [true, true, true, true, true, true, true, false, false, false, false, false, false, false, false, false]) rfl (by kernel_rfl) (by kernel_rfl) (by kernel_rfl) (fun _ _ _ h => h) rfl ?_; clear hS a; intro a hS)
  refine Z_take (i := 7) hS rfl want_none (e_load rfl (by repeat constructor) ty_sc3 (by rfl)) (listed' := [true, true, true, true, true, true, true, true, false, false, false, false, false, false, false, false]) rfl (by kernel_rfl) (by kernel_rfl) (by kernel_rfl) (by kernel_rfl) (by kernel_rfl) (sub_cons (by repeat constructor) (sub_cons (by repeat constructor) sub_nil)) (fun _ _ _ h => h) rfl ?_; clear hS a; intro a hS
  refine Z_take0 (i := 8) hS rfl want_none (e_move rfl) (listed' := [true, true, true, true, true, true, true, true, true, false, false, false, false, false, false, false]) rfl (by kernel_rfl) (by kernel_rfl) (by kernel_rfl) (fun _ _ _ h => h) rfl ?_; clear hS a; intro a hS
  refine Z_take0 (i := 9) hS rfl want_none (e_len rfl rfl ty_sl45) (listed' := [true, true, true, true, true, true, true, true, true, true, false, false, false, false, false, false]) rfl (by kernel_rfl) (by kernel_rfl) (by kernel_rfl) (fun _ _ _ h => h) rfl ?_; clear hS a; intro a hS
  refine Z_take0 (i := 11) hS rfl want_none (e_move rfl) (listed' := [true, true, true, true, true, true, true, true, true, true, false, true, false, false, false, false]) rfl (by kernel_rfl) (by kernel_rfl) (by kernel_rfl) (fun _ _ _ h => h) rfl ?_; clear hS a; intro a hS
  refine Z_take0 (i := 13) hS rfl want_none (e_move rfl) (listed' := [true, true, true, true, true, true, true, true, true, true, false, true, false, true, false, false]) rfl (by kernel_rfl) (by kernel_rfl) (by kernel_rfl) (fun _ _ _ h => h) rfl ?_; clear hS a; intro a hS
  refine Z_one (i := 10) rfl (want_none a hS.sl) (listed' := [true, true, true, true, true, true, true, true, true, true, true, true, false, true, false, false]) rfl (by kernel_rfl) (s_make0 hS rfl rfl ty_sl45 ty_sz9 ty_by9 ty_z9 rfl (by omega) ?_); clear hS a; (try clear w); intro x41 a w hS
  refine Z_and hS (sub_cons (by repeat constructor) (sub_cons (by repeat constructor) sub_nil)) ?_
  refine Z_one (i := 12) rfl (want_none a hS.sl) (listed' := [true, true, true, true, true, true, true, true, true, true, true, true, true, true, false, false]) rfl (by kernel_rfl) (s_appendL hS rfl rfl ty_sl45 ty_sz9 ty_by9 ty_z9 rfl rfl rfl (by repeat constructor) (ys := nm.flatMap encN) (by rw [flat_len encN 1 (fun _ => rfl)]) (nm_read (hS.get (X := nmA (.slice q nm.length cq) nm) (by repeat constructor))) (one_N nm) (by omega) (fun _ => (by repeat constructor)) ?_); clear hS a; (try clear w); intro v43 a w hv43 hS
  obtain ⟨q43, c43, rfl⟩ := own_sl (hS.get (X := ownA 9 1 v43 (0 + nm.length) ([] ++ nm.flatMap encN)) (by repeat constructor))
  simp only [Nat.zero_add, List.nil_append] at hS
  refine Z_and hS (sub_cons (by repeat constructor) (sub_cons (by repeat constructor) sub_nil)) ?_
  refine Z_take0 (i := 14) hS rfl want_none (e_build ty_z89 ty_pl89 (.one rfl rfl rfl (by repeat constructor) (.one rfl rfl rfl (by repeat constructor) .nil))) (listed' := [true, true, true, true, true, true, true, true, true, true, true, true, true, true, true, false]) rfl (by kernel_rfl) (by kernel_rfl) (by kernel_rfl) (fun _ _ _ h => h) rfl ?_; clear hS a; intro a hS
  refine Z_one (i := 15) rfl (want_none a hS.sl) (listed' := [true, true, true, true, true, true, true, true, true, true, true, true, true, true, true, true]) rfl (by kernel_rfl) (s_mapUpI (l := entI D.hs) (c := D.c) hS rfl rfl rfl ty_mp84 ty_u3 (keys_new wf) (by repeat constructor) ?_); clear hS; (try clear w); intro w hS
  refine Z_last (by simp) ?_
  refine Z_done (by kernel_rfl) ?_
  refine n_then ?_
  refine c_seq ?_
  refine c_region ?_
  refine L_op (s_e hS (e_move rfl) rfl ?_); clear hS a; intro a hS
  refine L_op (s_e hS (e_nilCheck rfl) rfl ?_); clear hS a; intro a hS
  first | (refine L_op (s_e hS (e_fa0 rfl ty_fo87_2) rfl ?_); clear hS a; intro a hS) | (refine L_op (s_e hS (e_faK rfl ty_fo87_2) rfl ?_); clear hS a; intro a hS)
  refine L_op (s_e hS (e_load rfl (by repeat constructor) ty_sc3 (by rfl)) rfl ?_); clear hS a; intro a hS
  refine L_op (s_e hS (e_assign rfl) rfl ?_); clear hS a; intro a hS
  refine L_op (s_e hS (e_assign rfl) rfl ?_); clear hS a; intro a hS
  refine L_nil ?_
  refine n_then ?_
  refine wp_ret ?_
  refine d_open hS ?_
  have e1 := entI_add D nm al (.slice q43 nm.length c43)
  rw [← e1] at hS
  have hrow : w.ownsRow 0 9 1 (.slice q43 nm.length c43) nm.length (nm.flatMap encN) := hS.get (X := ownA 9 1 (.slice q43 nm.length c43) nm.length (nm.flatMap encN)) (by repeat constructor)
  have hold := hS.get (X := holdsT D.hs) (by repeat constructor)
  have hS2 := hS.join (Y := holdsT D.hs) (Z := holdsT (D.add nm al (.slice q43 nm.length c43)).hs) (by repeat constructor) (holds_ok (fun e he => by
    rcases List.mem_append.1 he with he | he
    · exact hold e he
    · obtain rfl := List.mem_singleton.1 he; exact hrow)) (fun b hb => by
    obtain ⟨e, he, hb⟩ := hb
    rcases List.mem_append.1 he with he | he
    · exact .inr ⟨e, he, hb⟩
    · obtain rfl := List.mem_singleton.1 he; exact .inl hb) (fun _ => ⟨rfl, rfl⟩)
  clear hS
  have hS := hS2.pick (Γ' := lkL k 1 (D.add nm al (.slice q43 nm.length c43))) (by unfold lkL; exact (by repeat (first | exact Pick.nil | (refine Pick.cons (by repeat (first | exact Rem.head | apply Rem.tail)) ?_))))
  clear hS2 hrow hold
  refine d_call hS cf36 (unlock_D muLib (b := k) (k := 0) (cs' := kCells 0 (D.add nm al (.slice q43 nm.length c43))) (hS.get (X := .blk k (kCells 1 (D.add nm al (.slice q43 nm.length c43))) 87) (.head _)) rfl (by unfold kCells; repeat constructor)) .head rfl ?_
  clear hS w; intro w hS
  refine d_retN hS Tryz.results37 (.cons (.tmp rfl) (.cons (.tmp rfl) .nil)) rfl ?_
  exact ⟨.slice q43 nm.length c43, rfl, hS.chg, lk_back (D := D.add nm al (.slice q43 nm.length c43)) (Γ := []) hS (wf_add wf hn hgv al _), lk_new (D := D.add nm al (.slice q43 nm.length c43)) (Γ := []) hS⟩

set_option maxRecDepth 100000 in
theorem Lock_M (k : Nat) (D : LK) (nv : Value) (nm : List ByteArray) (al : Bool) (hn : nm.length ≤ 1000000) (hgv : D.given ≤ 999999) (hmay : mayF D.hs nm al) (w0 : World) (h : lkφ k D w0) (hnv : NmAt nv nm w0) (hd : ∀ i, lkF k D i → ¬ nmF nv nm i) :
    MutC Tryz.prog 18 [.pointer (some ⟨k, 0, none⟩), nv, .bool al] w0 (lkA k D) (fun _ : Value => .int .i64 (D.given + 1)) (fun v => lkA k (D.add nm al v)) := by
  have hg := h.wf.given
  refine c_enter [(0, .pointer (some ⟨k, 0, none⟩)), (1, nv), (2, .bool al)] [lkA k D, nmA nv nm] (lkF k D) Tryz.func18 rfl Tryz.ntmps18 ⟨rfl, rfl, rfl, trivial⟩ rfl (okC (lk_ok h) (okC (nm_ok hnv) okN)) (disC (sepC hd sepN) dis1) (mineO (fun _ hb => hb) (mineC (by rfl) mineN)) ?_
  intro a hS
  refine c_seq ?_
  refine c_region ?_
  refine L_op (s_e hS (e_assign rfl) rfl ?_); clear hS a; intro a hS
  refine L_nil ?_
  refine n_then ?_
  refine wp_block ?_
  skip
  refine c_loop (γ := Unit) (fun u a w => St 21 (lkF k D) w0 a w [(0, .pointer (some ⟨k, 0, none⟩)), (1, nv), (2, .bool al)] [lkA k D, nmA nv nm]) (fun u => 0) () (hS.slots (by repeat (first | exact trivial | refine ⟨rfl, ?_⟩))) ?_
  clear hS a; (try clear w); intro u a w hI
  have hS := hI; clear hI
  refine wp_block ?_
  refine c_seq ?_
  refine c_region ?_
  refine L_op (s_e hS (e_move rfl) rfl ?_); clear hS a; intro a hS
  refine L_op (s_e hS (e_move rfl) rfl ?_); clear hS a; intro a hS
  refine L_op (s_e hS (e_move rfl) rfl ?_); clear hS a; intro a hS
  refine L_op (s_callM hS (.cons rfl (.cons rfl (.cons rfl .nil))) cf37 rfl (try_M k D nv nm al hn hgv hmay _ (hS.get (X := lkA k D) (by repeat constructor)) (hS.get (X := nmA nv nm) (by repeat constructor)) hd) (fun x => (by repeat constructor)) rfl ?_); clear hS a; (try clear w); intro x13 a w hS
  refine L_op (s_e hS (e_move rfl) rfl ?_); clear hS a; intro a hS
  refine L_op (s_e hS (e_extract rfl rfl) rfl ?_); clear hS a; intro a hS
  refine L_op (s_e hS (e_extract rfl rfl) rfl ?_); clear hS a; intro a hS
  refine L_op (s_e hS (e_assign rfl) rfl ?_); clear hS a; intro a hS
  refine L_op (s_e hS (e_assign rfl) rfl ?_); clear hS a; intro a hS
  refine L_nil ?_
  refine n_then ?_
  refine c_seq ?_
  refine c_seq ?_
  refine c_region ?_
  refine L_op (s_e hS (e_move rfl) rfl ?_); clear hS a; intro a hS
  refine L_op (s_e hS (e_bin rfl rfl rfl) rfl ?_); clear hS a; intro a hS
  refine L_nil ?_
  refine n_then ?_
  replace hS := hS.is (t := 17) (c := true) rfl ((decide_eq_true (by omega)))
  refine c_if_t hS rfl ?_
  refine c_seq ?_
  refine c_region ?_
  refine L_op (s_e hS (e_move rfl) rfl ?_); clear hS a; intro a hS
  refine L_op (s_e hS (e_assign rfl) rfl ?_); clear hS a; intro a hS
  refine L_nil ?_
  refine n_then ?_
  refine wp_ret ?_
  refine r_then (r_block (r_then (r_block ?_)))
  refine c_ret1 hS Tryz.results18 (.tmp rfl) ?_
  exact ⟨x13, rfl, hS.chg, hS.ok _ (.head _), fun b hb => (hS.mine _ (.head _) rfl b hb).symm⟩

/-- a ticket let go. -/
def LK.drop (D : LK) (t : Int) (ch : Nat) : LK := ⟨D.mb, ch, D.c, D.hs.filter (fun e => decide (e.t ≠ t)), D.given⟩
end Go.Proofs.YtjmkjkhcognoeaaGreatDoor

namespace Go.Proofs.YtjmkjkhcognoeaaGreatDoor
open Go.RowKit

set_option maxRecDepth 100000 in
theorem b32_P (b : Bool) (w0 : World) : PureC Tryz.prog 47 [.bool b] w0 (.int .u32 (if b then 1 else 0)) := by
  refine c_enter [(0, .bool b)] [] noB Tryz.func47 rfl Tryz.ntmps47 ⟨rfl, trivial⟩ rfl (by simp) (by simp) (by simp) ?_
  intro a hS
  refine c_seq ?_
  refine c_region ?_
  refine L_op (s_e hS (e_assign rfl) rfl ?_); clear hS a; intro a hS
  refine L_nil ?_
  refine n_then ?_
  refine c_seq ?_
  refine c_seq ?_
  refine c_region ?_
  refine L_op (s_e hS (e_move rfl) rfl ?_); clear hS a; intro a hS
  refine L_nil ?_
  refine n_then ?_
  first | refine c_ifD hS rfl (fun hc3 => ?_) (fun hc3 => ?_) | refine c_if hS rfl (fun hc3 => ?_) (fun hc3 => ?_)
  ·
    refine c_seq ?_
    refine c_region ?_
    refine L_op (s_e hS (e_assign rfl) rfl ?_); clear hS a; intro a hS
    refine L_nil ?_
    refine n_then ?_
    refine wp_ret ?_
    refine r_then ?_
    refine c_ret1 hS Tryz.results47 (.tmp rfl) ?_
    exact ⟨by rw [hc3]; rfl, hS.chg⟩
  ·
    refine wp_skip ?_
    refine n_then ?_
    refine c_seq ?_
    refine c_region ?_
    refine L_op (s_e hS (e_assign rfl) rfl ?_); clear hS a; intro a hS
    refine L_nil ?_
    refine n_then ?_
    refine wp_ret ?_
    refine c_ret1 hS Tryz.results47 (.tmp rfl) ?_
    exact ⟨by rw [hc3]; rfl, hS.chg⟩
set_option maxRecDepth 100000 in
theorem aLoad_P (b k : Nat) (x : Int) (w0 : World) (h : w0.cell? ⟨b, k, none⟩ = some (.int .u32 x)) : PureC Tryz.prog 31 [.pointer (some ⟨b, k, none⟩)] w0 (.bool (decide (x ≠ 0))) := by
  refine c_enter [(0, .pointer (some ⟨b, k, none⟩))] [ceA b k (.int .u32 x)] noB Tryz.func31 rfl Tryz.ntmps31 ⟨rfl, trivial⟩ rfl (okC (ce_ok h) okN) dis1 (mineC (by rfl) mineN) ?_
  intro a hS
  refine c_seq ?_
  refine c_region ?_
  refine L_op (s_e hS (e_assign rfl) rfl ?_); clear hS a; intro a hS
  refine L_nil ?_
  refine n_then ?_
  refine c_seq ?_
  refine c_region ?_
  refine L_op (s_e hS (e_move rfl) rfl ?_); clear hS a; intro a hS
  refine L_op (s_e hS (e_nilCheck rfl) rfl ?_); clear hS a; intro a hS
  first | (refine L_op (s_e hS (e_fa0 rfl ty_fo73_1) rfl ?_); clear hS a; intro a hS) | (refine L_op (s_e hS (e_faK rfl ty_fo73_1) rfl ?_); clear hS a; intro a hS)
  refine L_op (s_e hS (e_externH (.cons rfl .nil) (fun w hh => run_call_load Tryz.func44 (by kernel_rfl) (by kernel_rfl) (by kernel_rfl) .u32 (by kernel_rfl) (hh (ceA b k (.int .u32 x)) (by repeat constructor)))) rfl ?_); clear hS a; intro a hS
  refine L_op (s_e hS (e_bin rfl rfl rfl) rfl ?_); clear hS a; intro a hS
  refine L_op (s_e hS (e_assign rfl) rfl ?_); clear hS a; intro a hS
  refine L_nil ?_
  refine n_then ?_
  refine wp_ret ?_
  refine c_ret1 hS Tryz.results31 (.tmp rfl) ?_
  exact ⟨rfl, hS.chg⟩
set_option maxRecDepth 100000 in
theorem aStore_B {b k E : Nat} {cs cs' : List Value} {x : Value} (w0 : World) (hb : (Asn.blk b cs E).φ w0) (hv : nth cs k = some x) (hu : Upd cs k (.int .u32 1) cs') :
    MutC Tryz.prog 34 [.pointer (some ⟨b, k, none⟩), .bool true] w0 (.blk b cs E) (fun _ : Unit => .tuple [].toArray) (fun _ => .blk b cs' E) ∧ ∀ u, CallsD Tryz.prog 34 [Value.pointer (some ⟨b, k, none⟩), Value.bool true].toArray u w0 fun e u' w' => u' = u ∧ ∃ _ : Unit, e = .returned (.tuple [].toArray) ∧ Chg (Asn.blk b cs E).F w0 w' ∧ (Asn.blk b cs' E).ok w' ∧ ∀ c, (Asn.blk b cs' E).F c → (Asn.blk b cs E).F c ∨ w0.heap.size ≤ c := by
  unfold MutC
  refine c_enterB [(0, .pointer (some ⟨b, k, none⟩)), (1, .bool true)] [Asn.blk b cs E] (fun i => i = b) Tryz.func34 rfl Tryz.ntmps34 ⟨rfl, rfl, trivial⟩ rfl (okC (ok_blk hb) okN) dis1 (mineO (fun _ hb => hb) mineN) ?_
  intro a hS
  refine c_draw1 [5] (by kernel_rfl) hS ?_; clear hS; (try clear w); intro w hS
  simp only [List.length_cons, List.length_nil, Nat.zero_add, Nat.reduceAdd, List.replicate]
  refine Z_take0 (i := 0) hS rfl want_none (e_move rfl) (listed' := [true, false, false, false, false, false]) rfl (by kernel_rfl) (by kernel_rfl) (by kernel_rfl) (fun _ _ _ h => h) rfl ?_; clear hS a; intro a hS
  refine Z_take0 (i := 1) hS rfl want_none (e_nilCheck rfl) (listed' := [true, true, false, false, false, false]) rfl (by kernel_rfl) (by kernel_rfl) (by kernel_rfl) (fun _ _ _ h => h) rfl ?_; clear hS a; intro a hS
  first | (refine Z_take0 (i := 2) hS rfl want_none (e_fa0 rfl ty_fo73_1) (listed' := [true, true, true, false, false, false]) rfl (by kernel_rfl) (by kernel_rfl) (by kernel_rfl) (fun _ _ _ h => h) rfl ?_; clear hS a; intro a hS) | (refine Z_take0 (i := 2) hS rfl want_none (e_faK rfl ty_fo73_1) (listed' := [true, true, true, false, false, false]) rfl (by kernel_rfl) (by kernel_rfl) (by kernel_rfl) (fun _ _ _ h => h) rfl ?_; clear hS a; intro a hS)
  refine Z_take0 (i := 3) hS rfl want_none (e_move rfl) (listed' := [true, true, true, true, false, false]) rfl (by kernel_rfl) (by kernel_rfl) (by kernel_rfl) (fun _ _ _ h => h) rfl ?_; clear hS a; intro a hS
  refine Z_one (i := 4) rfl (want_none a hS.sl) (listed' := [true, true, true, true, true, false]) rfl (by kernel_rfl) (s_callP hS (.cons rfl .nil) cf47 rfl (b32_P true _) ?_); clear hS a; (try clear w); intro a w hS
  refine Z_and hS (by intro X hX; repeat (first | exact hX | apply List.Mem.tail)) ?_
  have hcell : w.cell? ⟨b, k, none⟩ = some x := by
    have h1 : w.heap[b]? = some (.cells cs.toArray E (0, 0)) := hS.get (X := .blk b cs E) (by repeat constructor)
    rw [nth_eq] at hv
    exact cell_of_blk h1 hv
  have hfz : w.frozen? ⟨b, k, none⟩ = false := frozen_of_blk (hS.get (X := .blk b cs E) (by repeat constructor))
  refine Z_one (i := 5) rfl (want_none a hS.sl) (listed' := [true, true, true, true, true, true]) rfl (by kernel_rfl) (s_externS hS (.cons rfl (.cons rfl .nil)) (cs' := cs') (by repeat constructor) hu rfl (run_call_store Tryz.func46 (by kernel_rfl) (by kernel_rfl) (by kernel_rfl) (by kernel_rfl) hcell hfz) ?_); clear hS a hcell hfz; (try clear w); intro a w hS
  refine Z_last (by simp) ?_
  refine Z_done (by kernel_rfl) ?_
  refine r_norm ?_
  refine c_retN hS Tryz.results34 .nil rfl ?_
  exact ⟨(), rfl, hS.chg, hS.ok _ (.head _), fun c hc => .inl hc⟩
theorem aStore_D {b k E : Nat} {cs cs' : List Value} {x : Value} (w0 : World) (hb : (Asn.blk b cs E).φ w0) (hv : nth cs k = some x) (hu : Upd cs k (.int .u32 1) cs') :
    MutD Tryz.prog 34 [.pointer (some ⟨b, k, none⟩), .bool true] w0 (.blk b cs E) (.blk b cs' E) :=
  ((aStore_B w0 hb hv hu).2 .returning).mono fun _ _ _ ⟨h1, _, h2, h3, h4, h5⟩ => ⟨h1, ⟨_, h2⟩, h3, h4, h5⟩

/-- a value that is made once: done, lock, made, what makes it, the value. -/
def zL (d s m : Int) (f : Value) (v : Int) : List Value := [.int .u32 d, .int .i32 s, .int .u32 0, .int .u32 m, f, .int .i64 v]
def zA (b : Nat) (d s m : Int) (f : Value) (v : Int) : Asn := .blk b (zL d s m f v) 81

set_option maxRecDepth 100000 in
theorem NewLazy_P (f : Value) (hf : isOne f = true) (w0 : World) : NewC Tryz.prog 11 [f] w0 (fun b : Nat => .pointer (some ⟨b, 0, none⟩)) (fun b => zA b 0 0 0 f 0) := by
  refine c_enter [(0, f)] [] noB Tryz.func11 rfl Tryz.ntmps11 ⟨rfl, trivial⟩ rfl (by simp) (by simp) (by simp) ?_
  intro a hS
  refine c_seq ?_
  refine c_region ?_
  refine L_op (s_e hS (e_assign rfl) rfl ?_); clear hS a; intro a hS
  refine L_nil ?_
  refine n_then ?_
  refine c_seq ?_
  refine c_region ?_
  refine L_op (s_e hS (e_move rfl) rfl ?_); clear hS a; intro a hS
  refine L_op (s_e hS (e_build ty_z81 ty_pl81 (.one rfl hf rfl (by repeat constructor) .nil)) rfl ?_); clear hS a; intro a hS
  refine L_op (s_boxA hS rfl rfl ?_); clear hS a; (try clear w); intro a w b5 hS
  refine L_op (s_e hS (e_assign rfl) rfl ?_); clear hS a; intro a hS
  refine L_nil ?_
  refine n_then ?_
  refine wp_ret ?_
  refine c_ret1 hS Tryz.results11 (.tmp rfl) ?_
  exact ⟨b5, rfl, hS.chg, hS.ok _ (.head _), fun c hc => by obtain rfl : c = b5 := hc; exact (hS.mine (.blk c (zL 0 0 0 f 0) 81) (.head _) rfl c rfl).resolve_right (fun h => h)⟩
set_option maxRecDepth 100000 in
theorem Made_P (b : Nat) (m : Int) (w0 : World) (h : w0.cell? ⟨b, 3, none⟩ = some (.int .u32 m)) : PureC Tryz.prog 13 [.pointer (some ⟨b, 0, none⟩)] w0 (.bool (decide (m ≠ 0))) := by
  refine c_enter [(0, .pointer (some ⟨b, 0, none⟩))] [ceA b 3 (.int .u32 m)] noB Tryz.func13 rfl Tryz.ntmps13 ⟨rfl, trivial⟩ rfl (okC (ce_ok h) okN) dis1 (mineC (by rfl) mineN) ?_
  intro a hS
  refine c_seq ?_
  refine c_region ?_
  refine L_op (s_e hS (e_assign rfl) rfl ?_); clear hS a; intro a hS
  refine L_nil ?_
  refine n_then ?_
  refine c_seq ?_
  refine c_region ?_
  refine L_op (s_e hS (e_move rfl) rfl ?_); clear hS a; intro a hS
  refine L_op (s_e hS (e_nilCheck rfl) rfl ?_); clear hS a; intro a hS
  first | (refine L_op (s_e hS (e_fa0 rfl ty_fo81_1) rfl ?_); clear hS a; intro a hS) | (refine L_op (s_e hS (e_faK rfl ty_fo81_1) rfl ?_); clear hS a; intro a hS)
  refine L_op (s_callP hS (.cons rfl .nil) cf31 rfl (aLoad_P b 3 m _ (hS.get (X := ceA b 3 (.int .u32 m)) (by repeat constructor))) ?_); clear hS a; (try clear w); intro a w hS
  refine L_op (s_e hS (e_assign rfl) rfl ?_); clear hS a; intro a hS
  refine L_nil ?_
  refine n_then ?_
  refine wp_ret ?_
  refine c_ret1 hS Tryz.results13 (.tmp rfl) ?_
  exact ⟨rfl, hS.chg⟩

/-- what makes the value: it may change what belongs to X. -/
def Maker (g : Nat) (caps : List Value) (X Y : Asn) (v : Int) : Prop := ∀ w, X.ok w → MutC Tryz.prog g caps w X (fun _ : Unit => .int .i64 v) (fun _ => Y)

set_option maxRecDepth 100000 in
theorem Get1_M {b pl g : Nat} {caps : List Value} {X Y : Asn} {v : Int} (hg : Maker g caps X Y v) (cfg : CallsTo Tryz.prog g) (hmX : X.mine = true) (hmY : Y.mine = true) (w0 : World) (h : (duo (zA b 0 1 0 (.func (.func g) #[] caps.toArray) 0) X).ok w0) (hp : w0.cell? ⟨pl, 0, none⟩ = some (.pointer (some ⟨b, 0, none⟩)))
    (hd : pl ≠ b ∧ ¬ X.F pl) :
    MutC Tryz.prog 33 [.pointer (some ⟨pl, 0, none⟩)] w0 (duo (zA b 0 1 0 (.func (.func g) #[] caps.toArray) 0) X) (fun _ : Unit => .tuple [].toArray) (fun _ => duo (zA b 0 1 1 (.func (.func g) #[] caps.toArray) v) Y) := by
  obtain ⟨h1, h2, h3⟩ := h.now
  refine c_enter [(0, .pointer (some ⟨pl, 0, none⟩))] [.blk b (zL 0 1 0 (.func (.func g) #[] caps.toArray) 0) 81, X, ceA pl 0 (.pointer (some ⟨b, 0, none⟩))] (fun k => k = b ∨ X.F k) Tryz.func33 rfl Tryz.ntmps33 ⟨rfl, trivial⟩ rfl (okC h1 (okC h2 (okC (ce_ok hp) okN))) (disC (sepC h3 (sepC (fun k hk hk2 => hd.1 (Eq.trans (Eq.symm hk2) hk)) sepN)) (disC (sepC (fun k hk hk2 => by have e : k = pl := hk2; rw [e] at hk; exact hd.2 hk) sepN) dis1)) (mineO (fun k hk => .inl hk) (mineO (fun k hk => .inr hk) (mineC rfl mineN))) ?_
  intro a hS
  refine c_seq ?_
  refine c_drawS [8] (by kernel_rfl) hS (sub_cons (X := .blk b (zL 0 1 0 (.func (.func g) #[] caps.toArray) 0) 81) (by repeat constructor) (sub_cons (X := ceA pl 0 (.pointer (some ⟨b, 0, none⟩))) (by repeat constructor) sub_nil)) ?_; clear hS; (try clear w); intro w hS
  simp only [List.length_cons, List.length_nil, Nat.zero_add, Nat.reduceAdd, List.replicate]
  refine Z_take (i := 0) hS rfl want_none (e_loadC rfl ty_sc37 (fun w hh => hh (ceA pl 0 (.pointer (some ⟨b, 0, none⟩))) (by repeat constructor))) (listed' := [true, false, false, false, false, false, false, false, false]) rfl (by kernel_rfl) (by kernel_rfl) (by kernel_rfl) (by kernel_rfl) (by kernel_rfl) (sub_cons (by repeat constructor) (sub_cons (by repeat constructor) sub_nil)) (fun _ _ _ h => h) rfl ?_; clear hS a; intro a hS
  refine Z_take (i := 1) hS rfl want_none (e_loadC rfl ty_sc37 (fun w hh => hh (ceA pl 0 (.pointer (some ⟨b, 0, none⟩))) (by repeat constructor))) (listed' := [true, true, false, false, false, false, false, false, false]) rfl (by kernel_rfl) (by kernel_rfl) (by kernel_rfl) (by kernel_rfl) (by kernel_rfl) (sub_cons (by repeat constructor) (sub_cons (by repeat constructor) sub_nil)) (fun _ _ _ h => h) rfl ?_; clear hS a; intro a hS
  refine Z_take0 (i := 2) hS rfl want_none (e_nilCheck rfl) (listed' := [true, true, true, false, false, false, false, false, false]) rfl (by kernel_rfl) (by kernel_rfl) (by kernel_rfl) (fun _ _ _ h => h) rfl ?_; clear hS a; intro a hS
  first | (refine Z_take0 (i := 3) hS rfl want_none (e_fa0 rfl ty_fo81_2) (listed' := [true, true, true, true, false, false, false, false, false]) rfl (by kernel_rfl) (by kernel_rfl) (by kernel_rfl) (fun _ _ _ h => h) rfl ?_; clear hS a; intro a hS) | (refine Z_take0 (i := 3) hS rfl want_none (e_faK rfl ty_fo81_2) (listed' := [true, true, true, true, false, false, false, false, false]) rfl (by kernel_rfl) (by kernel_rfl) (by kernel_rfl) (fun _ _ _ h => h) rfl ?_; clear hS a; intro a hS)
  refine Z_take (i := 4) hS rfl want_none (e_load rfl (by repeat constructor) ty_sc39 (by rfl)) (listed' := [true, true, true, true, true, false, false, false, false]) rfl (by kernel_rfl) (by kernel_rfl) (by kernel_rfl) (by kernel_rfl) (by kernel_rfl) (sub_cons (by repeat constructor) (sub_cons (by repeat constructor) sub_nil)) (fun _ _ _ h => h) rfl ?_; clear hS a; intro a hS
  refine Z_one (i := 5) rfl (want_none a hS.sl) (listed' := [true, true, true, true, true, true, false, false, false]) rfl (by kernel_rfl) (s_callvM hS rfl .nil cfg rfl (hg w (hS.ok X (by repeat constructor))) (fun x => (by repeat constructor)) hmX ?_); clear hS a; (try clear w); intro x6 a w hS
  refine Z_and hS (sub_cons (by repeat constructor) (sub_cons (by repeat constructor) sub_nil)) ?_
  refine Z_take0 (i := 6) hS rfl want_none (e_nilCheck rfl) (listed' := [true, true, true, true, true, true, true, false, false]) rfl (by kernel_rfl) (by kernel_rfl) (by kernel_rfl) (fun _ _ _ h => h) rfl ?_; clear hS a; intro a hS
  first | (refine Z_take0 (i := 7) hS rfl want_none (e_fa0 rfl ty_fo81_3) (listed' := [true, true, true, true, true, true, true, true, false]) rfl (by kernel_rfl) (by kernel_rfl) (by kernel_rfl) (fun _ _ _ h => h) rfl ?_; clear hS a; intro a hS) | (refine Z_take0 (i := 7) hS rfl want_none (e_faK rfl ty_fo81_3) (listed' := [true, true, true, true, true, true, true, true, false]) rfl (by kernel_rfl) (by kernel_rfl) (by kernel_rfl) (fun _ _ _ h => h) rfl ?_; clear hS a; intro a hS)
  refine Z_one (i := 8) rfl (want_none a hS.sl) (listed' := [true, true, true, true, true, true, true, true, true]) rfl (by kernel_rfl) (s_store hS rfl rfl rfl ty_sz3 (by repeat constructor) (by repeat constructor) ?_); clear hS; (try clear w); intro w hS
  refine Z_last (by simp) ?_
  refine Z_done (by kernel_rfl) ?_
  refine n_then ?_
  refine c_region ?_
  refine L_op (s_e hS (e_loadC rfl ty_sc37 (fun w hh => hh (ceA pl 0 (.pointer (some ⟨b, 0, none⟩))) (by repeat constructor))) rfl ?_); clear hS a; intro a hS
  refine L_op (s_e hS (e_nilCheck rfl) rfl ?_); clear hS a; intro a hS
  first | (refine L_op (s_e hS (e_fa0 rfl ty_fo81_1) rfl ?_); clear hS a; intro a hS) | (refine L_op (s_e hS (e_faK rfl ty_fo81_1) rfl ?_); clear hS a; intro a hS)
  refine L_op (s_callM hS (.cons rfl (.cons rfl .nil)) cf34 rfl ((aStore_B (b := b) (k := 3) (x := .int .u32 0) (cs' := zL 0 1 1 (.func (.func g) #[] caps.toArray) v) _ (hS.get (X := .blk b (zL 0 1 0 (.func (.func g) #[] caps.toArray) v) 81) (by repeat constructor)) rfl (by unfold zL; repeat constructor)).1) (fun x => (by repeat constructor)) rfl ?_); clear hS a; (try clear w); intro x12 a w hS
  refine L_nil ?_
  refine r_norm ?_
  refine c_retN hS Tryz.results33 .nil rfl ?_
  refine ⟨(), rfl, hS.chg, duo_ok (hS.ok _ (.head _)) (hS.ok _ (.tail _ (.head _))) (hS.sep .head (.head _)), fun c hc => ?_⟩
  rcases hc with hc | hc
  · exact .inl (.inl hc)
  · exact (hS.mine Y (.tail _ (.head _)) hmY c hc).symm

set_option maxRecDepth 100000 in
theorem slow_M {b pl g : Nat} {caps : List Value} {X Y : Asn} {v : Int} (hg : Maker g caps X Y v) (cfg : CallsTo Tryz.prog g) (hmX : X.mine = true) (hmY : Y.mine = true) (w0 : World) (h : (duo (zA b 0 0 0 (.func (.func g) #[] caps.toArray) 0) X).ok w0) (hp : w0.cell? ⟨pl, 0, none⟩ = some (.pointer (some ⟨b, 0, none⟩)))
    (hd : pl ≠ b ∧ ¬ X.F pl) :
    MutC Tryz.prog 45 [.pointer (some ⟨b, 0, none⟩), .func (.func 33) #[] [.pointer (some ⟨pl, 0, none⟩)].toArray] w0 (duo (zA b 0 0 0 (.func (.func g) #[] caps.toArray) 0) X) (fun _ : Unit => .tuple [].toArray) (fun _ => duo (zA b 1 0 1 (.func (.func g) #[] caps.toArray) v) Y) := by
  obtain ⟨h1, h2, h3⟩ := h.now
  refine c_enterD [(0, .pointer (some ⟨b, 0, none⟩)), (1, .func (.func 33) #[] [.pointer (some ⟨pl, 0, none⟩)].toArray)] [.blk b (zL 0 0 0 (.func (.func g) #[] caps.toArray) 0) 81, X, ceA pl 0 (.pointer (some ⟨b, 0, none⟩))] (fun k => k = b ∨ X.F k) Tryz.func45 rfl Tryz.ntmps45 ⟨rfl, rfl, trivial⟩ rfl (okC h1 (okC h2 (okC (ce_ok hp) okN))) (disC (sepC h3 (sepC (fun k hk hk2 => hd.1 (Eq.trans (Eq.symm hk2) hk)) sepN)) (disC (sepC (fun k hk hk2 => by have e : k = pl := hk2; rw [e] at hk; exact hd.2 hk) sepN) dis1)) (mineO (fun k hk => .inl hk) (mineO (fun k hk => .inr hk) (mineC rfl mineN))) ?_
  intro a hS
  refine c_seq ?_
  refine c_region ?_
  refine L_op (s_e hS (e_move rfl) rfl ?_); clear hS a; intro a hS
  refine L_op (s_e hS (e_nilCheck rfl) rfl ?_); clear hS a; intro a hS
  first | (refine L_op (s_e hS (e_fa0 rfl ty_fo79_2) rfl ?_); clear hS a; intro a hS) | (refine L_op (s_e hS (e_faK rfl ty_fo79_2) rfl ?_); clear hS a; intro a hS)
  refine L_op (s_callM hS (.cons rfl .nil) cf35 rfl (lock_M muLib (b := b) (k := 1) (cs' := zL 0 1 0 (.func (.func g) #[] caps.toArray) 0) (hS.get (X := .blk b (zL 0 0 0 (.func (.func g) #[] caps.toArray) 0) 81) (by repeat constructor)) rfl (by unfold zL; repeat constructor)) (fun x => (by repeat constructor)) rfl ?_); clear hS a; (try clear w); intro x7 a w hS
  refine L_nil ?_
  refine n_then ?_
  refine c_seq ?_
  refine c_region ?_
  refine L_op (s_e hS (e_move rfl) rfl ?_); clear hS a; intro a hS
  refine L_op (s_e hS (e_nilCheck rfl) rfl ?_); clear hS a; intro a hS
  first | (refine L_op (s_e hS (e_fa0 rfl ty_fo79_2) rfl ?_); clear hS a; intro a hS) | (refine L_op (s_e hS (e_faK rfl ty_fo79_2) rfl ?_); clear hS a; intro a hS)
  refine L_op (s_defer hS (.cons rfl .nil) ?_); clear hS a; intro a hS
  refine L_nil ?_
  refine n_then ?_
  refine c_seq ?_
  refine c_region ?_
  refine L_op (s_e hS (e_move rfl) rfl ?_); clear hS a; intro a hS
  refine L_op (s_e hS (e_nilCheck rfl) rfl ?_); clear hS a; intro a hS
  first | (refine L_op (s_e hS (e_fa0 rfl ty_fo79_1) rfl ?_); clear hS a; intro a hS) | (refine L_op (s_e hS (e_faK rfl ty_fo79_1) rfl ?_); clear hS a; intro a hS)
  refine L_op (s_callP hS (.cons rfl .nil) cf31 rfl (aLoad_P b 0 0 _ (cell_of_blk (hS.get (X := .blk b (zL 0 1 0 (.func (.func g) #[] caps.toArray) 0) 81) (by repeat constructor)) rfl)) ?_); clear hS a; (try clear w); intro a w hS
  refine L_op (s_e hS (e_not rfl) rfl ?_); clear hS a; intro a hS
  refine L_nil ?_
  refine n_then ?_
  replace hS := hS.is (t := 15) (c := true) rfl (rfl)
  refine c_if_t hS rfl ?_
  refine c_seq ?_
  refine c_region ?_
  refine L_op (s_e hS (e_move rfl) rfl ?_); clear hS a; intro a hS
  refine L_op (s_e hS (e_nilCheck rfl) rfl ?_); clear hS a; intro a hS
  first | (refine L_op (s_e hS (e_fa0 rfl ty_fo79_1) rfl ?_); clear hS a; intro a hS) | (refine L_op (s_e hS (e_faK rfl ty_fo79_1) rfl ?_); clear hS a; intro a hS)
  refine L_op (s_defer hS (.cons rfl (.cons rfl .nil)) ?_); clear hS a; intro a hS
  refine L_nil ?_
  refine n_then ?_
  refine c_region ?_
  refine L_op (s_e hS (e_move rfl) rfl ?_); clear hS a; intro a hS
  replace hS := hS.duo rfl hmX
  refine L_op (s_callvM hS rfl .nil cf33 rfl (Get1_M hg cfg hmX hmY w (hS.ok (duo (zA b 0 1 0 (.func (.func g) #[] caps.toArray) 0) X) (.head _)) (hS.get (X := ceA pl 0 (.pointer (some ⟨b, 0, none⟩))) (by repeat constructor)) hd) (fun x => (by repeat constructor)) rfl ?_); clear hS a; (try clear w); intro x20 a w hS
  replace hS := hS.unduo
  refine L_nil ?_
  refine d_norm ?_
  refine d_open hS ?_
  refine d_call hS cf34 (aStore_D (b := b) (k := 0) (x := .int .u32 0) (cs' := zL 1 1 1 (.func (.func g) #[] caps.toArray) v) _ (hS.get (X := .blk b (zL 0 1 1 (.func (.func g) #[] caps.toArray) v) 81) (by repeat constructor)) rfl (by unfold zL; repeat constructor)) .head rfl ?_
  clear hS w; intro w hS
  refine d_call hS cf36 (unlock_D muLib (b := b) (k := 1) (cs' := zL 1 0 1 (.func (.func g) #[] caps.toArray) v) (hS.get (X := .blk b (zL 1 1 1 (.func (.func g) #[] caps.toArray) v) 81) (by repeat constructor)) rfl (by unfold zL; repeat constructor)) .head rfl ?_
  clear hS w; intro w hS
  refine d_retN hS Tryz.results45 .nil rfl ?_
  refine ⟨(), rfl, hS.chg, duo_ok (hS.ok _ (.head _)) (hS.ok _ (.tail _ (.head _))) (hS.sep .head (.head _)), fun c hc => ?_⟩
  rcases hc with hc | hc
  · exact .inl (.inl hc)
  · exact (hS.mine Y (.tail _ (.head _)) hmY c hc).symm
end Go.Proofs.YtjmkjkhcognoeaaGreatDoor

namespace Go.Proofs.YtjmkjkhcognoeaaGreatDoor
open Go.RowKit

/-- a block that is only read. -/
def rdA (b : Nat) (cs : List Value) (E : Nat) : Asn := .any (fun k => k = b) (fun w => w.heap[b]? = some (.cells cs.toArray E (0, 0))) false
theorem rd_ok {b E : Nat} {cs : List Value} {w : World} (h : w.heap[b]? = some (.cells cs.toArray E (0, 0))) : (rdA b cs E).ok w :=
  ⟨fun k hk => by obtain rfl : k = b := hk; exact (Array.getElem?_eq_some_iff.1 h).1, fun w' hw => by show w'.heap[b]? = _; rw [hw b rfl]; exact h⟩

set_option maxRecDepth 100000 in
theorem Do_M {b pl g : Nat} {caps : List Value} {X Y : Asn} {v : Int} (hg : Maker g caps X Y v) (cfg : CallsTo Tryz.prog g) (hmX : X.mine = true) (hmY : Y.mine = true) (w0 : World) (h : (duo (zA b 0 0 0 (.func (.func g) #[] caps.toArray) 0) X).ok w0) (hp : w0.cell? ⟨pl, 0, none⟩ = some (.pointer (some ⟨b, 0, none⟩)))
    (hd : pl ≠ b ∧ ¬ X.F pl) :
    MutC Tryz.prog 32 [.pointer (some ⟨b, 0, none⟩), .func (.func 33) #[] [.pointer (some ⟨pl, 0, none⟩)].toArray] w0 (duo (zA b 0 0 0 (.func (.func g) #[] caps.toArray) 0) X) (fun _ : Unit => .tuple [].toArray) (fun _ => duo (zA b 1 0 1 (.func (.func g) #[] caps.toArray) v) Y) := by
  refine c_enter [(0, .pointer (some ⟨b, 0, none⟩)), (1, .func (.func 33) #[] [.pointer (some ⟨pl, 0, none⟩)].toArray)] [duo (zA b 0 0 0 (.func (.func g) #[] caps.toArray) 0) X, ceA pl 0 (.pointer (some ⟨b, 0, none⟩))] (fun k => k = b ∨ X.F k) Tryz.func32 rfl Tryz.ntmps32 ⟨rfl, rfl, trivial⟩ rfl (okC h (okC (ce_ok hp) okN)) (disC (sepC (fun k hk hk2 => by have e : k = pl := hk2; rcases hk with hk | hk; exact hd.1 (Eq.trans (Eq.symm e) hk); exact hd.2 (e ▸ hk)) sepN) dis1) (mineO (fun k hk => hk) (mineC rfl mineN)) ?_
  intro a hS
  refine c_seq ?_
  refine c_region ?_
  refine L_op (s_e hS (e_move rfl) rfl ?_); clear hS a; intro a hS
  refine L_op (s_e hS (e_nilCheck rfl) rfl ?_); clear hS a; intro a hS
  first | (refine L_op (s_e hS (e_fa0 rfl ty_fo79_1) rfl ?_); clear hS a; intro a hS) | (refine L_op (s_e hS (e_faK rfl ty_fo79_1) rfl ?_); clear hS a; intro a hS)
  refine L_op (s_callP hS (.cons rfl .nil) cf31 rfl (aLoad_P b 0 0 _ (cell_of_blk (hS.get (X := duo (zA b 0 0 0 (.func (.func g) #[] caps.toArray) 0) X) (by repeat constructor)).1.now rfl)) ?_); clear hS a; (try clear w); intro a w hS
  refine L_op (s_e hS (e_not rfl) rfl ?_); clear hS a; intro a hS
  refine L_nil ?_
  refine n_then ?_
  replace hS := hS.is (t := 8) (c := true) rfl (rfl)
  refine c_if_t hS rfl ?_
  refine c_region ?_
  refine L_op (s_e hS (e_move rfl) rfl ?_); clear hS a; intro a hS
  refine L_op (s_e hS (e_move rfl) rfl ?_); clear hS a; intro a hS
  refine L_op (s_callM hS (.cons rfl (.cons rfl .nil)) cf45 rfl (slow_M hg cfg hmX hmY w (hS.ok (duo (zA b 0 0 0 (.func (.func g) #[] caps.toArray) 0) X) (.head _)) (hS.get (X := ceA pl 0 (.pointer (some ⟨b, 0, none⟩))) (by repeat constructor)) hd) (fun x => (by repeat constructor)) rfl ?_); clear hS a; (try clear w); intro x11 a w hS
  refine L_nil ?_
  refine r_norm ?_
  refine c_retN hS Tryz.results32 .nil rfl ?_
  refine ⟨(), rfl, hS.chg, hS.ok _ (.head _), fun c hc => ?_⟩
  rcases hc with hc | hc
  · exact .inl (.inl hc)
  · exact (hS.mine (duo (zA b 1 0 1 (.func (.func g) #[] caps.toArray) v) Y) (.head _) rfl c (.inr hc)).symm
set_option maxRecDepth 100000 in
theorem Do_done {b pl : Nat} {f : Value} {v : Int} (w0 : World) (h : (zA b 1 0 1 f v).φ w0) : PureC Tryz.prog 32 [.pointer (some ⟨b, 0, none⟩), .func (.func 33) #[] [.pointer (some ⟨pl, 0, none⟩)].toArray] w0 (.tuple [].toArray) := by
  refine c_enter [(0, .pointer (some ⟨b, 0, none⟩)), (1, .func (.func 33) #[] [.pointer (some ⟨pl, 0, none⟩)].toArray)] [rdA b (zL 1 0 1 f v) 81] noB Tryz.func32 rfl Tryz.ntmps32 ⟨rfl, rfl, trivial⟩ rfl (okC (rd_ok h) okN) dis1 (mineC (by rfl) mineN) ?_
  intro a hS
  refine c_seq ?_
  refine c_region ?_
  refine L_op (s_e hS (e_move rfl) rfl ?_); clear hS a; intro a hS
  refine L_op (s_e hS (e_nilCheck rfl) rfl ?_); clear hS a; intro a hS
  first | (refine L_op (s_e hS (e_fa0 rfl ty_fo79_1) rfl ?_); clear hS a; intro a hS) | (refine L_op (s_e hS (e_faK rfl ty_fo79_1) rfl ?_); clear hS a; intro a hS)
  refine L_op (s_callP hS (.cons rfl .nil) cf31 rfl (aLoad_P b 0 1 _ (cell_of_blk (hS.get (X := rdA b (zL 1 0 1 f v) 81) (by repeat constructor)) rfl)) ?_); clear hS a; (try clear w); intro a w hS
  refine L_op (s_e hS (e_not rfl) rfl ?_); clear hS a; intro a hS
  refine L_nil ?_
  refine n_then ?_
  replace hS := hS.is (t := 8) (c := false) rfl (rfl)
  refine c_if_f hS rfl ?_
  refine wp_skip ?_
  refine r_norm ?_
  refine c_retN hS Tryz.results32 .nil rfl ?_
  exact ⟨rfl, hS.chg⟩

set_option maxRecDepth 100000 in
theorem Get_M {b g : Nat} {caps : List Value} {X Y : Asn} {v : Int} (hg : Maker g caps X Y v) (cfg : CallsTo Tryz.prog g) (hmX : X.mine = true) (hmY : Y.mine = true) (w0 : World) (h : (duo (zA b 0 0 0 (.func (.func g) #[] caps.toArray) 0) X).ok w0) :
    MutC Tryz.prog 14 [.pointer (some ⟨b, 0, none⟩)] w0 (duo (zA b 0 0 0 (.func (.func g) #[] caps.toArray) 0) X) (fun _ : Unit => .int .i64 v) (fun _ => duo (zA b 1 0 1 (.func (.func g) #[] caps.toArray) v) Y) := by
  refine c_enter [(0, .pointer (some ⟨b, 0, none⟩))] [duo (zA b 0 0 0 (.func (.func g) #[] caps.toArray) 0) X] (fun k => k = b ∨ X.F k) Tryz.func14 rfl Tryz.ntmps14 ⟨rfl, trivial⟩ rfl (okC (h) okN) dis1 (mineO (fun _ hb => hb) mineN) ?_
  intro a hS
  refine c_seq ?_
  refine c_region ?_
  refine L_op (s_box1 hS rfl rfl rfl ?_); clear hS a; (try clear w); intro a w b1 hS
  refine L_op (s_e hS (e_assign rfl) rfl ?_); clear hS a; intro a hS
  refine L_nil ?_
  refine n_then ?_
  refine c_seq ?_
  refine c_region ?_
  refine L_op (s_e hS (e_load rfl (by repeat constructor) ty_sc37 (by rfl)) rfl ?_); clear hS a; intro a hS
  refine L_op (s_e hS (e_nilCheck rfl) rfl ?_); clear hS a; intro a hS
  first | (refine L_op (s_e hS (e_fa0 rfl ty_fo81_0) rfl ?_); clear hS a; intro a hS) | (refine L_op (s_e hS (e_faK rfl ty_fo81_0) rfl ?_); clear hS a; intro a hS)
  refine L_op (s_e hS (e_makeFunc .nil (.cons rfl .nil)) rfl ?_); clear hS a; intro a hS
  refine L_op (s_callM hS (.cons rfl (.cons rfl .nil)) cf32 rfl (Do_M hg cfg hmX hmY w (hS.ok (duo (zA b 0 0 0 (.func (.func g) #[] caps.toArray) 0) X) (by repeat constructor)) (cell_of_blk (hS.get (X := .blk b1 [.pointer (some ⟨b, 0, none⟩)] 37) (by repeat constructor)) rfl) ⟨fun e => hS.sep (X := .blk b1 [.pointer (some ⟨b, 0, none⟩)] 37) (Y := duo (zA b 0 0 0 (.func (.func g) #[] caps.toArray) 0) X) (by repeat (first | exact Rem.head | apply Rem.tail)) (by repeat constructor) b1 rfl (.inl e), fun e => hS.sep (X := .blk b1 [.pointer (some ⟨b, 0, none⟩)] 37) (Y := duo (zA b 0 0 0 (.func (.func g) #[] caps.toArray) 0) X) (by repeat (first | exact Rem.head | apply Rem.tail)) (by repeat constructor) b1 rfl (.inr e)⟩) (fun x => (by repeat constructor)) rfl ?_); clear hS a; (try clear w); intro x7 a w hS
  refine L_nil ?_
  refine n_then ?_
  refine c_seq ?_
  refine c_region ?_
  refine L_op (s_e hS (e_load rfl (by repeat constructor) ty_sc37 (by rfl)) rfl ?_); clear hS a; intro a hS
  refine L_op (s_e hS (e_nilCheck rfl) rfl ?_); clear hS a; intro a hS
  first | (refine L_op (s_e hS (e_fa0 rfl ty_fo81_3) rfl ?_); clear hS a; intro a hS) | (refine L_op (s_e hS (e_faK rfl ty_fo81_3) rfl ?_); clear hS a; intro a hS)
  refine L_op (s_e hS (e_loadC rfl ty_sc3 (fun w hh => cell_of_blk (cs := zL 1 0 1 (.func (.func g) #[] caps.toArray) v) (E := 81) (hh (duo (zA b 1 0 1 (.func (.func g) #[] caps.toArray) v) Y) (by repeat constructor)).1.now rfl)) rfl ?_); clear hS a; intro a hS
  refine L_op (s_e hS (e_assign rfl) rfl ?_); clear hS a; intro a hS
  refine L_nil ?_
  refine n_then ?_
  refine wp_ret ?_
  refine c_ret1 hS Tryz.results14 (.tmp rfl) ?_
  refine ⟨(), rfl, hS.chg, hS.ok (duo (zA b 1 0 1 (.func (.func g) #[] caps.toArray) v) Y) (by repeat constructor), fun c hc => ?_⟩
  rcases hc with hc | hc
  · exact .inl (.inl hc)
  · exact (hS.mine (duo (zA b 1 0 1 (.func (.func g) #[] caps.toArray) v) Y) (by repeat constructor) rfl c (.inr hc)).symm
set_option maxRecDepth 100000 in
theorem Get_done {b : Nat} {f : Value} {v : Int} (w0 : World) (h : (zA b 1 0 1 f v).φ w0) : PureC Tryz.prog 14 [.pointer (some ⟨b, 0, none⟩)] w0 (.int .i64 v) := by
  refine c_enter [(0, .pointer (some ⟨b, 0, none⟩))] [rdA b (zL 1 0 1 f v) 81] noB Tryz.func14 rfl Tryz.ntmps14 ⟨rfl, trivial⟩ rfl (okC (rd_ok h) okN) dis1 (mineC (by rfl) mineN) ?_
  intro a hS
  refine c_seq ?_
  refine c_region ?_
  refine L_op (s_box1 hS rfl rfl rfl ?_); clear hS a; (try clear w); intro a w b1 hS
  refine L_op (s_e hS (e_assign rfl) rfl ?_); clear hS a; intro a hS
  refine L_nil ?_
  refine n_then ?_
  refine c_seq ?_
  refine c_region ?_
  refine L_op (s_e hS (e_load rfl (by repeat constructor) ty_sc37 (by rfl)) rfl ?_); clear hS a; intro a hS
  refine L_op (s_e hS (e_nilCheck rfl) rfl ?_); clear hS a; intro a hS
  first | (refine L_op (s_e hS (e_fa0 rfl ty_fo81_0) rfl ?_); clear hS a; intro a hS) | (refine L_op (s_e hS (e_faK rfl ty_fo81_0) rfl ?_); clear hS a; intro a hS)
  refine L_op (s_e hS (e_makeFunc .nil (.cons rfl .nil)) rfl ?_); clear hS a; intro a hS
  refine L_op (s_callP hS (.cons rfl (.cons rfl .nil)) cf32 rfl (Do_done (f := f) (v := v) _ (hS.get (X := rdA b (zL 1 0 1 f v) 81) (by repeat constructor))) ?_); clear hS a; (try clear w); intro a w hS
  refine L_nil ?_
  refine n_then ?_
  refine c_seq ?_
  refine c_region ?_
  refine L_op (s_e hS (e_load rfl (by repeat constructor) ty_sc37 (by rfl)) rfl ?_); clear hS a; intro a hS
  refine L_op (s_e hS (e_nilCheck rfl) rfl ?_); clear hS a; intro a hS
  first | (refine L_op (s_e hS (e_fa0 rfl ty_fo81_3) rfl ?_); clear hS a; intro a hS) | (refine L_op (s_e hS (e_faK rfl ty_fo81_3) rfl ?_); clear hS a; intro a hS)
  refine L_op (s_e hS (e_loadC rfl ty_sc3 (fun w hh => cell_of_blk (cs := zL 1 0 1 f v) (E := 81) (hh (rdA b (zL 1 0 1 f v) 81) (by repeat constructor)) rfl)) rfl ?_); clear hS a; intro a hS
  refine L_op (s_e hS (e_assign rfl) rfl ?_); clear hS a; intro a hS
  refine L_nil ?_
  refine n_then ?_
  refine wp_ret ?_
  refine c_ret1 hS Tryz.results14 (.tmp rfl) ?_
  exact ⟨rfl, hS.chg⟩
end Go.Proofs.YtjmkjkhcognoeaaGreatDoor

namespace Go.Proofs.YtjmkjkhcognoeaaGreatDoor
open Go.RowKit

set_option maxRecDepth 100000 in
theorem Num_w (n : Int) (w0 : World) : PureC Tryz.prog 9 [.int .i64 n] w0 (.int .i64 n) := by
  refine c_enter [(0, .int .i64 n)] [] noB Tryz.func9 rfl Tryz.ntmps9 ⟨rfl, trivial⟩ rfl (by simp) (by simp) (by simp) ?_
  intro a hS
  refine c_seq ?_
  refine c_region ?_
  refine L_op (s_e hS (e_assign rfl) rfl ?_); clear hS a; intro a hS
  refine L_nil ?_
  refine n_then ?_
  refine c_seq ?_
  refine c_region ?_
  refine L_op (s_e hS (e_move rfl) rfl ?_); clear hS a; intro a hS
  refine L_op (s_e hS (e_assign rfl) rfl ?_); clear hS a; intro a hS
  refine L_nil ?_
  refine n_then ?_
  refine wp_ret ?_
  refine c_ret1 hS Tryz.results9 (.tmp rfl) ?_
  exact ⟨rfl, hS.chg⟩
set_option maxRecDepth 100000 in
theorem Split_one (g : Nat) (m : Int) (w0 : World) (h : ByAt (.slice (some ⟨g, 0, none⟩) 24 24) hreq w0) (hm : w0.cell? ⟨1, 0, none⟩ = some (.int .i64 m)) (hd : g ≠ 1) :
    NewC Tryz.prog 7 [.slice (some ⟨g, 0, none⟩) 24 24] w0 (fun x : Option Addr × Nat => .tuple [.slice x.1 1 x.2, .int .i64 0].toArray) (fun _ => none_) := by
  refine c_enter [(0, .slice (some ⟨g, 0, none⟩) 24 24)] [byA (.slice (some ⟨g, 0, none⟩) 24 24) hreq, ceA 1 0 (.int .i64 m)] noB Tryz.func7 rfl Tryz.ntmps7 ⟨rfl, trivial⟩ rfl (okC (by_ok h) (okC (ce_ok hm) okN)) (disC (sepC (fun b h1 h2 => hd ((byF_is h1).symm.trans h2)) sepN) dis1) (mineC (by rfl) (mineC (by rfl) mineN)) ?_
  intro a hS
  refine c_seq ?_
  refine c_region ?_
  refine L_op (s_e hS (e_assign rfl) rfl ?_); clear hS a; intro a hS
  refine L_op (s_e hS (e_assign rfl) rfl ?_); clear hS a; intro a hS
  refine L_nil ?_
  refine n_then ?_
  refine c_seq ?_
  refine c_region ?_
  refine L_op (s_e hS (e_assign rfl) rfl ?_); clear hS a; intro a hS
  refine L_nil ?_
  refine n_then ?_
  refine c_seq ?_
  refine wp_block ?_
  skip
  refine c_loop (γ := Nat) (fun k a w => ∃ out q n c cs, St 34 noB w0 a w [(4, out), (0, .slice q n c)] [ownA 35 4 out k cs, byA (.slice (some ⟨g, 0, none⟩) 24 24) hreq, ceA 1 0 (.int .i64 m)] ∧ ((k = 0 ∧ q = some ⟨g, 0, none⟩ ∧ n = 24 ∧ c = 24) ∨ (k = 1 ∧ n = 0))) (fun k => 2 - k) 0 ⟨_, _, _, _, _, (hS.own_nil 35 4).slots (by repeat (first | exact trivial | refine ⟨rfl, ?_⟩)), .inl ⟨rfl, rfl, rfl, rfl⟩⟩ ?_
  clear hS a; (try clear w); intro k a w hI
  obtain ⟨out, q, n, c, cs, hS, hk⟩ := hI
  refine c_seq ?_
  refine c_seq ?_
  refine c_region ?_
  refine L_op (s_e hS (e_move rfl) rfl ?_); clear hS a; intro a hS
  refine L_op (s_e hS (e_len rfl rfl ty_sl22) rfl ?_); clear hS a; intro a hS
  refine L_op (s_e hS (e_bin rfl rfl rfl) rfl ?_); clear hS a; intro a hS
  refine L_nil ?_
  refine n_then ?_
  first | refine c_ifD hS rfl (fun hc11 => ?_) (fun hc11 => ?_) | refine c_if hS rfl (fun hc11 => ?_) (fun hc11 => ?_)
  ·
    obtain ⟨rfl, rfl, rfl, rfl⟩ := hk.resolve_right (fun h => by omega)
    refine wp_skip ?_
    refine n_then ?_
    refine wp_block ?_
    refine c_seq ?_
    refine c_region ?_
    refine L_op (s_e hS (e_move rfl) rfl ?_); clear hS a; intro a hS
    refine L_op (s_callN hS (.cons rfl .nil) cf22 rfl (Parse_req g m _ (hS.get (X := byA (.slice (some ⟨g, 0, none⟩) 24 24) hreq) (by repeat constructor)) (hS.get (X := ceA 1 0 (.int .i64 m)) (by repeat constructor)) hd) ?_); clear hS a; (try clear w); intro x14 a w hS
    refine L_op (s_e hS (e_move rfl) rfl ?_); clear hS a; intro a hS
    refine L_op (s_e hS (e_extract rfl rfl) rfl ?_); clear hS a; intro a hS
    refine L_op (s_e hS (e_extract rfl rfl) rfl ?_); clear hS a; intro a hS
    refine L_op (s_e hS (e_extract rfl rfl) rfl ?_); clear hS a; intro a hS
    refine L_op (s_e hS (e_extract rfl rfl) rfl ?_); clear hS a; intro a hS
    refine L_op (s_alloc hS ty_z35 rfl ?_); clear hS a; (try clear w); intro a w b5 hS
    refine L_op (s_storeA hS rfl rfl ty_sz35 (by repeat constructor) (by rfl) (by rfl) (by rfl) ?_); clear hS; (try clear w); intro w hS
    refine L_op (s_e hS (e_assign rfl) rfl ?_); clear hS a; intro a hS
    refine L_op (s_e hS (e_assign rfl) rfl ?_); clear hS a; intro a hS
    refine L_op (s_e hS (e_assign rfl) rfl ?_); clear hS a; intro a hS
    refine L_nil ?_
    refine n_then ?_
    refine c_seq ?_
    refine wp_block ?_
    refine c_seq ?_
    refine c_region ?_
    refine L_op (s_e hS (e_move rfl) rfl ?_); clear hS a; intro a hS
    refine L_op (s_e hS (e_bin rfl rfl rfl) rfl ?_); clear hS a; intro a hS
    refine L_op (s_e hS (e_assign rfl) rfl ?_); clear hS a; intro a hS
    refine L_nil ?_
    refine n_then ?_
    replace hS := hS.is (t := 19) (c := false) rfl ((by decide))
    refine c_if_f hS rfl ?_
    refine c_seq ?_
    refine c_region ?_
    refine L_op (s_e hS (e_move rfl) rfl ?_); clear hS a; intro a hS
    refine L_op (s_e hS (e_not rfl) rfl ?_); clear hS a; intro a hS
    refine L_op (s_e hS (e_assign rfl) rfl ?_); clear hS a; intro a hS
    refine L_nil ?_
    refine n_then ?_
    replace hS := hS.is (t := 23) (c := false) rfl (rfl)
    refine c_if_f hS rfl ?_
    refine wp_skip ?_
    refine n_block ?_
    refine n_then ?_
    refine c_drawS [] (by kernel_rfl) hS (sub_cons (X := .blk b5 [.string sGet, .string sHealth, .slice x14.1 0 x14.2, .bool false] 35) (by repeat constructor) sub_nil) ?_; clear hS; (try clear w); intro w hS
    simp only [List.length_cons, List.length_nil, Nat.zero_add, Nat.reduceAdd, List.replicate]
    refine Z_take0 (i := 0) hS rfl want_none (e_move rfl) (listed' := [true, false, false, false, false, false, false, false, false]) rfl (by kernel_rfl) (by kernel_rfl) (by kernel_rfl) (fun _ _ _ h => h) rfl ?_; clear hS a; intro a hS
    refine Z_take (i := 1) hS rfl want_none (e_loadA rfl (by repeat constructor) ty_st35 ty_sz35 (by rfl)) (listed' := [true, true, false, false, false, false, false, false, false]) rfl (by kernel_rfl) (by kernel_rfl) (by kernel_rfl) (by kernel_rfl) (by kernel_rfl) (sub_cons (by repeat constructor) sub_nil) (fun _ _ _ h => h) rfl ?_; clear hS a; intro a hS
    refine Z_take0 (i := 4) hS rfl want_none (e_move rfl) (listed' := [true, true, false, false, true, false, false, false, false]) rfl (by kernel_rfl) (by kernel_rfl) (by kernel_rfl) (fun _ _ _ h => h) rfl ?_; clear hS a; intro a hS
    refine Z_take0 (i := 5) hS rfl want_none (e_move rfl) (listed' := [true, true, false, false, true, true, false, false, false]) rfl (by kernel_rfl) (by kernel_rfl) (by kernel_rfl) (fun _ _ _ h => h) rfl ?_; clear hS a; intro a hS
    refine Z_take0 (i := 6) hS rfl want_none (e_slT (j := 24) rfl rfl ty_sl22 ty_sz5 (by decide)) (listed' := [true, true, false, false, true, true, true, false, false]) rfl (by kernel_rfl) (by kernel_rfl) (by kernel_rfl) (fun _ _ _ h => h) rfl ?_; clear hS a; intro a hS
    refine Z_one (i := 2) rfl (want_none a hS.sl) (listed' := [true, true, true, false, true, true, true, false, false]) rfl (by kernel_rfl) (s_bslice hS ty_sl24 ty_sz35 ty_z35 rfl rfl rfl rfl (.agg rfl rfl .nil) rfl ?_); clear hS a; (try clear w); intro a w b28 hS
    refine Z_and hS (sub_cons (by repeat constructor) sub_nil) ?_
    refine Z_one (i := 3) rfl (want_none a hS.sl) (listed' := [true, true, true, true, true, true, true, false, false]) rfl (by kernel_rfl) (s_append1 hS rfl rfl ty_sl24 ty_sz35 ty_by35 ty_z35 rfl rfl rfl (by repeat constructor) (by repeat constructor) (by rfl) (by rfl) (fun _ => (by repeat constructor)) (by omega) ?_); clear hS a; (try clear w); intro v29 a w hv29 hS
    refine Z_and hS (sub_cons (by repeat constructor) sub_nil) ?_
    refine Z_take0 (i := 7) hS rfl want_none (e_assign rfl) (listed' := [true, true, true, true, true, true, true, true, false]) rfl (by kernel_rfl) (by kernel_rfl) (by kernel_rfl) (fun _ _ _ h => h) rfl ?_; clear hS a; intro a hS
    refine Z_take0 (i := 8) hS rfl want_none (e_assign rfl) (listed' := [true, true, true, true, true, true, true, true, true]) rfl (by kernel_rfl) (by kernel_rfl) (by kernel_rfl) (fun _ _ _ h => h) rfl ?_; clear hS a; intro a hS
    refine Z_done (by kernel_rfl) ?_
    refine n_block ?_
    exact ⟨1, by omega, v29, _, _, _, _, (hS.slots (by repeat (first | exact trivial | refine ⟨rfl, ?_⟩))).pick (Γ' := [ownA 35 4 v29 (0 + 1) (cs ++ ([.string sGet, .string sHealth, .slice x14.1 0 x14.2, .bool false] ++ [])), byA (.slice (some ⟨g, 0, none⟩) 24 24) hreq, ceA 1 0 (.int .i64 m)]) (by repeat (first | exact Pick.nil | (refine Pick.cons (by repeat (first | exact Rem.head | apply Rem.tail)) ?_))), .inr ⟨rfl, rfl⟩⟩
  ·
    obtain ⟨rfl, rfl⟩ := hk.resolve_left (fun h => by omega)
    obtain ⟨qo, co, rfl⟩ := own_slice (hS.get (X := ownA 35 4 out 1 cs) (by repeat constructor))
    refine wp_exit ?_
    refine x_then (x_then (x_hit ?_))
    refine n_then ?_
    refine c_seq ?_
    refine c_region ?_
    refine L_op (s_e hS (e_move rfl) rfl ?_); clear hS a; intro a hS
    refine L_op (s_e hS (e_assign rfl) rfl ?_); clear hS a; intro a hS
    refine L_op (s_e hS (e_assign rfl) rfl ?_); clear hS a; intro a hS
    refine L_nil ?_
    refine n_then ?_
    refine wp_ret ?_
    refine c_retN hS Tryz.results7 (.cons (.tmp rfl) (.cons (.tmp rfl) .nil)) rfl ?_
    exact ⟨(qo, co), rfl, hS.chg, none_ok _, fun b hb => hb.elim⟩

set_option maxRecDepth 100000 in
theorem plainlyF_P (w0 : World) : PureC Tryz.prog 21 [] w0 (.int .i64 5) := by
  refine c_enter [] [] noB Tryz.func21 rfl Tryz.ntmps21 trivial rfl (by simp) (by simp) (by simp) ?_
  intro a hS
  refine c_seq ?_
  refine c_region ?_
  refine L_op (s_e hS (e_assign rfl) rfl ?_); clear hS a; intro a hS
  refine L_nil ?_
  refine n_then ?_
  refine c_seq ?_
  refine c_region ?_
  refine L_op (s_e hS (e_assign rfl) rfl ?_); clear hS a; intro a hS
  refine L_nil ?_
  refine n_then ?_
  refine wp_ret ?_
  refine c_ret1 hS Tryz.results21 (.tmp rfl) ?_
  exact ⟨rfl, hS.chg⟩
theorem plain_maker : Maker 21 [] none_ none_ 5 := fun w _ => (plainlyF_P w).mono fun _ _ ⟨he, hc⟩ => ⟨(), he, hc.mono (fun _ h => h), none_ok _, fun _ hb => hb.elim⟩
theorem by_rk {b E c : Nat} {l : List Int} {w : World} (hne : l ≠ []) (hc : l.length ≤ c) (h : (rkA b (l.map (Value.int .u8)) E).φ w) : ByAt (.slice (some ⟨b, 0, none⟩) l.length c) l w := by
  obtain ⟨f, hf⟩ := h
  refine .inr ⟨b, 0, c, hne, rfl, hc, fun j x hj => ?_, (Array.getElem?_eq_some_iff.1 hf).1⟩
  unfold World.cell?
  rw [hf]
  simp [hj]
def sA : ByteArray := ⟨#[97]⟩
theorem nm_blk {b E c : Nat} {s : ByteArray} {w : World} (h : w.heap[b]? = some (.cells [Value.string s].toArray E (0, 0))) : NmAt (.slice (some ⟨b, 0, none⟩) 1 c) [s] w :=
  .inr ⟨b, 0, c, by simp, rfl, fun i x hx j u hj => by
    obtain _ | i := i
    · obtain rfl : encN s = x := by simpa using hx
      obtain _ | j := j
      · obtain rfl : Value.string s = u := by simpa [encN] using hj
        exact cell_of_blk h rfl
      · simp [encN] at hj
    · simp at hx, (Array.getElem?_eq_some_iff.1 h).1⟩
theorem nmF_is {g off m c k : Nat} {l : List ByteArray} (h : nmF (.slice (some ⟨g, off, none⟩) m c) l k) : k = g := by
  obtain ⟨_, o, m', c', e⟩ := h
  injection e with e1; injection e1 with e2; injection e2 with e3; exact e3.symm
set_option maxHeartbeats 1000000 in
set_option maxRecDepth 100000 in
theorem plainly_P (m : Int) (w0 : World) (hm : w0.cell? ⟨1, 0, none⟩ = some (.int .i64 m)) : PureC Tryz.prog 6 [] w0 (.bool true) := by
   refine c_enter [] [ceA 1 0 (.int .i64 m)] noB Tryz.func6 rfl Tryz.ntmps6 trivial rfl (okC (ce_ok hm) okN) dis1 (mineC (by rfl) mineN) ?_
   intro a hS
   refine c_seq ?_
   refine c_region ?_
   refine L_op (s_e hS (e_assign rfl) rfl ?_); clear hS a; intro a hS
   refine L_nil ?_
   refine n_then ?_
   refine c_seq ?_
   refine c_region ?_
   refine L_op (s_callN hS .nil cf15 rfl (NewLocks_P _) ?_); clear hS a; (try clear w); intro x7 a w hS
   refine L_op (s_e hS (e_assign rfl) rfl ?_); clear hS a; intro a hS
   refine L_nil ?_
   refine n_then ?_
   refine c_seq ?_
   refine c_region ?_
   refine L_op (s_callN hS (.cons rfl .nil) cf11 rfl (NewLazy_P (.func (.func 21) #[] #[]) rfl _) ?_); clear hS a; (try clear w); intro x8 a w hS
   refine L_op (s_e hS (e_assign rfl) rfl ?_); clear hS a; intro a hS
   refine L_nil ?_
   refine n_then ?_
   refine c_seq ?_
   refine c_region ?_
   refine L_op (s_bslice hS ty_sl22 ty_sz5 ty_z5 rfl rfl rfl rfl (.one rfl rfl rfl (.one rfl rfl rfl (.one rfl rfl rfl (.one rfl rfl rfl (.one rfl rfl rfl (.one rfl rfl rfl (.one rfl rfl rfl (.one rfl rfl rfl (.one rfl rfl rfl (.one rfl rfl rfl (.one rfl rfl rfl (.one rfl rfl rfl (.one rfl rfl rfl (.one rfl rfl rfl (.one rfl rfl rfl (.one rfl rfl rfl (.one rfl rfl rfl (.one rfl rfl rfl (.one rfl rfl rfl (.one rfl rfl rfl (.one rfl rfl rfl (.one rfl rfl rfl (.one rfl rfl rfl (.one rfl rfl rfl .nil)))))))))))))))))))))))) rfl ?_); clear hS a; (try clear w); intro a w b10 hS
   refine L_op (s_convConst hS rfl ty_sl22 ty_u5 rfl (by repeat constructor) ?_); clear hS a; (try clear w); intro a w hS
   refine L_op (s_callN hS (.cons rfl .nil) cf7 rfl (Split_one b10 m _ (by_rk (c := 24) (l := hreq) (by decide) (by decide) (hS.get (X := rkA b10 (hreq.map (Value.int .u8)) 5) (by repeat constructor))) (hS.get (X := ceA 1 0 (.int .i64 m)) (by repeat constructor)) (fun e => hS.sep (X := rkA b10 (hreq.map (Value.int .u8)) 5) (Y := ceA 1 0 (.int .i64 m)) (by repeat (first | exact Rem.head | apply Rem.tail)) (by repeat constructor) b10 rfl e)) ?_); clear hS a; (try clear w); intro x12 a w hS
   refine L_op (s_e hS (e_move rfl) rfl ?_); clear hS a; intro a hS
   refine L_op (s_e hS (e_extract rfl rfl) rfl ?_); clear hS a; intro a hS
   refine L_op (s_e hS (e_extract rfl rfl) rfl ?_); clear hS a; intro a hS
   refine L_op (s_e hS (e_assign rfl) rfl ?_); clear hS a; intro a hS
   refine L_op (s_e hS (e_assign rfl) rfl ?_); clear hS a; intro a hS
   refine L_nil ?_
   refine n_then ?_
   refine c_seq ?_
   refine c_seq ?_
   refine c_region ?_
   refine L_op (s_e hS (e_move rfl) rfl ?_); clear hS a; intro a hS
   refine L_op (s_e hS (e_nil rfl ty_u42) rfl ?_); clear hS a; intro a hS
   refine L_op (s_e hS (e_move rfl) rfl ?_); clear hS a; intro a hS
   replace hS := hS.is (t := 17) (c := false) rfl (rfl)
   refine L_go hS rfl rfl (s_e hS (e_move rfl) rfl ?_); clear hS a; intro a hS
   refine L_go hS rfl rfl (s_e hS (e_nil rfl ty_u37) rfl ?_); clear hS a; intro a hS
   first | (refine L_op (s_e hS (e_pick_t rfl rfl) rfl ?_); clear hS a; intro a hS) | (refine L_op (s_e hS (e_pick_f rfl rfl) rfl ?_); clear hS a; intro a hS)
   refine L_op (s_e hS (e_move rfl) rfl ?_); clear hS a; intro a hS
   replace hS := hS.is (t := 21) (c := false) rfl (rfl)
   refine L_go hS rfl rfl (s_e hS (e_move rfl) rfl ?_); clear hS a; intro a hS
   refine L_go hS rfl rfl (s_e hS (e_len rfl rfl ty_sl24) rfl ?_); clear hS a; intro a hS
   refine L_go hS rfl rfl (s_e hS (e_bin rfl rfl rfl) rfl ?_); clear hS a; intro a hS
   first | (refine L_op (s_e hS (e_pick_t rfl rfl) rfl ?_); clear hS a; intro a hS) | (refine L_op (s_e hS (e_pick_f rfl rfl) rfl ?_); clear hS a; intro a hS)
   refine L_op (s_e hS (e_move rfl) rfl ?_); clear hS a; intro a hS
   replace hS := hS.is (t := 26) (c := false) rfl ((by decide))
   refine L_go hS rfl rfl (s_e hS (e_move rfl) rfl ?_); clear hS a; intro a hS
   refine L_go hS rfl rfl (s_callP hS (.cons rfl .nil) cf9 rfl (Num_w 0 _) ?_); clear hS a; (try clear w); intro a w hS
   refine L_go hS rfl rfl (s_e hS (e_bin rfl rfl rfl) rfl ?_); clear hS a; intro a hS
   first | (refine L_op (s_e hS (e_pick_t rfl rfl) rfl ?_); clear hS a; intro a hS) | (refine L_op (s_e hS (e_pick_f rfl rfl) rfl ?_); clear hS a; intro a hS)
   refine L_nil ?_
   refine n_then ?_
   replace hS := hS.is (t := 30) (c := false) rfl ((by decide))
   refine c_if_f hS rfl ?_
   refine wp_skip ?_
   refine n_then ?_
   refine c_seq ?_
   refine c_region ?_
   refine L_op (s_e hS (e_move rfl) rfl ?_); clear hS a; intro a hS
   refine L_op (s_bslice hS ty_sl45 ty_sz9 ty_z9 rfl rfl rfl rfl (.one rfl rfl rfl .nil) rfl ?_); clear hS a; (try clear w); intro a w b32 hS
   refine L_op (s_callM hS (.cons rfl (.cons rfl (.cons rfl .nil))) cf18 rfl (Lock_M x7.1 (lk0 x7.2) (.slice (some ⟨b32, 0, none⟩) 1 1) [sA] false (by decide) (by show (0 : Int) ≤ 999999; decide) (fun e he => by cases he) _ (hS.get (X := lkA x7.1 (lk0 x7.2)) (by repeat constructor)) (nm_blk (hS.get (X := .blk b32 [.string sA] 9) (by repeat constructor))) (fun i h1 h2 => hS.sep (X := lkA x7.1 (lk0 x7.2)) (Y := .blk b32 [.string sA] 9) (by repeat (first | exact Rem.head | apply Rem.tail)) (by repeat constructor) i h1 (nmF_is h2))) (fun x => (by repeat constructor)) rfl ?_); clear hS a; (try clear w); intro x33 a w hS
   refine L_op (s_e hS (e_assign rfl) rfl ?_); clear hS a; intro a hS
   refine L_nil ?_
   refine n_then ?_
   refine c_seq ?_
   refine c_region ?_
   refine L_op (s_e hS (e_move rfl) rfl ?_); clear hS a; intro a hS
   refine L_op (s_bslice hS ty_sl45 ty_sz9 ty_z9 rfl rfl rfl rfl (.one rfl rfl rfl .nil) rfl ?_); clear hS a; (try clear w); intro a w b35 hS
   refine L_op (s_callM hS (.cons rfl (.cons rfl (.cons rfl .nil))) cf18 rfl (Lock_M x7.1 ((lk0 x7.2).add [sA] false x33) (.slice (some ⟨b35, 0, none⟩) 1 1) [sA] false (by decide) (by show (0 : Int) + 1 ≤ 999999; decide) (fun e he => by
 obtain rfl := List.mem_singleton.1 he; rintro ⟨h | h, _⟩ <;> cases h) _ (hS.get (X := lkA x7.1 ((lk0 x7.2).add [sA] false x33)) (by repeat constructor)) (nm_blk (hS.get (X := .blk b35 [.string sA] 9) (by repeat constructor))) (fun i h1 h2 => hS.sep (X := lkA x7.1 ((lk0 x7.2).add [sA] false x33)) (Y := .blk b35 [.string sA] 9) (by repeat (first | exact Rem.head | apply Rem.tail)) (by repeat constructor) i h1 (nmF_is h2))) (fun x => (by repeat constructor)) rfl ?_); clear hS a; (try clear w); intro x36 a w hS
   refine L_op (s_e hS (e_assign rfl) rfl ?_); clear hS a; intro a hS
   refine L_nil ?_
   refine n_then ?_
   refine c_seq ?_
   refine c_region ?_
   refine L_op (s_e hS (e_move rfl) rfl ?_); clear hS a; intro a hS
   refine L_op (s_e hS (e_bin rfl rfl rfl) rfl ?_); clear hS a; intro a hS
   refine L_op (s_e hS (e_move rfl) rfl ?_); clear hS a; intro a hS
   replace hS := hS.is (t := 39) (c := true) rfl (rfl)
   refine L_go hS rfl rfl (s_e hS (e_move rfl) rfl ?_); clear hS a; intro a hS
   refine L_go hS rfl rfl (s_e hS (e_bin rfl rfl rfl) rfl ?_); clear hS a; intro a hS
   first | (refine L_op (s_e hS (e_pick_t rfl rfl) rfl ?_); clear hS a; intro a hS) | (refine L_op (s_e hS (e_pick_f rfl rfl) rfl ?_); clear hS a; intro a hS)
   refine L_op (s_e hS (e_move rfl) rfl ?_); clear hS a; intro a hS
   replace hS := hS.is (t := 43) (c := true) rfl (rfl)
   refine L_go hS rfl rfl (s_e hS (e_move rfl) rfl ?_); clear hS a; intro a hS
   refine L_go hS rfl rfl (s_callM hS (.cons rfl .nil) cf19 rfl (Held_P x7.1 (((lk0 x7.2).add [sA] false x33).add [sA] false x36) _ (hS.get (X := lkA x7.1 (((lk0 x7.2).add [sA] false x33).add [sA] false x36)) (by repeat constructor))) (fun x => (by repeat constructor)) rfl ?_); clear hS a; (try clear w); intro x45 a w hS
   refine L_go hS rfl rfl (s_e hS (e_bin rfl rfl rfl) rfl ?_); clear hS a; intro a hS
   first | (refine L_op (s_e hS (e_pick_t rfl rfl) rfl ?_); clear hS a; intro a hS) | (refine L_op (s_e hS (e_pick_f rfl rfl) rfl ?_); clear hS a; intro a hS)
   refine L_op (s_e hS (e_move rfl) rfl ?_); clear hS a; intro a hS
   replace hS := hS.is (t := 48) (c := true) rfl (rfl)
   refine L_go hS rfl rfl (s_e hS (e_move rfl) rfl ?_); clear hS a; intro a hS
   replace hS := ((hS.more (Y := none_) (none_ok _) (fun b h => h)).pick (Γ' := [zA x8 0 0 0 (.func (.func 21) #[] ([] : List Value).toArray) 0, none_, lkA x7.1 (((lk0 x7.2).add [sA] false x33).add [sA] false x36)]) (by repeat (first | exact Pick.nil | (refine Pick.cons (by repeat (first | exact Rem.head | apply Rem.tail)) ?_)))).duo rfl rfl
   refine L_go hS rfl rfl (s_callM hS (.cons rfl .nil) cf14 rfl (Get_M plain_maker cf21 rfl rfl _ (hS.ok _ (.head _))) (fun x => (by repeat constructor)) rfl ?_); clear hS a; (try clear w); intro x50 a w hS
   replace hS := hS.unduo
   refine L_go hS rfl rfl (s_e hS (e_bin rfl rfl rfl) rfl ?_); clear hS a; intro a hS
   first | (refine L_op (s_e hS (e_pick_t rfl rfl) rfl ?_); clear hS a; intro a hS) | (refine L_op (s_e hS (e_pick_f rfl rfl) rfl ?_); clear hS a; intro a hS)
   refine L_op (s_e hS (e_move rfl) rfl ?_); clear hS a; intro a hS
   replace hS := hS.is (t := 53) (c := true) rfl ((by decide))
   refine L_go hS rfl rfl (s_e hS (e_move rfl) rfl ?_); clear hS a; intro a hS
   refine L_go hS rfl rfl (s_callP hS (.cons rfl .nil) cf13 rfl (Made_P x8 1 _ (cell_of_blk (hS.get (X := zA x8 1 0 1 (.func (.func 21) #[] ([] : List Value).toArray) 5) (by repeat constructor)) rfl)) ?_); clear hS a; (try clear w); intro a w hS
   first | (refine L_op (s_e hS (e_pick_t rfl rfl) rfl ?_); clear hS a; intro a hS) | (refine L_op (s_e hS (e_pick_f rfl rfl) rfl ?_); clear hS a; intro a hS)
   refine L_op (s_e hS (e_assign rfl) rfl ?_); clear hS a; intro a hS
   refine L_nil ?_
   refine n_then ?_
   refine wp_ret ?_
   refine c_ret1 hS Tryz.results6 (.tmp rfl) ?_
   exact ⟨rfl, hS.chg⟩
end Go.Proofs.YtjmkjkhcognoeaaGreatDoor

namespace Go.Proofs.YtjmkjkhcognoeaaGreatDoor
open Go.RowKit

def zF (nb vb : Nat) : Value := .func (.func 12) #[] [Value.pointer (some ⟨nb, 0, none⟩), .pointer (some ⟨vb, 0, none⟩)].toArray
def zX (nb vb : Nat) (v i : Int) : Asn := duo (.blk nb [.int .i64 i] 3) (.blk vb [.int .i64 v] 3)
set_option maxRecDepth 100000 in
theorem lazyF_M (nb vb : Nat) (v : Int) (hv : -9223372036854775808 ≤ v ∧ v ≤ 9223372036854775807) (w0 : World) (h : (zX nb vb v 0).ok w0) :
    MutC Tryz.prog 12 [.pointer (some ⟨nb, 0, none⟩), .pointer (some ⟨vb, 0, none⟩)] w0 (zX nb vb v 0) (fun _ : Unit => .int .i64 v) (fun _ => zX nb vb v 1) := by
  obtain ⟨h1, h2, h3⟩ := h.now
  refine c_enter [(0, .pointer (some ⟨nb, 0, none⟩)), (1, .pointer (some ⟨vb, 0, none⟩))] [.blk nb [.int .i64 0] 3, .blk vb [.int .i64 v] 3] (fun k => k = nb ∨ k = vb) Tryz.func12 rfl Tryz.ntmps12 ⟨rfl, rfl, trivial⟩ rfl (okC h1 (okC h2 okN)) (disC (sepC h3 sepN) dis1) (mineO (fun k hk => .inl hk) (mineO (fun k hk => .inr hk) mineN)) ?_
  intro a hS
  refine c_seq ?_
  refine c_region ?_
  refine L_op (s_e hS (e_assign rfl) rfl ?_); clear hS a; intro a hS
  refine L_nil ?_
  refine n_then ?_
  refine c_seq ?_
  refine c_region ?_
  refine L_op (s_e hS (e_load rfl (by repeat constructor) ty_sc3 (by rfl)) rfl ?_); clear hS a; intro a hS
  first | (refine L_op (s_e hS (e_binN rfl rfl rfl (by omega)) rfl ?_); clear hS a; intro a hS) | (refine L_op (s_e hS (e_bin rfl rfl rfl) rfl ?_); clear hS a; intro a hS)
  refine L_op (s_store hS rfl rfl rfl ty_sz3 (by repeat constructor) (by repeat constructor) ?_); clear hS; (try clear w); intro w hS
  refine L_nil ?_
  refine n_then ?_
  refine c_seq ?_
  refine c_region ?_
  refine L_op (s_e hS (e_load rfl (by repeat constructor) ty_sc3 (by rfl)) rfl ?_); clear hS a; intro a hS
  refine L_op (s_e hS (e_load rfl (by repeat constructor) ty_sc3 (by rfl)) rfl ?_); clear hS a; intro a hS
  first | (refine L_op (s_e hS (e_binN rfl rfl rfl (by omega)) rfl ?_); clear hS a; intro a hS) | (refine L_op (s_e hS (e_bin rfl rfl rfl) rfl ?_); clear hS a; intro a hS)
  first | (refine L_op (s_e hS (e_binN rfl rfl rfl (by omega)) rfl ?_); clear hS a; intro a hS) | (refine L_op (s_e hS (e_bin rfl rfl rfl) rfl ?_); clear hS a; intro a hS)
  refine L_op (s_e hS (e_assign rfl) rfl ?_); clear hS a; intro a hS
  refine L_nil ?_
  refine n_then ?_
  refine wp_ret ?_
  refine c_ret1 hS Tryz.results12 (.tmp rfl) ?_
  rw [Int.zero_add] at hS
  exact ⟨(), by show _ = Ending.returned (Value.int .i64 v); rw [IntKind.wrap_i64, IntKind.wrap_i64]; congr 2; omega, hS.chg, duo_ok (hS.ok (.blk nb [.int .i64 1] 3) (.head _)) (hS.ok _ (.tail _ (.head _))) (hS.sep .head (.head _)), fun c hc => .inl hc⟩
/-- the value and what makes it, behind so many calls of Get. -/
def zzA (b nb vb : Nat) (v : Int) : Nat → Asn
  | 0 => duo (zA b 0 0 0 (zF nb vb) 0) (zX nb vb v 0)
  | _ + 1 => duo (zA b 1 0 1 (zF nb vb) v) (zX nb vb v 1)
theorem zz_mine (b nb vb : Nat) (v : Int) (k : Nat) : (zzA b nb vb v k).mine = true := by cases k <;> rfl
theorem zz_v {b nb vb : Nat} {v : Int} {k : Nat} {w : World} (h : (zzA b nb vb v k).φ w) : w.cell? ⟨vb, 0, none⟩ = some (.int .i64 v) := by
  cases k with
  | zero => exact cell_of_blk (h.2.1.now.2.1.now) rfl
  | succ k => exact cell_of_blk (h.2.1.now.2.1.now) rfl
theorem zz_n {b nb vb : Nat} {v : Int} {k : Nat} {w : World} (h : (zzA b nb vb v (k + 1)).φ w) : w.cell? ⟨nb, 0, none⟩ = some (.int .i64 1) := cell_of_blk (h.2.1.now.1.now) rfl
theorem zz_m {b nb vb : Nat} {v : Int} {k : Nat} {w : World} (h : (zzA b nb vb v (k + 1)).φ w) : w.cell? ⟨b, 3, none⟩ = some (.int .u32 1) := cell_of_blk h.1.now rfl
theorem GetZ_M {b nb vb : Nat} {v : Int} (hv : -9223372036854775808 ≤ v ∧ v ≤ 9223372036854775807) (k : Nat) (w : World) (h : (zzA b nb vb v k).ok w) :
    MutC Tryz.prog 14 [.pointer (some ⟨b, 0, none⟩)] w (zzA b nb vb v k) (fun _ : Unit => .int .i64 v) (fun _ => zzA b nb vb v (k + 1)) := by
  cases k with
  | zero => exact Get_M (fun w h => lazyF_M nb vb v hv w h) cf12 rfl rfl w h
  | succ k => exact (Get_done (f := zF nb vb) (v := v) w h.now.1.now).mono fun _ _ ⟨he, hc⟩ => ⟨(), he, hc.mono (fun _ h => h.elim), h.keep hc (fun _ _ h => h), fun _ hb => .inl hb⟩
theorem tm_bd (t : Int) : -100 < t.tmod 100 ∧ t.tmod 100 < 100 := by
  have h1 : (t.tmod 100).natAbs = t.natAbs % 100 := Int.natAbs_tmod t 100
  omega
set_option maxHeartbeats 1000000 in
set_option maxRecDepth 100000 in
theorem PoolLazy_P (v t : Int) (hv : -9223372036854775808 ≤ v ∧ v ≤ 9223372036854775807) (m : Int) (w0 : World) (hm : w0.cell? ⟨1, 0, none⟩ = some (.int .i64 m)) : PureC Tryz.prog 4 [.int .i64 v, .int .i64 t] w0 (.bool true) := by
  have hb1 := tm_bd t
  have hb2 := tm_bd (t.tmod 100 + 100)
  refine c_enter [(0, .int .i64 v), (1, .int .i64 t)] [ceA 1 0 (.int .i64 m)] noB Tryz.func4 rfl Tryz.ntmps4 ⟨rfl, rfl, trivial⟩ rfl (okC (ce_ok hm) okN) dis1 (mineC (by rfl) mineN) ?_
  intro a hS
  refine c_seq ?_
  refine c_region ?_
  refine L_op (s_box1 hS rfl rfl rfl ?_); clear hS a; (try clear w); intro a w b2 hS
  refine L_op (s_e hS (e_assign rfl) rfl ?_); clear hS a; intro a hS
  refine L_nil ?_
  refine n_then ?_
  refine c_seq ?_
  refine c_region ?_
  refine L_op (s_callP hS .nil cf6 rfl (plainly_P m _ (hS.get (X := ceA 1 0 (.int .i64 m)) (by repeat constructor))) ?_); clear hS a; (try clear w); intro a w hS
  refine L_op (s_e hS (e_assign rfl) rfl ?_); clear hS a; intro a hS
  refine L_nil ?_
  refine n_then ?_
  refine c_seq ?_
  refine c_region ?_
  refine L_op (s_e hS (e_move rfl) rfl ?_); clear hS a; intro a hS
  first | (refine L_op (s_e hS (e_remN rfl rfl (by omega)) rfl ?_); clear hS a; intro a hS) | (refine L_op (s_e hS (e_rem rfl rfl (by omega)) rfl ?_); clear hS a; intro a hS)
  first | (refine L_op (s_e hS (e_binN rfl rfl rfl (by omega)) rfl ?_); clear hS a; intro a hS) | (refine L_op (s_e hS (e_bin rfl rfl rfl) rfl ?_); clear hS a; intro a hS)
  first | (refine L_op (s_e hS (e_remN rfl rfl (by omega)) rfl ?_); clear hS a; intro a hS) | (refine L_op (s_e hS (e_rem rfl rfl (by omega)) rfl ?_); clear hS a; intro a hS)
  refine L_op (s_e hS (e_assign rfl) rfl ?_); clear hS a; intro a hS
  refine L_nil ?_
  refine n_then ?_
  refine c_seq ?_
  refine c_region ?_
  refine L_op (s_alloc hS ty_z3 rfl ?_); clear hS a; (try clear w); intro a w b6 hS
  refine L_op (s_store hS rfl rfl rfl ty_sz3 (by repeat constructor) (by repeat constructor) ?_); clear hS; (try clear w); intro w hS
  refine L_nil ?_
  refine n_then ?_
  refine c_seq ?_
  refine c_region ?_
  refine L_op (s_e hS (e_makeFunc .nil (.cons rfl (.cons rfl .nil))) rfl ?_); clear hS a; intro a hS
  refine L_op (s_callN hS (.cons rfl .nil) cf11 rfl (NewLazy_P (zF b6 b2) rfl _) ?_); clear hS a; (try clear w); intro x15 a w hS
  refine L_op (s_e hS (e_assign rfl) rfl ?_); clear hS a; intro a hS
  refine L_nil ?_
  refine n_then ?_
  refine c_seq ?_
  refine c_seq ?_
  refine c_region ?_
  refine L_op (s_e hS (e_move rfl) rfl ?_); clear hS a; intro a hS
  refine L_op (s_e hS (e_not rfl) rfl ?_); clear hS a; intro a hS
  refine L_op (s_e hS (e_move rfl) rfl ?_); clear hS a; intro a hS
  replace hS := hS.is (t := 18) (c := false) rfl (rfl)
  refine L_go hS rfl rfl (s_e hS (e_move rfl) rfl ?_); clear hS a; intro a hS
  refine L_go hS rfl rfl (s_e hS (e_nil rfl ty_u37) rfl ?_); clear hS a; intro a hS
  first | (refine L_op (s_e hS (e_pick_t rfl rfl) rfl ?_); clear hS a; intro a hS) | (refine L_op (s_e hS (e_pick_f rfl rfl) rfl ?_); clear hS a; intro a hS)
  refine L_op (s_e hS (e_move rfl) rfl ?_); clear hS a; intro a hS
  replace hS := hS.is (t := 22) (c := false) rfl (rfl)
  refine L_go hS rfl rfl (s_e hS (e_move rfl) rfl ?_); clear hS a; intro a hS
  refine L_go hS rfl rfl (s_callP hS (.cons rfl .nil) cf13 rfl (Made_P x15 0 _ (cell_of_blk (hS.get (X := zA x15 0 0 0 (zF b6 b2) 0) (by repeat constructor)) rfl)) ?_); clear hS a; (try clear w); intro a w hS
  first | (refine L_op (s_e hS (e_pick_t rfl rfl) rfl ?_); clear hS a; intro a hS) | (refine L_op (s_e hS (e_pick_f rfl rfl) rfl ?_); clear hS a; intro a hS)
  refine L_op (s_e hS (e_move rfl) rfl ?_); clear hS a; intro a hS
  replace hS := hS.is (t := 26) (c := false) rfl (rfl)
  refine L_go hS rfl rfl (s_e hS (e_load rfl (by repeat constructor) ty_sc3 (by rfl)) rfl ?_); clear hS a; intro a hS
  refine L_go hS rfl rfl (s_e hS (e_bin rfl rfl rfl) rfl ?_); clear hS a; intro a hS
  first | (refine L_op (s_e hS (e_pick_t rfl rfl) rfl ?_); clear hS a; intro a hS) | (refine L_op (s_e hS (e_pick_f rfl rfl) rfl ?_); clear hS a; intro a hS)
  refine L_nil ?_
  refine n_then ?_
  replace hS := hS.is (t := 29) (c := false) rfl ((by decide))
  refine c_if_f hS rfl ?_
  refine wp_skip ?_
  refine n_then ?_
  refine c_seq ?_
  refine c_seq ?_
  refine c_region ?_
  refine L_op (s_e hS (e_assign rfl) rfl ?_); clear hS a; intro a hS
  refine L_nil ?_
  refine n_then ?_
  refine wp_block ?_
  skip
  refine c_loop (γ := Nat) (fun k a w => ∃ tt : Int, St 48 noB w0 a w [(7, .pointer (some ⟨x15, 0, none⟩)), (6, .pointer (some ⟨b6, 0, none⟩)), (2, .pointer (some ⟨b2, 0, none⟩)), (8, .int .i64 (k : Int)), (1, .int .i64 tt)] [zzA x15 b6 b2 v k, none_] ∧ k ≤ 100 ∧ tt < 100) (fun k => 100 - k) 0 ⟨_, ((((((hS.pick (Γ' := [.blk b6 [.int .i64 0] 3, .blk b2 [.int .i64 v] 3, zA x15 0 0 0 (zF b6 b2) 0]) (by repeat (first | exact Pick.nil | (refine Pick.cons (by repeat (first | exact Rem.head | apply Rem.tail)) ?_)))).duo rfl rfl).pick (Γ' := [zA x15 0 0 0 (zF b6 b2) 0, zX b6 b2 v 0]) (by repeat (first | exact Pick.nil | (refine Pick.cons (by repeat (first | exact Rem.head | apply Rem.tail)) ?_)))).duo rfl rfl).more (Y := none_) (none_ok _) (fun b h => h)).pick (Γ' := [zzA x15 b6 b2 v 0, none_]) (by repeat (first | exact Pick.nil | (refine Pick.cons (by repeat (first | exact Rem.head | apply Rem.tail)) ?_)))).slots (by repeat (first | exact trivial | refine ⟨rfl, ?_⟩)), by decide, by omega⟩ ?_
  clear hS a; (try clear w); intro k a w hI
  obtain ⟨tt, hS, hk, ht⟩ := hI
  refine c_seq ?_
  refine c_seq ?_
  refine c_region ?_
  refine L_op (s_e hS (e_move rfl) rfl ?_); clear hS a; intro a hS
  refine L_op (s_e hS (e_move rfl) rfl ?_); clear hS a; intro a hS
  refine L_op (s_e hS (e_bin rfl rfl rfl) rfl ?_); clear hS a; intro a hS
  refine L_nil ?_
  refine n_then ?_
  first | refine c_ifD hS rfl (fun hc32 => ?_) (fun hc32 => ?_) | refine c_if hS rfl (fun hc32 => ?_) (fun hc32 => ?_)
  ·
    refine wp_skip ?_
    refine n_then ?_
    refine c_seq ?_
    refine wp_block ?_
    refine c_seq ?_
    refine c_drawS [] (by kernel_rfl) hS (sub_cons (X := none_) (by repeat constructor) sub_nil) ?_; clear hS; (try clear w); intro w hS
    simp only [List.length_cons, List.length_nil, Nat.zero_add, Nat.reduceAdd, List.replicate]
    refine Z_take0 (i := 0) hS rfl want_none (e_move rfl) (listed' := [true, false, false, false, false, false, false, false, false, false, false, false, false]) rfl (by kernel_rfl) (by kernel_rfl) (by kernel_rfl) (fun _ _ _ h => h) rfl ?_; clear hS a; intro a hS
    refine Z_many (j := 1) (js := [2]) (by kernel_rfl) ⟨?_, ?_, trivial⟩
    ·
      skip
      refine Z_op (i := 1) rfl (want_none a hS.sl) (listed' := [true, true, false, false, false, false, false, false, false, false, false, false, false]) rfl (s_callM hS (.cons rfl .nil) cf14 rfl (GetZ_M hv k _ (hS.ok (zzA x15 b6 b2 v k) (by repeat constructor))) (fun x => (by repeat constructor)) (zz_mine x15 b6 b2 v k) ?_); clear hS a; (try clear w); intro x36 a w hS
      refine Z_and hS (sub_cons (by repeat constructor) sub_nil) ?_
      refine Z_one (i := 2) rfl (want_none a hS.sl) (listed' := [true, true, true, false, false, false, false, false, false, false, false, false, false]) rfl (by kernel_rfl) (s_e hS (e_loadC rfl ty_sc3 (fun w hh => zz_v (hh _ (by repeat constructor)))) rfl ?_); clear hS a; intro a hS
      refine Z_and hS (sub_cons (by repeat constructor) sub_nil) ?_
      refine Z_take0 (i := 3) hS rfl want_none (e_bin rfl rfl rfl) (listed' := [true, true, true, true, false, false, false, false, false, false, false, false, false]) rfl (by kernel_rfl) (by kernel_rfl) (by kernel_rfl) (fun _ _ _ h => h) rfl ?_; clear hS a; intro a hS
      refine Z_take0 (i := 4) hS rfl want_none (e_move rfl) (listed' := [true, true, true, true, true, false, false, false, false, false, false, false, false]) rfl (by kernel_rfl) (by kernel_rfl) (by kernel_rfl) (fun _ _ _ h => h) rfl ?_; clear hS a; intro a hS
      replace hS := hS.is (t := 39) (c := false) rfl ((by simp))
      refine Z_take0 (i := 5) hS rfl (want_go rfl rfl) (e_move rfl) (listed' := [true, true, true, true, true, true, false, false, false, false, false, false, false]) rfl (by kernel_rfl) (by kernel_rfl) (by kernel_rfl) (fun _ _ _ h => h) rfl ?_; clear hS a; intro a hS
      refine Z_one (i := 6) rfl (want_go rfl rfl a hS.sl) (listed' := [true, true, true, true, true, true, true, false, false, false, false, false, false]) rfl (by kernel_rfl) (s_callP hS (.cons rfl .nil) cf13 rfl (Made_P x15 1 _ (zz_m (hS.get (X := zzA x15 b6 b2 v (k + 1)) (by repeat constructor)))) ?_); clear hS a; (try clear w); intro a w hS
      refine Z_and hS (sub_cons (by repeat constructor) sub_nil) ?_
      refine Z_take0 (i := 7) hS rfl (want_go rfl rfl) (e_not rfl) (listed' := [true, true, true, true, true, true, true, true, false, false, false, false, false]) rfl (by kernel_rfl) (by kernel_rfl) (by kernel_rfl) (fun _ _ _ h => h) rfl ?_; clear hS a; intro a hS
      first | (refine Z_take0 (i := 8) hS rfl want_none (e_pick_t rfl rfl) (listed' := [true, true, true, true, true, true, true, true, true, false, false, false, false]) rfl (by kernel_rfl) (by kernel_rfl) (by kernel_rfl) (fun _ _ _ h => h) rfl ?_; clear hS a; intro a hS) | (refine Z_take0 (i := 8) hS rfl want_none (e_pick_f rfl rfl) (listed' := [true, true, true, true, true, true, true, true, true, false, false, false, false]) rfl (by kernel_rfl) (by kernel_rfl) (by kernel_rfl) (fun _ _ _ h => h) rfl ?_; clear hS a; intro a hS)
      refine Z_take0 (i := 9) hS rfl want_none (e_move rfl) (listed' := [true, true, true, true, true, true, true, true, true, true, false, false, false]) rfl (by kernel_rfl) (by kernel_rfl) (by kernel_rfl) (fun _ _ _ h => h) rfl ?_; clear hS a; intro a hS
      replace hS := hS.is (t := 44) (c := false) rfl (rfl)
      refine Z_one (i := 10) rfl (want_go rfl rfl a hS.sl) (listed' := [true, true, true, true, true, true, true, true, true, true, true, false, false]) rfl (by kernel_rfl) (s_e hS (e_loadC rfl ty_sc3 (fun w hh => zz_n (hh (zzA x15 b6 b2 v (k + 1)) (by repeat constructor)))) rfl ?_); clear hS a; intro a hS
      refine Z_and hS (sub_cons (by repeat constructor) sub_nil) ?_
      refine Z_take0 (i := 11) hS rfl (want_go rfl rfl) (e_bin rfl rfl rfl) (listed' := [true, true, true, true, true, true, true, true, true, true, true, true, false]) rfl (by kernel_rfl) (by kernel_rfl) (by kernel_rfl) (fun _ _ _ h => h) rfl ?_; clear hS a; intro a hS
      first | (refine Z_take0 (i := 12) hS rfl want_none (e_pick_t rfl rfl) (listed' := [true, true, true, true, true, true, true, true, true, true, true, true, true]) rfl (by kernel_rfl) (by kernel_rfl) (by kernel_rfl) (fun _ _ _ h => h) rfl ?_; clear hS a; intro a hS) | (refine Z_take0 (i := 12) hS rfl want_none (e_pick_f rfl rfl) (listed' := [true, true, true, true, true, true, true, true, true, true, true, true, true]) rfl (by kernel_rfl) (by kernel_rfl) (by kernel_rfl) (fun _ _ _ h => h) rfl ?_; clear hS a; intro a hS)
      refine Z_done (by kernel_rfl) ?_
      refine n_then ?_
      replace hS := hS.is (t := 47) (c := false) rfl (rfl)
      refine c_if_f hS rfl ?_
      refine wp_skip ?_
      refine n_block ?_
      refine n_then ?_
      refine c_region ?_
      refine L_op (s_e hS (e_move rfl) rfl ?_); clear hS a; intro a hS
      first | (refine L_op (s_e hS (e_binN rfl rfl rfl (by omega)) rfl ?_); clear hS a; intro a hS) | (refine L_op (s_e hS (e_bin rfl rfl rfl) rfl ?_); clear hS a; intro a hS)
      refine L_op (s_e hS (e_assign rfl) rfl ?_); clear hS a; intro a hS
      refine L_nil ?_
      exact ⟨k + 1, by omega, _, hS.slots (by repeat (first | exact trivial | refine ⟨rfl, ?_⟩)), by omega, ht⟩
    ·
      refine Z_op (i := 2) rfl (want_none a hS.sl) (listed' := [true, false, true, false, false, false, false, false, false, false, false, false, false]) rfl (s_e hS (e_loadC rfl ty_sc3 (fun w hh => zz_v (hh _ (by repeat constructor)))) rfl ?_); clear hS a; intro a hS
      refine Z_and hS (sub_cons (by repeat constructor) sub_nil) ?_
      skip
      refine Z_one (i := 1) rfl (want_none a hS.sl) (listed' := [true, true, true, false, false, false, false, false, false, false, false, false, false]) rfl (by kernel_rfl) (s_callM hS (.cons rfl .nil) cf14 rfl (GetZ_M hv k _ (hS.ok (zzA x15 b6 b2 v k) (by repeat constructor))) (fun x => (by repeat constructor)) (zz_mine x15 b6 b2 v k) ?_); clear hS a; (try clear w); intro x36 a w hS
      refine Z_and hS (sub_cons (by repeat constructor) sub_nil) ?_
      refine Z_take0 (i := 3) hS rfl want_none (e_bin rfl rfl rfl) (listed' := [true, true, true, true, false, false, false, false, false, false, false, false, false]) rfl (by kernel_rfl) (by kernel_rfl) (by kernel_rfl) (fun _ _ _ h => h) rfl ?_; clear hS a; intro a hS
      refine Z_take0 (i := 4) hS rfl want_none (e_move rfl) (listed' := [true, true, true, true, true, false, false, false, false, false, false, false, false]) rfl (by kernel_rfl) (by kernel_rfl) (by kernel_rfl) (fun _ _ _ h => h) rfl ?_; clear hS a; intro a hS
      replace hS := hS.is (t := 39) (c := false) rfl ((by simp))
      refine Z_take0 (i := 5) hS rfl (want_go rfl rfl) (e_move rfl) (listed' := [true, true, true, true, true, true, false, false, false, false, false, false, false]) rfl (by kernel_rfl) (by kernel_rfl) (by kernel_rfl) (fun _ _ _ h => h) rfl ?_; clear hS a; intro a hS
      refine Z_one (i := 6) rfl (want_go rfl rfl a hS.sl) (listed' := [true, true, true, true, true, true, true, false, false, false, false, false, false]) rfl (by kernel_rfl) (s_callP hS (.cons rfl .nil) cf13 rfl (Made_P x15 1 _ (zz_m (hS.get (X := zzA x15 b6 b2 v (k + 1)) (by repeat constructor)))) ?_); clear hS a; (try clear w); intro a w hS
      refine Z_and hS (sub_cons (by repeat constructor) sub_nil) ?_
      refine Z_take0 (i := 7) hS rfl (want_go rfl rfl) (e_not rfl) (listed' := [true, true, true, true, true, true, true, true, false, false, false, false, false]) rfl (by kernel_rfl) (by kernel_rfl) (by kernel_rfl) (fun _ _ _ h => h) rfl ?_; clear hS a; intro a hS
      first | (refine Z_take0 (i := 8) hS rfl want_none (e_pick_t rfl rfl) (listed' := [true, true, true, true, true, true, true, true, true, false, false, false, false]) rfl (by kernel_rfl) (by kernel_rfl) (by kernel_rfl) (fun _ _ _ h => h) rfl ?_; clear hS a; intro a hS) | (refine Z_take0 (i := 8) hS rfl want_none (e_pick_f rfl rfl) (listed' := [true, true, true, true, true, true, true, true, true, false, false, false, false]) rfl (by kernel_rfl) (by kernel_rfl) (by kernel_rfl) (fun _ _ _ h => h) rfl ?_; clear hS a; intro a hS)
      refine Z_take0 (i := 9) hS rfl want_none (e_move rfl) (listed' := [true, true, true, true, true, true, true, true, true, true, false, false, false]) rfl (by kernel_rfl) (by kernel_rfl) (by kernel_rfl) (fun _ _ _ h => h) rfl ?_; clear hS a; intro a hS
      replace hS := hS.is (t := 44) (c := false) rfl (rfl)
      refine Z_one (i := 10) rfl (want_go rfl rfl a hS.sl) (listed' := [true, true, true, true, true, true, true, true, true, true, true, false, false]) rfl (by kernel_rfl) (s_e hS (e_loadC rfl ty_sc3 (fun w hh => zz_n (hh (zzA x15 b6 b2 v (k + 1)) (by repeat constructor)))) rfl ?_); clear hS a; intro a hS
      refine Z_and hS (sub_cons (by repeat constructor) sub_nil) ?_
      refine Z_take0 (i := 11) hS rfl (want_go rfl rfl) (e_bin rfl rfl rfl) (listed' := [true, true, true, true, true, true, true, true, true, true, true, true, false]) rfl (by kernel_rfl) (by kernel_rfl) (by kernel_rfl) (fun _ _ _ h => h) rfl ?_; clear hS a; intro a hS
      first | (refine Z_take0 (i := 12) hS rfl want_none (e_pick_t rfl rfl) (listed' := [true, true, true, true, true, true, true, true, true, true, true, true, true]) rfl (by kernel_rfl) (by kernel_rfl) (by kernel_rfl) (fun _ _ _ h => h) rfl ?_; clear hS a; intro a hS) | (refine Z_take0 (i := 12) hS rfl want_none (e_pick_f rfl rfl) (listed' := [true, true, true, true, true, true, true, true, true, true, true, true, true]) rfl (by kernel_rfl) (by kernel_rfl) (by kernel_rfl) (fun _ _ _ h => h) rfl ?_; clear hS a; intro a hS)
      refine Z_done (by kernel_rfl) ?_
      refine n_then ?_
      replace hS := hS.is (t := 47) (c := false) rfl (rfl)
      refine c_if_f hS rfl ?_
      refine wp_skip ?_
      refine n_block ?_
      refine n_then ?_
      refine c_region ?_
      refine L_op (s_e hS (e_move rfl) rfl ?_); clear hS a; intro a hS
      first | (refine L_op (s_e hS (e_binN rfl rfl rfl (by omega)) rfl ?_); clear hS a; intro a hS) | (refine L_op (s_e hS (e_bin rfl rfl rfl) rfl ?_); clear hS a; intro a hS)
      refine L_op (s_e hS (e_assign rfl) rfl ?_); clear hS a; intro a hS
      refine L_nil ?_
      exact ⟨k + 1, by omega, _, hS.slots (by repeat (first | exact trivial | refine ⟨rfl, ?_⟩)), by omega, ht⟩
  ·
    refine wp_exit ?_
    refine x_then (x_then (x_hit ?_))
    refine n_then ?_
    refine c_seq ?_
    refine c_region ?_
    refine L_op (s_e hS (e_assign rfl) rfl ?_); clear hS a; intro a hS
    refine L_nil ?_
    refine n_then ?_
    refine wp_ret ?_
    refine c_ret1 hS Tryz.results4 (.tmp rfl) ?_
    exact ⟨rfl, hS.chg⟩
end Go.Proofs.YtjmkjkhcognoeaaGreatDoor

namespace Go.Proofs.YtjmkjkhcognoeaaGreatDoor
theorem handed_and_shaped {H : Type} {enc : TypeId × Value → H} {a : Assume} {C : Checked} {os : Os} {f : FuncId} {fn : Func} {s : ChangeSpec} {conds : List PathCond} {apart fresh handsOn again : Bool} {X : World → Array Value → Prop}
    (hX : ∀ (w w' : World) (args : Array Value), w.heap = w'.heap → X w args → X w' args)
    (own : ownKnob C.prog.godebug = none) (started : os.Started) (noInit : C.prog.inits.idxOf? f = none) (hfn : C.prog.funcs[f]? = some fn)
    (witness : ∃ (w : World) (tape : Tape) (i : Input), w.os = os ∧ (w.forCall tape i).Shaped C.prog ∧ i.vars = [] ∧ Input.okWide C.prog (w.forCall tape i) .any w.heap.size f i ∧
      ((s.pre enc C.prog fn conds apart (w.forCall tape i).memory i.args ∧ X (w.forCall tape i).memory i.args) ∧ sizedMet enc C.prog fn (OpenSpec.ofChange s) apart (w.forCall tape i).memory i.args) ∧ a.holds C.prog (lone (Frame.enter C.prog f i.args .normal) [] (w.forCall tape i)))
    (contract : ∀ (W : World) (base : Nat) (args : Array Value) (ds gs : List (DataW H)) (before : List MemPlace),
      (∀ (j : Nat) t v, fn.params[j]? = some t → args[j]? = some v → Value.okWide C.prog W .any base t v) →
      DataW.Whole enc C.prog fn.params.toList s.vars apart W args.toList ds gs before →
      conds.all (PathCond.test C.prog ⟨fn.params.toList, ds, s.plain.varTypes C.prog, gs⟩) = true →
      (DataW.weightsEach C.prog (fn.params.toList ++ s.plain.varTypes C.prog) (ds ++ gs)).all (· ≤ reachBytes) = true → X W args → W.ShapedOpen C.prog →
      a.holds C.prog (lone (Frame.enter C.prog f args .normal) [] W) →
      Calls C.prog f args W fun e W' => ∃ v, e = .returned v ∧ s.post enc C.prog fn apart fresh handsOn again W args v W') :
    ReturnsInHanded a C os f .any (fun w args => (s.pre enc C.prog fn conds apart w args ∧ X w args) ∧ sizedMet enc C.prog fn (OpenSpec.ofChange s) apart w args) (s.post enc C.prog fn apart fresh handsOn again) := by
  refine returnsInHanded_of_calls own started noInit witness ?_
  intro w tape i _ hsh _ hok hpre hholds
  obtain ⟨_, _, _, fn', hfn', _, _, _, _, hval⟩ := hok
  have e : fn' = fn := Option.some.inj (hfn'.symm.trans hfn)
  subst e
  obtain ⟨⟨⟨ds, gs, before, hw, hc⟩, hx⟩, hz⟩ := hpre
  have hw' := DataW.Whole.of_heap (w' := w.forCall tape i) (by rfl) hw
  refine (contract (w.forCall tape i) w.heap.size i.args ds gs before hval hw' hc (hz.weights hw) (hX _ _ _ (by rfl) hx) hsh hholds).mono fun e W' ⟨v, he, hp⟩ => ?_
  subst he
  exact ChangeSpec.post_blind hp
theorem maxLen_any {w : World} (h : w.ShapedOpen Tryz.prog) : ∃ m, w.cell? ⟨1, 0, none⟩ = some (.int .i64 m) :=
  cell_of_shapedOpen_int (zero := #[.int .i64 0]) h (of_decide_eq_true (by kernel_rfl)) (by kernel_rfl) (by kernel_rfl) (by kernel_rfl) (by kernel_rfl) Tryz.underlying3
end Go.Proofs.YtjmkjkhcognoeaaGreatDoor

namespace Go.Proofs.YtjmkjkhcognoeaaGreatDoor.poolLazy
open Go.ChangeShapes Go.WideShapes Go.ChangeAt Go.RowKit Go.Joins
open Go.ChangeMaps (open_string shut_string)

theorem own : ownKnob Tryz.prog.godebug = none := by kernel_rfl
theorem laidOut : laidOutB Tryz.prog = true := by kernel_rfl

set_option maxRecDepth 100000 in
theorem lifted (os : Os) (started : os.Started) (H : Type) (enc : TypeId × Value → H) :
    ReturnsInHanded {} Tryz.checked os 4 .any (fun w args => (Rows.poolLazySpec.pre enc Tryz.prog Tryz.f4 Rows.poolLazyRow.domain false w args ∧ laidMetH Tryz.prog Rows.poolLazyRow.laid w) ∧ sizedMet enc Tryz.prog Tryz.f4 (OpenSpec.ofChange Rows.poolLazySpec) false w args)
      (Rows.poolLazySpec.post enc Tryz.prog Tryz.f4 false true false false) := by
  refine handed_and_shaped (C := Tryz.checked) (X := fun w _ => laidMetH Tryz.prog Rows.poolLazyRow.laid w) (fun _ _ _ hh h => h.of_heap hh) own started (by kernel_rfl) Tryz.func4
    (ChangeSpec.witness_shaped (enc := enc) (C := Tryz.checked) (os := os) (X := fun w _ => laidMetH Tryz.prog Rows.poolLazyRow.laid w) false (World.laidAll Tryz.prog os Rows.poolLazyRow.laid) #[.int .i64 0, .int .i64 0] 8 (World.laidAll_os _ _ _)
      (World.shaped_of_ZipB (by kernel_rfl) (by kernel_rfl)) (by kernel_rfl) (by kernel_rfl) (by kernel_rfl)
      (by rw [MakeChecks.laidMetH_plain _ _ _ (by kernel_rfl)]; exact laidMet_laidAll _ (by kernel_rfl) (by kernel_rfl))) ?_
  intro W base args ds gs before hval0 hW hcnd hsz0 hlaid hsh _
  have hval : ∀ (j : Nat) t v, Tryz.f4.params[j]? = some t → args[j]? = some v → Value.okWide Tryz.prog W .any base t v := hval0
  have hW' := hW
  obtain ⟨p, q, hA0, hV, rfl, hfz, hnd⟩ := hW
  have hsz : (DataW.weightsEach Tryz.prog (Tryz.f4.params.toList ++ Rows.poolLazySpec.plain.varTypes Tryz.prog) (ds ++ gs)).all (· ≤ reachBytes) = true := hsz0
  have hA : DataW.TrodAll enc Tryz.prog W 0 (fun _ => true) true Tryz.f4.params.toList args.toList ds p := hA0
  rw [Tryz.params4] at hA hval hsz
  obtain ⟨v0, vs0, d0, ds0, p0, q0, hargs, rfl, rfl, h0, r0⟩ := trodAll_cons hA
  obtain ⟨v1, vs1, d1, ds1, p1, q1, rfl, rfl, rfl, h1, r1⟩ := trodAll_cons r0
  obtain ⟨rfl, rfl, rfl⟩ := trodAll_nil r1
  obtain rfl : args = #[v0, v1] := by cases args; simp_all
  obtain ⟨rfl, rfl⟩ := trodVars_none hV
  have k0 := h0
  have lt0 : ∀ x ∈ p0, x.block < W.heap.size := by obtain ⟨m, hm⟩ := k0; exact DataW.trod_lt m _ _ _ hm
  obtain ⟨a0, rfl, rfl, rfl, w0⟩ := open_int Tryz.underlying3 (hval 0 3 v0 rfl rfl) h0
  have b0 := bounds_i64 w0
  have k1 := h1
  have lt1 : ∀ x ∈ p1, x.block < W.heap.size := by obtain ⟨m, hm⟩ := k1; exact DataW.trod_lt m _ _ _ hm
  obtain ⟨a1, rfl, rfl, rfl, w1⟩ := open_int Tryz.underlying3 (hval 1 3 v1 rfl rfl) h1
  have b1 := bounds_i64 w1
  obtain ⟨mx, hmx⟩ := maxLen_any hsh
  have hw := PoolLazy_P a0 a1 b0 mx W hmx
  clear hA0 hval0
  refine hw.mono fun e W' ⟨he, hchg⟩ => ?_
  have bel := hchg.below
  subst he
  exact ⟨_, rfl, _, _, _, [], _, [], hW', trodAll_mk1 (shut_bool Tryz.underlying4 _), (trodAll_cons_mk (Below.trod laidOut (by kernel_rfl) (of_decide_eq_true (by kernel_rfl)) k0 bel lt0) (trodAll_cons_mk (Below.trod laidOut (by kernel_rfl) (of_decide_eq_true (by kernel_rfl)) k1 bel lt1) trodAll_mk0)), rfl, bel.frame _, fun h => by cases h⟩

theorem over : Rows.poolLazyRow.holds Tryz.pinned (OpenSpec.ofChange Rows.poolLazySpec) :=
  OpenClaim.holds_of_wide 4 Tryz.f4 rfl rfl rfl rfl rfl rfl rfl ⟨rfl, rfl, rfl, rfl, rfl⟩ rfl rfl rfl rfl rfl (by kernel_rfl) Tryz.func4 (by kernel_rfl)
    (of_decide_eq_true (by kernel_rfl)) (by unfold Func.isWrapper; first | (rw [if_pos (by decide +kernel)]; kernel_rfl) | (rw [if_neg (by decide +kernel)]; exact ⟨rfl, rfl⟩))
    (fun os started H enc _ => lifted os started H enc)

theorem proved : Rows.PoolLazyCardSaid :=
  Claim7.holds_tied_plain_at .later [] Rows.poolLazyCard.laidKinds true Rows.poolLazyCard.stood.harness true over (fun _ h => by cases h) (by kernel_rfl) (fun _ h => by cases h) poolLazy_row_tie rfl ⟨rfl, rfl⟩ (by kernel_rfl) rfl
    (fun f fn hf hfn => by
      obtain rfl : f = 4 := Option.some.inj ((show Tryz.prog.funcNamed Rows.poolLazyRow.func = some 4 by kernel_rfl).symm.trans hf) |>.symm
      obtain rfl : fn = Tryz.f4 := (Option.some.inj (Tryz.func4.symm.trans hfn)).symm
      exact ⟨by kernel_rfl, fun j t ht => by
        have hm : t ∈ Tryz.f4.params.toList := by simpa using Array.mem_of_getElem? ht
        have hall : (Tryz.f4.params.toList.all fun u => !Tryz.prog.wantsStandIn u) = true := by kernel_rfl
        exact (show Tryz.prog.wantsStandIn t = false by simpa using List.all_eq_true.1 hall t hm)⟩)
    (by kernel_rfl)
end Go.Proofs.YtjmkjkhcognoeaaGreatDoor.poolLazy
