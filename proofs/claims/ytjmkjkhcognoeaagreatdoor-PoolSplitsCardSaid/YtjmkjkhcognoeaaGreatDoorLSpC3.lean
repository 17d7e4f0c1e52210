/- PoolSplits: for every argument the law returns true, and each argument reads afterwards as it read before. No conditions. (text 3 of 4) -/
import Derived.Test.YtjmkjkhcognoeaaGreatDoorLSpC2
import Derived.Laws.LoneSync
import Derived.Lib.ConvBytes
namespace Go.Proofs.YtjmkjkhcognoeaaGreatDoor
open Go.RowKit

/-- locks: the map, the channel, the map's clock, what is held, how many were given. -/
structure LK where
  mb : Nat
  ch : Nat
  c : Nat
  hs : List HE
  given : Int
def kCells (s : Int) (D : LK) : List Value := [.int .i32 s, .int .u32 0, .map (some D.mb), .int .i64 D.given, .chan (some D.ch)]
structure LK.wf (D : LK) : Prop where
  good : goodI (entI D.hs) D.c
  len : ∀ e ∈ D.hs, e.names.length ≤ 1000000
  given : 0 ≤ D.given ∧ D.given ≤ 1000000
  keys : ∀ e ∈ D.hs, 1 ≤ e.t ∧ e.t ≤ D.given
structure lkφ (k : Nat) (D : LK) (w : World) : Prop where
  bk : w.heap[k]? = some (.cells (kCells 0 D).toArray 87 (0, 0))
  mp : w.heap[D.mb]? = some (.map (mkI (entI D.hs)).toArray D.c)
  ch : w.heap[D.ch]? = some (.chan 0 #[] false 0 0 false)
  rows : ∀ e ∈ D.hs, holdT e w
  wf : D.wf
def lkF (k : Nat) (D : LK) (i : Nat) : Prop := i = k ∨ i = D.mb ∨ i = D.ch ∨ ∃ e ∈ D.hs, e.v.ownBlock = some i
def lkA (k : Nat) (D : LK) : Asn := .any (lkF k D) (lkφ k D) true
/-- the same, piece by piece. -/
def lkL (k : Nat) (s : Int) (D : LK) : List Asn := [.blk k (kCells s D) 87, .mp D.mb (mkI (entI D.hs)) D.c, chA D.ch false, holdsT D.hs]
theorem mp_ok {b c : Nat} {es : List MapEntry} {w : World} (h : w.heap[b]? = some (.map es.toArray c)) : (Asn.mp b es c).ok w :=
  ⟨fun k hk => by obtain rfl : k = b := hk; exact (Array.getElem?_eq_some_iff.1 h).1, fun w' hw => by show w'.heap[b]? = _; rw [hw b rfl]; exact h⟩
theorem lk_ok {k : Nat} {D : LK} {w : World} (h : lkφ k D w) : (lkA k D).ok w := by
  refine ⟨fun i hi => ?_, fun w' hw => ⟨?_, ?_, ?_, fun e he => (ok_own (h.rows e he)).hold w' (fun b hb => hw b (.inr (.inr (.inr ⟨e, he, hb⟩)))), h.wf⟩⟩
  · rcases hi with rfl | rfl | rfl | ⟨e, he, hb⟩
    · exact (Array.getElem?_eq_some_iff.1 h.bk).1
    · exact (Array.getElem?_eq_some_iff.1 h.mp).1
    · exact (Array.getElem?_eq_some_iff.1 h.ch).1
    · exact (World.ownsRow.lt (h.rows e he) i hb).2
  · rw [hw k (.inl rfl)]; exact h.bk
  · rw [hw D.mb (.inr (.inl rfl))]; exact h.mp
  · rw [hw D.ch (.inr (.inr (.inl rfl)))]; exact h.ch
theorem own_obj {w : World} {E s : Nat} {v : Value} {m : Nat} {xs : List Value} (h : w.ownsRow 0 E s v m xs) {g : Nat} (hg : v.ownBlock = some g) : ∃ cs, w.heap[g]? = some (.cells cs E (0, 0)) := by
  rcases h.2 with ⟨rfl, _⟩ | ⟨g', cap, cur, rfl, _, e2, _⟩
  · cases hg
  · simp [Value.ownBlock] at hg; subst hg; exact ⟨_, e2⟩
theorem lk_oks {k : Nat} {D : LK} {w : World} (h : lkφ k D w) : ∀ X ∈ lkL k 0 D, X.ok w := okC (ok_blk h.bk) (okC (mp_ok h.mp) (okC (ch_ok h.ch) (okC (holds_ok h.rows) okN)))
theorem lk_dis {k : Nat} {D : LK} {w : World} (h : lkφ k D w) : (lkL k 0 D).Pairwise (fun X Y => ∀ b, X.F b → ¬ Y.F b) := by
  have a1 : k ≠ D.mb := fun e => by have := h.bk; rw [e, h.mp] at this; cases this
  have a2 : k ≠ D.ch := fun e => by have := h.bk; rw [e, h.ch] at this; cases this
  have a3 : D.mb ≠ D.ch := fun e => by have := h.mp; rw [e, h.ch] at this; cases this
  have a4 : ∀ e ∈ D.hs, e.v.ownBlock ≠ some k := fun e he hb => by obtain ⟨cs, h1⟩ := own_obj (h.rows e he) hb; rw [h.bk] at h1; cases h1
  have a5 : ∀ e ∈ D.hs, e.v.ownBlock ≠ some D.mb := fun e he hb => by obtain ⟨cs, h1⟩ := own_obj (h.rows e he) hb; rw [h.mp] at h1; cases h1
  have a6 : ∀ e ∈ D.hs, e.v.ownBlock ≠ some D.ch := fun e he hb => by obtain ⟨cs, h1⟩ := own_obj (h.rows e he) hb; rw [h.ch] at h1; cases h1
  exact disC (sepC (fun b h1 h2 => a1 (Eq.trans (Eq.symm h1) h2)) (sepC (fun b h1 h2 => a2 (Eq.trans (Eq.symm h1) h2)) (sepC (fun b h1 h2 => by obtain ⟨e, he, hb⟩ := h2; obtain rfl : b = k := h1; exact a4 e he hb) sepN)))
    (disC (sepC (fun b h1 h2 => a3 (Eq.trans (Eq.symm h1) h2)) (sepC (fun b h1 h2 => by obtain ⟨e, he, hb⟩ := h2; obtain rfl : b = D.mb := h1; exact a5 e he hb) sepN))
      (disC (sepC (fun b h1 h2 => by obtain ⟨e, he, hb⟩ := h2; obtain rfl : b = D.ch := h1; exact a6 e he hb) sepN) dis1))
theorem lk_sub {k : Nat} {s : Int} {D : LK} : ∀ X ∈ lkL k s D, ∀ b, X.F b → lkF k D b := by
  intro X hX b hb
  rcases List.mem_cons.1 hX with rfl | hX
  · exact .inl hb
  rcases List.mem_cons.1 hX with rfl | hX
  · exact .inr (.inl hb)
  rcases List.mem_cons.1 hX with rfl | hX
  · exact .inr (.inr (.inl hb))
  obtain rfl := List.mem_singleton.1 hX
  exact .inr (.inr (.inr hb))
theorem lk_back {k : Nat} {D : LK} {n : NN} {F0 : Nat → Prop} {w0 : World} {a : Act} {w : World} {L : List (Nat × Value)} {Γ : List Asn} (hS : St n F0 w0 a w L (lkL k 0 D ++ Γ)) (hwf : D.wf) : (lkA k D).ok w :=
  lk_ok ⟨hS.get (X := .blk k (kCells 0 D) 87) (.head _), hS.get (X := .mp D.mb (mkI (entI D.hs)) D.c) (.tail _ (.head _)), hS.get (X := chA D.ch false) (.tail _ (.tail _ (.head _))), hS.get (X := holdsT D.hs) (.tail _ (.tail _ (.tail _ (.head _)))), hwf⟩
theorem lk_new {k : Nat} {D : LK} {n : NN} {F0 : Nat → Prop} {w0 : World} {a : Act} {w : World} {L : List (Nat × Value)} {Γ : List Asn} (hS : St n F0 w0 a w L (lkL k 0 D ++ Γ)) (b : Nat) (hb : lkF k D b) : F0 b ∨ w0.heap.size ≤ b := by
  rcases hb with hb | hb | hb | hb
  · exact (hS.mine (.blk k (kCells 0 D) 87) (.head _) rfl b hb).symm
  · exact (hS.mine (.mp D.mb (mkI (entI D.hs)) D.c) (.tail _ (.head _)) rfl b hb).symm
  · exact (hS.mine (chA D.ch false) (.tail _ (.tail _ (.head _))) rfl b hb).symm
  · exact (hS.mine (holdsT D.hs) (.tail _ (.tail _ (.tail _ (.head _)))) rfl b hb).symm

def lk0 (x : Nat × Nat) : LK := ⟨x.1, x.2, 0, [], 0⟩
set_option maxRecDepth 100000 in
theorem NewLocks_P (w0 : World) : NewC Tryz.prog 15 [] w0 (fun x : Nat × Nat × Nat => .pointer (some ⟨x.1, 0, none⟩)) (fun x => lkA x.1 (lk0 x.2)) := by
  refine c_enter [] [] noB Tryz.func15 rfl Tryz.ntmps15 trivial rfl (by simp) (by simp) (by simp) ?_
  intro a hS
  refine c_seq ?_
  refine c_region ?_
  refine L_op (s_e hS (e_assign rfl) rfl ?_); clear hS a; intro a hS
  refine L_nil ?_
  refine n_then ?_
  refine c_seq ?_
  refine c_region ?_
  refine L_op (s_makeMap hS rfl ?_); clear hS a; (try clear w); intro a w b1 hS
  refine L_op (s_makeChan hS ty_ch85 ty_by3 rfl ?_); clear hS a; (try clear w); intro a w b2 hS
  refine L_op (s_e hS (e_build ty_z87 ty_pl87 (.one rfl rfl rfl (by repeat constructor) (.one rfl rfl rfl (by repeat constructor) .nil))) rfl ?_); clear hS a; intro a hS
  refine L_op (s_boxA hS rfl rfl ?_); clear hS a; (try clear w); intro a w b4 hS
  refine L_op (s_e hS (e_assign rfl) rfl ?_); clear hS a; intro a hS
  refine L_nil ?_
  refine n_then ?_
  refine wp_ret ?_
  refine c_ret1 hS Tryz.results15 (.tmp rfl) ?_
  have hS1 := hS.more (Y := holdsT []) (holds_ok (fun e he => by cases he)) (fun b hb => by obtain ⟨e, he, _⟩ := hb; cases he)
  have hS2 := hS1.pick (Γ' := [.blk b4 (kCells 0 (lk0 (b1, b2))) 87, .mp b1 (mkI (entI [])) 0, chA b2 false, holdsT []]) (by repeat (first | exact Pick.nil | (refine Pick.cons (by repeat (first | exact Rem.head | apply Rem.tail)) ?_)))
  exact ⟨(b4, b1, b2), rfl, hS.chg, lk_back (k := b4) (D := lk0 (b1, b2)) (Γ := []) hS2 ⟨⟨fun e he => (by cases he), .nil, .nil⟩, fun e he => (by cases he), ⟨Int.le_refl _, (by decide : (0 : Int) ≤ 1000000)⟩, fun e he => (by cases he)⟩, fun b hb => (lk_new (k := b4) (D := lk0 (b1, b2)) (Γ := []) hS2 b hb).resolve_left (fun h => h)⟩
set_option maxRecDepth 100000 in
theorem Held_P (k : Nat) (D : LK) (w0 : World) (h : lkφ k D w0) : MutC Tryz.prog 19 [.pointer (some ⟨k, 0, none⟩)] w0 (lkA k D) (fun _ : Unit => .int .i64 (D.hs.length : Int)) (fun _ => lkA k D) := by
  have hent : (entI D.hs).length = D.hs.length := by simp [entI]
  refine c_enterD [(0, .pointer (some ⟨k, 0, none⟩))] (lkL k 0 D) (lkF k D) Tryz.func19 rfl Tryz.ntmps19 ⟨rfl, trivial⟩ rfl (lk_oks h) (lk_dis h) (fun X hX _ b hb => .inr (lk_sub X hX b hb)) ?_
  intro a hS
  refine c_seq ?_
  refine c_region ?_
  refine L_op (s_e hS (e_assign rfl) rfl ?_); clear hS a; intro a hS
  refine L_nil ?_
  refine n_then ?_
  refine c_seq ?_
  unfold lkL at hS
  refine c_region ?_
  refine L_op (s_e hS (e_move rfl) rfl ?_); clear hS a; intro a hS
  refine L_op (s_e hS (e_nilCheck rfl) rfl ?_); clear hS a; intro a hS
  first | (refine L_op (s_e hS (e_fa0 rfl ty_fo87_0) rfl ?_); clear hS a; intro a hS) | (refine L_op (s_e hS (e_faK rfl ty_fo87_0) rfl ?_); clear hS a; intro a hS)
  refine L_op (s_callM hS (.cons rfl .nil) cf35 rfl (lock_M muLib (b := k) (k := 0) (cs' := kCells 1 D) (hS.get (X := .blk k (kCells 0 D) 87) (by repeat constructor)) rfl (by unfold kCells; repeat constructor)) (fun x => (by repeat constructor)) rfl ?_); clear hS a; (try clear w); intro x6 a w hS
  refine L_nil ?_
  refine n_then ?_
  refine c_seq ?_
  refine c_region ?_
  refine L_op (s_e hS (e_move rfl) rfl ?_); clear hS a; intro a hS
  refine L_op (s_e hS (e_nilCheck rfl) rfl ?_); clear hS a; intro a hS
  first | (refine L_op (s_e hS (e_fa0 rfl ty_fo87_0) rfl ?_); clear hS a; intro a hS) | (refine L_op (s_e hS (e_faK rfl ty_fo87_0) rfl ?_); clear hS a; intro a hS)
  refine L_op (s_defer hS (.cons rfl .nil) ?_); clear hS a; intro a hS
  refine L_nil ?_
  refine n_then ?_
  refine c_seq ?_
  refine c_region ?_
  refine L_op (s_e hS (e_move rfl) rfl ?_); clear hS a; intro a hS
  refine L_op (s_e hS (e_nilCheck rfl) rfl ?_); clear hS a; intro a hS
  first | (refine L_op (s_e hS (e_fa0 rfl ty_fo87_1) rfl ?_); clear hS a; intro a hS) | (refine L_op (s_e hS (e_faK rfl ty_fo87_1) rfl ?_); clear hS a; intro a hS)
  refine L_op (s_e hS (e_load rfl (by repeat constructor) ty_sc84 (by rfl)) rfl ?_); clear hS a; intro a hS
  refine L_op (s_e hS (e_lenI (l := entI D.hs) rfl rfl ty_mp84 (fun w hh => hh (.mp D.mb (mkI (entI D.hs)) D.c) (by repeat constructor))) rfl ?_); clear hS a; intro a hS
  rw [hent] at hS
  refine L_op (s_e hS (e_assign rfl) rfl ?_); clear hS a; intro a hS
  refine L_nil ?_
  refine n_then ?_
  refine wp_ret ?_
  refine d_open hS ?_
  refine d_call hS cf36 (unlock_D muLib (b := k) (k := 0) (cs' := kCells 0 D) (hS.get (X := .blk k (kCells 1 D) 87) (by repeat constructor)) rfl (by unfold kCells; repeat constructor)) .head rfl ?_
  clear hS w; intro w hS
  refine d_ret1 hS Tryz.results19 (.tmp rfl) ?_
  exact ⟨(), rfl, hS.chg, lk_back (Γ := []) hS h.wf, fun b hb => .inl hb⟩
end Go.Proofs.YtjmkjkhcognoeaaGreatDoor

namespace Go.Proofs.YtjmkjkhcognoeaaGreatDoor
open Go.RowKit

/-- names held by a new ticket. -/
def LK.add (D : LK) (nm : List ByteArray) (al : Bool) (v : Value) : LK := ⟨D.mb, D.ch, D.c + 1, D.hs ++ [⟨D.given + 1, nm, al, v, D.c⟩], D.given + 1⟩
theorem entI_add (D : LK) (nm : List ByteArray) (al : Bool) (v : Value) : entI (D.add nm al v).hs = entI D.hs ++ [⟨D.given + 1, .agg [v, .bool al].toArray, D.c⟩] := by simp [entI, LK.add]
theorem keys_new {D : LK} (h : D.wf) : fI (entI D.hs) (D.given + 1) 0 = none :=
  fI_none (fun e he => by
    obtain ⟨x, hx, rfl⟩ := List.mem_map.1 (show e ∈ D.hs.map _ from he)
    have := (h.keys x hx).2
    show x.t ≠ _
    omega) 0
theorem wf_add {D : LK} (h : D.wf) {nm : List ByteArray} (hn : nm.length ≤ 1000000) (hg : D.given ≤ 999999) (al : Bool) (v : Value) : (D.add nm al v).wf := by
  have e1 := entI_add D nm al v
  have g := h.given
  refine ⟨⟨fun e he => ?_, ?_, ?_⟩, fun e he => ?_, ?_, fun e he => ?_⟩
  · rw [e1] at he
    rcases List.mem_append.1 he with he | he
    · have := h.good.lt e he; show e.b < D.c + 1; omega
    · obtain rfl := List.mem_singleton.1 he; show D.c < D.c + 1; omega
  · rw [e1, List.map_append]
    refine List.nodup_append.2 ⟨h.good.nd, by simp, fun x hx y hy => ?_⟩
    obtain ⟨e, he, rfl⟩ := List.mem_map.1 hx
    have := h.good.lt e he
    have : y = D.c := by simpa using hy
    omega
  · rw [e1, List.map_append]
    refine List.nodup_append.2 ⟨h.good.keys, by simp, fun x hx y hy => ?_⟩
    obtain ⟨e, he, rfl⟩ := List.mem_map.1 hx
    obtain ⟨z, hz, rfl⟩ := List.mem_map.1 (show e ∈ D.hs.map _ from he)
    have := (h.keys z hz).2
    have : y = D.given + 1 := by simpa using hy
    show z.t ≠ y
    omega
  · rcases List.mem_append.1 he with he | he
    · exact h.len e he
    · obtain rfl := List.mem_singleton.1 he; exact hn
  · show 0 ≤ D.given + 1 ∧ D.given + 1 ≤ 1000000
    omega
  · rcases List.mem_append.1 he with he | he
    · have := h.keys e he; show 1 ≤ e.t ∧ e.t ≤ D.given + 1; omega
    · obtain rfl := List.mem_singleton.1 he; show 1 ≤ D.given + 1 ∧ D.given + 1 ≤ D.given + 1; omega
theorem lk_may {k : Nat} {s : Int} {D : LK} {n : NN} {F0 : Nat → Prop} {w0 : World} {a : Act} {w : World} {L : List (Nat × Value)} {Γ : List Asn} (hS : St n F0 w0 a w L Γ) (h1 : .blk k (kCells s D) 87 ∈ Γ) (h2 : .mp D.mb (mkI (entI D.hs)) D.c ∈ Γ) (h3 : holdsT D.hs ∈ Γ) : mayφ k D.mb D.hs D.c w :=
  ⟨cell_of_blk (hS.get h1) rfl, hS.get h2, hS.get h3⟩

theorem one_N (l : List ByteArray) : ∀ u ∈ l.flatMap encN, isOne u = true := fun u hu => by
  obtain ⟨x, _, hx⟩ := List.mem_flatMap.1 hu
  obtain rfl := List.mem_singleton.1 (show u ∈ [.string x] from hx)
  rfl
theorem nm_read {q : Option Addr} {m c : Nat} {l : List ByteArray} {w : World} (hm : NmAt (.slice q m c) l w) : (m = 0 ∧ l.flatMap encN = []) ∨ ∃ bx ox, q = some ⟨bx, ox, none⟩ ∧ ∀ j u, (l.flatMap encN)[j]? = some u → w.cell? ⟨bx, ox + j, none⟩ = some u := by
  rcases hm with ⟨rfl, a, c', e⟩ | ⟨b, off, c', _, e, hr, _⟩
  · injection e with _ e2; exact .inl ⟨e2, rfl⟩
  · injection e with e1
    refine .inr ⟨b, off, e1, fun j u hj => ?_⟩
    have hfl : ∀ l : List ByteArray, l.flatMap encN = l.map Value.string := fun l => by
      induction l with
      | nil => rfl
      | cons x l ih => rw [List.flatMap_cons, ih]; rfl
    rw [hfl, List.getElem?_map] at hj
    cases hx : l[j]? with
    | none => rw [hx] at hj; cases hj
    | some x =>
      rw [hx] at hj; injection hj with hj; subst hj
      have := nm_cell hr hx
      rwa [Nat.mul_one] at this
theorem own_sl {w : World} {E s m : Nat} {v : Value} {xs : List Value} (h : w.ownsRow 0 E s v m xs) : ∃ q c, v = .slice q m c := by
  rcases h.2 with ⟨rfl, e⟩ | ⟨g, cap, cur, rfl, _⟩
  · exact ⟨none, 0, by rw [e]⟩
  · exact ⟨_, _, rfl⟩

set_option maxHeartbeats 1000000 in
set_option maxRecDepth 100000 in
theorem try_M (k : Nat) (D : LK) (nv : Value) (nm : List ByteArray) (al : Bool) (hn : nm.length ≤ 1000000) (hgv : D.given ≤ 999999) (hmay : mayF D.hs nm al) (w0 : World) (h : lkφ k D w0) (hnv : NmAt nv nm w0) (hd : ∀ i, lkF k D i → ¬ nmF nv nm i) :
    MutC Tryz.prog 37 [.pointer (some ⟨k, 0, none⟩), nv, .bool al] w0 (lkA k D) (fun _ : Value => .tuple [.int .i64 (D.given + 1), .chan none].toArray) (fun v => lkA k (D.add nm al v)) := by
  obtain ⟨q, cq, rfl⟩ := hnv.shape
  have wf := h.wf
  have hg := wf.given
  have hsub : ∀ i, mayK k D.mb D.hs i → lkF k D i := fun i hi => by
    rcases hi with hi | hi | hi
    · exact .inl hi
    · exact .inr (.inl hi)
    · exact .inr (.inr (.inr hi))
  refine c_enterD [(0, .pointer (some ⟨k, 0, none⟩)), (1, .slice q nm.length cq), (2, .bool al)] (nmA (.slice q nm.length cq) nm :: lkL k 0 D) (lkF k D) Tryz.func37 rfl Tryz.ntmps37 ⟨rfl, rfl, rfl, trivial⟩ rfl (okC (nm_ok hnv) (lk_oks h)) (disC (fun Y hY b hb hy => hd b (lk_sub Y hY b hy) hb) (lk_dis h)) (mineC rfl (fun X hX _ b hb => .inr (lk_sub X hX b hb))) ?_
  intro a hS
  refine c_seq ?_
  refine c_region ?_
  refine L_op (s_e hS (e_assign rfl) rfl ?_); clear hS a; intro a hS
  refine L_op (s_e hS (e_assign rfl) rfl ?_); clear hS a; intro a hS
  refine L_nil ?_
  refine n_then ?_
  refine c_seq ?_
  unfold lkL at hS
  refine c_region ?_
  refine L_op (s_e hS (e_move rfl) rfl ?_); clear hS a; intro a hS
  refine L_op (s_e hS (e_nilCheck rfl) rfl ?_); clear hS a; intro a hS
  first | (refine L_op (s_e hS (e_fa0 rfl ty_fo87_0) rfl ?_); clear hS a; intro a hS) | (refine L_op (s_e hS (e_faK rfl ty_fo87_0) rfl ?_); clear hS a; intro a hS)
  refine L_op (s_callM hS (.cons rfl .nil) cf35 rfl (lock_M muLib (b := k) (k := 0) (cs' := kCells 1 D) (hS.get (X := .blk k (kCells 0 D) 87) (by repeat constructor)) rfl (by unfold kCells; repeat constructor)) (fun x => (by repeat constructor)) rfl ?_); clear hS a; (try clear w); intro x11 a w hS
  refine L_nil ?_
  refine n_then ?_
  refine c_seq ?_
  refine c_region ?_
  refine L_op (s_e hS (e_move rfl) rfl ?_); clear hS a; intro a hS
  refine L_op (s_e hS (e_nilCheck rfl) rfl ?_); clear hS a; intro a hS
  first | (refine L_op (s_e hS (e_fa0 rfl ty_fo87_0) rfl ?_); clear hS a; intro a hS) | (refine L_op (s_e hS (e_faK rfl ty_fo87_0) rfl ?_); clear hS a; intro a hS)
  refine L_op (s_defer hS (.cons rfl .nil) ?_); clear hS a; intro a hS
  refine L_nil ?_
  refine n_then ?_
  refine c_seq ?_
  refine c_seq ?_
  refine c_region ?_
  refine L_op (s_e hS (e_move rfl) rfl ?_); clear hS a; intro a hS
  refine L_op (s_e hS (e_move rfl) rfl ?_); clear hS a; intro a hS
  refine L_op (s_e hS (e_move rfl) rfl ?_); clear hS a; intro a hS
  refine L_op (s_callP hS (.cons rfl (.cons rfl (.cons rfl .nil))) cf50 rfl (may_P k D.mb D.hs D.c (.slice q nm.length cq) nm al (by omega) (fun e he => by have := wf.len e he; omega) wf.good _ (lk_may (s := 1) hS (by repeat constructor) (by repeat constructor) (by repeat constructor)) (hS.get (X := nmA (.slice q nm.length cq) nm) (by repeat constructor)) (fun i hi => hd i (hsub i hi))) ?_); clear hS a; (try clear w); intro a w hS
  refine L_op (s_e hS (e_not rfl) rfl ?_); clear hS a; intro a hS
  refine L_nil ?_
  refine n_then ?_
  replace hS := hS.is (t := 19) (c := false) rfl ((by rw [decide_eq_true hmay]; rfl))
  refine c_if_f hS rfl ?_
  refine wp_skip ?_
  refine n_then ?_
  refine c_seq ?_
  refine c_region ?_
  refine L_op (s_e hS (e_move rfl) rfl ?_); clear hS a; intro a hS
  refine L_op (s_e hS (e_nilCheck rfl) rfl ?_); clear hS a; intro a hS
  first | (refine L_op (s_e hS (e_fa0 rfl ty_fo87_2) rfl ?_); clear hS a; intro a hS) | (refine L_op (s_e hS (e_faK rfl ty_fo87_2) rfl ?_); clear hS a; intro a hS)
  refine L_op (s_e hS (e_load rfl (by repeat constructor) ty_sc3 (by rfl)) rfl ?_); clear hS a; intro a hS
  first | (refine L_op (s_e hS (e_binN rfl rfl rfl (by omega)) rfl ?_); clear hS a; intro a hS) | (refine L_op (s_e hS (e_bin rfl rfl rfl) rfl ?_); clear hS a; intro a hS)
  refine L_op (s_e hS (e_nilCheck rfl) rfl ?_); clear hS a; intro a hS
  first | (refine L_op (s_e hS (e_fa0 rfl ty_fo87_2) rfl ?_); clear hS a; intro a hS) | (refine L_op (s_e hS (e_faK rfl ty_fo87_2) rfl ?_); clear hS a; intro a hS)
  refine L_op (s_store hS rfl rfl rfl ty_sz3 (by repeat constructor) (by repeat constructor) ?_); clear hS; (try clear w); intro w hS
  refine L_nil ?_
  refine n_then ?_
  refine c_seq ?_
  refine c_drawS [15] (by kernel_rfl) hS (sub_cons (X := .blk k (kCells 1 ⟨D.mb, D.ch, D.c, D.hs, D.given + 1⟩) 87) (by repeat constructor) (sub_cons (X := nmA (.slice q nm.length cq) nm) (by repeat constructor) sub_nil)) ?_; clear hS; (try clear w); intro w hS
  simp only [List.length_cons, List.length_nil, Nat.zero_add, Nat.reduceAdd, List.replicate]
  refine Z_take0 (i := 0) hS rfl want_none (e_move rfl) (listed' := [true, false, false, false, false, false, false, false, false, false, false, false, false, false, false, false]) rfl (by kernel_rfl) (by kernel_rfl) (by kernel_rfl) (fun _ _ _ h => h) rfl ?_; clear hS a; intro a hS
  refine Z_take0 (i := 1) hS rfl want_none (e_nilCheck rfl) (listed' := [true, true, false, false, false, false, false, false, false, false, false, false, false, false, false, false]) rfl (by kernel_rfl) (by kernel_rfl) (by kernel_rfl) (fun _ _ _ h => h) rfl ?_; clear hS a; intro a hS
  first | (refine Z_take0 (i := 2) hS rfl want_none (e_fa0 rfl ty_fo87_1) (listed' := [true, true, true, false, false, false, false, false, false, false, false, false, false, false, false, false]) rfl (by kernel_rfl) (by kernel_rfl) (by kernel_rfl) (fun _ _ _ h => h) rfl ?_; clear hS a; intro a hS) | (refine Z_take0 (i := 2) hS rfl want_none (e_faK rfl ty_fo87_1) (listed' := [true, true, true, false, false, false, false, false, false, false, false, false, false, false, false, false]) rfl (by kernel_rfl) (by kernel_rfl) (by kernel_rfl) (fun _ _ _ h => h) rfl ?_; clear hS a; intro a hS)
  refine Z_take (i := 3) hS rfl want_none (e_load rfl (by repeat constructor) ty_sc84 (by rfl)) (listed' := [true, true, true, true, false, false, false, false, false, false, false, false, false, false, false, false]) rfl (by kernel_rfl) (by kernel_rfl) (by kernel_rfl) (by kernel_rfl) (by kernel_rfl) (sub_cons (by repeat constructor) (sub_cons (by repeat constructor) sub_nil)) (fun _ _ _ h => h) rfl ?_; clear hS a; intro a hS
  refine Z_take0 (i := 4) hS rfl want_none (e_move rfl) (listed' := [true, true, true, true, true, false, false, false, false, false, false, false, false, false, false, false]) rfl (by kernel_rfl) (by kernel_rfl) (by kernel_rfl) (fun _ _ _ h => h) rfl ?_; clear hS a; intro a hS
  refine Z_take0 (i := 5) hS rfl want_none (e_nilCheck rfl) (listed' := [true, true, true, true, true, true, false, false, false, false, false, false, false, false, false, false]) rfl (by kernel_rfl) (by kernel_rfl) (by kernel_rfl) (fun _ _ _ h => h) rfl ?_; clear hS a; intro a hS
  first | (refine Z_take0 (i := 6) hS rfl want_none (e_fa0 rfl ty_fo87_2) (listed' := [true, true, true, true, true, true, true, false, false, false, false, false, false, false, false, false]) rfl (by kernel_rfl) (by kernel_rfl) (by kernel_rfl) (fun _ _ _ h => h) rfl ?_; clear hS a; intro a hS) | (refine Z_take0 (i := 6) hS rfl want_none (e_faK rfl ty_fo87_2) (listed' := [true, true, true, true, true, true, true, false, false, false, false, false, false, false, false, false]) rfl (by kernel_rfl) (by kernel_rfl) (by kernel_rfl) (fun _ _ _ h => h) rfl ?_; clear hS a; intro a hS)
  refine Z_take (i := 7) hS rfl want_none (e_load rfl (by repeat constructor) ty_sc3 (by rfl)) (listed' := [true, true, true, true, true, true, true, true, false, false, false, false, false, false, false, false]) rfl (by kernel_rfl) (by kernel_rfl) (by kernel_rfl) (by kernel_rfl) (by kernel_rfl) (sub_cons (by repeat constructor) (sub_cons (by repeat constructor) sub_nil)) (fun _ _ _ h => h) rfl ?_; clear hS a; intro a hS
  refine Z_take0 (i := 8) hS rfl want_none (e_move rfl) (listed' := [true, true, true, true, true, true, true, true, true, false, false, false, false, false, false, false]) rfl (by kernel_rfl) (by kernel_rfl) (by kernel_rfl) (fun _ _ _ h => h) rfl ?_; clear hS a; intro a hS
  refine Z_take0 (i := 9) hS rfl want_none (e_len rfl rfl ty_sl45) (listed' := [true, true, true, true, true, true, true, true, true, true, false, false, false, false, false, false]) rfl (by kernel_rfl) (by kernel_rfl) (by kernel_rfl) (fun _ _ _ h => h) rfl ?_; clear hS a; intro a hS
  refine Z_take0 (i := 11) hS rfl want_none (e_move rfl) (listed' := [true, true, true, true, true, true, true, true, true, true, false, true, false, false, false, false]) rfl (by kernel_rfl) (by kernel_rfl) (by kernel_rfl) (fun _ _ _ h => h) rfl ?_; clear hS a; intro a hS
  refine Z_take0 (i := 13) hS rfl want_none (e_move rfl) (listed' := [true, true, true, true, true, true, true, true, true, true, false, true, false, true, false, false]) rfl (by kernel_rfl) (by kernel_rfl) (by kernel_rfl) (fun _ _ _ h => h) rfl ?_; clear hS a; intro a hS
  refine Z_one (i := 10) rfl (want_none a hS.sl) (listed' := [true, true, true, true, true, true, true, true, true, true, true, true, false, true, false, false]) rfl (by kernel_rfl) (s_make0 hS rfl rfl ty_sl45 ty_sz9 ty_by9 ty_z9 rfl (by omega) ?_); clear hS a; (try clear w); intro x41 a w hS
  refine Z_and hS (sub_cons (by repeat constructor) (sub_cons (by repeat constructor) sub_nil)) ?_
  refine Z_one (i := 12) rfl (want_none a hS.sl) (listed' := [true, true, true, true, true, true, true, true, true, true, true, true, true, true, false, false]) rfl (by kernel_rfl) (s_appendL hS rfl rfl ty_sl45 ty_sz9 ty_by9 ty_z9 rfl rfl rfl (by repeat constructor) (ys := nm.flatMap encN) (by rw [flat_len encN 1 (fun _ => rfl)]) (nm_read (hS.get (X := nmA (.slice q nm.length cq) nm) (by repeat constructor))) (one_N nm) (by omega) (fun _ => (by repeat constructor)) ?_); clear hS a; (try clear w); intro v43 a w hv43 hS
  obtain ⟨q43, c43, rfl⟩ := own_sl (hS.get (X := ownA 9 1 v43 (0 + nm.length) ([] ++ nm.flatMap encN)) (by repeat constructor))
  simp only [Nat.zero_add, List.nil_append] at hS
  refine Z_and hS (sub_cons (by repeat constructor) (sub_cons (by repeat constructor) sub_nil)) ?_
  refine Z_take0 (i := 14) hS rfl want_none (e_build ty_z89 ty_pl89 (.one rfl rfl rfl (by repeat constructor) (.one rfl rfl rfl (by repeat constructor) .nil))) (listed' := [true, true, true, true, true, true, true, true, true, true, true, true, true, true, true, false]) rfl (by kernel_rfl) (by kernel_rfl) (by kernel_rfl) (fun _ _ _ h => h) rfl ?_; clear hS a; intro a hS
  refine Z_one (i := 15) rfl (want_none a hS.sl) (listed' := [true, true, true, true, true, true, true, true, true, true, true, true, true, true, true, true]) rfl (by kernel_rfl) (s_mapUpI (l := entI D.hs) (c := D.c) hS rfl rfl rfl ty_mp84 ty_u3 (keys_new wf) (by repeat constructor) ?_); clear hS; (try clear w); intro w hS
  refine Z_last (by simp) ?_
  refine Z_done (by kernel_rfl) ?_
  refine n_then ?_
  refine c_seq ?_
  refine c_region ?_
  refine L_op (s_e hS (e_move rfl) rfl ?_); clear hS a; intro a hS
  refine L_op (s_e hS (e_nilCheck rfl) rfl ?_); clear hS a; intro a hS
  first | (refine L_op (s_e hS (e_fa0 rfl ty_fo87_2) rfl ?_); clear hS a; intro a hS) | (refine L_op (s_e hS (e_faK rfl ty_fo87_2) rfl ?_); clear hS a; intro a hS)
  refine L_op (s_e hS (e_load rfl (by repeat constructor) ty_sc3 (by rfl)) rfl ?_); clear hS a; intro a hS
  refine L_op (s_e hS (e_assign rfl) rfl ?_); clear hS a; intro a hS
  refine L_op (s_e hS (e_assign rfl) rfl ?_); clear hS a; intro a hS
  refine L_nil ?_
  refine n_then ?_
  refine wp_ret ?_
  refine d_open hS ?_
  have e1 := entI_add D nm al (.slice q43 nm.length c43)
  rw [← e1] at hS
  have hrow : w.ownsRow 0 9 1 (.slice q43 nm.length c43) nm.length (nm.flatMap encN) := hS.get (X := ownA 9 1 (.slice q43 nm.length c43) nm.length (nm.flatMap encN)) (by repeat constructor)
  have hold := hS.get (X := holdsT D.hs) (by repeat constructor)
  have hS2 := hS.join (Y := holdsT D.hs) (Z := holdsT (D.add nm al (.slice q43 nm.length c43)).hs) (by repeat constructor) (holds_ok (fun e he => by
    rcases List.mem_append.1 he with he | he
    · exact hold e he
    · obtain rfl := List.mem_singleton.1 he; exact hrow)) (fun b hb => by
    obtain ⟨e, he, hb⟩ := hb
    rcases List.mem_append.1 he with he | he
    · exact .inr ⟨e, he, hb⟩
    · obtain rfl := List.mem_singleton.1 he; exact .inl hb) (fun _ => ⟨rfl, rfl⟩)
  clear hS
  have hS := hS2.pick (Γ' := lkL k 1 (D.add nm al (.slice q43 nm.length c43))) (by unfold lkL; exact (by repeat (first | exact Pick.nil | (refine Pick.cons (by repeat (first | exact Rem.head | apply Rem.tail)) ?_))))
  clear hS2 hrow hold
  refine d_call hS cf36 (unlock_D muLib (b := k) (k := 0) (cs' := kCells 0 (D.add nm al (.slice q43 nm.length c43))) (hS.get (X := .blk k (kCells 1 (D.add nm al (.slice q43 nm.length c43))) 87) (.head _)) rfl (by unfold kCells; repeat constructor)) .head rfl ?_
  clear hS w; intro w hS
  refine d_retN hS Tryz.results37 (.cons (.tmp rfl) (.cons (.tmp rfl) .nil)) rfl ?_
  exact ⟨.slice q43 nm.length c43, rfl, hS.chg, lk_back (D := D.add nm al (.slice q43 nm.length c43)) (Γ := []) hS (wf_add wf hn hgv al _), lk_new (D := D.add nm al (.slice q43 nm.length c43)) (Γ := []) hS⟩

set_option maxRecDepth 100000 in
theorem Lock_M (k : Nat) (D : LK) (nv : Value) (nm : List ByteArray) (al : Bool) (hn : nm.length ≤ 1000000) (hgv : D.given ≤ 999999) (hmay : mayF D.hs nm al) (w0 : World) (h : lkφ k D w0) (hnv : NmAt nv nm w0) (hd : ∀ i, lkF k D i → ¬ nmF nv nm i) :
    MutC Tryz.prog 18 [.pointer (some ⟨k, 0, none⟩), nv, .bool al] w0 (lkA k D) (fun _ : Value => .int .i64 (D.given + 1)) (fun v => lkA k (D.add nm al v)) := by
  have hg := h.wf.given
  refine c_enter [(0, .pointer (some ⟨k, 0, none⟩)), (1, nv), (2, .bool al)] [lkA k D, nmA nv nm] (lkF k D) Tryz.func18 rfl Tryz.ntmps18 ⟨rfl, rfl, rfl, trivial⟩ rfl (okC (lk_ok h) (okC (nm_ok hnv) okN)) (disC (sepC hd sepN) dis1) (mineO (fun _ hb => hb) (mineC (by rfl) mineN)) ?_
  intro a hS
  refine c_seq ?_
  refine c_region ?_
  refine L_op (s_e hS (e_assign rfl) rfl ?_); clear hS a; intro a hS
  refine L_nil ?_
  refine n_then ?_
  refine wp_block ?_
  skip
  refine c_loop (γ := Unit) (fun u a w => St 21 (lkF k D) w0 a w [(0, .pointer (some ⟨k, 0, none⟩)), (1, nv), (2, .bool al)] [lkA k D, nmA nv nm]) (fun u => 0) () (hS.slots (by repeat (first | exact trivial | refine ⟨rfl, ?_⟩))) ?_
  clear hS a; (try clear w); intro u a w hI
  have hS := hI; clear hI
  refine wp_block ?_
  refine c_seq ?_
  refine c_region ?_
  refine L_op (s_e hS (e_move rfl) rfl ?_); clear hS a; intro a hS
  refine L_op (s_e hS (e_move rfl) rfl ?_); clear hS a; intro a hS
  refine L_op (s_e hS (e_move rfl) rfl ?_); clear hS a; intro a hS
  refine L_op (s_callM hS (.cons rfl (.cons rfl (.cons rfl .nil))) cf37 rfl (try_M k D nv nm al hn hgv hmay _ (hS.get (X := lkA k D) (by repeat constructor)) (hS.get (X := nmA nv nm) (by repeat constructor)) hd) (fun x => (by repeat constructor)) rfl ?_); clear hS a; (try clear w); intro x13 a w hS
  refine L_op (s_e hS (e_move rfl) rfl ?_); clear hS a; intro a hS
  refine L_op (s_e hS (e_extract rfl rfl) rfl ?_); clear hS a; intro a hS
  refine L_op (s_e hS (e_extract rfl rfl) rfl ?_); clear hS a; intro a hS
  refine L_op (s_e hS (e_assign rfl) rfl ?_); clear hS a; intro a hS
  refine L_op (s_e hS (e_assign rfl) rfl ?_); clear hS a; intro a hS
  refine L_nil ?_
  refine n_then ?_
  refine c_seq ?_
  refine c_seq ?_
  refine c_region ?_
  refine L_op (s_e hS (e_move rfl) rfl ?_); clear hS a; intro a hS
  refine L_op (s_e hS (e_bin rfl rfl rfl) rfl ?_); clear hS a; intro a hS
  refine L_nil ?_
  refine n_then ?_
  replace hS := hS.is (t := 17) (c := true) rfl ((decide_eq_true (by omega)))
  refine c_if_t hS rfl ?_
  refine c_seq ?_
  refine c_region ?_
  refine L_op (s_e hS (e_move rfl) rfl ?_); clear hS a; intro a hS
  refine L_op (s_e hS (e_assign rfl) rfl ?_); clear hS a; intro a hS
  refine L_nil ?_
  refine n_then ?_
  refine wp_ret ?_
  refine r_then (r_block (r_then (r_block ?_)))
  refine c_ret1 hS Tryz.results18 (.tmp rfl) ?_
  exact ⟨x13, rfl, hS.chg, hS.ok _ (.head _), fun b hb => (hS.mine _ (.head _) rfl b hb).symm⟩

/-- a ticket let go. -/
def LK.drop (D : LK) (t : Int) (ch : Nat) : LK := ⟨D.mb, ch, D.c, D.hs.filter (fun e => decide (e.t ≠ t)), D.given⟩
end Go.Proofs.YtjmkjkhcognoeaaGreatDoor

namespace Go.Proofs.YtjmkjkhcognoeaaGreatDoor
open Go.RowKit

set_option maxRecDepth 100000 in
theorem b32_P (b : Bool) (w0 : World) : PureC Tryz.prog 47 [.bool b] w0 (.int .u32 (if b then 1 else 0)) := by
  refine c_enter [(0, .bool b)] [] noB Tryz.func47 rfl Tryz.ntmps47 ⟨rfl, trivial⟩ rfl (by simp) (by simp) (by simp) ?_
  intro a hS
  refine c_seq ?_
  refine c_region ?_
  refine L_op (s_e hS (e_assign rfl) rfl ?_); clear hS a; intro a hS
  refine L_nil ?_
  refine n_then ?_
  refine c_seq ?_
  refine c_seq ?_
  refine c_region ?_
  refine L_op (s_e hS (e_move rfl) rfl ?_); clear hS a; intro a hS
  refine L_nil ?_
  refine n_then ?_
  first | refine c_ifD hS rfl (fun hc3 => ?_) (fun hc3 => ?_) | refine c_if hS rfl (fun hc3 => ?_) (fun hc3 => ?_)
  ·
    refine c_seq ?_
    refine c_region ?_
    refine L_op (s_e hS (e_assign rfl) rfl ?_); clear hS a; intro a hS
    refine L_nil ?_
    refine n_then ?_
    refine wp_ret ?_
    refine r_then ?_
    refine c_ret1 hS Tryz.results47 (.tmp rfl) ?_
    exact ⟨by rw [hc3]; rfl, hS.chg⟩
  ·
    refine wp_skip ?_
    refine n_then ?_
    refine c_seq ?_
    refine c_region ?_
    refine L_op (s_e hS (e_assign rfl) rfl ?_); clear hS a; intro a hS
    refine L_nil ?_
    refine n_then ?_
    refine wp_ret ?_
    refine c_ret1 hS Tryz.results47 (.tmp rfl) ?_
    exact ⟨by rw [hc3]; rfl, hS.chg⟩
set_option maxRecDepth 100000 in
theorem aLoad_P (b k : Nat) (x : Int) (w0 : World) (h : w0.cell? ⟨b, k, none⟩ = some (.int .u32 x)) : PureC Tryz.prog 31 [.pointer (some ⟨b, k, none⟩)] w0 (.bool (decide (x ≠ 0))) := by
  refine c_enter [(0, .pointer (some ⟨b, k, none⟩))] [ceA b k (.int .u32 x)] noB Tryz.func31 rfl Tryz.ntmps31 ⟨rfl, trivial⟩ rfl (okC (ce_ok h) okN) dis1 (mineC (by rfl) mineN) ?_
  intro a hS
  refine c_seq ?_
  refine c_region ?_
  refine L_op (s_e hS (e_assign rfl) rfl ?_); clear hS a; intro a hS
  refine L_nil ?_
  refine n_then ?_
  refine c_seq ?_
  refine c_region ?_
  refine L_op (s_e hS (e_move rfl) rfl ?_); clear hS a; intro a hS
  refine L_op (s_e hS (e_nilCheck rfl) rfl ?_); clear hS a; intro a hS
  first | (refine L_op (s_e hS (e_fa0 rfl ty_fo73_1) rfl ?_); clear hS a; intro a hS) | (refine L_op (s_e hS (e_faK rfl ty_fo73_1) rfl ?_); clear hS a; intro a hS)
  refine L_op (s_e hS (e_externH (.cons rfl .nil) (fun w hh => run_call_load Tryz.func44 (by kernel_rfl) (by kernel_rfl) (by kernel_rfl) .u32 (by kernel_rfl) (hh (ceA b k (.int .u32 x)) (by repeat constructor)))) rfl ?_); clear hS a; intro a hS
  refine L_op (s_e hS (e_bin rfl rfl rfl) rfl ?_); clear hS a; intro a hS
  refine L_op (s_e hS (e_assign rfl) rfl ?_); clear hS a; intro a hS
  refine L_nil ?_
  refine n_then ?_
  refine wp_ret ?_
  refine c_ret1 hS Tryz.results31 (.tmp rfl) ?_
  exact ⟨rfl, hS.chg⟩
set_option maxRecDepth 100000 in
theorem aStore_B {b k E : Nat} {cs cs' : List Value} {x : Value} (w0 : World) (hb : (Asn.blk b cs E).φ w0) (hv : nth cs k = some x) (hu : Upd cs k (.int .u32 1) cs') :
    MutC Tryz.prog 34 [.pointer (some ⟨b, k, none⟩), .bool true] w0 (.blk b cs E) (fun _ : Unit => .tuple [].toArray) (fun _ => .blk b cs' E) ∧ ∀ u, CallsD Tryz.prog 34 [Value.pointer (some ⟨b, k, none⟩), Value.bool true].toArray u w0 fun e u' w' => u' = u ∧ ∃ _ : Unit, e = .returned (.tuple [].toArray) ∧ Chg (Asn.blk b cs E).F w0 w' ∧ (Asn.blk b cs' E).ok w' ∧ ∀ c, (Asn.blk b cs' E).F c → (Asn.blk b cs E).F c ∨ w0.heap.size ≤ c := by
  unfold MutC
  refine c_enterB [(0, .pointer (some ⟨b, k, none⟩)), (1, .bool true)] [Asn.blk b cs E] (fun i => i = b) Tryz.func34 rfl Tryz.ntmps34 ⟨rfl, rfl, trivial⟩ rfl (okC (ok_blk hb) okN) dis1 (mineO (fun _ hb => hb) mineN) ?_
  intro a hS
  refine c_draw1 [5] (by kernel_rfl) hS ?_; clear hS; (try clear w); intro w hS
  simp only [List.length_cons, List.length_nil, Nat.zero_add, Nat.reduceAdd, List.replicate]
  refine Z_take0 (i := 0) hS rfl want_none (e_move rfl) (listed' := [true, false, false, false, false, false]) rfl (by kernel_rfl) (by kernel_rfl) (by kernel_rfl) (fun _ _ _ h => h) rfl ?_; clear hS a; intro a hS
  refine Z_take0 (i := 1) hS rfl want_none (e_nilCheck rfl) (listed' := [true, true, false, false, false, false]) rfl (by kernel_rfl) (by kernel_rfl) (by kernel_rfl) (fun _ _ _ h => h) rfl ?_; clear hS a; intro a hS
  first | (refine Z_take0 (i := 2) hS rfl want_none (e_fa0 rfl ty_fo73_1) (listed' := [true, true, true, false, false, false]) rfl (by kernel_rfl) (by kernel_rfl) (by kernel_rfl) (fun _ _ _ h => h) rfl ?_; clear hS a; intro a hS) | (refine Z_take0 (i := 2) hS rfl want_none (e_faK rfl ty_fo73_1) (listed' := [true, true, true, false, false, false]) rfl (by kernel_rfl) (by kernel_rfl) (by kernel_rfl) (fun _ _ _ h => h) rfl ?_; clear hS a; intro a hS)
  refine Z_take0 (i := 3) hS rfl want_none (e_move rfl) (listed' := [true, true, true, true, false, false]) rfl (by kernel_rfl) (by kernel_rfl) (by kernel_rfl) (fun _ _ _ h => h) rfl ?_; clear hS a; intro a hS
  refine Z_one (i := 4) rfl (want_none a hS.sl) (listed' := [true, true, true, true, true, false]) rfl (by kernel_rfl) (s_callP hS (.cons rfl .nil) cf47 rfl (b32_P true _) ?_); clear hS a; (try clear w); intro a w hS
  refine Z_and hS (by intro X hX; repeat (first | exact hX | apply List.Mem.tail)) ?_
  have hcell : w.cell? ⟨b, k, none⟩ = some x := by
    have h1 : w.heap[b]? = some (.cells cs.toArray E (0, 0)) := hS.get (X := .blk b cs E) (by repeat constructor)
    rw [nth_eq] at hv
    exact cell_of_blk h1 hv
  have hfz : w.frozen? ⟨b, k, none⟩ = false := frozen_of_blk (hS.get (X := .blk b cs E) (by repeat constructor))
  refine Z_one (i := 5) rfl (want_none a hS.sl) (listed' := [true, true, true, true, true, true]) rfl (by kernel_rfl) (s_externS hS (.cons rfl (.cons rfl .nil)) (cs' := cs') (by repeat constructor) hu rfl (run_call_store Tryz.func46 (by kernel_rfl) (by kernel_rfl) (by kernel_rfl) (by kernel_rfl) hcell hfz) ?_); clear hS a hcell hfz; (try clear w); intro a w hS
  refine Z_last (by simp) ?_
  refine Z_done (by kernel_rfl) ?_
  refine r_norm ?_
  refine c_retN hS Tryz.results34 .nil rfl ?_
  exact ⟨(), rfl, hS.chg, hS.ok _ (.head _), fun c hc => .inl hc⟩
theorem aStore_D {b k E : Nat} {cs cs' : List Value} {x : Value} (w0 : World) (hb : (Asn.blk b cs E).φ w0) (hv : nth cs k = some x) (hu : Upd cs k (.int .u32 1) cs') :
    MutD Tryz.prog 34 [.pointer (some ⟨b, k, none⟩), .bool true] w0 (.blk b cs E) (.blk b cs' E) :=
  ((aStore_B w0 hb hv hu).2 .returning).mono fun _ _ _ ⟨h1, _, h2, h3, h4, h5⟩ => ⟨h1, ⟨_, h2⟩, h3, h4, h5⟩

/-- a value that is made once: done, lock, made, what makes it, the value. -/
def zL (d s m : Int) (f : Value) (v : Int) : List Value := [.int .u32 d, .int .i32 s, .int .u32 0, .int .u32 m, f, .int .i64 v]
def zA (b : Nat) (d s m : Int) (f : Value) (v : Int) : Asn := .blk b (zL d s m f v) 81

set_option maxRecDepth 100000 in
theorem NewLazy_P (f : Value) (hf : isOne f = true) (w0 : World) : NewC Tryz.prog 11 [f] w0 (fun b : Nat => .pointer (some ⟨b, 0, none⟩)) (fun b => zA b 0 0 0 f 0) := by
  refine c_enter [(0, f)] [] noB Tryz.func11 rfl Tryz.ntmps11 ⟨rfl, trivial⟩ rfl (by simp) (by simp) (by simp) ?_
  intro a hS
  refine c_seq ?_
  refine c_region ?_
  refine L_op (s_e hS (e_assign rfl) rfl ?_); clear hS a; intro a hS
  refine L_nil ?_
  refine n_then ?_
  refine c_seq ?_
  refine c_region ?_
  refine L_op (s_e hS (e_move rfl) rfl ?_); clear hS a; intro a hS
  refine L_op (s_e hS (e_build ty_z81 ty_pl81 (.one rfl hf rfl (by repeat constructor) .nil)) rfl ?_); clear hS a; intro a hS
  refine L_op (s_boxA hS rfl rfl ?_); clear hS a; (try clear w); intro a w b5 hS
  refine L_op (s_e hS (e_assign rfl) rfl ?_); clear hS a; intro a hS
  refine L_nil ?_
  refine n_then ?_
  refine wp_ret ?_
  refine c_ret1 hS Tryz.results11 (.tmp rfl) ?_
  exact ⟨b5, rfl, hS.chg, hS.ok _ (.head _), fun c hc => by obtain rfl : c = b5 := hc; exact (hS.mine (.blk c (zL 0 0 0 f 0) 81) (.head _) rfl c rfl).resolve_right (fun h => h)⟩
set_option maxRecDepth 100000 in
theorem Made_P (b : Nat) (m : Int) (w0 : World) (h : w0.cell? ⟨b, 3, none⟩ = some (.int .u32 m)) : PureC Tryz.prog 13 [.pointer (some ⟨b, 0, none⟩)] w0 (.bool (decide (m ≠ 0))) := by
  refine c_enter [(0, .pointer (some ⟨b, 0, none⟩))] [ceA b 3 (.int .u32 m)] noB Tryz.func13 rfl Tryz.ntmps13 ⟨rfl, trivial⟩ rfl (okC (ce_ok h) okN) dis1 (mineC (by rfl) mineN) ?_
  intro a hS
  refine c_seq ?_
  refine c_region ?_
  refine L_op (s_e hS (e_assign rfl) rfl ?_); clear hS a; intro a hS
  refine L_nil ?_
  refine n_then ?_
  refine c_seq ?_
  refine c_region ?_
  refine L_op (s_e hS (e_move rfl) rfl ?_); clear hS a; intro a hS
  refine L_op (s_e hS (e_nilCheck rfl) rfl ?_); clear hS a; intro a hS
  first | (refine L_op (s_e hS (e_fa0 rfl ty_fo81_1) rfl ?_); clear hS a; intro a hS) | (refine L_op (s_e hS (e_faK rfl ty_fo81_1) rfl ?_); clear hS a; intro a hS)
  refine L_op (s_callP hS (.cons rfl .nil) cf31 rfl (aLoad_P b 3 m _ (hS.get (X := ceA b 3 (.int .u32 m)) (by repeat constructor))) ?_); clear hS a; (try clear w); intro a w hS
  refine L_op (s_e hS (e_assign rfl) rfl ?_); clear hS a; intro a hS
  refine L_nil ?_
  refine n_then ?_
  refine wp_ret ?_
  refine c_ret1 hS Tryz.results13 (.tmp rfl) ?_
  exact ⟨rfl, hS.chg⟩

/-- what makes the value: it may change what belongs to X. -/
def Maker (g : Nat) (caps : List Value) (X Y : Asn) (v : Int) : Prop := ∀ w, X.ok w → MutC Tryz.prog g caps w X (fun _ : Unit => .int .i64 v) (fun _ => Y)

set_option maxRecDepth 100000 in
theorem Get1_M {b pl g : Nat} {caps : List Value} {X Y : Asn} {v : Int} (hg : Maker g caps X Y v) (cfg : CallsTo Tryz.prog g) (hmX : X.mine = true) (hmY : Y.mine = true) (w0 : World) (h : (duo (zA b 0 1 0 (.func (.func g) #[] caps.toArray) 0) X).ok w0) (hp : w0.cell? ⟨pl, 0, none⟩ = some (.pointer (some ⟨b, 0, none⟩)))
    (hd : pl ≠ b ∧ ¬ X.F pl) :
    MutC Tryz.prog 33 [.pointer (some ⟨pl, 0, none⟩)] w0 (duo (zA b 0 1 0 (.func (.func g) #[] caps.toArray) 0) X) (fun _ : Unit => .tuple [].toArray) (fun _ => duo (zA b 0 1 1 (.func (.func g) #[] caps.toArray) v) Y) := by
  obtain ⟨h1, h2, h3⟩ := h.now
  refine c_enter [(0, .pointer (some ⟨pl, 0, none⟩))] [.blk b (zL 0 1 0 (.func (.func g) #[] caps.toArray) 0) 81, X, ceA pl 0 (.pointer (some ⟨b, 0, none⟩))] (fun k => k = b ∨ X.F k) Tryz.func33 rfl Tryz.ntmps33 ⟨rfl, trivial⟩ rfl (okC h1 (okC h2 (okC (ce_ok hp) okN))) (disC (sepC h3 (sepC (fun k hk hk2 => hd.1 (Eq.trans (Eq.symm hk2) hk)) sepN)) (disC (sepC (fun k hk hk2 => by have e : k = pl := hk2; rw [e] at hk; exact hd.2 hk) sepN) dis1)) (mineO (fun k hk => .inl hk) (mineO (fun k hk => .inr hk) (mineC rfl mineN))) ?_
  intro a hS
  refine c_seq ?_
  refine c_drawS [8] (by kernel_rfl) hS (sub_cons (X := .blk b (zL 0 1 0 (.func (.func g) #[] caps.toArray) 0) 81) (by repeat constructor) (sub_cons (X := ceA pl 0 (.pointer (some ⟨b, 0, none⟩))) (by repeat constructor) sub_nil)) ?_; clear hS; (try clear w); intro w hS
  simp only [List.length_cons, List.length_nil, Nat.zero_add, Nat.reduceAdd, List.replicate]
  refine Z_take (i := 0) hS rfl want_none (e_loadC rfl ty_sc37 (fun w hh => hh (ceA pl 0 (.pointer (some ⟨b, 0, none⟩))) (by repeat constructor))) (listed' := [true, false, false, false, false, false, false, false, false]) rfl (by kernel_rfl) (by kernel_rfl) (by kernel_rfl) (by kernel_rfl) (by kernel_rfl) (sub_cons (by repeat constructor) (sub_cons (by repeat constructor) sub_nil)) (fun _ _ _ h => h) rfl ?_; clear hS a; intro a hS
  refine Z_take (i := 1) hS rfl want_none (e_loadC rfl ty_sc37 (fun w hh => hh (ceA pl 0 (.pointer (some ⟨b, 0, none⟩))) (by repeat constructor))) (listed' := [true, true, false, false, false, false, false, false, false]) rfl (by kernel_rfl) (by kernel_rfl) (by kernel_rfl) (by kernel_rfl) (by kernel_rfl) (sub_cons (by repeat constructor) (sub_cons (by repeat constructor) sub_nil)) (fun _ _ _ h => h) rfl ?_; clear hS a; intro a hS
  refine Z_take0 (i := 2) hS rfl want_none (e_nilCheck rfl) (listed' := [true, true, true, false, false, false, false, false, false]) rfl (by kernel_rfl) (by kernel_rfl) (by kernel_rfl) (fun _ _ _ h => h) rfl ?_; clear hS a; intro a hS
  first | (refine Z_take0 (i := 3) hS rfl want_none (e_fa0 rfl ty_fo81_2) (listed' := [true, true, true, true, false, false, false, false, false]) rfl (by kernel_rfl) (by kernel_rfl) (by kernel_rfl) (fun _ _ _ h => h) rfl ?_; clear hS a; intro a hS) | (refine Z_take0 (i := 3) hS rfl want_none (e_faK rfl ty_fo81_2) (listed' := [true, true, true, true, false, false, false, false, false]) rfl (by kernel_rfl) (by kernel_rfl) (by kernel_rfl) (fun _ _ _ h => h) rfl ?_; clear hS a; intro a hS)
  refine Z_take (i := 4) hS rfl want_none (e_load rfl (by repeat constructor) ty_sc39 (by rfl)) (listed' := [true, true, true, true, true, false, false, false, false]) rfl (by kernel_rfl) (by kernel_rfl) (by kernel_rfl) (by kernel_rfl) (by kernel_rfl) (sub_cons (by repeat constructor) (sub_cons (by repeat constructor) sub_nil)) (fun _ _ _ h => h) rfl ?_; clear hS a; intro a hS
  refine Z_one (i := 5) rfl (want_none a hS.sl) (listed' := [true, true, true, true, true, true, false, false, false]) rfl (by kernel_rfl) (s_callvM hS rfl .nil cfg rfl (hg w (hS.ok X (by repeat constructor))) (fun x => (by repeat constructor)) hmX ?_); clear hS a; (try clear w); intro x6 a w hS
  refine Z_and hS (sub_cons (by repeat constructor) (sub_cons (by repeat constructor) sub_nil)) ?_
  refine Z_take0 (i := 6) hS rfl want_none (e_nilCheck rfl) (listed' := [true, true, true, true, true, true, true, false, false]) rfl (by kernel_rfl) (by kernel_rfl) (by kernel_rfl) (fun _ _ _ h => h) rfl ?_; clear hS a; intro a hS
  first | (refine Z_take0 (i := 7) hS rfl want_none (e_fa0 rfl ty_fo81_3) (listed' := [true, true, true, true, true, true, true, true, false]) rfl (by kernel_rfl) (by kernel_rfl) (by kernel_rfl) (fun _ _ _ h => h) rfl ?_; clear hS a; intro a hS) | (refine Z_take0 (i := 7) hS rfl want_none (e_faK rfl ty_fo81_3) (listed' := [true, true, true, true, true, true, true, true, false]) rfl (by kernel_rfl) (by kernel_rfl) (by kernel_rfl) (fun _ _ _ h => h) rfl ?_; clear hS a; intro a hS)
  refine Z_one (i := 8) rfl (want_none a hS.sl) (listed' := [true, true, true, true, true, true, true, true, true]) rfl (by kernel_rfl) (s_store hS rfl rfl rfl ty_sz3 (by repeat constructor) (by repeat constructor) ?_); clear hS; (try clear w); intro w hS
  refine Z_last (by simp) ?_
  refine Z_done (by kernel_rfl) ?_
  refine n_then ?_
  refine c_region ?_
  refine L_op (s_e hS (e_loadC rfl ty_sc37 (fun w hh => hh (ceA pl 0 (.pointer (some ⟨b, 0, none⟩))) (by repeat constructor))) rfl ?_); clear hS a; intro a hS
  refine L_op (s_e hS (e_nilCheck rfl) rfl ?_); clear hS a; intro a hS
  first | (refine L_op (s_e hS (e_fa0 rfl ty_fo81_1) rfl ?_); clear hS a; intro a hS) | (refine L_op (s_e hS (e_faK rfl ty_fo81_1) rfl ?_); clear hS a; intro a hS)
  refine L_op (s_callM hS (.cons rfl (.cons rfl .nil)) cf34 rfl ((aStore_B (b := b) (k := 3) (x := .int .u32 0) (cs' := zL 0 1 1 (.func (.func g) #[] caps.toArray) v) _ (hS.get (X := .blk b (zL 0 1 0 (.func (.func g) #[] caps.toArray) v) 81) (by repeat constructor)) rfl (by unfold zL; repeat constructor)).1) (fun x => (by repeat constructor)) rfl ?_); clear hS a; (try clear w); intro x12 a w hS
  refine L_nil ?_
  refine r_norm ?_
  refine c_retN hS Tryz.results33 .nil rfl ?_
  refine ⟨(), rfl, hS.chg, duo_ok (hS.ok _ (.head _)) (hS.ok _ (.tail _ (.head _))) (hS.sep .head (.head _)), fun c hc => ?_⟩
  rcases hc with hc | hc
  · exact .inl (.inl hc)
  · exact (hS.mine Y (.tail _ (.head _)) hmY c hc).symm

set_option maxRecDepth 100000 in
theorem slow_M {b pl g : Nat} {caps : List Value} {X Y : Asn} {v : Int} (hg : Maker g caps X Y v) (cfg : CallsTo Tryz.prog g) (hmX : X.mine = true) (hmY : Y.mine = true) (w0 : World) (h : (duo (zA b 0 0 0 (.func (.func g) #[] caps.toArray) 0) X).ok w0) (hp : w0.cell? ⟨pl, 0, none⟩ = some (.pointer (some ⟨b, 0, none⟩)))
    (hd : pl ≠ b ∧ ¬ X.F pl) :
    MutC Tryz.prog 45 [.pointer (some ⟨b, 0, none⟩), .func (.func 33) #[] [.pointer (some ⟨pl, 0, none⟩)].toArray] w0 (duo (zA b 0 0 0 (.func (.func g) #[] caps.toArray) 0) X) (fun _ : Unit => .tuple [].toArray) (fun _ => duo (zA b 1 0 1 (.func (.func g) #[] caps.toArray) v) Y) := by
  obtain ⟨h1, h2, h3⟩ := h.now
  refine c_enterD [(0, .pointer (some ⟨b, 0, none⟩)), (1, .func (.func 33) #[] [.pointer (some ⟨pl, 0, none⟩)].toArray)] [.blk b (zL 0 0 0 (.func (.func g) #[] caps.toArray) 0) 81, X, ceA pl 0 (.pointer (some ⟨b, 0, none⟩))] (fun k => k = b ∨ X.F k) Tryz.func45 rfl Tryz.ntmps45 ⟨rfl, rfl, trivial⟩ rfl (okC h1 (okC h2 (okC (ce_ok hp) okN))) (disC (sepC h3 (sepC (fun k hk hk2 => hd.1 (Eq.trans (Eq.symm hk2) hk)) sepN)) (disC (sepC (fun k hk hk2 => by have e : k = pl := hk2; rw [e] at hk; exact hd.2 hk) sepN) dis1)) (mineO (fun k hk => .inl hk) (mineO (fun k hk => .inr hk) (mineC rfl mineN))) ?_
  intro a hS
  refine c_seq ?_
  refine c_region ?_
  refine L_op (s_e hS (e_move rfl) rfl ?_); clear hS a; intro a hS
  refine L_op (s_e hS (e_nilCheck rfl) rfl ?_); clear hS a; intro a hS
  first | (refine L_op (s_e hS (e_fa0 rfl ty_fo79_2) rfl ?_); clear hS a; intro a hS) | (refine L_op (s_e hS (e_faK rfl ty_fo79_2) rfl ?_); clear hS a; intro a hS)
  refine L_op (s_callM hS (.cons rfl .nil) cf35 rfl (lock_M muLib (b := b) (k := 1) (cs' := zL 0 1 0 (.func (.func g) #[] caps.toArray) 0) (hS.get (X := .blk b (zL 0 0 0 (.func (.func g) #[] caps.toArray) 0) 81) (by repeat constructor)) rfl (by unfold zL; repeat constructor)) (fun x => (by repeat constructor)) rfl ?_); clear hS a; (try clear w); intro x7 a w hS
  refine L_nil ?_
  refine n_then ?_
  refine c_seq ?_
  refine c_region ?_
  refine L_op (s_e hS (e_move rfl) rfl ?_); clear hS a; intro a hS
  refine L_op (s_e hS (e_nilCheck rfl) rfl ?_); clear hS a; intro a hS
  first | (refine L_op (s_e hS (e_fa0 rfl ty_fo79_2) rfl ?_); clear hS a; intro a hS) | (refine L_op (s_e hS (e_faK rfl ty_fo79_2) rfl ?_); clear hS a; intro a hS)
  refine L_op (s_defer hS (.cons rfl .nil) ?_); clear hS a; intro a hS
  refine L_nil ?_
  refine n_then ?_
  refine c_seq ?_
  refine c_region ?_
  refine L_op (s_e hS (e_move rfl) rfl ?_); clear hS a; intro a hS
  refine L_op (s_e hS (e_nilCheck rfl) rfl ?_); clear hS a; intro a hS
  first | (refine L_op (s_e hS (e_fa0 rfl ty_fo79_1) rfl ?_); clear hS a; intro a hS) | (refine L_op (s_e hS (e_faK rfl ty_fo79_1) rfl ?_); clear hS a; intro a hS)
  refine L_op (s_callP hS (.cons rfl .nil) cf31 rfl (aLoad_P b 0 0 _ (cell_of_blk (hS.get (X := .blk b (zL 0 1 0 (.func (.func g) #[] caps.toArray) 0) 81) (by repeat constructor)) rfl)) ?_); clear hS a; (try clear w); intro a w hS
  refine L_op (s_e hS (e_not rfl) rfl ?_); clear hS a; intro a hS
  refine L_nil ?_
  refine n_then ?_
  replace hS := hS.is (t := 15) (c := true) rfl (rfl)
  refine c_if_t hS rfl ?_
  refine c_seq ?_
  refine c_region ?_
  refine L_op (s_e hS (e_move rfl) rfl ?_); clear hS a; intro a hS
  refine L_op (s_e hS (e_nilCheck rfl) rfl ?_); clear hS a; intro a hS
  first | (refine L_op (s_e hS (e_fa0 rfl ty_fo79_1) rfl ?_); clear hS a; intro a hS) | (refine L_op (s_e hS (e_faK rfl ty_fo79_1) rfl ?_); clear hS a; intro a hS)
  refine L_op (s_defer hS (.cons rfl (.cons rfl .nil)) ?_); clear hS a; intro a hS
  refine L_nil ?_
  refine n_then ?_
  refine c_region ?_
  refine L_op (s_e hS (e_move rfl) rfl ?_); clear hS a; intro a hS
  replace hS := hS.duo rfl hmX
  refine L_op (s_callvM hS rfl .nil cf33 rfl (Get1_M hg cfg hmX hmY w (hS.ok (duo (zA b 0 1 0 (.func (.func g) #[] caps.toArray) 0) X) (.head _)) (hS.get (X := ceA pl 0 (.pointer (some ⟨b, 0, none⟩))) (by repeat constructor)) hd) (fun x => (by repeat constructor)) rfl ?_); clear hS a; (try clear w); intro x20 a w hS
  replace hS := hS.unduo
  refine L_nil ?_
  refine d_norm ?_
  refine d_open hS ?_
  refine d_call hS cf34 (aStore_D (b := b) (k := 0) (x := .int .u32 0) (cs' := zL 1 1 1 (.func (.func g) #[] caps.toArray) v) _ (hS.get (X := .blk b (zL 0 1 1 (.func (.func g) #[] caps.toArray) v) 81) (by repeat constructor)) rfl (by unfold zL; repeat constructor)) .head rfl ?_
  clear hS w; intro w hS
  refine d_call hS cf36 (unlock_D muLib (b := b) (k := 1) (cs' := zL 1 0 1 (.func (.func g) #[] caps.toArray) v) (hS.get (X := .blk b (zL 1 1 1 (.func (.func g) #[] caps.toArray) v) 81) (by repeat constructor)) rfl (by unfold zL; repeat constructor)) .head rfl ?_
  clear hS w; intro w hS
  refine d_retN hS Tryz.results45 .nil rfl ?_
  refine ⟨(), rfl, hS.chg, duo_ok (hS.ok _ (.head _)) (hS.ok _ (.tail _ (.head _))) (hS.sep .head (.head _)), fun c hc => ?_⟩
  rcases hc with hc | hc
  · exact .inl (.inl hc)
  · exact (hS.mine Y (.tail _ (.head _)) hmY c hc).symm
end Go.Proofs.YtjmkjkhcognoeaaGreatDoor

namespace Go.Proofs.YtjmkjkhcognoeaaGreatDoor
open Go.RowKit

set_option maxRecDepth 100000 in
theorem Do_M {b pl g : Nat} {caps : List Value} {X Y : Asn} {v : Int} (hg : Maker g caps X Y v) (cfg : CallsTo Tryz.prog g) (hmX : X.mine = true) (hmY : Y.mine = true) (w0 : World) (h : (duo (zA b 0 0 0 (.func (.func g) #[] caps.toArray) 0) X).ok w0) (hp : w0.cell? ⟨pl, 0, none⟩ = some (.pointer (some ⟨b, 0, none⟩)))
    (hd : pl ≠ b ∧ ¬ X.F pl) :
    MutC Tryz.prog 32 [.pointer (some ⟨b, 0, none⟩), .func (.func 33) #[] [.pointer (some ⟨pl, 0, none⟩)].toArray] w0 (duo (zA b 0 0 0 (.func (.func g) #[] caps.toArray) 0) X) (fun _ : Unit => .tuple [].toArray) (fun _ => duo (zA b 1 0 1 (.func (.func g) #[] caps.toArray) v) Y) := by
  refine c_enter [(0, .pointer (some ⟨b, 0, none⟩)), (1, .func (.func 33) #[] [.pointer (some ⟨pl, 0, none⟩)].toArray)] [duo (zA b 0 0 0 (.func (.func g) #[] caps.toArray) 0) X, ceA pl 0 (.pointer (some ⟨b, 0, none⟩))] (fun k => k = b ∨ X.F k) Tryz.func32 rfl Tryz.ntmps32 ⟨rfl, rfl, trivial⟩ rfl (okC h (okC (ce_ok hp) okN)) (disC (sepC (fun k hk hk2 => by have e : k = pl := hk2; rcases hk with hk | hk; exact hd.1 (Eq.trans (Eq.symm e) hk); exact hd.2 (e ▸ hk)) sepN) dis1) (mineO (fun k hk => hk) (mineC rfl mineN)) ?_
  intro a hS
  refine c_seq ?_
  refine c_region ?_
  refine L_op (s_e hS (e_move rfl) rfl ?_); clear hS a; intro a hS
  refine L_op (s_e hS (e_nilCheck rfl) rfl ?_); clear hS a; intro a hS
  first | (refine L_op (s_e hS (e_fa0 rfl ty_fo79_1) rfl ?_); clear hS a; intro a hS) | (refine L_op (s_e hS (e_faK rfl ty_fo79_1) rfl ?_); clear hS a; intro a hS)
  refine L_op (s_callP hS (.cons rfl .nil) cf31 rfl (aLoad_P b 0 0 _ (cell_of_blk (hS.get (X := duo (zA b 0 0 0 (.func (.func g) #[] caps.toArray) 0) X) (by repeat constructor)).1.now rfl)) ?_); clear hS a; (try clear w); intro a w hS
  refine L_op (s_e hS (e_not rfl) rfl ?_); clear hS a; intro a hS
  refine L_nil ?_
  refine n_then ?_
  replace hS := hS.is (t := 8) (c := true) rfl (rfl)
  refine c_if_t hS rfl ?_
  refine c_region ?_
  refine L_op (s_e hS (e_move rfl) rfl ?_); clear hS a; intro a hS
  refine L_op (s_e hS (e_move rfl) rfl ?_); clear hS a; intro a hS
  refine L_op (s_callM hS (.cons rfl (.cons rfl .nil)) cf45 rfl (slow_M hg cfg hmX hmY w (hS.ok (duo (zA b 0 0 0 (.func (.func g) #[] caps.toArray) 0) X) (.head _)) (hS.get (X := ceA pl 0 (.pointer (some ⟨b, 0, none⟩))) (by repeat constructor)) hd) (fun x => (by repeat constructor)) rfl ?_); clear hS a; (try clear w); intro x11 a w hS
  refine L_nil ?_
  refine r_norm ?_
  refine c_retN hS Tryz.results32 .nil rfl ?_
  refine ⟨(), rfl, hS.chg, hS.ok _ (.head _), fun c hc => ?_⟩
  rcases hc with hc | hc
  · exact .inl (.inl hc)
  · exact (hS.mine (duo (zA b 1 0 1 (.func (.func g) #[] caps.toArray) v) Y) (.head _) rfl c (.inr hc)).symm
set_option maxRecDepth 100000 in
theorem Get_M {b g : Nat} {caps : List Value} {X Y : Asn} {v : Int} (hg : Maker g caps X Y v) (cfg : CallsTo Tryz.prog g) (hmX : X.mine = true) (hmY : Y.mine = true) (w0 : World) (h : (duo (zA b 0 0 0 (.func (.func g) #[] caps.toArray) 0) X).ok w0) :
    MutC Tryz.prog 14 [.pointer (some ⟨b, 0, none⟩)] w0 (duo (zA b 0 0 0 (.func (.func g) #[] caps.toArray) 0) X) (fun _ : Unit => .int .i64 v) (fun _ => duo (zA b 1 0 1 (.func (.func g) #[] caps.toArray) v) Y) := by
  refine c_enter [(0, .pointer (some ⟨b, 0, none⟩))] [duo (zA b 0 0 0 (.func (.func g) #[] caps.toArray) 0) X] (fun k => k = b ∨ X.F k) Tryz.func14 rfl Tryz.ntmps14 ⟨rfl, trivial⟩ rfl (okC (h) okN) dis1 (mineO (fun _ hb => hb) mineN) ?_
  intro a hS
  refine c_seq ?_
  refine c_region ?_
  refine L_op (s_box1 hS rfl rfl rfl ?_); clear hS a; (try clear w); intro a w b1 hS
  refine L_op (s_e hS (e_assign rfl) rfl ?_); clear hS a; intro a hS
  refine L_nil ?_
  refine n_then ?_
  refine c_seq ?_
  refine c_region ?_
  refine L_op (s_e hS (e_load rfl (by repeat constructor) ty_sc37 (by rfl)) rfl ?_); clear hS a; intro a hS
  refine L_op (s_e hS (e_nilCheck rfl) rfl ?_); clear hS a; intro a hS
  first | (refine L_op (s_e hS (e_fa0 rfl ty_fo81_0) rfl ?_); clear hS a; intro a hS) | (refine L_op (s_e hS (e_faK rfl ty_fo81_0) rfl ?_); clear hS a; intro a hS)
  refine L_op (s_e hS (e_makeFunc .nil (.cons rfl .nil)) rfl ?_); clear hS a; intro a hS
  refine L_op (s_callM hS (.cons rfl (.cons rfl .nil)) cf32 rfl (Do_M hg cfg hmX hmY w (hS.ok (duo (zA b 0 0 0 (.func (.func g) #[] caps.toArray) 0) X) (by repeat constructor)) (cell_of_blk (hS.get (X := .blk b1 [.pointer (some ⟨b, 0, none⟩)] 37) (by repeat constructor)) rfl) ⟨fun e => hS.sep (X := .blk b1 [.pointer (some ⟨b, 0, none⟩)] 37) (Y := duo (zA b 0 0 0 (.func (.func g) #[] caps.toArray) 0) X) (by repeat (first | exact Rem.head | apply Rem.tail)) (by repeat constructor) b1 rfl (.inl e), fun e => hS.sep (X := .blk b1 [.pointer (some ⟨b, 0, none⟩)] 37) (Y := duo (zA b 0 0 0 (.func (.func g) #[] caps.toArray) 0) X) (by repeat (first | exact Rem.head | apply Rem.tail)) (by repeat constructor) b1 rfl (.inr e)⟩) (fun x => (by repeat constructor)) rfl ?_); clear hS a; (try clear w); intro x7 a w hS
  refine L_nil ?_
  refine n_then ?_
  refine c_seq ?_
  refine c_region ?_
  refine L_op (s_e hS (e_load rfl (by repeat constructor) ty_sc37 (by rfl)) rfl ?_); clear hS a; intro a hS
  refine L_op (s_e hS (e_nilCheck rfl) rfl ?_); clear hS a; intro a hS
  first | (refine L_op (s_e hS (e_fa0 rfl ty_fo81_3) rfl ?_); clear hS a; intro a hS) | (refine L_op (s_e hS (e_faK rfl ty_fo81_3) rfl ?_); clear hS a; intro a hS)
  refine L_op (s_e hS (e_loadC rfl ty_sc3 (fun w hh => cell_of_blk (cs := zL 1 0 1 (.func (.func g) #[] caps.toArray) v) (E := 81) (hh (duo (zA b 1 0 1 (.func (.func g) #[] caps.toArray) v) Y) (by repeat constructor)).1.now rfl)) rfl ?_); clear hS a; intro a hS
  refine L_op (s_e hS (e_assign rfl) rfl ?_); clear hS a; intro a hS
  refine L_nil ?_
  refine n_then ?_
  refine wp_ret ?_
  refine c_ret1 hS Tryz.results14 (.tmp rfl) ?_
  refine ⟨(), rfl, hS.chg, hS.ok (duo (zA b 1 0 1 (.func (.func g) #[] caps.toArray) v) Y) (by repeat constructor), fun c hc => ?_⟩
  rcases hc with hc | hc
  · exact .inl (.inl hc)
  · exact (hS.mine (duo (zA b 1 0 1 (.func (.func g) #[] caps.toArray) v) Y) (by repeat constructor) rfl c (.inr hc)).symm
end Go.Proofs.YtjmkjkhcognoeaaGreatDoor

namespace Go.Proofs.YtjmkjkhcognoeaaGreatDoor
open Go.RowKit

set_option maxRecDepth 100000 in
theorem Num_w (n : Int) (w0 : World) : PureC Tryz.prog 9 [.int .i64 n] w0 (.int .i64 n) := by
  refine c_enter [(0, .int .i64 n)] [] noB Tryz.func9 rfl Tryz.ntmps9 ⟨rfl, trivial⟩ rfl (by simp) (by simp) (by simp) ?_
  intro a hS
  refine c_seq ?_
  refine c_region ?_
  refine L_op (s_e hS (e_assign rfl) rfl ?_); clear hS a; intro a hS
  refine L_nil ?_
  refine n_then ?_
  refine c_seq ?_
  refine c_region ?_
  refine L_op (s_e hS (e_move rfl) rfl ?_); clear hS a; intro a hS
  refine L_op (s_e hS (e_assign rfl) rfl ?_); clear hS a; intro a hS
  refine L_nil ?_
  refine n_then ?_
  refine wp_ret ?_
  refine c_ret1 hS Tryz.results9 (.tmp rfl) ?_
  exact ⟨rfl, hS.chg⟩
set_option maxRecDepth 100000 in
theorem Split_one (g : Nat) (m : Int) (w0 : World) (h : ByAt (.slice (some ⟨g, 0, none⟩) 24 24) hreq w0) (hm : w0.cell? ⟨1, 0, none⟩ = some (.int .i64 m)) (hd : g ≠ 1) :
    NewC Tryz.prog 7 [.slice (some ⟨g, 0, none⟩) 24 24] w0 (fun x : Option Addr × Nat => .tuple [.slice x.1 1 x.2, .int .i64 0].toArray) (fun _ => none_) := by
  refine c_enter [(0, .slice (some ⟨g, 0, none⟩) 24 24)] [byA (.slice (some ⟨g, 0, none⟩) 24 24) hreq, ceA 1 0 (.int .i64 m)] noB Tryz.func7 rfl Tryz.ntmps7 ⟨rfl, trivial⟩ rfl (okC (by_ok h) (okC (ce_ok hm) okN)) (disC (sepC (fun b h1 h2 => hd ((byF_is h1).symm.trans h2)) sepN) dis1) (mineC (by rfl) (mineC (by rfl) mineN)) ?_
  intro a hS
  refine c_seq ?_
  refine c_region ?_
  refine L_op (s_e hS (e_assign rfl) rfl ?_); clear hS a; intro a hS
  refine L_op (s_e hS (e_assign rfl) rfl ?_); clear hS a; intro a hS
  refine L_nil ?_
  refine n_then ?_
  refine c_seq ?_
  refine c_region ?_
  refine L_op (s_e hS (e_assign rfl) rfl ?_); clear hS a; intro a hS
  refine L_nil ?_
  refine n_then ?_
  refine c_seq ?_
  refine wp_block ?_
  skip
  refine c_loop (γ := Nat) (fun k a w => ∃ out q n c cs, St 34 noB w0 a w [(4, out), (0, .slice q n c)] [ownA 35 4 out k cs, byA (.slice (some ⟨g, 0, none⟩) 24 24) hreq, ceA 1 0 (.int .i64 m)] ∧ ((k = 0 ∧ q = some ⟨g, 0, none⟩ ∧ n = 24 ∧ c = 24) ∨ (k = 1 ∧ n = 0))) (fun k => 2 - k) 0 ⟨_, _, _, _, _, (hS.own_nil 35 4).slots (by repeat (first | exact trivial | refine ⟨rfl, ?_⟩)), .inl ⟨rfl, rfl, rfl, rfl⟩⟩ ?_
  clear hS a; (try clear w); intro k a w hI
  obtain ⟨out, q, n, c, cs, hS, hk⟩ := hI
  refine c_seq ?_
  refine c_seq ?_
  refine c_region ?_
  refine L_op (s_e hS (e_move rfl) rfl ?_); clear hS a; intro a hS
  refine L_op (s_e hS (e_len rfl rfl ty_sl22) rfl ?_); clear hS a; intro a hS
  refine L_op (s_e hS (e_bin rfl rfl rfl) rfl ?_); clear hS a; intro a hS
  refine L_nil ?_
  refine n_then ?_
  first | refine c_ifD hS rfl (fun hc11 => ?_) (fun hc11 => ?_) | refine c_if hS rfl (fun hc11 => ?_) (fun hc11 => ?_)
  ·
    obtain ⟨rfl, rfl, rfl, rfl⟩ := hk.resolve_right (fun h => by omega)
    refine wp_skip ?_
    refine n_then ?_
    refine wp_block ?_
    refine c_seq ?_
    refine c_region ?_
    refine L_op (s_e hS (e_move rfl) rfl ?_); clear hS a; intro a hS
    refine L_op (s_callN hS (.cons rfl .nil) cf22 rfl (Parse_req g m _ (hS.get (X := byA (.slice (some ⟨g, 0, none⟩) 24 24) hreq) (by repeat constructor)) (hS.get (X := ceA 1 0 (.int .i64 m)) (by repeat constructor)) hd) ?_); clear hS a; (try clear w); intro x14 a w hS
    refine L_op (s_e hS (e_move rfl) rfl ?_); clear hS a; intro a hS
    refine L_op (s_e hS (e_extract rfl rfl) rfl ?_); clear hS a; intro a hS
    refine L_op (s_e hS (e_extract rfl rfl) rfl ?_); clear hS a; intro a hS
    refine L_op (s_e hS (e_extract rfl rfl) rfl ?_); clear hS a; intro a hS
    refine L_op (s_e hS (e_extract rfl rfl) rfl ?_); clear hS a; intro a hS
    refine L_op (s_alloc hS ty_z35 rfl ?_); clear hS a; (try clear w); intro a w b5 hS
    refine L_op (s_storeA hS rfl rfl ty_sz35 (by repeat constructor) (by rfl) (by rfl) (by rfl) ?_); clear hS; (try clear w); intro w hS
    refine L_op (s_e hS (e_assign rfl) rfl ?_); clear hS a; intro a hS
    refine L_op (s_e hS (e_assign rfl) rfl ?_); clear hS a; intro a hS
    refine L_op (s_e hS (e_assign rfl) rfl ?_); clear hS a; intro a hS
    refine L_nil ?_
    refine n_then ?_
    refine c_seq ?_
    refine wp_block ?_
    refine c_seq ?_
    refine c_region ?_
    refine L_op (s_e hS (e_move rfl) rfl ?_); clear hS a; intro a hS
    refine L_op (s_e hS (e_bin rfl rfl rfl) rfl ?_); clear hS a; intro a hS
    refine L_op (s_e hS (e_assign rfl) rfl ?_); clear hS a; intro a hS
    refine L_nil ?_
    refine n_then ?_
    replace hS := hS.is (t := 19) (c := false) rfl ((by decide))
    refine c_if_f hS rfl ?_
    refine c_seq ?_
    refine c_region ?_
    refine L_op (s_e hS (e_move rfl) rfl ?_); clear hS a; intro a hS
    refine L_op (s_e hS (e_not rfl) rfl ?_); clear hS a; intro a hS
    refine L_op (s_e hS (e_assign rfl) rfl ?_); clear hS a; intro a hS
    refine L_nil ?_
    refine n_then ?_
    replace hS := hS.is (t := 23) (c := false) rfl (rfl)
    refine c_if_f hS rfl ?_
    refine wp_skip ?_
    refine n_block ?_
    refine n_then ?_
    refine c_drawS [] (by kernel_rfl) hS (sub_cons (X := .blk b5 [.string sGet, .string sHealth, .slice x14.1 0 x14.2, .bool false] 35) (by repeat constructor) sub_nil) ?_; clear hS; (try clear w); intro w hS
    simp only [List.length_cons, List.length_nil, Nat.zero_add, Nat.reduceAdd, List.replicate]
    refine Z_take0 (i := 0) hS rfl want_none (e_move rfl) (listed' := [true, false, false, false, false, false, false, false, false]) rfl (by kernel_rfl) (by kernel_rfl) (by kernel_rfl) (fun _ _ _ h => h) rfl ?_; clear hS a; intro a hS
    refine Z_take (i := 1) hS rfl want_none (e_loadA rfl (by repeat constructor) ty_st35 ty_sz35 (by rfl)) (listed' := [true, true, false, false, false, false, false, false, false]) rfl (by kernel_rfl) (by kernel_rfl) (by kernel_rfl) (by kernel_rfl) (by kernel_rfl) (sub_cons (by repeat constructor) sub_nil) (fun _ _ _ h => h) rfl ?_; clear hS a; intro a hS
    refine Z_take0 (i := 4) hS rfl want_none (e_move rfl) (listed' := [true, true, false, false, true, false, false, false, false]) rfl (by kernel_rfl) (by kernel_rfl) (by kernel_rfl) (fun _ _ _ h => h) rfl ?_; clear hS a; intro a hS
    refine Z_take0 (i := 5) hS rfl want_none (e_move rfl) (listed' := [true, true, false, false, true, true, false, false, false]) rfl (by kernel_rfl) (by kernel_rfl) (by kernel_rfl) (fun _ _ _ h => h) rfl ?_; clear hS a; intro a hS
    refine Z_take0 (i := 6) hS rfl want_none (e_slT (j := 24) rfl rfl ty_sl22 ty_sz5 (by decide)) (listed' := [true, true, false, false, true, true, true, false, false]) rfl (by kernel_rfl) (by kernel_rfl) (by kernel_rfl) (fun _ _ _ h => h) rfl ?_; clear hS a; intro a hS
    refine Z_one (i := 2) rfl (want_none a hS.sl) (listed' := [true, true, true, false, true, true, true, false, false]) rfl (by kernel_rfl) (s_bslice hS ty_sl24 ty_sz35 ty_z35 rfl rfl rfl rfl (.agg rfl rfl .nil) rfl ?_); clear hS a; (try clear w); intro a w b28 hS
    refine Z_and hS (sub_cons (by repeat constructor) sub_nil) ?_
    refine Z_one (i := 3) rfl (want_none a hS.sl) (listed' := [true, true, true, true, true, true, true, false, false]) rfl (by kernel_rfl) (s_append1 hS rfl rfl ty_sl24 ty_sz35 ty_by35 ty_z35 rfl rfl rfl (by repeat constructor) (by repeat constructor) (by rfl) (by rfl) (fun _ => (by repeat constructor)) (by omega) ?_); clear hS a; (try clear w); intro v29 a w hv29 hS
    refine Z_and hS (sub_cons (by repeat constructor) sub_nil) ?_
    refine Z_take0 (i := 7) hS rfl want_none (e_assign rfl) (listed' := [true, true, true, true, true, true, true, true, false]) rfl (by kernel_rfl) (by kernel_rfl) (by kernel_rfl) (fun _ _ _ h => h) rfl ?_; clear hS a; intro a hS
    refine Z_take0 (i := 8) hS rfl want_none (e_assign rfl) (listed' := [true, true, true, true, true, true, true, true, true]) rfl (by kernel_rfl) (by kernel_rfl) (by kernel_rfl) (fun _ _ _ h => h) rfl ?_; clear hS a; intro a hS
    refine Z_done (by kernel_rfl) ?_
    refine n_block ?_
    exact ⟨1, by omega, v29, _, _, _, _, (hS.slots (by repeat (first | exact trivial | refine ⟨rfl, ?_⟩))).pick (Γ' := [ownA 35 4 v29 (0 + 1) (cs ++ ([.string sGet, .string sHealth, .slice x14.1 0 x14.2, .bool false] ++ [])), byA (.slice (some ⟨g, 0, none⟩) 24 24) hreq, ceA 1 0 (.int .i64 m)]) (by repeat (first | exact Pick.nil | (refine Pick.cons (by repeat (first | exact Rem.head | apply Rem.tail)) ?_))), .inr ⟨rfl, rfl⟩⟩
  ·
    obtain ⟨rfl, rfl⟩ := hk.resolve_left (fun h => by omega)
    obtain ⟨qo, co, rfl⟩ := own_slice (hS.get (X := ownA 35 4 out 1 cs) (by repeat constructor))
    refine wp_exit ?_
    refine x_then (x_then (x_hit ?_))
    refine n_then ?_
    refine c_seq ?_
    refine c_region ?_
    refine L_op (s_e hS (e_move rfl) rfl ?_); clear hS a; intro a hS
    refine L_op (s_e hS (e_assign rfl) rfl ?_); clear hS a; intro a hS
    refine L_op (s_e hS (e_assign rfl) rfl ?_); clear hS a; intro a hS
    refine L_nil ?_
    refine n_then ?_
    refine wp_ret ?_
    refine c_retN hS Tryz.results7 (.cons (.tmp rfl) (.cons (.tmp rfl) .nil)) rfl ?_
    exact ⟨(qo, co), rfl, hS.chg, none_ok _, fun b hb => hb.elim⟩

set_option maxRecDepth 100000 in
theorem plainlyF_P (w0 : World) : PureC Tryz.prog 21 [] w0 (.int .i64 5) := by
  refine c_enter [] [] noB Tryz.func21 rfl Tryz.ntmps21 trivial rfl (by simp) (by simp) (by simp) ?_
  intro a hS
  refine c_seq ?_
  refine c_region ?_
  refine L_op (s_e hS (e_assign rfl) rfl ?_); clear hS a; intro a hS
  refine L_nil ?_
  refine n_then ?_
  refine c_seq ?_
  refine c_region ?_
  refine L_op (s_e hS (e_assign rfl) rfl ?_); clear hS a; intro a hS
  refine L_nil ?_
  refine n_then ?_
  refine wp_ret ?_
  refine c_ret1 hS Tryz.results21 (.tmp rfl) ?_
  exact ⟨rfl, hS.chg⟩
theorem plain_maker : Maker 21 [] none_ none_ 5 := fun w _ => (plainlyF_P w).mono fun _ _ ⟨he, hc⟩ => ⟨(), he, hc.mono (fun _ h => h), none_ok _, fun _ hb => hb.elim⟩
theorem by_rk {b E c : Nat} {l : List Int} {w : World} (hne : l ≠ []) (hc : l.length ≤ c) (h : (rkA b (l.map (Value.int .u8)) E).φ w) : ByAt (.slice (some ⟨b, 0, none⟩) l.length c) l w := by
  obtain ⟨f, hf⟩ := h
  refine .inr ⟨b, 0, c, hne, rfl, hc, fun j x hj => ?_, (Array.getElem?_eq_some_iff.1 hf).1⟩
  unfold World.cell?
  rw [hf]
  simp [hj]
def sA : ByteArray := ⟨#[97]⟩
theorem nm_blk {b E c : Nat} {s : ByteArray} {w : World} (h : w.heap[b]? = some (.cells [Value.string s].toArray E (0, 0))) : NmAt (.slice (some ⟨b, 0, none⟩) 1 c) [s] w :=
  .inr ⟨b, 0, c, by simp, rfl, fun i x hx j u hj => by
    obtain _ | i := i
    · obtain rfl : encN s = x := by simpa using hx
      obtain _ | j := j
      · obtain rfl : Value.string s = u := by simpa [encN] using hj
        exact cell_of_blk h rfl
      · simp [encN] at hj
    · simp at hx, (Array.getElem?_eq_some_iff.1 h).1⟩
theorem nmF_is {g off m c k : Nat} {l : List ByteArray} (h : nmF (.slice (some ⟨g, off, none⟩) m c) l k) : k = g := by
  obtain ⟨_, o, m', c', e⟩ := h
  injection e with e1; injection e1 with e2; injection e2 with e3; exact e3.symm
set_option maxHeartbeats 1000000 in
set_option maxRecDepth 100000 in
theorem plainly_P (m : Int) (w0 : World) (hm : w0.cell? ⟨1, 0, none⟩ = some (.int .i64 m)) : PureC Tryz.prog 6 [] w0 (.bool true) := by
   refine c_enter [] [ceA 1 0 (.int .i64 m)] noB Tryz.func6 rfl Tryz.ntmps6 trivial rfl (okC (ce_ok hm) okN) dis1 (mineC (by rfl) mineN) ?_
   intro a hS
   refine c_seq ?_
   refine c_region ?_
   refine L_op (s_e hS (e_assign rfl) rfl ?_); clear hS a; intro a hS
   refine L_nil ?_
   refine n_then ?_
   refine c_seq ?_
   refine c_region ?_
   refine L_op (s_callN hS .nil cf15 rfl (NewLocks_P _) ?_); clear hS a; (try clear w); intro x7 a w hS
   refine L_op (s_e hS (e_assign rfl) rfl ?_); clear hS a; intro a hS
   refine L_nil ?_
   refine n_then ?_
   refine c_seq ?_
   refine c_region ?_
   refine L_op (s_callN hS (.cons rfl .nil) cf11 rfl (NewLazy_P (.func (.func 21) #[] #[]) rfl _) ?_); clear hS a; (try clear w); intro x8 a w hS
   refine L_op (s_e hS (e_assign rfl) rfl ?_); clear hS a; intro a hS
   refine L_nil ?_
   refine n_then ?_
   refine c_seq ?_
   refine c_region ?_
   refine L_op (s_bslice hS ty_sl22 ty_sz5 ty_z5 rfl rfl rfl rfl (.one rfl rfl rfl (.one rfl rfl rfl (.one rfl rfl rfl (.one rfl rfl rfl (.one rfl rfl rfl (.one rfl rfl rfl (.one rfl rfl rfl (.one rfl rfl rfl (.one rfl rfl rfl (.one rfl rfl rfl (.one rfl rfl rfl (.one rfl rfl rfl (.one rfl rfl rfl (.one rfl rfl rfl (.one rfl rfl rfl (.one rfl rfl rfl (.one rfl rfl rfl (.one rfl rfl rfl (.one rfl rfl rfl (.one rfl rfl rfl (.one rfl rfl rfl (.one rfl rfl rfl (.one rfl rfl rfl (.one rfl rfl rfl .nil)))))))))))))))))))))))) rfl ?_); clear hS a; (try clear w); intro a w b10 hS
   refine L_op (s_convConst hS rfl ty_sl22 ty_u5 rfl (by repeat constructor) ?_); clear hS a; (try clear w); intro a w hS
   refine L_op (s_callN hS (.cons rfl .nil) cf7 rfl (Split_one b10 m _ (by_rk (c := 24) (l := hreq) (by decide) (by decide) (hS.get (X := rkA b10 (hreq.map (Value.int .u8)) 5) (by repeat constructor))) (hS.get (X := ceA 1 0 (.int .i64 m)) (by repeat constructor)) (fun e => hS.sep (X := rkA b10 (hreq.map (Value.int .u8)) 5) (Y := ceA 1 0 (.int .i64 m)) (by repeat (first | exact Rem.head | apply Rem.tail)) (by repeat constructor) b10 rfl e)) ?_); clear hS a; (try clear w); intro x12 a w hS
   refine L_op (s_e hS (e_move rfl) rfl ?_); clear hS a; intro a hS
   refine L_op (s_e hS (e_extract rfl rfl) rfl ?_); clear hS a; intro a hS
   refine L_op (s_e hS (e_extract rfl rfl) rfl ?_); clear hS a; intro a hS
   refine L_op (s_e hS (e_assign rfl) rfl ?_); clear hS a; intro a hS
   refine L_op (s_e hS (e_assign rfl) rfl ?_); clear hS a; intro a hS
   refine L_nil ?_
   refine n_then ?_
   refine c_seq ?_
   refine c_seq ?_
   refine c_region ?_
   refine L_op (s_e hS (e_move rfl) rfl ?_); clear hS a; intro a hS
   refine L_op (s_e hS (e_nil rfl ty_u42) rfl ?_); clear hS a; intro a hS
   refine L_op (s_e hS (e_move rfl) rfl ?_); clear hS a; intro a hS
   replace hS := hS.is (t := 17) (c := false) rfl (rfl)
   refine L_go hS rfl rfl (s_e hS (e_move rfl) rfl ?_); clear hS a; intro a hS
   refine L_go hS rfl rfl (s_e hS (e_nil rfl ty_u37) rfl ?_); clear hS a; intro a hS
   first | (refine L_op (s_e hS (e_pick_t rfl rfl) rfl ?_); clear hS a; intro a hS) | (refine L_op (s_e hS (e_pick_f rfl rfl) rfl ?_); clear hS a; intro a hS)
   refine L_op (s_e hS (e_move rfl) rfl ?_); clear hS a; intro a hS
   replace hS := hS.is (t := 21) (c := false) rfl (rfl)
   refine L_go hS rfl rfl (s_e hS (e_move rfl) rfl ?_); clear hS a; intro a hS
   refine L_go hS rfl rfl (s_e hS (e_len rfl rfl ty_sl24) rfl ?_); clear hS a; intro a hS
   refine L_go hS rfl rfl (s_e hS (e_bin rfl rfl rfl) rfl ?_); clear hS a; intro a hS
   first | (refine L_op (s_e hS (e_pick_t rfl rfl) rfl ?_); clear hS a; intro a hS) | (refine L_op (s_e hS (e_pick_f rfl rfl) rfl ?_); clear hS a; intro a hS)
   refine L_op (s_e hS (e_move rfl) rfl ?_); clear hS a; intro a hS
   replace hS := hS.is (t := 26) (c := false) rfl ((by decide))
   refine L_go hS rfl rfl (s_e hS (e_move rfl) rfl ?_); clear hS a; intro a hS
   refine L_go hS rfl rfl (s_callP hS (.cons rfl .nil) cf9 rfl (Num_w 0 _) ?_); clear hS a; (try clear w); intro a w hS
   refine L_go hS rfl rfl (s_e hS (e_bin rfl rfl rfl) rfl ?_); clear hS a; intro a hS
   first | (refine L_op (s_e hS (e_pick_t rfl rfl) rfl ?_); clear hS a; intro a hS) | (refine L_op (s_e hS (e_pick_f rfl rfl) rfl ?_); clear hS a; intro a hS)
   refine L_nil ?_
   refine n_then ?_
   replace hS := hS.is (t := 30) (c := false) rfl ((by decide))
   refine c_if_f hS rfl ?_
   refine wp_skip ?_
   refine n_then ?_
   refine c_seq ?_
   refine c_region ?_
   refine L_op (s_e hS (e_move rfl) rfl ?_); clear hS a; intro a hS
   refine L_op (s_bslice hS ty_sl45 ty_sz9 ty_z9 rfl rfl rfl rfl (.one rfl rfl rfl .nil) rfl ?_); clear hS a; (try clear w); intro a w b32 hS
   refine L_op (s_callM hS (.cons rfl (.cons rfl (.cons rfl .nil))) cf18 rfl (Lock_M x7.1 (lk0 x7.2) (.slice (some ⟨b32, 0, none⟩) 1 1) [sA] false (by decide) (by show (0 : Int) ≤ 999999; decide) (fun e he => by cases he) _ (hS.get (X := lkA x7.1 (lk0 x7.2)) (by repeat constructor)) (nm_blk (hS.get (X := .blk b32 [.string sA] 9) (by repeat constructor))) (fun i h1 h2 => hS.sep (X := lkA x7.1 (lk0 x7.2)) (Y := .blk b32 [.string sA] 9) (by repeat (first | exact Rem.head | apply Rem.tail)) (by repeat constructor) i h1 (nmF_is h2))) (fun x => (by repeat constructor)) rfl ?_); clear hS a; (try clear w); intro x33 a w hS
   refine L_op (s_e hS (e_assign rfl) rfl ?_); clear hS a; intro a hS
   refine L_nil ?_
   refine n_then ?_
   refine c_seq ?_
   refine c_region ?_
   refine L_op (s_e hS (e_move rfl) rfl ?_); clear hS a; intro a hS
   refine L_op (s_bslice hS ty_sl45 ty_sz9 ty_z9 rfl rfl rfl rfl (.one rfl rfl rfl .nil) rfl ?_); clear hS a; (try clear w); intro a w b35 hS
   refine L_op (s_callM hS (.cons rfl (.cons rfl (.cons rfl .nil))) cf18 rfl (Lock_M x7.1 ((lk0 x7.2).add [sA] false x33) (.slice (some ⟨b35, 0, none⟩) 1 1) [sA] false (by decide) (by show (0 : Int) + 1 ≤ 999999; decide) (fun e he => by
 obtain rfl := List.mem_singleton.1 he; rintro ⟨h | h, _⟩ <;> cases h) _ (hS.get (X := lkA x7.1 ((lk0 x7.2).add [sA] false x33)) (by repeat constructor)) (nm_blk (hS.get (X := .blk b35 [.string sA] 9) (by repeat constructor))) (fun i h1 h2 => hS.sep (X := lkA x7.1 ((lk0 x7.2).add [sA] false x33)) (Y := .blk b35 [.string sA] 9) (by repeat (first | exact Rem.head | apply Rem.tail)) (by repeat constructor) i h1 (nmF_is h2))) (fun x => (by repeat constructor)) rfl ?_); clear hS a; (try clear w); intro x36 a w hS
   refine L_op (s_e hS (e_assign rfl) rfl ?_); clear hS a; intro a hS
   refine L_nil ?_
   refine n_then ?_
   refine c_seq ?_
   refine c_region ?_
   refine L_op (s_e hS (e_move rfl) rfl ?_); clear hS a; intro a hS
   refine L_op (s_e hS (e_bin rfl rfl rfl) rfl ?_); clear hS a; intro a hS
   refine L_op (s_e hS (e_move rfl) rfl ?_); clear hS a; intro a hS
   replace hS := hS.is (t := 39) (c := true) rfl (rfl)
   refine L_go hS rfl rfl (s_e hS (e_move rfl) rfl ?_); clear hS a; intro a hS
   refine L_go hS rfl rfl (s_e hS (e_bin rfl rfl rfl) rfl ?_); clear hS a; intro a hS
   first | (refine L_op (s_e hS (e_pick_t rfl rfl) rfl ?_); clear hS a; intro a hS) | (refine L_op (s_e hS (e_pick_f rfl rfl) rfl ?_); clear hS a; intro a hS)
   refine L_op (s_e hS (e_move rfl) rfl ?_); clear hS a; intro a hS
   replace hS := hS.is (t := 43) (c := true) rfl (rfl)
   refine L_go hS rfl rfl (s_e hS (e_move rfl) rfl ?_); clear hS a; intro a hS
   refine L_go hS rfl rfl (s_callM hS (.cons rfl .nil) cf19 rfl (Held_P x7.1 (((lk0 x7.2).add [sA] false x33).add [sA] false x36) _ (hS.get (X := lkA x7.1 (((lk0 x7.2).add [sA] false x33).add [sA] false x36)) (by repeat constructor))) (fun x => (by repeat constructor)) rfl ?_); clear hS a; (try clear w); intro x45 a w hS
   refine L_go hS rfl rfl (s_e hS (e_bin rfl rfl rfl) rfl ?_); clear hS a; intro a hS
   first | (refine L_op (s_e hS (e_pick_t rfl rfl) rfl ?_); clear hS a; intro a hS) | (refine L_op (s_e hS (e_pick_f rfl rfl) rfl ?_); clear hS a; intro a hS)
   refine L_op (s_e hS (e_move rfl) rfl ?_); clear hS a; intro a hS
   replace hS := hS.is (t := 48) (c := true) rfl (rfl)
   refine L_go hS rfl rfl (s_e hS (e_move rfl) rfl ?_); clear hS a; intro a hS
   replace hS := ((hS.more (Y := none_) (none_ok _) (fun b h => h)).pick (Γ' := [zA x8 0 0 0 (.func (.func 21) #[] ([] : List Value).toArray) 0, none_, lkA x7.1 (((lk0 x7.2).add [sA] false x33).add [sA] false x36)]) (by repeat (first | exact Pick.nil | (refine Pick.cons (by repeat (first | exact Rem.head | apply Rem.tail)) ?_)))).duo rfl rfl
   refine L_go hS rfl rfl (s_callM hS (.cons rfl .nil) cf14 rfl (Get_M plain_maker cf21 rfl rfl _ (hS.ok _ (.head _))) (fun x => (by repeat constructor)) rfl ?_); clear hS a; (try clear w); intro x50 a w hS
   replace hS := hS.unduo
   refine L_go hS rfl rfl (s_e hS (e_bin rfl rfl rfl) rfl ?_); clear hS a; intro a hS
   first | (refine L_op (s_e hS (e_pick_t rfl rfl) rfl ?_); clear hS a; intro a hS) | (refine L_op (s_e hS (e_pick_f rfl rfl) rfl ?_); clear hS a; intro a hS)
   refine L_op (s_e hS (e_move rfl) rfl ?_); clear hS a; intro a hS
   replace hS := hS.is (t := 53) (c := true) rfl ((by decide))
   refine L_go hS rfl rfl (s_e hS (e_move rfl) rfl ?_); clear hS a; intro a hS
   refine L_go hS rfl rfl (s_callP hS (.cons rfl .nil) cf13 rfl (Made_P x8 1 _ (cell_of_blk (hS.get (X := zA x8 1 0 1 (.func (.func 21) #[] ([] : List Value).toArray) 5) (by repeat constructor)) rfl)) ?_); clear hS a; (try clear w); intro a w hS
   first | (refine L_op (s_e hS (e_pick_t rfl rfl) rfl ?_); clear hS a; intro a hS) | (refine L_op (s_e hS (e_pick_f rfl rfl) rfl ?_); clear hS a; intro a hS)
   refine L_op (s_e hS (e_assign rfl) rfl ?_); clear hS a; intro a hS
   refine L_nil ?_
   refine n_then ?_
   refine wp_ret ?_
   refine c_ret1 hS Tryz.results6 (.tmp rfl) ?_
   exact ⟨rfl, hS.chg⟩
end Go.Proofs.YtjmkjkhcognoeaaGreatDoor

namespace Go.Proofs.YtjmkjkhcognoeaaGreatDoor
open Go.RowKit

theorem lenF_bd (l : List UInt8) : 0 ≤ (lenF l).1 ∧ (lenF l).1 ≤ 32768 := by
  unfold lenF
  split
  · split
    · simp only; omega
    · simp
  · simp
/-- what holds of a reader. -/
structure okD (D : RD) : Prop where
  cnt : ∀ k, 0 ≤ getI D.es k ∧ getI D.es k ≤ D.n
  bl : 0 ≤ D.bl ∧ D.bl ≤ 32768
theorem cnt_inc {es : Cnt} {n : Nat} (h : ∀ k, 0 ≤ getI es k ∧ getI es k ≤ n) (k0 k : ByteArray) : 0 ≤ getI (setI es k0 (getI es k0 + 1)) k ∧ getI (setI es k0 (getI es k0 + 1)) k ≤ ((n + 1 : Nat) : Int) := by
  rw [get_set]
  have h1 := h k0
  have h2 := h k
  split <;> omega
theorem cnt_more {es : Cnt} {n : Nat} (h : ∀ k, 0 ≤ getI es k ∧ getI es k ≤ n) (k : ByteArray) : 0 ≤ getI es k ∧ getI es k ≤ ((n + 1 : Nat) : Int) := by
  have := h k; omega
theorem ok_step {D : RD} (h : okD D) (s : ByteArray) : okD (stepP D s).1 ∧ (stepP D s).1.n = D.n + 1 := by
  obtain ⟨h1, h2⟩ := h
  unfold stepP
  split
  · rename_i h0; exact ⟨⟨fun k => (by have := h1 k; simp only; omega), h2⟩, by simp only; omega⟩
  split
  · exact ⟨⟨cnt_more h1, h2⟩, rfl⟩
  split
  · exact ⟨⟨cnt_more h1, h2⟩, rfl⟩
  split
  · exact ⟨⟨cnt_more h1, h2⟩, rfl⟩
  split
  · exact ⟨⟨cnt_inc h1 _, h2⟩, rfl⟩
  split
  · exact ⟨⟨cnt_inc h1 _, h2⟩, rfl⟩
  split
  · exact ⟨⟨cnt_inc h1 _, lenF_bd _⟩, rfl⟩
  · exact ⟨⟨cnt_inc h1 _, h2⟩, rfl⟩
inductive Out where
  | no (e : Int)
  | yes (m p : ByteArray) (cl : Bool) (body : List Int) (n : Nat)
def aftL (l : List Int) (p : Nat) : Nat := p + (lineF (l.drop p)).1.toNat + 2
def lineL (l : List Int) (p : Nat) : List Int := (l.take (p + (lineF (l.drop p)).1.toNat)).drop p
def lineS (l : List Int) (p : Nat) : ByteArray := strOfNums (lineL l p)
def bodyL (l : List Int) (p : Nat) (k : Int) : List Int := (l.take (p + k.toNat)).drop p
/-- the reading goes on. -/
def goP (l : List Int) (p : Nat) (D : RD) : Out :=
   if _h : 0 ≤ (lineF (l.drop p)).1 ∧ p < l.length then
     if (stepP D (lineS l p)).2 ≠ 0 then .no (stepP D (lineS l p)).2
     else if (stepP D (lineS l p)).1.over = true then
       if (l.length : Int) - (aftL l p : Int) < (stepP D (lineS l p)).1.bl then .no 0
       else .yes (stepP D (lineS l p)).1.m (stepP D (lineS l p)).1.p (stepP D (lineS l p)).1.cl (bodyL l (aftL l p) (stepP D (lineS l p)).1.bl) (aftL l p + (stepP D (lineS l p)).1.bl.toNat)
     else goP l (aftL l p) (stepP D (lineS l p)).1
   else .no (lineF (l.drop p)).2
 termination_by l.length - p
 decreasing_by unfold aftL; omega
theorem line_in {l : List Int} {p : Nat} (h : 0 ≤ (lineF (l.drop p)).1) : p < l.length ∧ aftL l p ≤ l.length := by
  have hb := line_bd (l.drop p)
  have hp : p < l.length := by
    rcases Nat.lt_or_ge p l.length with h1 | h1
    · exact h1
    · rw [List.drop_eq_nil_of_le h1, line_nil] at h; exact absurd h (by decide)
  rw [List.length_drop] at hb
  refine ⟨hp, ?_⟩
  unfold aftL; omega
theorem goP_end {l : List Int} {p : Nat} {D : RD} (h : (lineF (l.drop p)).1 < 0) : goP l p D = .no (lineF (l.drop p)).2 := by
  rw [goP, dif_neg (fun hh => by omega)]
theorem goP_err {l : List Int} {p : Nat} {D : RD} (h : 0 ≤ (lineF (l.drop p)).1) (h1 : (stepP D (lineS l p)).2 ≠ 0) : goP l p D = .no (stepP D (lineS l p)).2 := by
  rw [goP, dif_pos ⟨h, (line_in h).1⟩, if_pos h1]
theorem goP_few {l : List Int} {p : Nat} {D : RD} (h : 0 ≤ (lineF (l.drop p)).1) (h1 : (stepP D (lineS l p)).2 = 0) (h2 : (stepP D (lineS l p)).1.over = true) (h3 : (l.length : Int) - (aftL l p : Int) < (stepP D (lineS l p)).1.bl) : goP l p D = .no 0 := by
  rw [goP, dif_pos ⟨h, (line_in h).1⟩, if_neg (fun e => e h1), if_pos h2, if_pos h3]
theorem goP_yes {l : List Int} {p : Nat} {D : RD} (h : 0 ≤ (lineF (l.drop p)).1) (h1 : (stepP D (lineS l p)).2 = 0) (h2 : (stepP D (lineS l p)).1.over = true) (h3 : ¬ (l.length : Int) - (aftL l p : Int) < (stepP D (lineS l p)).1.bl) :
    goP l p D = .yes (stepP D (lineS l p)).1.m (stepP D (lineS l p)).1.p (stepP D (lineS l p)).1.cl (bodyL l (aftL l p) (stepP D (lineS l p)).1.bl) (aftL l p + (stepP D (lineS l p)).1.bl.toNat) := by
  rw [goP, dif_pos ⟨h, (line_in h).1⟩, if_neg (fun e => e h1), if_pos h2, if_neg h3]
theorem goP_go {l : List Int} {p : Nat} {D : RD} (h : 0 ≤ (lineF (l.drop p)).1) (h1 : (stepP D (lineS l p)).2 = 0) (h2 : (stepP D (lineS l p)).1.over = false) : goP l p D = goP l (aftL l p) (stepP D (lineS l p)).1 := by
  conv => lhs; rw [goP]
  rw [dif_pos ⟨h, (line_in h).1⟩, if_neg (fun e => e h1), if_neg (by rw [h2]; exact Bool.false_ne_true)]
def D0 : RD := ⟨⟨#[]⟩, ⟨#[]⟩, false, 0, 0, false, []⟩
theorem ok_D0 : okD D0 := ⟨fun k => ⟨Int.le_refl _, Int.le_refl _⟩, ⟨Int.le_refl _, by decide⟩⟩
/-- what a round of the range over the lines meets. -/
theorem round_cases {q : Option Addr} {c : Nat} {l : List Int} {pre rst : List (Int × Value)} {x : Int × Value} {p : Nat} (h1 : pre ++ itemsW q c l p = itemsW q c l 0) (h2 : pre ++ x :: rst = itemsW q c l 0) :
    (x.1 < 0 → (lineF (l.drop p)).1 < 0 ∧ x.1 = -(lineF (l.drop p)).2 ∧ 0 < (lineF (l.drop p)).2 ∧ (lineF (l.drop p)).2 ≤ 10) ∧
    (¬ x.1 < 0 → 0 ≤ (lineF (l.drop p)).1 ∧ x = ((aftL l p : Int), .slice (tailP q p c 1) (p + (lineF (l.drop p)).1.toNat - p) (c - p)) ∧ pre ++ [x] ++ itemsW q c l (aftL l p) = itemsW q c l 0) := by
  have h3 : itemsW q c l p = x :: rst := List.append_cancel_left (h1.trans h2.symm)
  have hb := line_bd (l.drop p)
  by_cases h : 0 ≤ (lineF (l.drop p)).1
  · rw [items_go h] at h3
    injection h3 with e1 e2
    refine ⟨fun hx => ?_, fun _ => ⟨h, ?_, ?_⟩⟩
    · rw [← e1] at hx; simp only at hx; omega
    · rw [← e1, Nat.add_sub_cancel_left]
      unfold aftL
      congr 1
      omega
    · rw [List.append_assoc, List.singleton_append, ← h2, ← e2]; rfl
  · rw [items_end (by omega)] at h3
    split at h3
    · rename_i h4
      injection h3 with e1 e2
      refine ⟨fun hx => ⟨by omega, by rw [← e1], by omega, hb.2.2⟩, fun hx => ?_⟩
      rw [← e1] at hx; simp only at hx; omega
    · cases h3
theorem round_end {q : Option Addr} {c : Nat} {l : List Int} {pre : List (Int × Value)} {p : Nat} {D : RD} (h1 : pre ++ itemsW q c l p = itemsW q c l 0) (h2 : pre = itemsW q c l 0) : goP l p D = .no 0 := by
  have h3 : itemsW q c l p = [] := by
    have := congrArg List.length h1
    rw [List.length_append, ← h2] at this
    exact List.eq_nil_of_length_eq_zero (by omega)
  have hb := line_bd (l.drop p)
  by_cases h : 0 ≤ (lineF (l.drop p)).1
  · rw [items_go h] at h3; cases h3
  · rw [items_end (by omega)] at h3
    split at h3
    · cases h3
    · rename_i h4
      rw [goP_end (by omega)]
      congr 1; omega
theorem lineS_size (l : List Int) (p : Nat) : (lineS l p).size ≤ l.length := by
  unfold lineS lineL
  have h1 := strOfNums_size ((l.take (p + (lineF (l.drop p)).1.toNat)).drop p)
  rw [h1, List.length_drop, List.length_take]; omega
/-! ### the answer in memory -/
def oR : Out → Value → List Value
  | .no _, _ => [.string ⟨#[]⟩, .string ⟨#[]⟩, .slice none 0 0, .bool false]
  | .yes m p cl _ _, v => [.string m, .string p, v, .bool cl]
def oN : Out → Int
  | .no _ => 0
  | .yes _ _ _ _ n => (n : Int)
def oI : Out → Bool
  | .no _ => false
  | .yes .. => true
def oE : Out → Int
  | .no e => e
  | .yes .. => 0
def oY : Out → Value → Asn
  | .no _, _ => none_
  | .yes _ _ _ body _, v => ownA 5 1 v body.length (body.map (Value.int .u8))
def oV (o : Out) (v : Value) : Value := .tuple [.agg (oR o v).toArray, .int .i64 (oN o), .bool (oI o), .int .i64 (oE o)].toArray
end Go.Proofs.YtjmkjkhcognoeaaGreatDoor

namespace Go.Proofs.YtjmkjkhcognoeaaGreatDoor
open Go.RowKit

theorem endN2 {P : Program} {w0 w : World} {a : Act} {L : List (Nat × Value)} {Γ : List Asn} {F0 : Nat → Prop} {fn : Func} {R : Ending → World → Prop} {D : Nat} {e : Exit} {rs : List ResultVar} {vs : List Value} {m : Nat} (hS : St ⟨m, [{ target := .collected D, args := #[] }]⟩ F0 w0 a (w.putObj D (.deferred none)) L Γ) (he : e = .ret ∨ e = .normal) (hD : w.heap[D]? = some (.deferred (some [])))
    (hr : fn.results = rs.toArray) (hv : ResL P L Γ rs vs) (hne : Nat.beq vs.length 1 = false) (h : R (.returned (.tuple vs.toArray)) (w.putObj D (.deferred none))) :
    bodyPostM Fence.wide 0 P fn R e a w := by
  refine endM he hS.sl.defers hD ?_ h
  have h1 := ResL.run hS hv
  have h2 : ¬ vs.toArray.size = 1 := by simpa using nbeq_ne hne
  show (results fn a.tmps).run P _ = _
  rw [results_rvS, hr, List.mapM_toArray, Sem.run_bind, Sem.run_map, h1]
  simp only [Result.andThen_ok, h2, dite_false]
  rfl
theorem by_read {q : Option Addr} {m c : Nat} {l : List Int} {w : World} (hm : ByAt (.slice q m c) l w) : (m = 0 ∧ l.map (Value.int .u8) = []) ∨ ∃ bx ox, q = some ⟨bx, ox, none⟩ ∧ ∀ j u, (l.map (Value.int .u8))[j]? = some u → w.cell? ⟨bx, ox + j, none⟩ = some u := by
  rcases hm with ⟨rfl, a, c', e⟩ | ⟨b, off, c', _, e, _, hr, _⟩
  · injection e with _ e2; exact .inl ⟨e2, rfl⟩
  · injection e with e1
    subst e1
    refine .inr ⟨b, off, rfl, fun j u hj => ?_⟩
    rw [List.getElem?_map, Option.map_eq_some_iff] at hj
    obtain ⟨x, hx, rfl⟩ := hj
    exact hr j x hx
theorem one_B (l : List Int) : ∀ u ∈ l.map (Value.int .u8), isOne u = true := fun u hu => by
  obtain ⟨x, _, rfl⟩ := List.mem_map.1 hu; rfl

/-- the blocks of a reading. -/
structure PK where
  b1 : Nat
  b2 : Nat
  b3 : Nat
  b4 : Nat
  b5 : Nat
  b6 : Nat
  b10 : Nat
  b12 : Nat
  x14 : Nat
structure pkN (K : PK) : Prop where
  n12_2 : K.b12 ≠ K.b2
  n12_3 : K.b12 ≠ K.b3
  n12_4 : K.b12 ≠ K.b4
  n12_5 : K.b12 ≠ K.b5
  n10_2 : K.b10 ≠ K.b2
  n10_3 : K.b10 ≠ K.b3
  n10_4 : K.b10 ≠ K.b4
  n10_5 : K.b10 ≠ K.b5
  n2_3 : K.b2 ≠ K.b3
  n2_4 : K.b2 ≠ K.b4
  n2_5 : K.b2 ≠ K.b5
  n3_4 : K.b3 ≠ K.b4
  n3_5 : K.b3 ≠ K.b5
  n4_5 : K.b4 ≠ K.b5
  n1_12 : K.b1 ≠ K.b12
  n6_12 : K.b6 ≠ K.b12
  nx_12 : K.x14 ≠ K.b12
  n1_10 : K.b1 ≠ K.b10
  n6_10 : K.b6 ≠ K.b10
  nx_10 : K.x14 ≠ K.b10
  n1_2 : K.b1 ≠ K.b2
  n6_2 : K.b6 ≠ K.b2
  nx_2 : K.x14 ≠ K.b2
  n1_3 : K.b1 ≠ K.b3
  n6_3 : K.b6 ≠ K.b3
  nx_3 : K.x14 ≠ K.b3
  n1_4 : K.b1 ≠ K.b4
  n6_4 : K.b6 ≠ K.b4
  nx_4 : K.x14 ≠ K.b4
  n1_5 : K.b1 ≠ K.b5
  n6_5 : K.b6 ≠ K.b5
  nx_5 : K.x14 ≠ K.b5
structure pkB (K : PK) (lo hi : Nat) : Prop where
  lb1 : K.b1 < hi
  mb1 : lo ≤ K.b1
  lb2 : K.b2 < hi
  mb2 : lo ≤ K.b2
  lb3 : K.b3 < hi
  mb3 : lo ≤ K.b3
  lb4 : K.b4 < hi
  mb4 : lo ≤ K.b4
  lb5 : K.b5 < hi
  mb5 : lo ≤ K.b5
  lb6 : K.b6 < hi
  mb6 : lo ≤ K.b6
  lb10 : K.b10 < hi
  mb10 : lo ≤ K.b10
  lb12 : K.b12 < hi
  mb12 : lo ≤ K.b12
  lx14 : K.x14 < hi
  mx14 : lo ≤ K.x14
structure resφ (K : PK) (o : Out) (x : Value) (W : World) : Prop where
  r2 : W.heap[K.b2]? = some (.cells (oR o x).toArray 35 (0, 0))
  r3 : W.heap[K.b3]? = some (.cells [Value.int .i64 (oN o)].toArray 3 (0, 0))
  r4 : W.heap[K.b4]? = some (.cells [Value.bool (oI o)].toArray 4 (0, 0))
  r5 : W.heap[K.b5]? = some (.cells [Value.int .i64 (oE o)].toArray 25 (0, 0))
theorem res_keep {K : PK} {o : Out} {x : Value} {W W' : World} {lo B : Nat} (hK : pkB K lo B) (h : resφ K o x W) (low : ∀ k, k < B → k < W.heap.size → W'.heap[k]? = W.heap[k]?) : resφ K o x W' :=
  ⟨(low _ hK.lb2 (Array.getElem?_eq_some_iff.1 h.r2).1).trans h.r2, (low _ hK.lb3 (Array.getElem?_eq_some_iff.1 h.r3).1).trans h.r3, (low _ hK.lb4 (Array.getElem?_eq_some_iff.1 h.r4).1).trans h.r4, (low _ hK.lb5 (Array.getElem?_eq_some_iff.1 h.r5).1).trans h.r5⟩
/-- what a reading only reads. -/
structure roQφ (W0 : World) (K : PK) (v : Value) (W : World) : Prop where
  old : oldφ W0 W
  h1 : W.heap[K.b1]? = some (.cells [v].toArray 22 (0, 0))
  h6 : W.heap[K.b6]? = some (.cells [Value.pointer (some ⟨K.b12, 0, none⟩)].toArray 93 (0, 0))
def roQF (W0 : World) (K : PK) (k : Nat) : Prop := k = K.b1 ∨ k = K.b6 ∨ k < W0.heap.size
def roQ (W0 : World) (K : PK) (v : Value) : Asn := .any (roQF W0 K) (roQφ W0 K v) false
theorem roQ_ok {W0 W : World} {K : PK} {v : Value} (h : roQφ W0 K v W) : (roQ W0 K v).ok W := by
  refine ⟨fun k hk => ?_, fun w' hw => ⟨(old_ok h.old).hold w' (fun k hk => hw k (.inr (.inr hk))), (hw _ (.inl rfl)).trans h.h1, (hw _ (.inr (.inl rfl))).trans h.h6⟩⟩
  rcases hk with rfl | rfl | hk
  · exact (Array.getElem?_eq_some_iff.1 h.h1).1
  · exact (Array.getElem?_eq_some_iff.1 h.h6).1
  · exact (old_ok h.old).lt k hk
def nilS : Value := .slice none 0 0
/-- what holds between two rounds. -/
structure pqI (W0 w0 : World) (K : PK) (q : Option Addr) (c : Nat) (l : List Int) (_hi : Nat) (pre : List (Int × Value)) (W : World) : Prop where
  chg : Chg noB w0 W
  k : linesK K.x14 (.slice q l.length c) l W
  ro : roQφ W0 K (.slice q l.length c) W
  z : resφ K (.no 0) nilS W
  rd : ∃ D p, (rdX K.b12 K.b10 D).ok W ∧ D.over = false ∧ pre ++ itemsW q c l p = itemsW q c l 0 ∧ goP l p D = goP l 0 D0 ∧ okD D ∧ D.n ≤ p ∧ p ≤ l.length
structure pqX (w0 : World) (K : PK) (l : List Int) (hi : Nat) (cd : Code) (_pre : List (Int × Value)) (W : World) : Prop where
  chg : Chg noB w0 W
  got : (cd = .ret ∧ ∃ x, resφ K (goP l 0 D0) x W ∧ (oY (goP l 0 D0) x).ok W ∧ ∀ b, (oY (goP l 0 D0) x).F b → hi ≤ b) ∨ (cd = .exit 0 ∧ goP l 0 D0 = .no 0 ∧ resφ K (.no 0) nilS W)
theorem pqI_ab {W0 w0 : World} {K : PK} {q : Option Addr} {c : Nat} {l : List Int} {B hi : Nat} (hv : ByAt (.slice q l.length c) l W0) (hB : w0.heap.size ≤ B) (hW : W0.heap.size ≤ w0.heap.size) (hK : pkB K w0.heap.size B) : AbR B hi (pqI W0 w0 K q c l hi) := fun _ W W' h e1 e2 e3 e4 e5 => by
  have low : ∀ k, k < B → k < W.heap.size → W'.heap[k]? = W.heap[k]? := fun k h1 h2 => e5 k h2 (.inl h1)
  have lowS : ∀ {k : Nat} {o : Obj}, k < B → W.heap[k]? = some o → W'.heap[k]? = some o := fun hk ho => (low _ hk (Array.getElem?_eq_some_iff.1 ho).1).trans ho
  have hold : oldφ W0 W' := ⟨Nat.le_trans h.ro.old.1 e4, fun k hk => (low k (by omega) (Nat.lt_of_lt_of_le hk h.ro.old.1)).trans (h.ro.old.2 k hk)⟩
  obtain ⟨D, p, h1, h2⟩ := h.rd
  refine ⟨chg_low h.chg hB e1 e2 e3 e4 e5, ⟨lowS hK.lx14 h.k.1, old_by hold hv⟩, ⟨hold, lowS hK.lb1 h.ro.h1, lowS hK.lb6 h.ro.h6⟩, res_keep hK h.z low, D, p, h1.agree (fun k hk => ?_), h2⟩
  rcases hk with hk | hk
  · obtain rfl : k = K.b12 := hk; exact low _ hK.lb12 (h1.lt _ (.inl rfl))
  · obtain rfl : k = K.b10 := hk; exact low _ hK.lb10 (h1.lt _ (.inr rfl))
theorem pqX_ab {w0 : World} {K : PK} {l : List Int} {B hi : Nat} {cd : Code} (hB : w0.heap.size ≤ B) (_hh : B ≤ hi) (hK : pkB K w0.heap.size B) : AbR B hi (pqX w0 K l hi cd) := fun _ W W' h e1 e2 e3 e4 e5 => by
  have low : ∀ k, k < B → k < W.heap.size → W'.heap[k]? = W.heap[k]? := fun k h1 h2 => e5 k h2 (.inl h1)
  refine ⟨chg_low h.chg hB e1 e2 e3 e4 e5, ?_⟩
  rcases h.got with ⟨hc, x, h1, h2, h3⟩ | ⟨hc, h1, h2⟩
  · exact .inl ⟨hc, x, res_keep hK h1 low, h2.agree (fun k hk => e5 k (h2.lt k hk) (.inr (h3 k hk))), h3⟩
  · exact .inr ⟨hc, h1, res_keep hK h2 low⟩
/-- the answer's four cells, as a state. -/
def resL (K : PK) (o : Out) (x : Value) : List Asn := [.blk K.b2 (oR o x) 35, .blk K.b3 [.int .i64 (oN o)] 3, .blk K.b4 [.bool (oI o)] 4, .blk K.b5 [.int .i64 (oE o)] 25]
theorem res_oks {K : PK} {o : Out} {x : Value} {W : World} (h : resφ K o x W) : ∀ X ∈ resL K o x, X.ok W := okC (ok_blk h.r2) (okC (ok_blk h.r3) (okC (ok_blk h.r4) (okC (ok_blk h.r5) okN)))
theorem res_dis {K : PK} (hN : pkN K) (o : Out) (x : Value) : (resL K o x).Pairwise (fun X Y => ∀ b, X.F b → ¬ Y.F b) :=
  disC (sepC (fun _ h1 h2 => hN.n2_3 (h1.symm.trans h2)) (sepC (fun _ h1 h2 => hN.n2_4 (h1.symm.trans h2)) (sepC (fun _ h1 h2 => hN.n2_5 (h1.symm.trans h2)) sepN)))
    (disC (sepC (fun _ h1 h2 => hN.n3_4 (h1.symm.trans h2)) (sepC (fun _ h1 h2 => hN.n3_5 (h1.symm.trans h2)) sepN)) (disC (sepC (fun _ h1 h2 => hN.n4_5 (h1.symm.trans h2)) sepN) dis1))
theorem res_F {K : PK} {o : Out} {x : Value} : ∀ X ∈ resL K o x, ∀ b, X.F b → b = K.b2 ∨ b = K.b3 ∨ b = K.b4 ∨ b = K.b5 := by
  intro X hX b hb
  rcases List.mem_cons.1 hX with rfl | hX
  · exact .inl hb
  rcases List.mem_cons.1 hX with rfl | hX
  · exact .inr (.inl hb)
  rcases List.mem_cons.1 hX with rfl | hX
  · exact .inr (.inr (.inl hb))
  obtain rfl := List.mem_singleton.1 hX
  exact .inr (.inr (.inr hb))
theorem res_get {K : PK} {o : Out} {x : Value} {n : NN} {F0 : Nat → Prop} {w0 w : World} {a : Act} {L : List (Nat × Value)} {Γ : List Asn} (hS : St n F0 w0 a w L Γ) (hp : Pick Γ (resL K o x)) : resφ K o x w := by
  have h := hS.pick hp
  exact ⟨h.get (X := .blk K.b2 (oR o x) 35) (.head _), h.get (X := .blk K.b3 [.int .i64 (oN o)] 3) (.tail _ (.head _)), h.get (X := .blk K.b4 [.bool (oI o)] 4) (.tail _ (.tail _ (.head _))), h.get (X := .blk K.b5 [.int .i64 (oE o)] 25) (.tail _ (.tail _ (.tail _ (.head _))))⟩
theorem own_lo {K : PK} {lo hi : Nat} (hK : pkB K lo hi) : ∀ k, (k = K.b12 ∨ k = K.b10 ∨ k = K.b2 ∨ k = K.b3 ∨ k = K.b4 ∨ k = K.b5) → lo ≤ k ∧ k < hi := by
  have h2 := hK.mb2; have h3 := hK.mb3; have h4 := hK.mb4; have h5 := hK.mb5; have h12 := hK.mb12; have h10 := hK.mb10
  have g2 := hK.lb2; have g3 := hK.lb3; have g4 := hK.lb4; have g5 := hK.lb5; have g12 := hK.lb12; have g10 := hK.lb10
  rintro k (h | h | h | h | h | h) <;> subst h <;> exact ⟨by assumption, by assumption⟩
theorem body_len {l : List Int} {p k : Nat} (h : p + k ≤ l.length) : (bodyL l p k).length = k := by
  unfold bodyL; rw [List.length_drop, List.length_take, Int.toNat_natCast]; omega

set_option maxHeartbeats 4000000 in
set_option maxRecDepth 100000 in
theorem Parse_P (W0 : World) (hG : Gl W0) (q : Option Addr) (c : Nat) (l : List Int) (hlen : l.length ≤ 1000000) (hv : ByAt (.slice q l.length c) l W0) (w0 : World) (ho : oldφ W0 w0) :
    NewC Tryz.prog 22 [.slice q l.length c] w0 (fun x : Value => oV (goP l 0 D0) x) (fun x => oY (goP l 0 D0) x) := by
  have hlc : l ≠ [] → l.length ≤ c := fun hne => by
    obtain ⟨b, off, c', e, h1, _⟩ := hv.some hne
    injection e with _ _ e3; omega
  have hW := ho.1
  refine callsM_enter [(0, .slice q l.length c)] [oldA W0] noB Tryz.func22 rfl Tryz.ntmps22 ⟨rfl, trivial⟩ rfl (okC (old_ok ho) okN) dis1 (mineC (by rfl) mineN) ?_
  intro a hS
  refine R_seq ?_
  refine R_region ?_
  refine R_op rfl (s_box1 hS rfl rfl rfl ?_); clear hS a; (try clear w); intro a w b1 hS
  refine R_op rfl (s_alloc hS ty_z35 rfl ?_); clear hS a; (try clear w); intro a w b2 hS
  refine R_op rfl (s_alloc hS ty_z3 rfl ?_); clear hS a; (try clear w); intro a w b3 hS
  refine R_op rfl (s_alloc hS ty_z4 rfl ?_); clear hS a; (try clear w); intro a w b4 hS
  refine R_op rfl (s_alloc hS ty_z25 rfl ?_); clear hS a; (try clear w); intro a w b5 hS
  refine R_nil ?_
  refine n_then ?_
  refine R_seq ?_
  refine R_region ?_
  refine R_op rfl (s_makeMapS hS rfl ?_); clear hS a; (try clear w); intro a w b10 hS
  refine R_op rfl (s_e hS (e_build ty_z96 ty_pl96 (.one rfl rfl rfl (by repeat constructor) .nil)) rfl ?_); clear hS a; intro a hS
  refine R_op rfl (s_boxA hS rfl rfl ?_); clear hS a; (try clear w); intro a w b12 hS
  refine R_op rfl (s_alloc hS ty_z93 rfl ?_); clear hS a; (try clear w); intro a w b6 hS
  refine R_op rfl (s_store hS rfl rfl rfl ty_sz93 (by repeat constructor) (by repeat constructor) ?_); clear hS; (try clear w); intro w hS
  refine R_nil ?_
  refine n_then ?_
  refine R_seq ?_
  refine R_seq ?_
  refine R_region ?_
  refine R_op rfl (s_e hS (e_load rfl (by repeat constructor) ty_sc22 (by rfl)) rfl ?_); clear hS a; intro a hS
  refine R_op rfl (s_callN hS (.cons rfl .nil) cf38 rfl (lines_P (.slice q l.length c) rfl _) ?_); clear hS a; (try clear w); intro x14 a w hS
  refine R_nil ?_
  refine n_then ?_
  refine R_block ?_
  obtain ⟨B, hB⟩ : ∃ B, w.heap.size = B := ⟨_, rfl⟩
  obtain ⟨K, hKe⟩ : ∃ K : PK, K = ⟨b1, b2, b3, b4, b5, b6, b10, b12, x14⟩ := ⟨_, rfl⟩
  have g12 := hS.get (X := .blk b12 (rdL b10 D0) 96) (by repeat constructor)
  have g10 := hS.get (X := smapA b10 (entV [])) (by repeat constructor)
  have g2 := hS.get (X := .blk b2 [.string ⟨#[]⟩, .string ⟨#[]⟩, .slice none 0 0, .bool false] 35) (by repeat constructor)
  have g3 := hS.get (X := .blk b3 [.int .i64 0] 3) (by repeat constructor)
  have g4 := hS.get (X := .blk b4 [.bool false] 4) (by repeat constructor)
  have g5 := hS.get (X := .blk b5 [.int .i64 0] 25) (by repeat constructor)
  have g1 := hS.get (X := .blk b1 [.slice q l.length c] 22) (by repeat constructor)
  have g6 := hS.get (X := .blk b6 [.pointer (some ⟨b12, 0, none⟩)] 93) (by repeat constructor)
  have gx := hS.get (X := .blk x14 [.slice q l.length c] 22) (by repeat constructor)
  have gold : oldφ W0 w := hS.get (X := oldA W0) (by repeat constructor)
  have hN : pkN ⟨b1, b2, b3, b4, b5, b6, b10, b12, x14⟩ := ⟨fun h => hS.sep (X := .blk b12 (rdL b10 D0) 96) (Y := .blk b2 [.string ⟨#[]⟩, .string ⟨#[]⟩, .slice none 0 0, .bool false] 35) (by repeat (first | exact Rem.head | apply Rem.tail)) (by repeat constructor) b12 rfl h, fun h => hS.sep (X := .blk b12 (rdL b10 D0) 96) (Y := .blk b3 [.int .i64 0] 3) (by repeat (first | exact Rem.head | apply Rem.tail)) (by repeat constructor) b12 rfl h, fun h => hS.sep (X := .blk b12 (rdL b10 D0) 96) (Y := .blk b4 [.bool false] 4) (by repeat (first | exact Rem.head | apply Rem.tail)) (by repeat constructor) b12 rfl h, fun h => hS.sep (X := .blk b12 (rdL b10 D0) 96) (Y := .blk b5 [.int .i64 0] 25) (by repeat (first | exact Rem.head | apply Rem.tail)) (by repeat constructor) b12 rfl h, fun h => hS.sep (X := smapA b10 (entV [])) (Y := .blk b2 [.string ⟨#[]⟩, .string ⟨#[]⟩, .slice none 0 0, .bool false] 35) (by repeat (first | exact Rem.head | apply Rem.tail)) (by repeat constructor) b10 rfl h, fun h => hS.sep (X := smapA b10 (entV [])) (Y := .blk b3 [.int .i64 0] 3) (by repeat (first | exact Rem.head | apply Rem.tail)) (by repeat constructor) b10 rfl h, fun h => hS.sep (X := smapA b10 (entV [])) (Y := .blk b4 [.bool false] 4) (by repeat (first | exact Rem.head | apply Rem.tail)) (by repeat constructor) b10 rfl h, fun h => hS.sep (X := smapA b10 (entV [])) (Y := .blk b5 [.int .i64 0] 25) (by repeat (first | exact Rem.head | apply Rem.tail)) (by repeat constructor) b10 rfl h, fun h => hS.sep (X := .blk b2 [.string ⟨#[]⟩, .string ⟨#[]⟩, .slice none 0 0, .bool false] 35) (Y := .blk b3 [.int .i64 0] 3) (by repeat (first | exact Rem.head | apply Rem.tail)) (by repeat constructor) b2 rfl h, fun h => hS.sep (X := .blk b2 [.string ⟨#[]⟩, .string ⟨#[]⟩, .slice none 0 0, .bool false] 35) (Y := .blk b4 [.bool false] 4) (by repeat (first | exact Rem.head | apply Rem.tail)) (by repeat constructor) b2 rfl h, fun h => hS.sep (X := .blk b2 [.string ⟨#[]⟩, .string ⟨#[]⟩, .slice none 0 0, .bool false] 35) (Y := .blk b5 [.int .i64 0] 25) (by repeat (first | exact Rem.head | apply Rem.tail)) (by repeat constructor) b2 rfl h, fun h => hS.sep (X := .blk b3 [.int .i64 0] 3) (Y := .blk b4 [.bool false] 4) (by repeat (first | exact Rem.head | apply Rem.tail)) (by repeat constructor) b3 rfl h, fun h => hS.sep (X := .blk b3 [.int .i64 0] 3) (Y := .blk b5 [.int .i64 0] 25) (by repeat (first | exact Rem.head | apply Rem.tail)) (by repeat constructor) b3 rfl h, fun h => hS.sep (X := .blk b4 [.bool false] 4) (Y := .blk b5 [.int .i64 0] 25) (by repeat (first | exact Rem.head | apply Rem.tail)) (by repeat constructor) b4 rfl h, fun h => hS.sep (X := .blk b1 [.slice q l.length c] 22) (Y := .blk b12 (rdL b10 D0) 96) (by repeat (first | exact Rem.head | apply Rem.tail)) (by repeat constructor) b1 rfl h, fun h => hS.sep (X := .blk b6 [.pointer (some ⟨b12, 0, none⟩)] 93) (Y := .blk b12 (rdL b10 D0) 96) (by repeat (first | exact Rem.head | apply Rem.tail)) (by repeat constructor) b6 rfl h, fun h => hS.sep (X := .blk x14 [.slice q l.length c] 22) (Y := .blk b12 (rdL b10 D0) 96) (by repeat (first | exact Rem.head | apply Rem.tail)) (by repeat constructor) x14 rfl h, fun h => hS.sep (X := .blk b1 [.slice q l.length c] 22) (Y := smapA b10 (entV [])) (by repeat (first | exact Rem.head | apply Rem.tail)) (by repeat constructor) b1 rfl h, fun h => hS.sep (X := .blk b6 [.pointer (some ⟨b12, 0, none⟩)] 93) (Y := smapA b10 (entV [])) (by repeat (first | exact Rem.head | apply Rem.tail)) (by repeat constructor) b6 rfl h, fun h => hS.sep (X := .blk x14 [.slice q l.length c] 22) (Y := smapA b10 (entV [])) (by repeat (first | exact Rem.head | apply Rem.tail)) (by repeat constructor) x14 rfl h, fun h => hS.sep (X := .blk b1 [.slice q l.length c] 22) (Y := .blk b2 [.string ⟨#[]⟩, .string ⟨#[]⟩, .slice none 0 0, .bool false] 35) (by repeat (first | exact Rem.head | apply Rem.tail)) (by repeat constructor) b1 rfl h, fun h => hS.sep (X := .blk b6 [.pointer (some ⟨b12, 0, none⟩)] 93) (Y := .blk b2 [.string ⟨#[]⟩, .string ⟨#[]⟩, .slice none 0 0, .bool false] 35) (by repeat (first | exact Rem.head | apply Rem.tail)) (by repeat constructor) b6 rfl h, fun h => hS.sep (X := .blk x14 [.slice q l.length c] 22) (Y := .blk b2 [.string ⟨#[]⟩, .string ⟨#[]⟩, .slice none 0 0, .bool false] 35) (by repeat (first | exact Rem.head | apply Rem.tail)) (by repeat constructor) x14 rfl h, fun h => hS.sep (X := .blk b1 [.slice q l.length c] 22) (Y := .blk b3 [.int .i64 0] 3) (by repeat (first | exact Rem.head | apply Rem.tail)) (by repeat constructor) b1 rfl h, fun h => hS.sep (X := .blk b6 [.pointer (some ⟨b12, 0, none⟩)] 93) (Y := .blk b3 [.int .i64 0] 3) (by repeat (first | exact Rem.head | apply Rem.tail)) (by repeat constructor) b6 rfl h, fun h => hS.sep (X := .blk x14 [.slice q l.length c] 22) (Y := .blk b3 [.int .i64 0] 3) (by repeat (first | exact Rem.head | apply Rem.tail)) (by repeat constructor) x14 rfl h, fun h => hS.sep (X := .blk b1 [.slice q l.length c] 22) (Y := .blk b4 [.bool false] 4) (by repeat (first | exact Rem.head | apply Rem.tail)) (by repeat constructor) b1 rfl h, fun h => hS.sep (X := .blk b6 [.pointer (some ⟨b12, 0, none⟩)] 93) (Y := .blk b4 [.bool false] 4) (by repeat (first | exact Rem.head | apply Rem.tail)) (by repeat constructor) b6 rfl h, fun h => hS.sep (X := .blk x14 [.slice q l.length c] 22) (Y := .blk b4 [.bool false] 4) (by repeat (first | exact Rem.head | apply Rem.tail)) (by repeat constructor) x14 rfl h, fun h => hS.sep (X := .blk b1 [.slice q l.length c] 22) (Y := .blk b5 [.int .i64 0] 25) (by repeat (first | exact Rem.head | apply Rem.tail)) (by repeat constructor) b1 rfl h, fun h => hS.sep (X := .blk b6 [.pointer (some ⟨b12, 0, none⟩)] 93) (Y := .blk b5 [.int .i64 0] 25) (by repeat (first | exact Rem.head | apply Rem.tail)) (by repeat constructor) b6 rfl h, fun h => hS.sep (X := .blk x14 [.slice q l.length c] 22) (Y := .blk b5 [.int .i64 0] 25) (by repeat (first | exact Rem.head | apply Rem.tail)) (by repeat constructor) x14 rfl h⟩
  have hK : pkB ⟨b1, b2, b3, b4, b5, b6, b10, b12, x14⟩ w0.heap.size B := ⟨by rw [← hB]; exact (Array.getElem?_eq_some_iff.1 g1).1, (hS.mine (.blk b1 [.slice q l.length c] 22) (by repeat constructor) rfl b1 rfl).resolve_right (fun h => h), by rw [← hB]; exact (Array.getElem?_eq_some_iff.1 g2).1, (hS.mine (.blk b2 [.string ⟨#[]⟩, .string ⟨#[]⟩, .slice none 0 0, .bool false] 35) (by repeat constructor) rfl b2 rfl).resolve_right (fun h => h), by rw [← hB]; exact (Array.getElem?_eq_some_iff.1 g3).1, (hS.mine (.blk b3 [.int .i64 0] 3) (by repeat constructor) rfl b3 rfl).resolve_right (fun h => h), by rw [← hB]; exact (Array.getElem?_eq_some_iff.1 g4).1, (hS.mine (.blk b4 [.bool false] 4) (by repeat constructor) rfl b4 rfl).resolve_right (fun h => h), by rw [← hB]; exact (Array.getElem?_eq_some_iff.1 g5).1, (hS.mine (.blk b5 [.int .i64 0] 25) (by repeat constructor) rfl b5 rfl).resolve_right (fun h => h), by rw [← hB]; exact (Array.getElem?_eq_some_iff.1 g6).1, (hS.mine (.blk b6 [.pointer (some ⟨b12, 0, none⟩)] 93) (by repeat constructor) rfl b6 rfl).resolve_right (fun h => h), by rw [← hB]; exact (Array.getElem?_eq_some_iff.1 g10).1, (hS.mine (smapA b10 (entV [])) (by repeat constructor) rfl b10 rfl).resolve_right (fun h => h), by rw [← hB]; exact (Array.getElem?_eq_some_iff.1 g12).1, (hS.mine (.blk b12 (rdL b10 D0) 96) (by repeat constructor) rfl b12 rfl).resolve_right (fun h => h), by rw [← hB]; exact (Array.getElem?_eq_some_iff.1 gx).1, (hS.mine (.blk x14 [.slice q l.length c] 22) (by repeat constructor) rfl x14 rfl).resolve_right (fun h => h)⟩
  have hrd : (rdX b12 b10 D0).ok w := rd_back (D := D0) (l := entV []) hS (by repeat (first | exact Pick.nil | (refine Pick.cons (by repeat (first | exact Rem.head | apply Rem.tail)) ?_))) rfl rfl
  have hB0 : w0.heap.size ≤ B := by rw [← hB]; exact hS.chg.size
  refine rangeFunc_E2 (α := Int × Value) hB (hS.sl.ev rfl) cf51 (lines_seq x14 q c l hlen hlc) (fun _ => rfl) (pqI W0 w0 ⟨b1, b2, b3, b4, b5, b6, b10, b12, x14⟩ q c l) (pqX w0 ⟨b1, b2, b3, b4, b5, b6, b10, b12, x14⟩ l) (fun hi hh => pqI_ab hv hB0 hW hK) (fun hi cd hh => pqX_ab hB0 (by omega) hK)
    (fun hi pre W h => h.k) (fun hi hh => ⟨hS.chg, ⟨gx, old_by gold hv⟩, ⟨gold, g1, g6⟩, ⟨g2, g3, g4, g5⟩, D0, 0, hrd, rfl, rfl, rfl, ok_D0, Nat.le_refl _, Nat.zero_le _⟩) ?_ ?_ ?_
  · intro hi l14 pre x W hh hhW hI hx
    obtain ⟨rst, hx⟩ := hx
    obtain ⟨D, p, hrd2, hov, hpre, hgo, hok, hDn, hpl⟩ := hI.rd
    obtain ⟨hcN, hcP⟩ := round_cases hpre hx
    have hR : St 74 noB W ((a.put (some 15) (.int .i64 x.1)).put (some 16) x.2) W [(16, x.2), (15, .int .i64 x.1), (1, .pointer (some ⟨b1, 0, none⟩)), (2, .pointer (some ⟨b2, 0, none⟩)), (3, .pointer (some ⟨b3, 0, none⟩)), (4, .pointer (some ⟨b4, 0, none⟩)), (5, .pointer (some ⟨b5, 0, none⟩)), (6, .pointer (some ⟨b6, 0, none⟩))] [] :=
      ⟨((hS.sl.put rfl _).put rfl _).sub (by repeat (first | exact trivial | refine ⟨rfl, ?_⟩)), Chg.refl _ _, okN, disN, mineN⟩
    have hact : ({ tmps := (#[15, 16].zip (encI x)).foldl (fun t (p, v) => t.setIfInBounds p v) a.tmps, defers := [] } : Act) = (a.put (some 15) (.int .i64 x.1)).put (some 16) x.2 := by
      have hdf : a.defers = [] := hS.sl.defers
      simp [Act.put, hdf, encI]
    rw [hact]
    clear hS hact g12 g10 g1 g2 g3 g4 g5 g6 gx gold hrd hB
    generalize (a.put (some 15) (.int .i64 x.1)).put (some 16) x.2 = a2 at hR ⊢
    clear a; rename Act => a
    clear w
    have hS := hR
    clear hR
    refine R_seq ?_
    refine R_region ?_
    refine R_op rfl (s_e hS (e_assign rfl) rfl ?_); clear hS a; intro a hS
    refine R_nil ?_
    refine n_then ?_
    refine R_region ?_
    refine R_op rfl (s_e hS (e_assign rfl) rfl ?_); clear hS a; intro a hS
    refine R_nil ?_
    refine n_then ?_
    have hCW := hS.chg
    have hC1 := hCW.size
    refine ⟨⟨hC1, fun k h1 h2 => hCW.block k (by omega) (fun h => h)⟩, fun W2 hT => ?_⟩
    have hT1 := hT.size
    have hlow : ∀ k, k < W.heap.size → (k < B ∨ hi ≤ k) → W2.heap[k]? = W.heap[k]? := fun k hk hk2 => (hT.same k (by omega)).trans (hCW.block k hk (fun h => h))
    have low : ∀ k, k < B → k < W.heap.size → W2.heap[k]? = W.heap[k]? := fun k h1 h2 => hlow k h2 (.inl h1)
    have lowS : ∀ {k : Nat} {o : Obj}, k < B → W.heap[k]? = some o → W2.heap[k]? = some o := fun hk ho => (low _ hk (Array.getElem?_eq_some_iff.1 ho).1).trans ho
    have hz2 := res_keep hK hI.z low
    have hold2 : oldφ W0 W2 := ⟨by have := hI.ro.old.1; omega, fun k hk => (low k (by omega) (Nat.lt_of_lt_of_le hk hI.ro.old.1)).trans (hI.ro.old.2 k hk)⟩
    have hro2 : roQφ W0 ⟨b1, b2, b3, b4, b5, b6, b10, b12, x14⟩ (.slice q l.length c) W2 := ⟨hold2, lowS hK.lb1 hI.ro.h1, lowS hK.lb6 hI.ro.h6⟩
    have hrd3 : (rdX b12 b10 D).ok W2 := hrd2.agree (fun k hk => by
      rcases hk with hk | hk
      · obtain rfl : k = b12 := hk; exact low _ hK.lb12 (hrd2.lt _ (.inl rfl))
      · obtain rfl : k = b10 := hk; exact low _ hK.lb10 (hrd2.lt _ (.inr rfl)))
    have hR : St 74 (fun k => k = b12 ∨ k = b10 ∨ k = b2 ∨ k = b3 ∨ k = b4 ∨ k = b5) W2 a W2 [(8, x.2), (7, .int .i64 x.1), (1, .pointer (some ⟨b1, 0, none⟩)), (2, .pointer (some ⟨b2, 0, none⟩)), (3, .pointer (some ⟨b3, 0, none⟩)), (4, .pointer (some ⟨b4, 0, none⟩)), (5, .pointer (some ⟨b5, 0, none⟩)), (6, .pointer (some ⟨b6, 0, none⟩))]
        [rdX b12 b10 D, .blk b2 [.string ⟨#[]⟩, .string ⟨#[]⟩, .slice none 0 0, .bool false] 35, .blk b3 [.int .i64 0] 3, .blk b4 [.bool false] 4, .blk b5 [.int .i64 0] 25, roQ W0 ⟨b1, b2, b3, b4, b5, b6, b10, b12, x14⟩ (.slice q l.length c)] :=
      ⟨hS.sl.sub (by repeat (first | exact trivial | refine ⟨rfl, ?_⟩)), Chg.refl _ _, okC hrd3 (okC (ok_blk hz2.r2) (okC (ok_blk hz2.r3) (okC (ok_blk hz2.r4) (okC (ok_blk hz2.r5) (okC (roQ_ok hro2) okN))))),
       (disC (sepC (fun b h1 h2 => h1.elim (fun h => hN.n12_2 (h.symm.trans h2)) (fun h => hN.n10_2 (h.symm.trans h2))) (sepC (fun b h1 h2 => h1.elim (fun h => hN.n12_3 (h.symm.trans h2)) (fun h => hN.n10_3 (h.symm.trans h2))) (sepC (fun b h1 h2 => h1.elim (fun h => hN.n12_4 (h.symm.trans h2)) (fun h => hN.n10_4 (h.symm.trans h2))) (sepC (fun b h1 h2 => h1.elim (fun h => hN.n12_5 (h.symm.trans h2)) (fun h => hN.n10_5 (h.symm.trans h2))) (sepC (fun b h1 h2 => h1.elim (fun h => h2.elim (fun h' => hN.n1_12 (h'.symm.trans h)) fun h2 => h2.elim (fun h' => hN.n6_12 (h'.symm.trans h)) fun h2 => by have e : b = b12 := h; have := hK.mb12; simp only at this; omega) (fun h => h2.elim (fun h' => hN.n1_10 (h'.symm.trans h)) fun h2 => h2.elim (fun h' => hN.n6_10 (h'.symm.trans h)) fun h2 => by have e : b = b10 := h; have := hK.mb10; simp only at this; omega)) sepN))))) (disC (sepC (fun b h1 h2 => hN.n2_3 (h1.symm.trans h2)) (sepC (fun b h1 h2 => hN.n2_4 (h1.symm.trans h2)) (sepC (fun b h1 h2 => hN.n2_5 (h1.symm.trans h2)) (sepC (fun b h1 h2 => h2.elim (fun h => hN.n1_2 (h.symm.trans h1)) fun h2 => h2.elim (fun h => hN.n6_2 (h.symm.trans h1)) fun h2 => by have e : b = b2 := h1; have := hK.mb2; simp only at this; omega) sepN)))) (disC (sepC (fun b h1 h2 => hN.n3_4 (h1.symm.trans h2)) (sepC (fun b h1 h2 => hN.n3_5 (h1.symm.trans h2)) (sepC (fun b h1 h2 => h2.elim (fun h => hN.n1_3 (h.symm.trans h1)) fun h2 => h2.elim (fun h => hN.n6_3 (h.symm.trans h1)) fun h2 => by have e : b = b3 := h1; have := hK.mb3; simp only at this; omega) sepN))) (disC (sepC (fun b h1 h2 => hN.n4_5 (h1.symm.trans h2)) (sepC (fun b h1 h2 => h2.elim (fun h => hN.n1_4 (h.symm.trans h1)) fun h2 => h2.elim (fun h => hN.n6_4 (h.symm.trans h1)) fun h2 => by have e : b = b4 := h1; have := hK.mb4; simp only at this; omega) sepN)) (disC (sepC (fun b h1 h2 => h2.elim (fun h => hN.n1_5 (h.symm.trans h1)) fun h2 => h2.elim (fun h => hN.n6_5 (h.symm.trans h1)) fun h2 => by have e : b = b5 := h1; have := hK.mb5; simp only at this; omega) sepN) dis1))))),
       mineO (fun b hb => hb.elim .inl (fun h => .inr (.inl h))) (mineO (fun b hb => .inr (.inr (.inl hb))) (mineO (fun b hb => .inr (.inr (.inr (.inl hb)))) (mineO (fun b hb => .inr (.inr (.inr (.inr (.inl hb))))) (mineO (fun b hb => .inr (.inr (.inr (.inr (.inr hb))))) (mineC rfl mineN)))))⟩
    clear hS
    have hS := hR
    clear hR hrd3 hro2 hz2
    refine R_block ?_
    refine R_seq ?_
    refine R_seq ?_
    refine R_region ?_
    refine R_op rfl (s_e hS (e_move rfl) rfl ?_); clear hS a; intro a hS
    refine R_op rfl (s_e hS (e_bin rfl rfl rfl) rfl ?_); clear hS a; intro a hS
    refine R_nil ?_
    refine n_then ?_
    first | refine R_ifD hS rfl (fun hc18 => ?_) (fun hc18 => ?_) | refine R_if hS rfl (fun hc18 => ?_) (fun hc18 => ?_)
    ·
      obtain ⟨n1, n2, n3, n4⟩ := hcN hc18
      have hgP := goP_end (D := D) n1
      refine R_seq ?_
      refine R_region ?_
      refine R_op rfl (s_e hS (e_build ty_z35 ty_pl35 .nil) rfl ?_); clear hS a; intro a hS
      refine R_op rfl (s_e hS (e_move rfl) rfl ?_); clear hS a; intro a hS
      refine R_op rfl (s_e hS (e_neg rfl) rfl ?_); clear hS a; intro a hS
      rw [show IntKind.i64.wrap (0 - x.1) = (lineF (l.drop p)).2 by rw [IntWalk.i64_in _ (by omega)]; omega] at hS
      refine R_op rfl (s_storeA hS rfl rfl ty_sz35 (by repeat constructor) (by rfl) (by rfl) (by rfl) ?_); clear hS; (try clear w); intro w hS
      refine R_op rfl (s_store hS rfl rfl rfl ty_sz3 (by repeat constructor) (by repeat constructor) ?_); clear hS; (try clear w); intro w hS
      refine R_op rfl (s_store hS rfl rfl rfl ty_sz4 (by repeat constructor) (by repeat constructor) ?_); clear hS; (try clear w); intro w hS
      refine R_op rfl (s_store hS rfl rfl rfl ty_sz25 (by repeat constructor) (by repeat constructor) ?_); clear hS; (try clear w); intro w hS
      refine R_nil ?_
      refine n_then ?_
      refine R_ret ?_
      refine r_then (r_block ?_)
      have hC3 := hS.chg
      have hfin : goP l 0 D0 = .no (lineF (l.drop p)).2 := hgo.symm.trans hgP
      exact ⟨⟨hC3.size, fun k h1 h2 => hC3.block k (by omega) (fun hk => by have := own_lo hK k hk; omega)⟩, chg_turn hI.chg hB0 hCW hT hC3 (fun k hk => (own_lo hK k hk).1), .inl ⟨rfl, nilS, by rw [hfin]; exact res_get hS (by repeat (first | exact Pick.nil | (refine Pick.cons (by repeat (first | exact Rem.head | apply Rem.tail)) ?_))), by rw [hfin]; exact none_ok _, by rw [hfin]; exact fun b hb => hb.elim⟩⟩
    ·
      obtain ⟨p1, p2, p3⟩ := hcP hc18
      obtain ⟨p4, p5⟩ := line_in p1
      have hls := lineS_size l p
      have hlc2 : l.length ≤ c := hlc (fun e => by rw [e] at p4; exact absurd p4 (Nat.not_lt_zero _))
      have hbd := line_bd (l.drop p)
      rw [List.length_drop] at hbd
      have hx1 : x.1 = ((aftL l p : Nat) : Int) := by rw [p2]
      have hx2 : x.2 = .slice (tailP q p c 1) (p + (lineF (l.drop p)).1.toNat - p) (c - p) := by rw [p2]
      rw [hx1, hx2] at hS
      obtain ⟨D2, e2, hst⟩ : ∃ D2 e2, stepP D (lineS l p) = (D2, e2) := ⟨_, _, rfl⟩
      have hos := ok_step hok (lineS l p)
      rw [hst] at hos
      simp only at hos
      refine R_skip ?_
      refine n_then ?_
      refine R_seq ?_
      refine R_seq ?_
      refine R_region ?_
      refine R_op rfl (s_e hS (e_loadC rfl ty_sc93 (fun w hh => cell_of_blk (cs := [.pointer (some ⟨b12, 0, none⟩)]) (hh (roQ W0 ⟨b1, b2, b3, b4, b5, b6, b10, b12, x14⟩ (.slice q l.length c)) (by repeat constructor)).h6 rfl)) rfl ?_); clear hS a; intro a hS
      refine R_op rfl (s_e hS (e_move rfl) rfl ?_); clear hS a; intro a hS
      refine R_op rfl (s_e hS (e_str (l := lineL l p) rfl ty_sl22 ty_u5 ty_u9 (fun w hh => (old_by (hh (roQ W0 ⟨b1, b2, b3, b4, b5, b6, b10, b12, x14⟩ (.slice q l.length c)) (by repeat constructor)).old hv).piece (j := p) (k := p + (lineF (l.drop p)).1.toNat) (by omega) (by omega))) rfl ?_); clear hS a; intro a hS
      refine R_op rfl (s_callM hS (.cons rfl (.cons rfl .nil)) cf39 rfl (RLine_M W0 hG b12 b10 D (lineS l p) (by omega) (by omega) (fun k => by have := hok.cnt k; omega) _ (hS.ok (rdX b12 b10 D) (by repeat constructor)) (hS.get (X := roQ W0 ⟨b1, b2, b3, b4, b5, b6, b10, b12, x14⟩ (.slice q l.length c)) (by repeat constructor)).old ⟨Nat.le_trans hW hK.mb12, Nat.le_trans hW hK.mb10⟩) (fun x => (by repeat constructor)) rfl ?_); clear hS a; (try clear w); intro x25 a w hS
      rw [hst] at hS
      refine R_op rfl (s_e hS (e_assign rfl) rfl ?_); clear hS a; intro a hS
      refine R_nil ?_
      refine n_then ?_
      refine R_seq ?_
      refine R_region ?_
      refine R_op rfl (s_e hS (e_move rfl) rfl ?_); clear hS a; intro a hS
      refine R_op rfl (s_e hS (e_bin rfl rfl rfl) rfl ?_); clear hS a; intro a hS
      refine R_nil ?_
      refine n_then ?_
      first | refine R_ifD hS rfl (fun hc27 => ?_) (fun hc27 => ?_) | refine R_if hS rfl (fun hc27 => ?_) (fun hc27 => ?_)
      ·
        refine R_seq ?_
        refine R_region ?_
        refine R_op rfl (s_e hS (e_build ty_z35 ty_pl35 .nil) rfl ?_); clear hS a; intro a hS
        refine R_op rfl (s_e hS (e_move rfl) rfl ?_); clear hS a; intro a hS
        refine R_op rfl (s_storeA hS rfl rfl ty_sz35 (by repeat constructor) (by rfl) (by rfl) (by rfl) ?_); clear hS; (try clear w); intro w hS
        refine R_op rfl (s_store hS rfl rfl rfl ty_sz3 (by repeat constructor) (by repeat constructor) ?_); clear hS; (try clear w); intro w hS
        refine R_op rfl (s_store hS rfl rfl rfl ty_sz4 (by repeat constructor) (by repeat constructor) ?_); clear hS; (try clear w); intro w hS
        refine R_op rfl (s_store hS rfl rfl rfl ty_sz25 (by repeat constructor) (by repeat constructor) ?_); clear hS; (try clear w); intro w hS
        refine R_nil ?_
        refine n_then ?_
        refine R_ret ?_
        refine r_then (r_block ?_)
        have hC3 := hS.chg
        have hfin : goP l 0 D0 = .no e2 := by rw [← hgo, goP_err p1 (by rw [hst]; exact hc27), hst]
        exact ⟨⟨hC3.size, fun k h1 h2 => hC3.block k (by omega) (fun hk => by have := own_lo hK k hk; omega)⟩, chg_turn hI.chg hB0 hCW hT hC3 (fun k hk => (own_lo hK k hk).1), .inl ⟨rfl, nilS, by rw [hfin]; exact res_get hS (by repeat (first | exact Pick.nil | (refine Pick.cons (by repeat (first | exact Rem.head | apply Rem.tail)) ?_))), by rw [hfin]; exact none_ok _, by rw [hfin]; exact fun b hb => hb.elim⟩⟩
      ·
        have he2 : (stepP D (lineS l p)).2 = 0 := by rw [hst]; exact Classical.not_not.1 hc27
        refine R_skip ?_
        refine n_then ?_
        refine R_seq ?_
        refine R_seq ?_
        refine R_region ?_
        refine R_op rfl (s_e hS (e_loadC rfl ty_sc93 (fun w hh => cell_of_blk (cs := [.pointer (some ⟨b12, 0, none⟩)]) (hh (roQ W0 ⟨b1, b2, b3, b4, b5, b6, b10, b12, x14⟩ (.slice q l.length c)) (by repeat constructor)).h6 rfl)) rfl ?_); clear hS a; intro a hS
        refine R_op rfl (s_e hS (e_nilCheck rfl) rfl ?_); clear hS a; intro a hS
        first | (refine R_op rfl (s_e hS (e_fa0 rfl ty_fo96_4) rfl ?_); clear hS a; intro a hS) | (refine R_op rfl (s_e hS (e_faK rfl ty_fo96_4) rfl ?_); clear hS a; intro a hS)
        refine R_op rfl (s_e hS (e_loadC rfl ty_sc4 (fun w hh => cell_of_blk (E := 96) (cs := rdL b10 D2) (v := .bool D2.over) (hh (rdX b12 b10 D2) (by repeat constructor)).1.now rfl)) rfl ?_); clear hS a; intro a hS
        refine R_op rfl (s_e hS (e_not rfl) rfl ?_); clear hS a; intro a hS
        refine R_nil ?_
        refine n_then ?_
        first | refine R_ifD hS rfl (fun hc34 => ?_) (fun hc34 => ?_) | refine R_if hS rfl (fun hc34 => ?_) (fun hc34 => ?_)
        ·
          have hov2 : D2.over = false := by simpa using hc34
          refine R_exit ?_
          refine x_then (x_hit ?_)
          have hC3 := hS.chg
          have hro := hS.get (X := roQ W0 ⟨b1, b2, b3, b4, b5, b6, b10, b12, x14⟩ (.slice q l.length c)) (by repeat constructor)
          have hx14 := (hC3.block x14 (by have := hK.lx14; simp only at this; omega) (fun hk => hk.elim hN.nx_12 fun hk => hk.elim hN.nx_10 fun hk => hk.elim hN.nx_2 fun hk => hk.elim hN.nx_3 fun hk => hk.elim hN.nx_4 hN.nx_5)).trans (lowS hK.lx14 hI.k.1)
          have hgP := goP_go p1 he2 (by rw [hst]; exact hov2)
          rw [hst] at hgP
          exact ⟨⟨hC3.size, fun k h1 h2 => hC3.block k (by omega) (fun hk => by have := own_lo hK k hk; omega)⟩, ⟨chg_turn hI.chg hB0 hCW hT hC3 (fun k hk => (own_lo hK k hk).1), ⟨hx14, old_by hro.old hv⟩, hro, res_get hS (by repeat (first | exact Pick.nil | (refine Pick.cons (by repeat (first | exact Rem.head | apply Rem.tail)) ?_))), D2, aftL l p, hS.ok (rdX b12 b10 D2) (by repeat constructor), hov2, p3, hgP.symm.trans hgo, hos.1, by rw [hos.2]; unfold aftL; omega, p5⟩⟩
        ·
          have hov2 : (stepP D (lineS l p)).1.over = true := by rw [hst]; simpa using hc34
          have hbl := hos.1.bl
          refine R_skip ?_
          refine n_then ?_
          refine R_seq ?_
          refine R_seq ?_
          refine R_draw1 (by kernel_rfl) (by rintro ⟨_, _, h⟩; exact h) [] (by kernel_rfl) hS ?_; clear hS; (try clear w); intro w hS
          simp only [List.length_cons, List.length_nil, Nat.zero_add, Nat.reduceAdd, List.replicate]
          refine Z_take (i := 0) hS rfl want_none (e_loadC rfl ty_sc22 (fun w hh => cell_of_blk (cs := [.slice q l.length c]) (hh (roQ W0 ⟨b1, b2, b3, b4, b5, b6, b10, b12, x14⟩ (.slice q l.length c)) (by repeat constructor)).h1 rfl)) (listed' := [true, false, false, false, false, false, false, false, false]) rfl (by kernel_rfl) (by kernel_rfl) (by kernel_rfl) (by kernel_rfl) (by kernel_rfl) (by intro X hX; repeat (first | exact hX | apply List.Mem.tail)) (fun _ _ _ h => h) rfl ?_; clear hS a; intro a hS
          refine Z_take0 (i := 1) hS rfl want_none (e_len rfl rfl ty_sl22) (listed' := [true, true, false, false, false, false, false, false, false]) rfl (by kernel_rfl) (by kernel_rfl) (by kernel_rfl) (fun _ _ _ h => h) rfl ?_; clear hS a; intro a hS
          refine Z_take0 (i := 2) hS rfl want_none (e_move rfl) (listed' := [true, true, true, false, false, false, false, false, false]) rfl (by kernel_rfl) (by kernel_rfl) (by kernel_rfl) (fun _ _ _ h => h) rfl ?_; clear hS a; intro a hS
          first | (refine Z_take0 (i := 3) hS rfl want_none (e_binN rfl rfl rfl (by omega)) (listed' := [true, true, true, true, false, false, false, false, false]) rfl (by kernel_rfl) (by kernel_rfl) (by kernel_rfl) (fun _ _ _ h => h) rfl ?_; clear hS a; intro a hS) | (refine Z_take0 (i := 3) hS rfl want_none (e_bin rfl rfl rfl) (listed' := [true, true, true, true, false, false, false, false, false]) rfl (by kernel_rfl) (by kernel_rfl) (by kernel_rfl) (fun _ _ _ h => h) rfl ?_; clear hS a; intro a hS)
          refine Z_take (i := 4) hS rfl want_none (e_loadC rfl ty_sc93 (fun w hh => cell_of_blk (cs := [.pointer (some ⟨b12, 0, none⟩)]) (hh (roQ W0 ⟨b1, b2, b3, b4, b5, b6, b10, b12, x14⟩ (.slice q l.length c)) (by repeat constructor)).h6 rfl)) (listed' := [true, true, true, true, true, false, false, false, false]) rfl (by kernel_rfl) (by kernel_rfl) (by kernel_rfl) (by kernel_rfl) (by kernel_rfl) (by intro X hX; repeat (first | exact hX | apply List.Mem.tail)) (fun _ _ _ h => h) rfl ?_; clear hS a; intro a hS
          refine Z_take0 (i := 5) hS rfl want_none (e_nilCheck rfl) (listed' := [true, true, true, true, true, true, false, false, false]) rfl (by kernel_rfl) (by kernel_rfl) (by kernel_rfl) (fun _ _ _ h => h) rfl ?_; clear hS a; intro a hS
          first | (refine Z_take0 (i := 6) hS rfl want_none (e_fa0 rfl ty_fo96_2) (listed' := [true, true, true, true, true, true, true, false, false]) rfl (by kernel_rfl) (by kernel_rfl) (by kernel_rfl) (fun _ _ _ h => h) rfl ?_; clear hS a; intro a hS) | (refine Z_take0 (i := 6) hS rfl want_none (e_faK rfl ty_fo96_2) (listed' := [true, true, true, true, true, true, true, false, false]) rfl (by kernel_rfl) (by kernel_rfl) (by kernel_rfl) (fun _ _ _ h => h) rfl ?_; clear hS a; intro a hS)
          refine Z_take (i := 7) hS rfl want_none (e_loadC rfl ty_sc3 (fun w hh => cell_of_blk (E := 96) (cs := rdL b10 D2) (v := .int .i64 D2.bl) (hh (rdX b12 b10 D2) (by repeat constructor)).1.now rfl)) (listed' := [true, true, true, true, true, true, true, true, false]) rfl (by kernel_rfl) (by kernel_rfl) (by kernel_rfl) (by kernel_rfl) (by kernel_rfl) (by intro X hX; repeat (first | exact hX | apply List.Mem.tail)) (fun _ _ _ h => h) rfl ?_; clear hS a; intro a hS
          refine Z_take0 (i := 8) hS rfl want_none (e_bin rfl rfl rfl) (listed' := [true, true, true, true, true, true, true, true, true]) rfl (by kernel_rfl) (by kernel_rfl) (by kernel_rfl) (fun _ _ _ h => h) rfl ?_; clear hS a; intro a hS
          refine Z_done (by kernel_rfl) ?_
          refine n_then ?_
          first | refine R_ifD hS rfl (fun hc43 => ?_) (fun hc43 => ?_) | refine R_if hS rfl (fun hc43 => ?_) (fun hc43 => ?_)
          ·
            refine R_exit ?_
            refine x_then (x_miss rfl ?_)
            have hC3 := hS.chg
            have hfin : goP l 0 D0 = .no 0 := hgo.symm.trans (goP_few p1 he2 hov2 (by rw [hst]; exact hc43))
            exact ⟨⟨hC3.size, fun k h1 h2 => hC3.block k (by omega) (fun hk => by have := own_lo hK k hk; omega)⟩, chg_turn hI.chg hB0 hCW hT hC3 (fun k hk => (own_lo hK k hk).1), .inr ⟨rfl, hfin, res_get hS (by repeat (first | exact Pick.nil | (refine Pick.cons (by repeat (first | exact Rem.head | apply Rem.tail)) ?_)))⟩⟩
          ·
            have hgP := goP_yes p1 he2 hov2 (by rw [hst]; exact hc43)
            rw [hst] at hgP
            obtain ⟨k0, hk0⟩ : ∃ k : Nat, D2.bl = (k : Int) := ⟨D2.bl.toNat, by omega⟩
            rw [hk0] at hc43 hgP hbl
            simp only [Int.toNat_natCast] at hgP
            have hkl : aftL l p + k0 ≤ l.length := by omega
            have hblen := body_len hkl
            refine R_skip ?_
            refine n_then ?_
            refine R_seq ?_
            unfold rdX at hS
            replace hS := hS.unduo
            unfold rdL rdC at hS
            rw [hk0] at hS
            refine R_drawS (by kernel_rfl) (by rintro ⟨_, _, h⟩; exact h) [19] (by kernel_rfl) hS (sub_cons (X := .blk b12 [.string D2.m, .string D2.p, .slice none 0 0, .bool D2.cl, .int .i64 (D2.n : Int), .int .i64 (k0 : Int), .map (some b10), .bool D2.over] 96) (by repeat constructor) (sub_cons (X := roQ W0 ⟨b1, b2, b3, b4, b5, b6, b10, b12, x14⟩ (.slice q l.length c)) (by repeat constructor) sub_nil)) ?_; clear hS; (try clear w); intro w hS
            simp only [List.length_cons, List.length_nil, Nat.zero_add, Nat.reduceAdd, List.replicate]
            refine Z_take (i := 0) hS rfl want_none (e_loadC rfl ty_sc93 (fun w hh => cell_of_blk (cs := [.pointer (some ⟨b12, 0, none⟩)]) (hh (roQ W0 ⟨b1, b2, b3, b4, b5, b6, b10, b12, x14⟩ (.slice q l.length c)) (by repeat constructor)).h6 rfl)) (listed' := [true, false, false, false, false, false, false, false, false, false, false, false, false, false, false, false, false, false, false, false]) rfl (by kernel_rfl) (by kernel_rfl) (by kernel_rfl) (by kernel_rfl) (by kernel_rfl) (sub_cons (by repeat constructor) (sub_cons (by repeat constructor) sub_nil)) (fun _ _ _ h => h) rfl ?_; clear hS a; intro a hS
            refine Z_take (i := 1) hS rfl want_none (e_loadC rfl ty_sc93 (fun w hh => cell_of_blk (cs := [.pointer (some ⟨b12, 0, none⟩)]) (hh (roQ W0 ⟨b1, b2, b3, b4, b5, b6, b10, b12, x14⟩ (.slice q l.length c)) (by repeat constructor)).h6 rfl)) (listed' := [true, true, false, false, false, false, false, false, false, false, false, false, false, false, false, false, false, false, false, false]) rfl (by kernel_rfl) (by kernel_rfl) (by kernel_rfl) (by kernel_rfl) (by kernel_rfl) (sub_cons (by repeat constructor) (sub_cons (by repeat constructor) sub_nil)) (fun _ _ _ h => h) rfl ?_; clear hS a; intro a hS
            refine Z_take0 (i := 2) hS rfl want_none (e_nilCheck rfl) (listed' := [true, true, true, false, false, false, false, false, false, false, false, false, false, false, false, false, false, false, false, false]) rfl (by kernel_rfl) (by kernel_rfl) (by kernel_rfl) (fun _ _ _ h => h) rfl ?_; clear hS a; intro a hS
            first | (refine Z_take0 (i := 3) hS rfl want_none (e_fa0 rfl ty_fo96_2) (listed' := [true, true, true, true, false, false, false, false, false, false, false, false, false, false, false, false, false, false, false, false]) rfl (by kernel_rfl) (by kernel_rfl) (by kernel_rfl) (fun _ _ _ h => h) rfl ?_; clear hS a; intro a hS) | (refine Z_take0 (i := 3) hS rfl want_none (e_faK rfl ty_fo96_2) (listed' := [true, true, true, true, false, false, false, false, false, false, false, false, false, false, false, false, false, false, false, false]) rfl (by kernel_rfl) (by kernel_rfl) (by kernel_rfl) (fun _ _ _ h => h) rfl ?_; clear hS a; intro a hS)
            refine Z_take (i := 4) hS rfl want_none (e_load rfl (by repeat constructor) ty_sc3 (by rfl)) (listed' := [true, true, true, true, true, false, false, false, false, false, false, false, false, false, false, false, false, false, false, false]) rfl (by kernel_rfl) (by kernel_rfl) (by kernel_rfl) (by kernel_rfl) (by kernel_rfl) (sub_cons (by repeat constructor) (sub_cons (by repeat constructor) sub_nil)) (fun _ _ _ h => h) rfl ?_; clear hS a; intro a hS
            refine Z_take (i := 6) hS rfl want_none (e_loadC rfl ty_sc22 (fun w hh => cell_of_blk (cs := [.slice q l.length c]) (hh (roQ W0 ⟨b1, b2, b3, b4, b5, b6, b10, b12, x14⟩ (.slice q l.length c)) (by repeat constructor)).h1 rfl)) (listed' := [true, true, true, true, true, false, true, false, false, false, false, false, false, false, false, false, false, false, false, false]) rfl (by kernel_rfl) (by kernel_rfl) (by kernel_rfl) (by kernel_rfl) (by kernel_rfl) (sub_cons (by repeat constructor) (sub_cons (by repeat constructor) sub_nil)) (fun _ _ _ h => h) rfl ?_; clear hS a; intro a hS
            refine Z_take0 (i := 7) hS rfl want_none (e_move rfl) (listed' := [true, true, true, true, true, false, true, true, false, false, false, false, false, false, false, false, false, false, false, false]) rfl (by kernel_rfl) (by kernel_rfl) (by kernel_rfl) (fun _ _ _ h => h) rfl ?_; clear hS a; intro a hS
            refine Z_take0 (i := 8) hS rfl want_none (e_move rfl) (listed' := [true, true, true, true, true, false, true, true, true, false, false, false, false, false, false, false, false, false, false, false]) rfl (by kernel_rfl) (by kernel_rfl) (by kernel_rfl) (fun _ _ _ h => h) rfl ?_; clear hS a; intro a hS
            refine Z_take (i := 9) hS rfl want_none (e_loadC rfl ty_sc93 (fun w hh => cell_of_blk (cs := [.pointer (some ⟨b12, 0, none⟩)]) (hh (roQ W0 ⟨b1, b2, b3, b4, b5, b6, b10, b12, x14⟩ (.slice q l.length c)) (by repeat constructor)).h6 rfl)) (listed' := [true, true, true, true, true, false, true, true, true, true, false, false, false, false, false, false, false, false, false, false]) rfl (by kernel_rfl) (by kernel_rfl) (by kernel_rfl) (by kernel_rfl) (by kernel_rfl) (sub_cons (by repeat constructor) (sub_cons (by repeat constructor) sub_nil)) (fun _ _ _ h => h) rfl ?_; clear hS a; intro a hS
            refine Z_take0 (i := 10) hS rfl want_none (e_nilCheck rfl) (listed' := [true, true, true, true, true, false, true, true, true, true, true, false, false, false, false, false, false, false, false, false]) rfl (by kernel_rfl) (by kernel_rfl) (by kernel_rfl) (fun _ _ _ h => h) rfl ?_; clear hS a; intro a hS
            first | (refine Z_take0 (i := 11) hS rfl want_none (e_fa0 rfl ty_fo96_2) (listed' := [true, true, true, true, true, false, true, true, true, true, true, true, false, false, false, false, false, false, false, false]) rfl (by kernel_rfl) (by kernel_rfl) (by kernel_rfl) (fun _ _ _ h => h) rfl ?_; clear hS a; intro a hS) | (refine Z_take0 (i := 11) hS rfl want_none (e_faK rfl ty_fo96_2) (listed' := [true, true, true, true, true, false, true, true, true, true, true, true, false, false, false, false, false, false, false, false]) rfl (by kernel_rfl) (by kernel_rfl) (by kernel_rfl) (fun _ _ _ h => h) rfl ?_; clear hS a; intro a hS)
            refine Z_take (i := 12) hS rfl want_none (e_load rfl (by repeat constructor) ty_sc3 (by rfl)) (listed' := [true, true, true, true, true, false, true, true, true, true, true, true, true, false, false, false, false, false, false, false]) rfl (by kernel_rfl) (by kernel_rfl) (by kernel_rfl) (by kernel_rfl) (by kernel_rfl) (sub_cons (by repeat constructor) (sub_cons (by repeat constructor) sub_nil)) (fun _ _ _ h => h) rfl ?_; clear hS a; intro a hS
            first | (refine Z_take0 (i := 13) hS rfl want_none (e_binN rfl rfl rfl (by omega)) (listed' := [true, true, true, true, true, false, true, true, true, true, true, true, true, true, false, false, false, false, false, false]) rfl (by kernel_rfl) (by kernel_rfl) (by kernel_rfl) (fun _ _ _ h => h) rfl ?_; clear hS a; intro a hS) | (refine Z_take0 (i := 13) hS rfl want_none (e_bin rfl rfl rfl) (listed' := [true, true, true, true, true, false, true, true, true, true, true, true, true, true, false, false, false, false, false, false]) rfl (by kernel_rfl) (by kernel_rfl) (by kernel_rfl) (fun _ _ _ h => h) rfl ?_; clear hS a; intro a hS)
            rw [show ((aftL l p : Nat) : Int) + (k0 : Int) = ((aftL l p + k0 : Nat) : Int) from rfl] at hS
            refine Z_take0 (i := 14) hS rfl want_none (e_slB (i := aftL l p) (j := aftL l p + k0) rfl rfl rfl ty_sl22 ty_sz5 ⟨Nat.le_add_right _ _, by omega⟩) (listed' := [true, true, true, true, true, false, true, true, true, true, true, true, true, true, true, false, false, false, false, false]) rfl (by kernel_rfl) (by kernel_rfl) (by kernel_rfl) (fun _ _ _ h => h) rfl ?_; clear hS a; intro a hS
            refine Z_one (i := 5) rfl (want_none a hS.sl) (listed' := [true, true, true, true, true, true, true, true, true, true, true, true, true, true, true, false, false, false, false, false]) rfl (by kernel_rfl) (s_make0 (c := k0) hS rfl rfl ty_sl22 ty_sz5 ty_by5 ty_z5 rfl (by omega) ?_); clear hS a; (try clear w); intro x49 a w hS
            refine Z_and hS (sub_cons (by repeat constructor) (sub_cons (by repeat constructor) sub_nil)) ?_
            refine Z_one (i := 15) rfl (want_none a hS.sl) (listed' := [true, true, true, true, true, true, true, true, true, true, true, true, true, true, true, true, false, false, false, false]) rfl (by kernel_rfl) (s_appendL hS rfl rfl ty_sl22 ty_sz5 ty_by5 ty_z5 rfl rfl rfl (by repeat constructor) (ys := (bodyL l (aftL l p) k0).map (Value.int .u8)) (by rw [List.length_map, hblen]; omega) (by_read ((old_by (hS.get (X := roQ W0 ⟨b1, b2, b3, b4, b5, b6, b10, b12, x14⟩ (.slice q l.length c)) (by repeat constructor)).old hv).piece (j := aftL l p) (k := aftL l p + k0) (by omega) hkl)) (one_B _) (by omega) (fun _ => (by repeat constructor)) ?_); clear hS a; (try clear w); intro v59 a w hv59 hS
            rw [show 0 + (aftL l p + k0 - aftL l p) = k0 by omega, List.nil_append] at hS
            obtain ⟨q59, c59, rfl⟩ := own_slice (hS.get (X := ownA 5 1 v59 k0 ((bodyL l (aftL l p) k0).map (Value.int .u8))) (by repeat constructor))
            refine Z_and hS (sub_cons (by repeat constructor) (sub_cons (by repeat constructor) sub_nil)) ?_
            refine Z_take0 (i := 16) hS rfl want_none (e_nilCheck rfl) (listed' := [true, true, true, true, true, true, true, true, true, true, true, true, true, true, true, true, true, false, false, false]) rfl (by kernel_rfl) (by kernel_rfl) (by kernel_rfl) (fun _ _ _ h => h) rfl ?_; clear hS a; intro a hS
            first | (refine Z_take0 (i := 17) hS rfl want_none (e_fa0 rfl ty_fo96_0) (listed' := [true, true, true, true, true, true, true, true, true, true, true, true, true, true, true, true, true, true, false, false]) rfl (by kernel_rfl) (by kernel_rfl) (by kernel_rfl) (fun _ _ _ h => h) rfl ?_; clear hS a; intro a hS) | (refine Z_take0 (i := 17) hS rfl want_none (e_faK rfl ty_fo96_0) (listed' := [true, true, true, true, true, true, true, true, true, true, true, true, true, true, true, true, true, true, false, false]) rfl (by kernel_rfl) (by kernel_rfl) (by kernel_rfl) (fun _ _ _ h => h) rfl ?_; clear hS a; intro a hS)
            first | (refine Z_take0 (i := 18) hS rfl want_none (e_fa0 rfl ty_fo35_2) (listed' := [true, true, true, true, true, true, true, true, true, true, true, true, true, true, true, true, true, true, true, false]) rfl (by kernel_rfl) (by kernel_rfl) (by kernel_rfl) (fun _ _ _ h => h) rfl ?_; clear hS a; intro a hS) | (refine Z_take0 (i := 18) hS rfl want_none (e_faK rfl ty_fo35_2) (listed' := [true, true, true, true, true, true, true, true, true, true, true, true, true, true, true, true, true, true, true, false]) rfl (by kernel_rfl) (by kernel_rfl) (by kernel_rfl) (fun _ _ _ h => h) rfl ?_; clear hS a; intro a hS)
            refine Z_one (i := 19) rfl (want_none a hS.sl) (listed' := [true, true, true, true, true, true, true, true, true, true, true, true, true, true, true, true, true, true, true, true]) rfl (by kernel_rfl) (s_store hS rfl rfl rfl ty_sz22 (by repeat constructor) (by repeat constructor) ?_); clear hS; (try clear w); intro w hS
            refine Z_last (by simp) ?_
            refine Z_done (by kernel_rfl) ?_
            refine n_then ?_
            refine R_seq ?_
            refine R_drawS (by kernel_rfl) (by rintro ⟨_, _, h⟩; exact h) [] (by kernel_rfl) hS (sub_cons (X := .blk b12 [.string D2.m, .string D2.p, .slice q59 k0 c59, .bool D2.cl, .int .i64 (D2.n : Int), .int .i64 (k0 : Int), .map (some b10), .bool D2.over] 96) (by repeat constructor) (sub_cons (X := roQ W0 ⟨b1, b2, b3, b4, b5, b6, b10, b12, x14⟩ (.slice q l.length c)) (by repeat constructor) sub_nil)) ?_; clear hS; (try clear w); intro w hS
            simp only [List.length_cons, List.length_nil, Nat.zero_add, Nat.reduceAdd, List.replicate]
            refine Z_take (i := 0) hS rfl want_none (e_loadC rfl ty_sc93 (fun w hh => cell_of_blk (cs := [.pointer (some ⟨b12, 0, none⟩)]) (hh (roQ W0 ⟨b1, b2, b3, b4, b5, b6, b10, b12, x14⟩ (.slice q l.length c)) (by repeat constructor)).h6 rfl)) (listed' := [true, false, false, false, false, false, false, false, false, false, false, false, false, false]) rfl (by kernel_rfl) (by kernel_rfl) (by kernel_rfl) (by kernel_rfl) (by kernel_rfl) (sub_cons (by repeat constructor) (sub_cons (by repeat constructor) sub_nil)) (fun _ _ _ h => h) rfl ?_; clear hS a; intro a hS
            refine Z_take0 (i := 1) hS rfl want_none (e_nilCheck rfl) (listed' := [true, true, false, false, false, false, false, false, false, false, false, false, false, false]) rfl (by kernel_rfl) (by kernel_rfl) (by kernel_rfl) (fun _ _ _ h => h) rfl ?_; clear hS a; intro a hS
            first | (refine Z_take0 (i := 2) hS rfl want_none (e_fa0 rfl ty_fo96_0) (listed' := [true, true, true, false, false, false, false, false, false, false, false, false, false, false]) rfl (by kernel_rfl) (by kernel_rfl) (by kernel_rfl) (fun _ _ _ h => h) rfl ?_; clear hS a; intro a hS) | (refine Z_take0 (i := 2) hS rfl want_none (e_faK rfl ty_fo96_0) (listed' := [true, true, true, false, false, false, false, false, false, false, false, false, false, false]) rfl (by kernel_rfl) (by kernel_rfl) (by kernel_rfl) (fun _ _ _ h => h) rfl ?_; clear hS a; intro a hS)
            refine Z_take (i := 3) hS rfl want_none (e_loadSub (b := b12) (cs := [.string D2.m, .string D2.p, .slice q59 k0 c59, .bool D2.cl, .int .i64 (D2.n : Int), .int .i64 (k0 : Int), .map (some b10), .bool D2.over]) (l := [.string D2.m, .string D2.p, .slice q59 k0 c59, .bool D2.cl]) rfl (by repeat constructor) ty_st35 ty_sz35 rfl) (listed' := [true, true, true, true, false, false, false, false, false, false, false, false, false, false]) rfl (by kernel_rfl) (by kernel_rfl) (by kernel_rfl) (by kernel_rfl) (by kernel_rfl) (sub_cons (by repeat constructor) (sub_cons (by repeat constructor) sub_nil)) (fun _ _ _ h => h) rfl ?_; clear hS a; intro a hS
            refine Z_take0 (i := 4) hS rfl want_none (e_move rfl) (listed' := [true, true, true, true, true, false, false, false, false, false, false, false, false, false]) rfl (by kernel_rfl) (by kernel_rfl) (by kernel_rfl) (fun _ _ _ h => h) rfl ?_; clear hS a; intro a hS
            refine Z_take (i := 5) hS rfl want_none (e_loadC rfl ty_sc93 (fun w hh => cell_of_blk (cs := [.pointer (some ⟨b12, 0, none⟩)]) (hh (roQ W0 ⟨b1, b2, b3, b4, b5, b6, b10, b12, x14⟩ (.slice q l.length c)) (by repeat constructor)).h6 rfl)) (listed' := [true, true, true, true, true, true, false, false, false, false, false, false, false, false]) rfl (by kernel_rfl) (by kernel_rfl) (by kernel_rfl) (by kernel_rfl) (by kernel_rfl) (sub_cons (by repeat constructor) (sub_cons (by repeat constructor) sub_nil)) (fun _ _ _ h => h) rfl ?_; clear hS a; intro a hS
            refine Z_take0 (i := 6) hS rfl want_none (e_nilCheck rfl) (listed' := [true, true, true, true, true, true, true, false, false, false, false, false, false, false]) rfl (by kernel_rfl) (by kernel_rfl) (by kernel_rfl) (fun _ _ _ h => h) rfl ?_; clear hS a; intro a hS
            first | (refine Z_take0 (i := 7) hS rfl want_none (e_fa0 rfl ty_fo96_2) (listed' := [true, true, true, true, true, true, true, true, false, false, false, false, false, false]) rfl (by kernel_rfl) (by kernel_rfl) (by kernel_rfl) (fun _ _ _ h => h) rfl ?_; clear hS a; intro a hS) | (refine Z_take0 (i := 7) hS rfl want_none (e_faK rfl ty_fo96_2) (listed' := [true, true, true, true, true, true, true, true, false, false, false, false, false, false]) rfl (by kernel_rfl) (by kernel_rfl) (by kernel_rfl) (fun _ _ _ h => h) rfl ?_; clear hS a; intro a hS)
            refine Z_take (i := 8) hS rfl want_none (e_load rfl (by repeat constructor) ty_sc3 (by rfl)) (listed' := [true, true, true, true, true, true, true, true, true, false, false, false, false, false]) rfl (by kernel_rfl) (by kernel_rfl) (by kernel_rfl) (by kernel_rfl) (by kernel_rfl) (sub_cons (by repeat constructor) (sub_cons (by repeat constructor) sub_nil)) (fun _ _ _ h => h) rfl ?_; clear hS a; intro a hS
            first | (refine Z_take0 (i := 9) hS rfl want_none (e_binN rfl rfl rfl (by omega)) (listed' := [true, true, true, true, true, true, true, true, true, true, false, false, false, false]) rfl (by kernel_rfl) (by kernel_rfl) (by kernel_rfl) (fun _ _ _ h => h) rfl ?_; clear hS a; intro a hS) | (refine Z_take0 (i := 9) hS rfl want_none (e_bin rfl rfl rfl) (listed' := [true, true, true, true, true, true, true, true, true, true, false, false, false, false]) rfl (by kernel_rfl) (by kernel_rfl) (by kernel_rfl) (fun _ _ _ h => h) rfl ?_; clear hS a; intro a hS)
            rw [show ((aftL l p : Nat) : Int) + (k0 : Int) = ((aftL l p + k0 : Nat) : Int) from rfl] at hS
            refine Z_one (i := 10) rfl (want_none a hS.sl) (listed' := [true, true, true, true, true, true, true, true, true, true, true, false, false, false]) rfl (by kernel_rfl) (s_storeA hS rfl rfl ty_sz35 (by repeat constructor) (by rfl) (by rfl) (by rfl) ?_); clear hS; (try clear w); intro w hS
            refine Z_and hS (sub_cons (by repeat constructor) (sub_cons (by repeat constructor) sub_nil)) ?_
            refine Z_one (i := 11) rfl (want_none a hS.sl) (listed' := [true, true, true, true, true, true, true, true, true, true, true, true, false, false]) rfl (by kernel_rfl) (s_store hS rfl rfl rfl ty_sz3 (by repeat constructor) (by repeat constructor) ?_); clear hS; (try clear w); intro w hS
            refine Z_and hS (sub_cons (by repeat constructor) (sub_cons (by repeat constructor) sub_nil)) ?_
            refine Z_one (i := 12) rfl (want_none a hS.sl) (listed' := [true, true, true, true, true, true, true, true, true, true, true, true, true, false]) rfl (by kernel_rfl) (s_store hS rfl rfl rfl ty_sz4 (by repeat constructor) (by repeat constructor) ?_); clear hS; (try clear w); intro w hS
            refine Z_and hS (sub_cons (by repeat constructor) (sub_cons (by repeat constructor) sub_nil)) ?_
            refine Z_one (i := 13) rfl (want_none a hS.sl) (listed' := [true, true, true, true, true, true, true, true, true, true, true, true, true, true]) rfl (by kernel_rfl) (s_store hS rfl rfl rfl ty_sz25 (by repeat constructor) (by repeat constructor) ?_); clear hS; (try clear w); intro w hS
            refine Z_and hS (sub_cons (by repeat constructor) (sub_cons (by repeat constructor) sub_nil)) ?_
            refine Z_done (by kernel_rfl) ?_
            refine n_then ?_
            refine R_ret ?_
            refine r_block ?_
            have hC3 := hS.chg
            have hfin : goP l 0 D0 = .yes D2.m D2.p D2.cl (bodyL l (aftL l p) k0) (aftL l p + k0) := hgo.symm.trans hgP
            exact ⟨⟨hC3.size, fun k h1 h2 => hC3.block k (by omega) (fun hk => by have := own_lo hK k hk; omega)⟩, chg_turn hI.chg hB0 hCW hT hC3 (fun k hk => (own_lo hK k hk).1), .inl ⟨rfl, .slice q59 k0 c59, by rw [hfin]; exact res_get hS (by repeat (first | exact Pick.nil | (refine Pick.cons (by repeat (first | exact Rem.head | apply Rem.tail)) ?_))), by
              rw [hfin]; show (ownA _ _ _ (bodyL l (aftL l p) k0).length _).ok _; rw [hblen]; exact hS.ok (ownA 5 1 (.slice q59 k0 c59) k0 ((bodyL l (aftL l p) k0).map (Value.int .u8))) (by repeat constructor), by
              rw [hfin]; intro b hb
              have h1 := (hS.mine (ownA 5 1 (.slice q59 k0 c59) k0 ((bodyL l (aftL l p) k0).map (Value.int .u8))) (by repeat constructor) rfl b hb)
              rcases h1 with h | h | h | h | h | h | h
              · omega
              · exact (hS.sep (X := ownA 5 1 (.slice q59 k0 c59) k0 ((bodyL l (aftL l p) k0).map (Value.int .u8))) (Y := .blk b12 [.string D2.m, .string D2.p, .slice q59 k0 c59, .bool D2.cl, .int .i64 (D2.n : Int), .int .i64 (k0 : Int), .map (some b10), .bool D2.over] 96) (by repeat (first | exact Rem.head | apply Rem.tail)) (by repeat constructor) b hb h).elim
              · exact (hS.sep (X := ownA 5 1 (.slice q59 k0 c59) k0 ((bodyL l (aftL l p) k0).map (Value.int .u8))) (Y := smapA b10 (entV D2.es)) (by repeat (first | exact Rem.head | apply Rem.tail)) (by repeat constructor) b hb h).elim
              · exact (hS.sep (X := ownA 5 1 (.slice q59 k0 c59) k0 ((bodyL l (aftL l p) k0).map (Value.int .u8))) (Y := .blk b2 [.string D2.m, .string D2.p, .slice q59 k0 c59, .bool D2.cl] 35) (by repeat (first | exact Rem.head | apply Rem.tail)) (by repeat constructor) b hb h).elim
              · exact (hS.sep (X := ownA 5 1 (.slice q59 k0 c59) k0 ((bodyL l (aftL l p) k0).map (Value.int .u8))) (Y := .blk b3 [.int .i64 ((aftL l p + k0 : Nat) : Int)] 3) (by repeat (first | exact Rem.head | apply Rem.tail)) (by repeat constructor) b hb h).elim
              · exact (hS.sep (X := ownA 5 1 (.slice q59 k0 c59) k0 ((bodyL l (aftL l p) k0).map (Value.int .u8))) (Y := .blk b4 [.bool true] 4) (by repeat (first | exact Rem.head | apply Rem.tail)) (by repeat constructor) b hb h).elim
              · exact (hS.sep (X := ownA 5 1 (.slice q59 k0 c59) k0 ((bodyL l (aftL l p) k0).map (Value.int .u8))) (Y := .blk b5 [.int .i64 0] 25) (by repeat (first | exact Rem.head | apply Rem.tail)) (by repeat constructor) b hb h).elim⟩⟩
  · intro hi D xs W hh hBD hDh hxs hI hDc
    have hfin : goP l 0 D0 = .no 0 := by
      obtain ⟨D1, p, _, _, hpre, hgo, _⟩ := hI.rd
      rw [← hgo]; exact round_end hpre hxs
    have hz := hI.z
    have hd : St ⟨74, [{ target := .collected D, args := #[] }]⟩ (fun k => k = b2 ∨ k = b3 ∨ k = b4 ∨ k = b5) W { a with defers := { target := .collected D, args := #[] } :: a.defers } W [(2, .pointer (some ⟨b2, 0, none⟩)), (3, .pointer (some ⟨b3, 0, none⟩)), (4, .pointer (some ⟨b4, 0, none⟩)), (5, .pointer (some ⟨b5, 0, none⟩))] (resL ⟨b1, b2, b3, b4, b5, b6, b10, b12, x14⟩ (.no 0) nilS) :=
      St.moreD (n := 74) ⟨hS.sl.sub (by repeat (first | exact trivial | refine ⟨rfl, ?_⟩)), Chg.refl _ _, res_oks hz, res_dis hN _ _, fun X hX _ b hb => .inr (res_F X hX b hb)⟩ _
    clear hS
    refine n_block ?_
    refine n_then ?_
    refine R_seq ?_
    refine R_region ?_
    refine R_op rfl (s_e hd (e_build ty_z35 ty_pl35 .nil) rfl ?_); clear hd; intro a2 hd
    refine R_op rfl (s_storeA hd rfl rfl ty_sz35 (by repeat constructor) rfl rfl rfl ?_); clear hd; intro w1 hd
    refine R_op rfl (s_store hd rfl rfl rfl ty_sz3 (by repeat constructor) (by repeat constructor) ?_); clear hd; intro w1 hd
    refine R_op rfl (s_store hd rfl rfl rfl ty_sz4 (by repeat constructor) (by repeat constructor) ?_); clear hd; intro w1 hd
    refine R_op rfl (s_store hd rfl rfl rfl ty_sz25 (by repeat constructor) (by repeat constructor) ?_); clear hd; intro w4 hd
    refine R_nil ?_
    refine n_then ?_
    refine R_ret ?_
    have hD2 := (hd.chg.block D (Array.getElem?_eq_some_iff.1 hDc).1 (fun hk => by have := own_lo hK D (hk.elim (fun h => .inr (.inr (.inl h))) fun hk => hk.elim (fun h => .inr (.inr (.inr (.inl h)))) fun hk => hk.elim (fun h => .inr (.inr (.inr (.inr (.inl h))))) fun h => .inr (.inr (.inr (.inr (.inr h))))); omega)).trans hDc
    have hd2 : St ⟨74, [{ target := .collected D, args := #[] }]⟩ noB w0 a2 w4 [(2, .pointer (some ⟨b2, 0, none⟩)), (3, .pointer (some ⟨b3, 0, none⟩)), (4, .pointer (some ⟨b4, 0, none⟩)), (5, .pointer (some ⟨b5, 0, none⟩))] (resL ⟨b1, b2, b3, b4, b5, b6, b10, b12, x14⟩ (.no 0) nilS) :=
      ⟨hd.sl.sub (by repeat (first | exact trivial | refine ⟨rfl, ?_⟩)), hI.chg.trans hd.chg (fun i hF hlt => by have := own_lo hK i (hF.elim (fun h => .inr (.inr (.inl h))) fun hk => hk.elim (fun h => .inr (.inr (.inr (.inl h)))) fun hk => hk.elim (fun h => .inr (.inr (.inr (.inr (.inl h))))) fun h => .inr (.inr (.inr (.inr (.inr h))))); omega), hd.ok, hd.dis, fun X hX _ b hb => .inl (own_lo hK b (.inr (.inr (res_F X hX b hb)))).1⟩
    have hd3 := hd2.putD (D := D) (o := .deferred none) (by omega) (fun X hX b hb e => by have := own_lo hK b (.inr (.inr (res_F X hX b hb))); omega)
    exact endN2 hd3 (.inl rfl) hD2 Tryz.results22 (.cons (.cellA rfl (.head _) ty_st35 ty_sz35 rfl) (.cons (.cell rfl (.tail _ (.head _)) ty_sc3 rfl) (.cons (.cell rfl (.tail _ (.tail _ (.head _))) ty_sc4 rfl) (.cons (.cell rfl (.tail _ (.tail _ (.tail _ (.head _)))) ty_sc25 rfl) .nil)))) rfl ⟨nilS, by rw [hfin]; rfl, hd3.chg, by rw [hfin]; exact none_ok _, by rw [hfin]; exact fun b hb => hb.elim⟩
  · intro hi D cd pre W hh hBD hDh hSp hX hDc
    rcases hX.got with ⟨rfl, x, hres, hY, hYF⟩ | ⟨rfl, hfin, hz⟩
    · refine R_ret ?_
      refine r_block (r_then ?_)
      have hd : St 74 noB w0 a W [(2, .pointer (some ⟨b2, 0, none⟩)), (3, .pointer (some ⟨b3, 0, none⟩)), (4, .pointer (some ⟨b4, 0, none⟩)), (5, .pointer (some ⟨b5, 0, none⟩))] (oY (goP l 0 D0) x :: resL ⟨b1, b2, b3, b4, b5, b6, b10, b12, x14⟩ (goP l 0 D0) x) :=
        ⟨hS.sl.sub (by repeat (first | exact trivial | refine ⟨rfl, ?_⟩)), hX.chg, okC hY (res_oks hres), disC (fun Y hY2 b hb hb2 => by have h1 := hYF b hb; have h2 := own_lo hK b (.inr (.inr (res_F Y hY2 b hb2))); omega) (res_dis hN _ _),
          fun X hX2 _ b hb => .inl (by
            rcases List.mem_cons.1 hX2 with rfl | hX2
            · have := hYF b hb; omega
            · exact (own_lo hK b (.inr (.inr (res_F X hX2 b hb)))).1)⟩
      have hd3 := hd.putD (D := D) (o := .deferred none) (by omega) (fun X hX2 b hb e => by
        rcases List.mem_cons.1 hX2 with rfl | hX2
        · have := hYF b hb; omega
        · have := own_lo hK b (.inr (.inr (res_F X hX2 b hb))); omega)
      revert hd3 hYF
      generalize goP l 0 D0 = o
      intro hYF hd3
      exact endN hd3 (.inl rfl) hDc Tryz.results22 (.cons (.cellA rfl (.tail _ (.head _)) ty_st35 ty_sz35 (by cases o <;> rfl)) (.cons (.cell rfl (.tail _ (.tail _ (.head _))) ty_sc3 rfl) (.cons (.cell rfl (.tail _ (.tail _ (.tail _ (.head _)))) ty_sc4 rfl) (.cons (.cell rfl (.tail _ (.tail _ (.tail _ (.tail _ (.head _))))) ty_sc25 rfl) .nil)))) rfl ⟨x, rfl, hd3.chg, hd3.ok _ (.head _), fun b hb => by have := hYF b hb; omega⟩
    · have hd : St ⟨74, [{ target := .collected D, args := #[] }]⟩ (fun k => k = b2 ∨ k = b3 ∨ k = b4 ∨ k = b5) W { a with defers := { target := .collected D, args := #[] } :: a.defers } W [(2, .pointer (some ⟨b2, 0, none⟩)), (3, .pointer (some ⟨b3, 0, none⟩)), (4, .pointer (some ⟨b4, 0, none⟩)), (5, .pointer (some ⟨b5, 0, none⟩))] (resL ⟨b1, b2, b3, b4, b5, b6, b10, b12, x14⟩ (.no 0) nilS) :=
        St.moreD (n := 74) ⟨hS.sl.sub (by repeat (first | exact trivial | refine ⟨rfl, ?_⟩)), Chg.refl _ _, res_oks hz, res_dis hN _ _, fun X hX _ b hb => .inr (res_F X hX b hb)⟩ _
      clear hS
      refine R_exit ?_
      refine x_hit ?_
      refine n_then ?_
      refine R_seq ?_
      refine R_region ?_
      refine R_op rfl (s_e hd (e_build ty_z35 ty_pl35 .nil) rfl ?_); clear hd; intro a2 hd
      refine R_op rfl (s_storeA hd rfl rfl ty_sz35 (by repeat constructor) rfl rfl rfl ?_); clear hd; intro w1 hd
      refine R_op rfl (s_store hd rfl rfl rfl ty_sz3 (by repeat constructor) (by repeat constructor) ?_); clear hd; intro w1 hd
      refine R_op rfl (s_store hd rfl rfl rfl ty_sz4 (by repeat constructor) (by repeat constructor) ?_); clear hd; intro w1 hd
      refine R_op rfl (s_store hd rfl rfl rfl ty_sz25 (by repeat constructor) (by repeat constructor) ?_); clear hd; intro w4 hd
      refine R_nil ?_
      refine n_then ?_
      refine R_ret ?_
      have hD2 := (hd.chg.block D (Array.getElem?_eq_some_iff.1 hDc).1 (fun hk => by have := own_lo hK D (hk.elim (fun h => .inr (.inr (.inl h))) fun hk => hk.elim (fun h => .inr (.inr (.inr (.inl h)))) fun hk => hk.elim (fun h => .inr (.inr (.inr (.inr (.inl h))))) fun h => .inr (.inr (.inr (.inr (.inr h))))); omega)).trans hDc
      have hd2 : St ⟨74, [{ target := .collected D, args := #[] }]⟩ noB w0 a2 w4 [(2, .pointer (some ⟨b2, 0, none⟩)), (3, .pointer (some ⟨b3, 0, none⟩)), (4, .pointer (some ⟨b4, 0, none⟩)), (5, .pointer (some ⟨b5, 0, none⟩))] (resL ⟨b1, b2, b3, b4, b5, b6, b10, b12, x14⟩ (.no 0) nilS) :=
        ⟨hd.sl.sub (by repeat (first | exact trivial | refine ⟨rfl, ?_⟩)), hX.chg.trans hd.chg (fun i hF hlt => by have := own_lo hK i (hF.elim (fun h => .inr (.inr (.inl h))) fun hk => hk.elim (fun h => .inr (.inr (.inr (.inl h)))) fun hk => hk.elim (fun h => .inr (.inr (.inr (.inr (.inl h))))) fun h => .inr (.inr (.inr (.inr (.inr h))))); omega), hd.ok, hd.dis, fun X hX _ b hb => .inl (own_lo hK b (.inr (.inr (res_F X hX b hb)))).1⟩
      have hd3 := hd2.putD (D := D) (o := .deferred none) (by omega) (fun X hX b hb e => by have := own_lo hK b (.inr (.inr (res_F X hX b hb))); omega)
      exact endN2 hd3 (.inl rfl) hD2 Tryz.results22 (.cons (.cellA rfl (.head _) ty_st35 ty_sz35 rfl) (.cons (.cell rfl (.tail _ (.head _)) ty_sc3 rfl) (.cons (.cell rfl (.tail _ (.tail _ (.head _))) ty_sc4 rfl) (.cons (.cell rfl (.tail _ (.tail _ (.tail _ (.head _)))) ty_sc25 rfl) .nil)))) rfl ⟨nilS, by rw [hfin]; rfl, hd3.chg, by rw [hfin]; exact none_ok _, by rw [hfin]; exact fun b hb => hb.elim⟩
end Go.Proofs.YtjmkjkhcognoeaaGreatDoor

namespace Go.Proofs.YtjmkjkhcognoeaaGreatDoor
open Go.RowKit

def lrS (l : List Int) (p : Nat) : ByteArray := if 0 ≤ (lineF (l.drop p)).1 then lineS l p else ⟨#[]⟩
def lrN (l : List Int) (p : Nat) : Int := if 0 ≤ (lineF (l.drop p)).1 then (aftL l p : Int) else -1
def lrE (l : List Int) (p : Nat) : Int := if 0 ≤ (lineF (l.drop p)).1 then 0 else (lineF (l.drop p)).2
set_option maxRecDepth 100000 in
theorem yLine_P (W0 : World) (q : Option Addr) (c : Nat) (l : List Int) (hlen : l.length ≤ 1000000) (hv : ByAt (.slice q l.length c) l W0) (p : Nat) (hp : p ≤ l.length) (w0 : World) (ho : oldφ W0 w0) :
    PureC Tryz.prog 23 [.slice q l.length c, .int .i64 (p : Int)] w0 (.tuple [.string (lrS l p), .int .i64 (lrN l p), .int .i64 (lrE l p)].toArray) := by
  have hdl : (l.drop p).length = l.length - p := List.length_drop
  have no_ : ∀ {e : Int}, lineF (l.drop p) = (-1, e) → lrS l p = ⟨#[]⟩ ∧ lrN l p = -1 ∧ lrE l p = e := fun {e} h => by
    unfold lrS lrN lrE; rw [h]; exact ⟨rfl, rfl, rfl⟩
  refine c_enter [(0, .slice q l.length c), (1, .int .i64 (p : Int))] [oldA W0] noB Tryz.func23 rfl Tryz.ntmps23 ⟨rfl, rfl, trivial⟩ rfl (okC (old_ok ho) okN) dis1 (mineC (by rfl) mineN) ?_
  intro a hS
  refine c_seq ?_
  refine c_region ?_
  refine L_op (s_e hS (e_assign rfl) rfl ?_); clear hS a; intro a hS
  refine L_op (s_e hS (e_assign rfl) rfl ?_); clear hS a; intro a hS
  refine L_op (s_e hS (e_assign rfl) rfl ?_); clear hS a; intro a hS
  refine L_nil ?_
  refine n_then ?_
  refine c_seq ?_
  refine c_seq ?_
  refine c_region ?_
  refine L_op (s_e hS (e_move rfl) rfl ?_); clear hS a; intro a hS
  refine L_op (s_e hS (e_assign rfl) rfl ?_); clear hS a; intro a hS
  refine L_nil ?_
  refine n_then ?_
  refine wp_block ?_
  skip
  refine c_loop (γ := Nat) (fun k a w => St 49 noB w0 a w [(7, .int .i64 ((p + k : Nat) : Int)), (0, .slice q l.length c), (1, .int .i64 (p : Int))] [oldA W0] ∧ p + k ≤ l.length ∧ ∀ j, j < k → lineAt (l.drop p) j = none) (fun k => l.length - (p + k)) 0 ⟨hS.slots (by repeat (first | exact trivial | refine ⟨rfl, ?_⟩)), hp, fun j hj => by omega⟩ ?_
  clear hS a; (try clear w); intro k a w hI
  obtain ⟨hS, hk, hno⟩ := hI
  refine c_seq ?_
  refine c_seq ?_
  refine c_region ?_
  refine L_op (s_e hS (e_move rfl) rfl ?_); clear hS a; intro a hS
  refine L_op (s_e hS (e_move rfl) rfl ?_); clear hS a; intro a hS
  refine L_op (s_e hS (e_len rfl rfl ty_sl22) rfl ?_); clear hS a; intro a hS
  refine L_op (s_e hS (e_bin rfl rfl rfl) rfl ?_); clear hS a; intro a hS
  refine L_nil ?_
  refine n_then ?_
  first | refine c_ifD hS rfl (fun hc13 => ?_) (fun hc13 => ?_) | refine c_if hS rfl (fun hc13 => ?_) (fun hc13 => ?_)
  ·
    have hkl : p + k < l.length := by omega
    obtain ⟨x, hx⟩ : ∃ x, l[p + k]? = some x := ⟨l[p + k], by simp⟩
    have hgx : (l.drop p).getD k 0 = x := by rw [List.getD_eq_getElem?_getD, List.getElem?_drop, hx]; rfl
    obtain ⟨b, off, c', e1, _, hcell⟩ := hv.some (fun e => by rw [e] at hkl; exact absurd hkl (Nat.not_lt_zero _))
    injection e1 with e2 _ e3
    subst e2; subst e3
    refine wp_skip ?_
    refine n_then ?_
    refine c_seq ?_
    refine wp_block ?_
    refine c_seq ?_
    refine c_region ?_
    refine L_op (s_e hS (e_move rfl) rfl ?_); clear hS a; intro a hS
    refine L_op (s_e hS (e_move rfl) rfl ?_); clear hS a; intro a hS
    first | (refine L_op (s_e hS (e_binN rfl rfl rfl (by omega)) rfl ?_); clear hS a; intro a hS) | (refine L_op (s_e hS (e_bin rfl rfl rfl) rfl ?_); clear hS a; intro a hS)
    rw [show ((p + k : Nat) : Int) - (p : Int) = (k : Int) by omega] at hS
    refine L_op (s_e hS (e_assign rfl) rfl ?_); clear hS a; intro a hS
    refine L_nil ?_
    refine n_then ?_
    refine c_seq ?_
    refine c_seq ?_
    refine c_region ?_
    refine L_op (s_e hS (e_move rfl) rfl ?_); clear hS a; intro a hS
    refine L_op (s_e hS (e_move rfl) rfl ?_); clear hS a; intro a hS
    refine L_op (s_e hS (e_ixN rfl rfl ty_sl22 ty_sz5 (by omega)) rfl ?_); clear hS a; intro a hS
    refine L_op (s_e hS (e_loadC rfl ty_sc5 (fun w hh => by rw [Nat.mul_one]; exact old_cell (hh (oldA W0) (by repeat constructor)) (hcell _ _ hx))) rfl ?_); clear hS a; intro a hS
    refine L_op (s_e hS (e_bin rfl rfl rfl) rfl ?_); clear hS a; intro a hS
    refine L_nil ?_
    refine n_then ?_
    first | refine c_ifD hS rfl (fun hc23 => ?_) (fun hc23 => ?_) | refine c_if hS rfl (fun hc23 => ?_) (fun hc23 => ?_)
    ·
      refine c_seq ?_
      refine c_region ?_
      refine L_op (s_e hS (e_assign rfl) rfl ?_); clear hS a; intro a hS
      refine L_op (s_e hS (e_assign rfl) rfl ?_); clear hS a; intro a hS
      refine L_op (s_e hS (e_assign rfl) rfl ?_); clear hS a; intro a hS
      refine L_nil ?_
      refine n_then ?_
      refine wp_ret ?_
      refine r_then (r_block (r_then (r_then (r_block (r_then ?_)))))
      refine c_retN hS Tryz.results23 (.cons (.tmp rfl) (.cons (.tmp rfl) (.cons (.tmp rfl) .nil))) rfl ?_
      obtain ⟨e1, e2, e3⟩ := no_ (line_at hno (v := (-1, 10)) (by unfold lineAt; rw [hgx, if_pos (.inl hc23)]) (by omega))
      exact ⟨by rw [e1, e2, e3], hS.chg⟩
    ·
      refine wp_skip ?_
      refine n_then ?_
      refine c_seq ?_
      refine c_seq ?_
      refine c_region ?_
      refine L_op (s_e hS (e_move rfl) rfl ?_); clear hS a; intro a hS
      refine L_op (s_e hS (e_move rfl) rfl ?_); clear hS a; intro a hS
      refine L_op (s_e hS (e_ixN rfl rfl ty_sl22 ty_sz5 (by omega)) rfl ?_); clear hS a; intro a hS
      refine L_op (s_e hS (e_loadC rfl ty_sc5 (fun w hh => by rw [Nat.mul_one]; exact old_cell (hh (oldA W0) (by repeat constructor)) (hcell _ _ hx))) rfl ?_); clear hS a; intro a hS
      refine L_op (s_e hS (e_bin rfl rfl rfl) rfl ?_); clear hS a; intro a hS
      refine L_nil ?_
      refine n_then ?_
      first | refine c_ifD hS rfl (fun hc28 => ?_) (fun hc28 => ?_) | refine c_if hS rfl (fun hc28 => ?_) (fun hc28 => ?_)
      ·
        refine c_seq ?_
        refine c_seq ?_
        refine c_region ?_
        refine L_op (s_e hS (e_move rfl) rfl ?_); clear hS a; intro a hS
        first | (refine L_op (s_e hS (e_binN rfl rfl rfl (by omega)) rfl ?_); clear hS a; intro a hS) | (refine L_op (s_e hS (e_bin rfl rfl rfl) rfl ?_); clear hS a; intro a hS)
        refine L_op (s_e hS (e_move rfl) rfl ?_); clear hS a; intro a hS
        refine L_op (s_e hS (e_len rfl rfl ty_sl22) rfl ?_); clear hS a; intro a hS
        refine L_op (s_e hS (e_bin rfl rfl rfl) rfl ?_); clear hS a; intro a hS
        refine L_nil ?_
        refine n_then ?_
        first | refine c_ifD hS rfl (fun hc33 => ?_) (fun hc33 => ?_) | refine c_if hS rfl (fun hc33 => ?_) (fun hc33 => ?_)
        ·
          refine c_seq ?_
          refine c_region ?_
          refine L_op (s_e hS (e_assign rfl) rfl ?_); clear hS a; intro a hS
          refine L_op (s_e hS (e_assign rfl) rfl ?_); clear hS a; intro a hS
          refine L_op (s_e hS (e_assign rfl) rfl ?_); clear hS a; intro a hS
          refine L_nil ?_
          refine n_then ?_
          refine wp_ret ?_
          refine r_then (r_then (r_block (r_then (r_then (r_block (r_then ?_))))))
          refine c_retN hS Tryz.results23 (.cons (.tmp rfl) (.cons (.tmp rfl) (.cons (.tmp rfl) .nil))) rfl ?_
          obtain ⟨e1, e2, e3⟩ := no_ (line_at hno (v := (-1, 0)) (by unfold lineAt; rw [hgx, if_neg (by omega), if_neg (by omega), if_pos hc28]) (by omega))
          exact ⟨by rw [e1, e2, e3], hS.chg⟩
        ·
          obtain ⟨y, hy⟩ : ∃ y, l[p + k + 1]? = some y := ⟨l[p + k + 1]'(by omega), List.getElem?_eq_getElem (by omega)⟩
          have hgy : (l.drop p).getD (k + 1) 0 = y := by rw [List.getD_eq_getElem?_getD, List.getElem?_drop, ← Nat.add_assoc, hy]; rfl
          refine wp_skip ?_
          refine n_then ?_
          refine c_seq ?_
          refine c_seq ?_
          refine c_region ?_
          refine L_op (s_e hS (e_move rfl) rfl ?_); clear hS a; intro a hS
          refine L_op (s_e hS (e_move rfl) rfl ?_); clear hS a; intro a hS
          first | (refine L_op (s_e hS (e_binN rfl rfl rfl (by omega)) rfl ?_); clear hS a; intro a hS) | (refine L_op (s_e hS (e_bin rfl rfl rfl) rfl ?_); clear hS a; intro a hS)
          rw [show ((p + k : Nat) : Int) + 1 = ((p + k + 1 : Nat) : Int) from rfl] at hS
          refine L_op (s_e hS (e_ixN rfl rfl ty_sl22 ty_sz5 (by omega)) rfl ?_); clear hS a; intro a hS
          refine L_op (s_e hS (e_loadC rfl ty_sc5 (fun w hh => by rw [Nat.mul_one]; exact old_cell (hh (oldA W0) (by repeat constructor)) (hcell _ _ hy))) rfl ?_); clear hS a; intro a hS
          refine L_op (s_e hS (e_bin rfl rfl rfl) rfl ?_); clear hS a; intro a hS
          refine L_nil ?_
          refine n_then ?_
          first | refine c_ifD hS rfl (fun hc39 => ?_) (fun hc39 => ?_) | refine c_if hS rfl (fun hc39 => ?_) (fun hc39 => ?_)
          ·
            refine c_seq ?_
            refine c_region ?_
            refine L_op (s_e hS (e_assign rfl) rfl ?_); clear hS a; intro a hS
            refine L_op (s_e hS (e_assign rfl) rfl ?_); clear hS a; intro a hS
            refine L_op (s_e hS (e_assign rfl) rfl ?_); clear hS a; intro a hS
            refine L_nil ?_
            refine n_then ?_
            refine wp_ret ?_
            refine r_then (r_then (r_block (r_then (r_then (r_block (r_then ?_))))))
            refine c_retN hS Tryz.results23 (.cons (.tmp rfl) (.cons (.tmp rfl) (.cons (.tmp rfl) .nil))) rfl ?_
            obtain ⟨e1, e2, e3⟩ := no_ (line_at hno (v := (-1, 10)) (by unfold lineAt; rw [hgx, hgy, if_pos (.inr ⟨hc28, by omega, hc39⟩)]) (by omega))
            exact ⟨by rw [e1, e2, e3], hS.chg⟩
          ·
            have hF : lineF (l.drop p) = ((k : Int), 0) := line_at hno (by unfold lineAt; rw [hgx, hgy, if_neg (fun h => h.elim hc23 (fun h => hc39 h.2.2)), if_pos ⟨hc28, by omega⟩]) (by omega)
            have hpk : p + (lineF (l.drop p)).1.toNat = p + k := by rw [hF]; rfl
            refine wp_skip ?_
            refine n_then ?_
            refine c_seq ?_
            refine c_region ?_
            refine L_op (s_e hS (e_move rfl) rfl ?_); clear hS a; intro a hS
            refine L_op (s_e hS (e_move rfl) rfl ?_); clear hS a; intro a hS
            refine L_op (s_e hS (e_move rfl) rfl ?_); clear hS a; intro a hS
            refine L_op (s_e hS (e_slB (i := p) (j := p + k) rfl rfl rfl ty_sl22 ty_sz5 ⟨Nat.le_add_right _ _, by have := hv.some (fun e => by rw [e] at hkl; exact absurd hkl (Nat.not_lt_zero _)); obtain ⟨_, _, _, e, h1, _⟩ := this; injection e with _ _ e3; omega⟩) rfl ?_); clear hS a; intro a hS
            refine L_op (s_e hS (e_str (l := lineL l p) rfl ty_sl22 ty_u5 ty_u9 (fun w hh => by unfold lineL; rw [hpk]; exact (old_by (hh (oldA W0) (by repeat constructor)) hv).piece (j := p) (k := p + k) (by omega) hk)) rfl ?_); clear hS a; intro a hS
            refine L_op (s_e hS (e_move rfl) rfl ?_); clear hS a; intro a hS
            first | (refine L_op (s_e hS (e_binN rfl rfl rfl (by omega)) rfl ?_); clear hS a; intro a hS) | (refine L_op (s_e hS (e_bin rfl rfl rfl) rfl ?_); clear hS a; intro a hS)
            refine L_op (s_e hS (e_assign rfl) rfl ?_); clear hS a; intro a hS
            refine L_op (s_e hS (e_assign rfl) rfl ?_); clear hS a; intro a hS
            refine L_op (s_e hS (e_assign rfl) rfl ?_); clear hS a; intro a hS
            refine L_nil ?_
            refine n_then ?_
            refine wp_ret ?_
            refine r_then (r_block (r_then (r_then (r_block (r_then ?_)))))
            refine c_retN hS Tryz.results23 (.cons (.tmp rfl) (.cons (.tmp rfl) (.cons (.tmp rfl) .nil))) rfl ?_
            have h0 : 0 ≤ (lineF (l.drop p)).1 := by rw [hF]; exact Int.natCast_nonneg k
            exact ⟨by unfold lrS lrN lrE aftL; rw [if_pos h0, if_pos h0, if_pos h0, hpk]; rfl, hS.chg⟩
      ·
        refine wp_skip ?_
        refine n_then ?_
        refine c_seq ?_
        refine c_region ?_
        refine L_op (s_e hS (e_move rfl) rfl ?_); clear hS a; intro a hS
        refine L_op (s_e hS (e_bin rfl rfl rfl) rfl ?_); clear hS a; intro a hS
        refine L_nil ?_
        refine n_then ?_
        first | refine c_ifD hS rfl (fun hc48 => ?_) (fun hc48 => ?_) | refine c_if hS rfl (fun hc48 => ?_) (fun hc48 => ?_)
        ·
          refine c_seq ?_
          refine c_region ?_
          refine L_op (s_e hS (e_assign rfl) rfl ?_); clear hS a; intro a hS
          refine L_op (s_e hS (e_assign rfl) rfl ?_); clear hS a; intro a hS
          refine L_op (s_e hS (e_assign rfl) rfl ?_); clear hS a; intro a hS
          refine L_nil ?_
          refine n_then ?_
          refine wp_ret ?_
          refine r_block (r_then (r_then (r_block (r_then ?_))))
          refine c_retN hS Tryz.results23 (.cons (.tmp rfl) (.cons (.tmp rfl) (.cons (.tmp rfl) .nil))) rfl ?_
          obtain rfl : k = 1000 := by
            rcases Nat.lt_or_ge 1000 k with h | h
            · have h1 := hno 1000 h
              unfold lineAt at h1
              split at h1
              · cases h1
              · split at h1
                · cases h1
                · split at h1
                  · cases h1
                  · rw [if_pos rfl] at h1; cases h1
            · omega
          obtain ⟨e1, e2, e3⟩ := no_ (line_at hno (v := (-1, 8)) (by unfold lineAt; rw [hgx, if_neg (by omega), if_neg (by omega), if_neg hc28, if_pos rfl]) (by omega))
          exact ⟨by rw [e1, e2, e3], hS.chg⟩
        ·
          refine wp_skip ?_
          refine n_block ?_
          refine n_then ?_
          refine c_region ?_
          refine L_op (s_e hS (e_move rfl) rfl ?_); clear hS a; intro a hS
          first | (refine L_op (s_e hS (e_binN rfl rfl rfl (by omega)) rfl ?_); clear hS a; intro a hS) | (refine L_op (s_e hS (e_bin rfl rfl rfl) rfl ?_); clear hS a; intro a hS)
          refine L_op (s_e hS (e_assign rfl) rfl ?_); clear hS a; intro a hS
          refine L_nil ?_
          exact ⟨k + 1, by omega, hS.slots (by repeat (first | exact trivial | refine ⟨rfl, ?_⟩)), by omega, fun j hj => by
            rcases Nat.lt_or_ge j k with h | h
            · exact hno j h
            obtain rfl : j = k := (by omega)
            unfold lineAt; rw [hgx, if_neg (by omega), if_neg (by omega), if_neg hc28, if_neg (by omega)]⟩
  ·
    refine wp_exit ?_
    refine x_then (x_then (x_hit ?_))
    refine n_then ?_
    refine c_seq ?_
    refine c_region ?_
    refine L_op (s_e hS (e_assign rfl) rfl ?_); clear hS a; intro a hS
    refine L_op (s_e hS (e_assign rfl) rfl ?_); clear hS a; intro a hS
    refine L_op (s_e hS (e_assign rfl) rfl ?_); clear hS a; intro a hS
    refine L_nil ?_
    refine n_then ?_
    refine wp_ret ?_
    refine c_retN hS Tryz.results23 (.cons (.tmp rfl) (.cons (.tmp rfl) (.cons (.tmp rfl) .nil))) rfl ?_
    obtain ⟨e1, e2, e3⟩ := no_ (line_no (fun j hj => hno j (by omega)))
    exact ⟨by rw [e1, e2, e3], hS.chg⟩
set_option maxRecDepth 100000 in
theorem yLetter_P (c : Int) (w0 : World) : PureC Tryz.prog 42 [.int .u8 c] w0 (.bool (decide ((65 ≤ c ∧ c ≤ 90) ∨ (97 ≤ c ∧ c ≤ 122)))) := by
  refine c_enter [(0, .int .u8 c)] [] noB Tryz.func42 rfl Tryz.ntmps42 ⟨rfl, trivial⟩ rfl (by simp) (by simp) (by simp) ?_
  intro a hS
  refine c_seq ?_
  refine c_region ?_
  refine L_op (s_e hS (e_assign rfl) rfl ?_); clear hS a; intro a hS
  refine L_nil ?_
  refine n_then ?_
  refine c_seq ?_
  refine c_region ?_
  refine L_op (s_e hS (e_move rfl) rfl ?_); clear hS a; intro a hS
  refine L_op (s_e hS (e_bin rfl rfl rfl) rfl ?_); clear hS a; intro a hS
  refine L_op (s_e hS (e_move rfl) rfl ?_); clear hS a; intro a hS
  refine L_merge 3 8 (.bool (decide (65 ≤ c ∧ c ≤ 90))) hS ?_ ?_
  · intro hcM8
    (first | refine g_splitD (t := 5) hS rfl ?_ ?_ | refine g_split (t := 5) hS rfl ?_ ?_) <;> (clear hS; intro hg5 hS)
    ·
      refine L_go hS rfl rfl (s_e hS (e_move rfl) rfl ?_); clear hS a; intro a hS
      refine L_go hS rfl rfl (s_e hS (e_bin rfl rfl rfl) rfl ?_); clear hS a; intro a hS
      first | (refine L_op (s_e hS (e_pick_t rfl rfl) rfl ?_); clear hS a; intro a hS) | (refine L_op (s_e hS (e_pick_f rfl rfl) rfl ?_); clear hS a; intro a hS)
      exact hcM8 _ _ (hS.ends 4 8 5 rfl (congrArg Value.bool (by first | rfl | (simp [hg5]; done) | (simp [hg5]; omega) | grind)) rfl rfl (by first | exact congrArg Value.bool (decide_eq_true hg5).symm | exact congrArg Value.bool hg5.symm | simp [hg5]) rfl)
    ·
      refine L_skip_t hS rfl rfl rfl ?_; clear hS a; intro a hS
      refine L_skip_t hS rfl rfl rfl ?_; clear hS a; intro a hS
      first | (refine L_op (s_e hS (e_pick_t rfl rfl) rfl ?_); clear hS a; intro a hS) | (refine L_op (s_e hS (e_pick_f rfl rfl) rfl ?_); clear hS a; intro a hS)
      exact hcM8 _ _ (hS.ends 4 8 5 rfl (congrArg Value.bool (by first | rfl | (simp [hg5]; done) | (simp [hg5]; omega) | grind)) rfl rfl (by first | exact congrArg Value.bool (decide_eq_false hg5).symm | exact congrArg Value.bool hg5.symm | simp [hg5]) rfl)
  · clear hS a; (try clear w); intro a w hS
    simp only [List.drop_succ_cons, List.drop_zero]
    refine L_op (s_e hS (e_move rfl) rfl ?_); clear hS a; intro a hS
    refine L_merge 7 16 (.bool (decide ((65 ≤ c ∧ c ≤ 90) ∨ (97 ≤ c ∧ c ≤ 122)))) hS ?_ ?_
    · intro hcM16
      (first | refine g_splitD (t := 9) hS rfl ?_ ?_ | refine g_split (t := 9) hS rfl ?_ ?_) <;> (clear hS; intro hg9 hS)
      ·
        refine L_skip_f hS rfl rfl rfl ?_; clear hS a; intro a hS
        refine L_skip_f hS rfl rfl rfl ?_; clear hS a; intro a hS
        refine L_skip_f hS rfl rfl rfl ?_; clear hS a; intro a hS
        refine L_skip_u hS rfl rfl rfl ?_; clear hS a; intro a hS
        refine L_skip_u hS rfl rfl rfl ?_; clear hS a; intro a hS
        refine L_skip_f hS rfl rfl rfl ?_; clear hS a; intro a hS
        first | (refine L_op (s_e hS (e_pick_t rfl rfl) rfl ?_); clear hS a; intro a hS) | (refine L_op (s_e hS (e_pick_f rfl rfl) rfl ?_); clear hS a; intro a hS)
        exact hcM16 _ _ (hS.ends 8 16 9 rfl (congrArg Value.bool (by exact (decide_eq_true (.inl hg9)).symm)) rfl rfl (by first | exact congrArg Value.bool (decide_eq_true hg9).symm | exact congrArg Value.bool hg9.symm | simp [hg9]) rfl)
      ·
        refine L_go hS rfl rfl (s_e hS (e_move rfl) rfl ?_); clear hS a; intro a hS
        refine L_go hS rfl rfl (s_e hS (e_bin rfl rfl rfl) rfl ?_); clear hS a; intro a hS
        refine L_go hS rfl rfl (s_e hS (e_move rfl) rfl ?_); clear hS a; intro a hS
        refine L_merge 3 15 (.bool (decide (97 ≤ c ∧ c ≤ 122))) hS ?_ ?_
        · intro hcM15
          (first | refine g_splitD (t := 12) hS rfl ?_ ?_ | refine g_split (t := 12) hS rfl ?_ ?_) <;> (clear hS; intro hg12 hS)
          ·
            refine L_go hS rfl rfl (s_e hS (e_move rfl) rfl ?_); clear hS a; intro a hS
            refine L_go hS rfl rfl (s_e hS (e_bin rfl rfl rfl) rfl ?_); clear hS a; intro a hS
            first | (refine L_go hS rfl rfl (s_e hS (e_pick_t rfl rfl) rfl ?_); clear hS a; intro a hS) | (refine L_go hS rfl rfl (s_e hS (e_pick_f rfl rfl) rfl ?_); clear hS a; intro a hS)
            exact hcM15 _ _ (hS.ends 4 15 12 rfl (congrArg Value.bool (by first | rfl | (simp [hg12]; done) | (simp [hg12]; omega) | grind)) rfl rfl (by first | exact congrArg Value.bool (decide_eq_true hg12).symm | exact congrArg Value.bool hg12.symm | simp [hg12]) rfl)
          ·
            refine L_skip_t hS rfl rfl rfl ?_; clear hS a; intro a hS
            refine L_skip_t hS rfl rfl rfl ?_; clear hS a; intro a hS
            first | (refine L_go hS rfl rfl (s_e hS (e_pick_t rfl rfl) rfl ?_); clear hS a; intro a hS) | (refine L_go hS rfl rfl (s_e hS (e_pick_f rfl rfl) rfl ?_); clear hS a; intro a hS)
            exact hcM15 _ _ (hS.ends 4 15 12 rfl (congrArg Value.bool (by first | rfl | (simp [hg12]; done) | (simp [hg12]; omega) | grind)) rfl rfl (by first | exact congrArg Value.bool (decide_eq_false hg12).symm | exact congrArg Value.bool hg12.symm | simp [hg12]) rfl)
        · clear hS a; (try clear w); intro a w hS
          simp only [List.drop_succ_cons, List.drop_zero]
          first | (refine L_op (s_e hS (e_pick_t rfl rfl) rfl ?_); clear hS a; intro a hS) | (refine L_op (s_e hS (e_pick_f rfl rfl) rfl ?_); clear hS a; intro a hS)
          exact hcM16 _ _ (hS.ends 6 16 9 rfl (congrArg Value.bool (by exact decide_eq_decide.2 ⟨.inr, fun h => h.resolve_left hg9⟩)) rfl rfl (by first | exact congrArg Value.bool (decide_eq_false hg9).symm | exact congrArg Value.bool hg9.symm | simp [hg9]) rfl)
    · clear hS a; (try clear w); intro a w hS
      simp only [List.drop_succ_cons, List.drop_zero]
      refine L_op (s_e hS (e_assign rfl) rfl ?_); clear hS a; intro a hS
      refine L_nil ?_
      refine n_then ?_
      refine wp_ret ?_
      refine c_ret1 hS Tryz.results42 (.tmp rfl) ?_
      exact ⟨rfl, hS.chg⟩
set_option maxRecDepth 100000 in
theorem yDigit_P (c : Int) (w0 : World) : PureC Tryz.prog 43 [.int .u8 c] w0 (.bool (decide (48 ≤ c ∧ c ≤ 57))) := by
  refine c_enter [(0, .int .u8 c)] [] noB Tryz.func43 rfl Tryz.ntmps43 ⟨rfl, trivial⟩ rfl (by simp) (by simp) (by simp) ?_
  intro a hS
  refine c_seq ?_
  refine c_region ?_
  refine L_op (s_e hS (e_assign rfl) rfl ?_); clear hS a; intro a hS
  refine L_nil ?_
  refine n_then ?_
  refine c_seq ?_
  refine c_region ?_
  refine L_op (s_e hS (e_move rfl) rfl ?_); clear hS a; intro a hS
  refine L_op (s_e hS (e_bin rfl rfl rfl) rfl ?_); clear hS a; intro a hS
  refine L_op (s_e hS (e_move rfl) rfl ?_); clear hS a; intro a hS
  refine L_merge 3 8 (.bool (decide (48 ≤ c ∧ c ≤ 57))) hS ?_ ?_
  · intro hcM8
    (first | refine g_splitD (t := 5) hS rfl ?_ ?_ | refine g_split (t := 5) hS rfl ?_ ?_) <;> (clear hS; intro hg5 hS)
    ·
      refine L_go hS rfl rfl (s_e hS (e_move rfl) rfl ?_); clear hS a; intro a hS
      refine L_go hS rfl rfl (s_e hS (e_bin rfl rfl rfl) rfl ?_); clear hS a; intro a hS
      first | (refine L_op (s_e hS (e_pick_t rfl rfl) rfl ?_); clear hS a; intro a hS) | (refine L_op (s_e hS (e_pick_f rfl rfl) rfl ?_); clear hS a; intro a hS)
      exact hcM8 _ _ (hS.ends 4 8 5 rfl (congrArg Value.bool (by first | rfl | (simp [hg5]; done) | (simp [hg5]; omega) | grind)) rfl rfl (by first | exact congrArg Value.bool (decide_eq_true hg5).symm | exact congrArg Value.bool hg5.symm | simp [hg5]) rfl)
    ·
      refine L_skip_t hS rfl rfl rfl ?_; clear hS a; intro a hS
      refine L_skip_t hS rfl rfl rfl ?_; clear hS a; intro a hS
      first | (refine L_op (s_e hS (e_pick_t rfl rfl) rfl ?_); clear hS a; intro a hS) | (refine L_op (s_e hS (e_pick_f rfl rfl) rfl ?_); clear hS a; intro a hS)
      exact hcM8 _ _ (hS.ends 4 8 5 rfl (congrArg Value.bool (by first | rfl | (simp [hg5]; done) | (simp [hg5]; omega) | grind)) rfl rfl (by first | exact congrArg Value.bool (decide_eq_false hg5).symm | exact congrArg Value.bool hg5.symm | simp [hg5]) rfl)
  · clear hS a; (try clear w); intro a w hS
    simp only [List.drop_succ_cons, List.drop_zero]
    refine L_op (s_e hS (e_assign rfl) rfl ?_); clear hS a; intro a hS
    refine L_nil ?_
    refine n_then ?_
    refine wp_ret ?_
    refine c_ret1 hS Tryz.results43 (.tmp rfl) ?_
    exact ⟨rfl, hS.chg⟩
theorem path_iff {s : ByteArray} : pathB s = true ↔ s.size ≠ 0 ∧ s.size ≤ 200 ∧ byteAt s.data.toList 0 = 47 ∧ ∀ j, j < s.size → 33 ≤ byteAt s.data.toList j ∧ byteAt s.data.toList j ≤ 126 := by
  have hl := size_list s
  unfold pathB
  rw [Bool.and_eq_true, some_iff, decide_eq_true_eq]
  constructor
  · rintro ⟨⟨h1, h2, h3⟩, h4⟩
    refine ⟨h1, by omega, by unfold byteAt; omega, fun j hj => ?_⟩
    have h5 := of_decide_eq_true (h3 (s.data.toList[j]'(by omega)) (List.getElem_mem _))
    unfold byteAt
    rw [List.getD_eq_getElem?_getD, List.getElem?_eq_getElem (by omega)]
    simp only [Option.getD_some]; omega
  · rintro ⟨h1, h2, h3, h4⟩
    refine ⟨⟨h1, by omega, fun b hb => decide_eq_true ?_⟩, by unfold byteAt at h3; omega⟩
    obtain ⟨j, hj⟩ := List.mem_iff_getElem?.1 hb
    have h5 := h4 j (by have := (List.getElem?_eq_some_iff.1 hj).1; omega)
    unfold byteAt at h5
    rw [List.getD_eq_getElem?_getD, hj] at h5
    simp only [Option.getD_some] at h5; omega
set_option maxRecDepth 100000 in
theorem yPath_P (s : ByteArray) (hs : s.size ≤ 4611686018427387904) (w0 : World) : PureC Tryz.prog 41 [.string s] w0 (.bool (pathB s)) := by
  have hl := size_list s
  refine c_enter [(0, .string s)] [] noB Tryz.func41 rfl Tryz.ntmps41 ⟨rfl, trivial⟩ rfl (by simp) (by simp) (by simp) ?_
  intro a hS
  refine c_seq ?_
  refine c_region ?_
  refine L_op (s_e hS (e_assign rfl) rfl ?_); clear hS a; intro a hS
  refine L_nil ?_
  refine n_then ?_
  refine c_seq ?_
  refine c_seq ?_
  refine c_region ?_
  refine L_op (s_e hS (e_move rfl) rfl ?_); clear hS a; intro a hS
  refine L_op (s_e hS (e_binS rfl rfl rfl) rfl ?_); clear hS a; intro a hS
  refine L_op (s_e hS (e_move rfl) rfl ?_); clear hS a; intro a hS
  refine L_merge 4 10 (.bool (decide (s.size = 0 ∨ 200 < s.size))) hS ?_ ?_
  · intro hcM10
    (first | refine g_splitD (t := 6) hS rfl ?_ ?_ | refine g_split (t := 6) hS rfl ?_ ?_) <;> (clear hS; intro hg6 hS)
    ·
      refine L_skip_f hS rfl rfl rfl ?_; clear hS a; intro a hS
      refine L_skip_f hS rfl rfl rfl ?_; clear hS a; intro a hS
      refine L_skip_f hS rfl rfl rfl ?_; clear hS a; intro a hS
      first | (refine L_op (s_e hS (e_pick_t rfl rfl) rfl ?_); clear hS a; intro a hS) | (refine L_op (s_e hS (e_pick_f rfl rfl) rfl ?_); clear hS a; intro a hS)
      exact hcM10 _ _ (hS.ends 5 10 6 rfl (congrArg Value.bool (by exact (decide_eq_true (.inl (b_empty hg6))).symm)) rfl rfl (by first | exact congrArg Value.bool (decide_eq_true hg6).symm | exact congrArg Value.bool hg6.symm | simp [hg6]) rfl)
    ·
      refine L_go hS rfl rfl (s_e hS (e_move rfl) rfl ?_); clear hS a; intro a hS
      refine L_go hS rfl rfl (s_e hS (e_lenS rfl rfl ty_u9) rfl ?_); clear hS a; intro a hS
      refine L_go hS rfl rfl (s_e hS (e_bin rfl rfl rfl) rfl ?_); clear hS a; intro a hS
      first | (refine L_op (s_e hS (e_pick_t rfl rfl) rfl ?_); clear hS a; intro a hS) | (refine L_op (s_e hS (e_pick_f rfl rfl) rfl ?_); clear hS a; intro a hS)
      exact hcM10 _ _ (hS.ends 5 10 6 rfl (congrArg Value.bool (by have := b_full hg6; exact decide_eq_decide.2 (by omega))) rfl rfl (by first | exact congrArg Value.bool (decide_eq_false hg6).symm | exact congrArg Value.bool hg6.symm | simp [hg6]) rfl)
  · clear hS a; (try clear w); intro a w hS
    simp only [List.drop_succ_cons, List.drop_zero]
    refine L_op (s_e hS (e_move rfl) rfl ?_); clear hS a; intro a hS
    refine L_merge 4 15 (.bool (decide (s.size = 0 ∨ 200 < s.size ∨ byteAt s.data.toList 0 ≠ 47))) hS ?_ ?_
    · intro hcM15
      (first | refine g_splitD (t := 11) hS rfl ?_ ?_ | refine g_split (t := 11) hS rfl ?_ ?_) <;> (clear hS; intro hg11 hS)
      ·
        refine L_skip_f hS rfl rfl rfl ?_; clear hS a; intro a hS
        refine L_skip_f hS rfl rfl rfl ?_; clear hS a; intro a hS
        refine L_skip_f hS rfl rfl rfl ?_; clear hS a; intro a hS
        first | (refine L_op (s_e hS (e_pick_t rfl rfl) rfl ?_); clear hS a; intro a hS) | (refine L_op (s_e hS (e_pick_f rfl rfl) rfl ?_); clear hS a; intro a hS)
        exact hcM15 _ _ (hS.ends 5 15 11 rfl (congrArg Value.bool (by exact (decide_eq_true (hg11.elim .inl (fun h => .inr (.inl h)))).symm)) rfl rfl (by first | exact congrArg Value.bool (decide_eq_true hg11).symm | exact congrArg Value.bool hg11.symm | simp [hg11]) rfl)
      ·
        have hpos : 0 < s.size := by omega
        refine L_go hS rfl rfl (s_e hS (e_move rfl) rfl ?_); clear hS a; intro a hS
        refine L_go hS rfl rfl (s_e hS (e_ixS rfl rfl ty_u9 (by omega)) rfl ?_); clear hS a; intro a hS
        refine L_go hS rfl rfl (s_e hS (e_bin rfl rfl rfl) rfl ?_); clear hS a; intro a hS
        first | (refine L_op (s_e hS (e_pick_t rfl rfl) rfl ?_); clear hS a; intro a hS) | (refine L_op (s_e hS (e_pick_f rfl rfl) rfl ?_); clear hS a; intro a hS)
        exact hcM15 _ _ (hS.ends 5 15 11 rfl (congrArg Value.bool (by unfold byteAt; rw [Int.toNat_zero]; exact decide_eq_decide.2 (by omega))) rfl rfl (by first | exact congrArg Value.bool (decide_eq_false hg11).symm | exact congrArg Value.bool hg11.symm | simp [hg11]) rfl)
    · clear hS a; (try clear w); intro a w hS
      simp only [List.drop_succ_cons, List.drop_zero]
      refine L_nil ?_
      refine n_then ?_
      first | refine c_ifD hS rfl (fun hc15 => ?_) (fun hc15 => ?_) | refine c_if hS rfl (fun hc15 => ?_) (fun hc15 => ?_)
      ·
        refine c_seq ?_
        refine c_region ?_
        refine L_op (s_e hS (e_assign rfl) rfl ?_); clear hS a; intro a hS
        refine L_nil ?_
        refine n_then ?_
        refine wp_ret ?_
        refine r_then ?_
        refine c_ret1 hS Tryz.results41 (.tmp rfl) ?_
        exact ⟨by rw [show pathB s = false from Bool.eq_false_iff.2 (fun h => by have := path_iff.1 h; omega)], hS.chg⟩
      ·
        refine wp_skip ?_
        refine n_then ?_
        refine c_seq ?_
        refine c_seq ?_
        refine c_region ?_
        refine L_op (s_e hS (e_assign rfl) rfl ?_); clear hS a; intro a hS
        refine L_nil ?_
        refine n_then ?_
        refine wp_block ?_
        skip
        refine c_loop (γ := Nat) (fun k a w => St 32 noB w0 a w [(3, .int .i64 (k : Int)), (0, .string s)] [] ∧ k ≤ s.size ∧ ∀ j, j < k → 33 ≤ byteAt s.data.toList j ∧ byteAt s.data.toList j ≤ 126) (fun k => s.size - k) 0 ⟨hS.slots (by repeat (first | exact trivial | refine ⟨rfl, ?_⟩)), Nat.zero_le _, fun j hj => by omega⟩ ?_
        clear hS a; (try clear w); intro k a w hI
        obtain ⟨hS, hk, hno⟩ := hI
        refine c_seq ?_
        refine c_seq ?_
        refine c_region ?_
        refine L_op (s_e hS (e_move rfl) rfl ?_); clear hS a; intro a hS
        refine L_op (s_e hS (e_move rfl) rfl ?_); clear hS a; intro a hS
        refine L_op (s_e hS (e_lenS rfl rfl ty_u9) rfl ?_); clear hS a; intro a hS
        refine L_op (s_e hS (e_bin rfl rfl rfl) rfl ?_); clear hS a; intro a hS
        refine L_nil ?_
        refine n_then ?_
        first | refine c_ifD hS rfl (fun hc19 => ?_) (fun hc19 => ?_) | refine c_if hS rfl (fun hc19 => ?_) (fun hc19 => ?_)
        ·
          have hkl : k < s.size := by omega
          refine wp_skip ?_
          refine n_then ?_
          refine c_seq ?_
          refine wp_block ?_
          refine c_seq ?_
          refine c_region ?_
          refine L_op (s_e hS (e_move rfl) rfl ?_); clear hS a; intro a hS
          refine L_op (s_e hS (e_move rfl) rfl ?_); clear hS a; intro a hS
          refine L_op (s_e hS (e_ixS rfl rfl ty_u9 (by omega)) rfl ?_); clear hS a; intro a hS
          refine L_op (s_e hS (e_bin rfl rfl rfl) rfl ?_); clear hS a; intro a hS
          refine L_op (s_e hS (e_move rfl) rfl ?_); clear hS a; intro a hS
          refine L_merge 5 31 (.bool (decide (byteAt s.data.toList k < 33 ∨ 126 < byteAt s.data.toList k))) hS ?_ ?_
          · intro hcM31
            (first | refine g_splitD (t := 26) hS rfl ?_ ?_ | refine g_split (t := 26) hS rfl ?_ ?_) <;> (clear hS; intro hg26 hS)
            ·
              refine L_skip_f hS rfl rfl rfl ?_; clear hS a; intro a hS
              refine L_skip_f hS rfl rfl rfl ?_; clear hS a; intro a hS
              refine L_skip_f hS rfl rfl rfl ?_; clear hS a; intro a hS
              refine L_skip_f hS rfl rfl rfl ?_; clear hS a; intro a hS
              first | (refine L_op (s_e hS (e_pick_t rfl rfl) rfl ?_); clear hS a; intro a hS) | (refine L_op (s_e hS (e_pick_f rfl rfl) rfl ?_); clear hS a; intro a hS)
              exact hcM31 _ _ (hS.ends 6 31 26 rfl (congrArg Value.bool (by unfold byteAt; rw [Int.toNat_natCast] at hg26; exact (decide_eq_true (by omega)).symm)) rfl rfl (by first | exact congrArg Value.bool (decide_eq_true hg26).symm | exact congrArg Value.bool hg26.symm | simp [hg26]) rfl)
            ·
              refine L_go hS rfl rfl (s_e hS (e_move rfl) rfl ?_); clear hS a; intro a hS
              refine L_go hS rfl rfl (s_e hS (e_move rfl) rfl ?_); clear hS a; intro a hS
              refine L_go hS rfl rfl (s_e hS (e_ixS rfl rfl ty_u9 (by omega)) rfl ?_); clear hS a; intro a hS
              refine L_go hS rfl rfl (s_e hS (e_bin rfl rfl rfl) rfl ?_); clear hS a; intro a hS
              first | (refine L_op (s_e hS (e_pick_t rfl rfl) rfl ?_); clear hS a; intro a hS) | (refine L_op (s_e hS (e_pick_f rfl rfl) rfl ?_); clear hS a; intro a hS)
              exact hcM31 _ _ (hS.ends 6 31 26 rfl (congrArg Value.bool (by unfold byteAt; rw [Int.toNat_natCast] at *; exact decide_eq_decide.2 (by omega))) rfl rfl (by first | exact congrArg Value.bool (decide_eq_false hg26).symm | exact congrArg Value.bool hg26.symm | simp [hg26]) rfl)
          · clear hS a; (try clear w); intro a w hS
            simp only [List.drop_succ_cons, List.drop_zero]
            refine L_nil ?_
            refine n_then ?_
            first | refine c_ifD hS rfl (fun hc31 => ?_) (fun hc31 => ?_) | refine c_if hS rfl (fun hc31 => ?_) (fun hc31 => ?_)
            ·
              refine c_seq ?_
              refine c_region ?_
              refine L_op (s_e hS (e_assign rfl) rfl ?_); clear hS a; intro a hS
              refine L_nil ?_
              refine n_then ?_
              refine wp_ret ?_
              refine r_block (r_then (r_then (r_block (r_then ?_))))
              refine c_ret1 hS Tryz.results41 (.tmp rfl) ?_
              exact ⟨by rw [show pathB s = false from Bool.eq_false_iff.2 (fun h => by have := (path_iff.1 h).2.2.2 k hkl; omega)], hS.chg⟩
            ·
              refine wp_skip ?_
              refine n_block ?_
              refine n_then ?_
              refine c_region ?_
              refine L_op (s_e hS (e_move rfl) rfl ?_); clear hS a; intro a hS
              first | (refine L_op (s_e hS (e_binN rfl rfl rfl (by omega)) rfl ?_); clear hS a; intro a hS) | (refine L_op (s_e hS (e_bin rfl rfl rfl) rfl ?_); clear hS a; intro a hS)
              refine L_op (s_e hS (e_assign rfl) rfl ?_); clear hS a; intro a hS
              refine L_nil ?_
              exact ⟨k + 1, by omega, hS.slots (by repeat (first | exact trivial | refine ⟨rfl, ?_⟩)), by omega, fun j hj => by
              rcases Nat.lt_or_ge j k with h | h
              · exact hno j h
              obtain rfl : j = k := (by omega)
              omega⟩
        ·
          refine wp_exit ?_
          refine x_then (x_then (x_hit ?_))
          refine n_then ?_
          refine c_seq ?_
          refine c_region ?_
          refine L_op (s_e hS (e_assign rfl) rfl ?_); clear hS a; intro a hS
          refine L_nil ?_
          refine n_then ?_
          refine wp_ret ?_
          refine c_ret1 hS Tryz.results41 (.tmp rfl) ?_
          exact ⟨by rw [show pathB s = true from path_iff.2 ⟨by omega, by omega, by omega, fun j hj => hno j (by omega)⟩], hS.chg⟩
end Go.Proofs.YtjmkjkhcognoeaaGreatDoor

namespace Go.Proofs.YtjmkjkhcognoeaaGreatDoor
open Go.RowKit

/-! ### the bytes of a text, in memory of one's own -/
def bbφ (E b : Nat) (l : List Int) (w : World) : Prop := ∃ (sp : List Value) (N : Nat), w.heap[b]? = some (.cells (l.map (Value.int .u8) ++ sp).toArray E (N, N + 1)) ∧ l.length ≤ N
def bbA (E b : Nat) (l : List Int) : Asn := .any (fun k => k = b) (bbφ E b l) true
theorem bb_ok {E b : Nat} {l : List Int} {w : World} (h : bbφ E b l w) : (bbA E b l).ok w := by
  obtain ⟨sp, N, h1, h2⟩ := h
  exact ⟨fun k hk => by obtain rfl : k = b := hk; exact (Array.getElem?_eq_some_iff.1 h1).1, fun w' hw => ⟨sp, N, (hw b rfl).trans h1, h2⟩⟩
theorem bb_cell {E b : Nat} {l : List Int} {w : World} (h : bbφ E b l w) {i : Nat} {x : Int} (hx : l[i]? = some x) : w.cell? ⟨b, i, none⟩ = some (.int .u8 x) := by
  obtain ⟨sp, N, h1, h2⟩ := h
  have hi := (List.getElem?_eq_some_iff.1 hx).1
  unfold World.cell?
  rw [h1]
  simp only [List.getElem?_toArray]
  rw [List.getElem?_append_left (by rw [List.length_map]; exact hi), List.getElem?_map, hx]; rfl
theorem bb_by {E b c : Nat} {l : List Int} {w : World} (h : bbφ E b l w) (hc : l.length ≤ c) : ByAt (.slice (some ⟨b, 0, none⟩) l.length c) l w := by
  by_cases hl : l = []
  · subst hl; exact .inl ⟨rfl, _, _, rfl⟩
  · refine .inr ⟨b, 0, c, hl, rfl, hc, fun j x hj => by rw [Nat.zero_add]; exact bb_cell h hj, ?_⟩
    obtain ⟨sp, N, h1, _⟩ := h
    exact (Array.getElem?_eq_some_iff.1 h1).1
def bytesI (s : ByteArray) : List Int := s.data.toList.map fun b => (b.toNat : Int)
theorem bytesI_len (s : ByteArray) : (bytesI s).length = s.size := by unfold bytesI; simp
section
variable {P : Program} {n : NN} {F0 : Nat → Prop} {w0 w : World} {a : Act} {L : List (Nat × Value)} {Γ : List Asn}
variable {K : Act → World → Prop} {Q : Exit → Act → World → Prop} {d ty : Nat} {pos : String} {af : Array Edge} {g : Option (Nat × Bool)}
theorem s_toBytes {T T' E : Nat} {x : Operand} {s : ByteArray} {u : TypeDesc} (hS : St n F0 w0 a w L Γ) (hx : ev L x = some (.string s)) (hu : P.underlying T = some u) (hT : sliceT P T' = some E) (hE : P.underlying E = some (.int .u8)) (hn : Nat.blt d n.n = true)
    (h : ∀ b c a' w', (bytesI s).length ≤ c → St n F0 w0 a' w' ((d, .slice (some ⟨b, 0, none⟩) (bytesI s).length c) :: L) (bbA E b (bytesI s) :: Γ) → K a' w') : OW P ⟨some d, .convert T T' x, ty, pos, af, g⟩ a w K Q := by
  have hcv := Lib.run_convert_string_bytes (P := P) w T T' E s hu (sliceT_eq hT) hE
  have he : (execOp a.eval (⟨some d, .convert T T' x, ty, pos, af, g⟩ : Oper)).run P w = .ok (.value (.slice (some ⟨w.heap.size, 0, none⟩) s.size (grownCap w s.size 0 E))) (Lib.bytesWorld w E s) := by
    simp [execOp, hS.sl.ev hx, hcv]
  refine ⟨?_⟩
  unfold Oper.wp
  rw [he]
  have hcap : s.size ≤ grownCap w s.size 0 E := grownCap_ge w s.size 0 E
  have hcs : Lib.bytesCells w E s = ((bytesI s).map (Value.int .u8) ++ List.replicate (grownCap w s.size 0 E - s.size) (Value.int .u8 0)).toArray := by
    unfold Lib.bytesCells bytesI
    apply Array.ext'
    simp
  rw [← bytesI_len s]
  refine h w.heap.size _ _ _ (by rw [bytesI_len]; exact hcap) ((hS.fresh (Chg.of_below (Lib.bytesWorld_below w E s)) (bb_ok ⟨List.replicate (grownCap w s.size 0 E - s.size) (Value.int .u8 0), (Lib.bytesCells w E s).size, ?_, ?_⟩) (fun b hb => by have : b = w.heap.size := hb; omega)).put hn _)
  · rw [Lib.bytesWorld_at_new, ← hcs]
  · rw [hcs]; simp
theorem s_storeBB {T E b i : Nat} {x y : Operand} {z : Int} {l : List Int} {Γ' : List Asn} (hS : St n F0 w0 a w L Γ) (hx : ev L x = some (.pointer (some ⟨b, i, none⟩))) (hy : ev L y = some (.int .u8 z)) (hz : szOf P T = some 1) (hi : i < l.length)
    (hr : Rep (bbA E b l) (bbA E b (l.set i z)) Γ Γ') (h : ∀ w', St n F0 w0 a w' L Γ' → K a w') : OW P ⟨none, .store T x y, ty, pos, af, g⟩ a w K Q := by
  have hb : bbφ E b l w := hS.get hr.mem
  have hcell := bb_cell hb (List.getElem?_eq_getElem hi)
  obtain ⟨sp, N, h1, h2⟩ := hb
  have hfz : w.frozen? ⟨b, i, none⟩ = false := by
    unfold World.frozen?; rw [h1]; simp; omega
  have he : (execOp a.eval (⟨none, .store T x y, ty, pos, af, g⟩ : Oper)).run P w = .ok .skip (w.setCell ⟨b, i, none⟩ (.int .u8 z)) := by
    simp [execOp, hS.sl.ev hx, hS.sl.ev hy, Instr.storeAt, Instr.sureAddr, storeVar, sizeOf_run hz, storeCells, Value.cells, addr_add, run_store_int, hcell, hfz, stored]
  refine ⟨?_⟩
  unfold Oper.wp
  rw [he]
  refine h _ (hS.upd hr (Chg.setCell w ⟨b, i, none⟩ _) (bb_ok ⟨sp, N, ?_, by rw [List.length_set]; exact h2⟩) (fun i hi => .inl hi) rfl)
  unfold World.setCell
  simp [Array.getElem?_modify, h1, List.map_set, List.set_append_left _ _ (show i < (l.map (Value.int .u8)).length by rw [List.length_map]; exact hi)]
end
/-! ### small letters -/
def lowI (x : Int) : Int := if 65 ≤ x ∧ x ≤ 90 then x + 32 else x
def lowTo (l : List Int) (k : Nat) : List Int := (l.take k).map lowI ++ l.drop k
theorem lowTo_len (l : List Int) (k : Nat) : (lowTo l k).length = l.length := by unfold lowTo; simp; omega
theorem lowTo_at {l : List Int} {k : Nat} {x : Int} (hx : l[k]? = some x) : (lowTo l k)[k]? = some x := by
  have hk := (List.getElem?_eq_some_iff.1 hx).1
  unfold lowTo
  rw [List.getElem?_append_right (by simp; omega)]
  simp
  rw [Nat.min_eq_left (by omega), Nat.sub_self, Nat.add_zero, hx]
theorem lowTo_succ {l : List Int} {k : Nat} {x : Int} (hx : l[k]? = some x) : lowTo l (k + 1) = (lowTo l k).set k (lowI x) := by
  have hk := (List.getElem?_eq_some_iff.1 hx).1
  unfold lowTo
  rw [List.take_add_one, hx, List.set_append_right _ _ (by simp; omega), List.drop_eq_getElem_cons hk]
  simp
  rw [Nat.min_eq_left (by omega), Nat.sub_self, List.drop_eq_getElem_cons hk]; rfl
theorem lowTo_same {l : List Int} {k : Nat} {x : Int} (hx : l[k]? = some x) (h : lowI x = x) : lowTo l (k + 1) = lowTo l k := by
  have hk := (List.getElem?_eq_some_iff.1 hx).1
  unfold lowTo
  rw [List.take_add_one, hx, List.drop_eq_getElem_cons hk, (List.getElem?_eq_some_iff.1 hx).2]
  simp [h]
theorem low_text (s : ByteArray) : strOfNums ((bytesI s).map lowI) = tx (Lib.toLowerA s.data.toList) := by
  unfold strOfNums tx Lib.toLowerA bytesI
  congr 1
  congr 1
  rw [List.map_map, List.map_map]
  refine List.map_congr_left fun b _ => ?_
  simp only [Function.comp]
  apply UInt8.toNat_inj.1
  unfold lowI Lib.lowerB Lib.isUpperB
  have hb := b.toNat_lt
  by_cases h : 65 ≤ b.toNat ∧ b.toNat ≤ 90
  · have h1 : (65 ≤ b && b ≤ 90) = true := by
      rw [Bool.and_eq_true, decide_eq_true_eq, decide_eq_true_eq]
      exact ⟨UInt8.le_iff_toNat_le.2 (by simpa using h.1), UInt8.le_iff_toNat_le.2 (by simpa using h.2)⟩
    rw [if_pos (by omega), if_pos h1, UInt8.toNat_ofNat', UInt8.toNat_add]
    simp
    omega
  · have h1 : ¬ (65 ≤ b && b ≤ 90) = true := by
      rw [Bool.and_eq_true, decide_eq_true_eq, decide_eq_true_eq]
      rintro ⟨h2, h3⟩
      have h2 := UInt8.le_iff_toNat_le.1 h2
      have h3 := UInt8.le_iff_toNat_le.1 h3
      simp at h2 h3
      exact h ⟨h2, h3⟩
    rw [if_neg (by omega), if_neg h1, UInt8.toNat_ofNat']
    simp
theorem bytesI_bd {s : ByteArray} {i : Nat} {x : Int} (h : (bytesI s)[i]? = some x) : 0 ≤ x ∧ x ≤ 255 := by
  unfold bytesI at h
  rw [List.getElem?_map, Option.map_eq_some_iff] at h
  obtain ⟨b, _, rfl⟩ := h
  have := b.toNat_lt
  omega
set_option maxRecDepth 100000 in
theorem ySmall_P (s : ByteArray) (hs : s.size ≤ 1000000) (w0 : World) : PureC Tryz.prog 26 [.string s] w0 (.string (tx (Lib.toLowerA s.data.toList))) := by
  have hl := bytesI_len s
  obtain ⟨l, hle⟩ : ∃ l, bytesI s = l := ⟨_, rfl⟩
  refine c_enter [(0, .string s)] [] noB Tryz.func26 rfl Tryz.ntmps26 ⟨rfl, trivial⟩ rfl (by simp) (by simp) (by simp) ?_
  intro a hS
  refine c_seq ?_
  refine c_region ?_
  refine L_op (s_e hS (e_assign rfl) rfl ?_); clear hS a; intro a hS
  refine L_nil ?_
  refine n_then ?_
  refine c_seq ?_
  refine c_region ?_
  refine L_op (s_e hS (e_move rfl) rfl ?_); clear hS a; intro a hS
  refine L_op (s_toBytes hS rfl ty_u9 ty_sl22 ty_u5 rfl ?_); clear hS a; (try clear w); intro b6 c6 a w hc6 hS
  rw [hle] at hS hc6 hl
  refine L_op (s_e hS (e_assign rfl) rfl ?_); clear hS a; intro a hS
  refine L_nil ?_
  refine n_then ?_
  refine c_seq ?_
  refine c_seq ?_
  refine c_region ?_
  refine L_op (s_e hS (e_assign rfl) rfl ?_); clear hS a; intro a hS
  refine L_nil ?_
  refine n_then ?_
  refine wp_block ?_
  skip
  refine c_loop (γ := Nat) (fun k a w => St 35 noB w0 a w [(4, .int .i64 (k : Int)), (3, .slice (some ⟨b6, 0, none⟩) l.length c6)] [bbA 5 b6 (lowTo l k)] ∧ k ≤ l.length) (fun k => l.length - k) 0 ⟨hS.slots (by repeat (first | exact trivial | refine ⟨rfl, ?_⟩)), Nat.zero_le _⟩ ?_
  clear hS a; (try clear w); intro k a w hI
  obtain ⟨hS, hk⟩ := hI
  refine c_seq ?_
  refine c_seq ?_
  refine c_region ?_
  refine L_op (s_e hS (e_move rfl) rfl ?_); clear hS a; intro a hS
  refine L_op (s_e hS (e_move rfl) rfl ?_); clear hS a; intro a hS
  refine L_op (s_e hS (e_len rfl rfl ty_sl22) rfl ?_); clear hS a; intro a hS
  refine L_op (s_e hS (e_bin rfl rfl rfl) rfl ?_); clear hS a; intro a hS
  refine L_nil ?_
  refine n_then ?_
  first | refine c_ifD hS rfl (fun hc10 => ?_) (fun hc10 => ?_) | refine c_if hS rfl (fun hc10 => ?_) (fun hc10 => ?_)
  ·
    have hkl : k < l.length := by omega
    obtain ⟨x, hx⟩ : ∃ x, l[k]? = some x := ⟨l[k], by simp⟩
    have hbx := bytesI_bd (s := s) (i := k) (x := x) (by rw [hle]; exact hx)
    have hlx := lowTo_at hx
    refine wp_skip ?_
    refine n_then ?_
    refine c_seq ?_
    refine wp_block ?_
    refine c_seq ?_
    refine c_region ?_
    refine L_op (s_e hS (e_move rfl) rfl ?_); clear hS a; intro a hS
    refine L_op (s_e hS (e_move rfl) rfl ?_); clear hS a; intro a hS
    refine L_op (s_e hS (e_ixN rfl rfl ty_sl22 ty_sz5 (by omega)) rfl ?_); clear hS a; intro a hS
    refine L_op (s_e hS (e_loadC rfl ty_sc5 (fun w hh => by rw [Nat.mul_one, Nat.zero_add]; exact bb_cell (hh (bbA 5 b6 (lowTo l k)) (by repeat constructor)) hlx)) rfl ?_); clear hS a; intro a hS
    refine L_op (s_e hS (e_bin rfl rfl rfl) rfl ?_); clear hS a; intro a hS
    refine L_op (s_e hS (e_move rfl) rfl ?_); clear hS a; intro a hS
    refine L_merge 6 24 (.bool (decide (65 ≤ x ∧ x ≤ 90))) hS ?_ ?_
    · intro hcM24
      (first | refine g_splitD (t := 18) hS rfl ?_ ?_ | refine g_split (t := 18) hS rfl ?_ ?_) <;> (clear hS; intro hg18 hS)
      ·
        refine L_go hS rfl rfl (s_e hS (e_move rfl) rfl ?_); clear hS a; intro a hS
        refine L_go hS rfl rfl (s_e hS (e_move rfl) rfl ?_); clear hS a; intro a hS
        refine L_go hS rfl rfl (s_e hS (e_ixN rfl rfl ty_sl22 ty_sz5 (by omega)) rfl ?_); clear hS a; intro a hS
        refine L_go hS rfl rfl (s_e hS (e_loadC rfl ty_sc5 (fun w hh => by rw [Nat.mul_one, Nat.zero_add]; exact bb_cell (hh (bbA 5 b6 (lowTo l k)) (by repeat constructor)) hlx)) rfl ?_); clear hS a; intro a hS
        refine L_go hS rfl rfl (s_e hS (e_bin rfl rfl rfl) rfl ?_); clear hS a; intro a hS
        first | (refine L_op (s_e hS (e_pick_t rfl rfl) rfl ?_); clear hS a; intro a hS) | (refine L_op (s_e hS (e_pick_f rfl rfl) rfl ?_); clear hS a; intro a hS)
        exact hcM24 _ _ (hS.ends 7 24 18 rfl (congrArg Value.bool (by first | rfl | (simp [hg18]; done) | (simp [hg18]; omega) | grind)) rfl rfl (by first | exact congrArg Value.bool (decide_eq_true hg18).symm | exact congrArg Value.bool hg18.symm | simp [hg18]) rfl)
      ·
        refine L_skip_t hS rfl rfl rfl ?_; clear hS a; intro a hS
        refine L_skip_t hS rfl rfl rfl ?_; clear hS a; intro a hS
        refine L_skip_t hS rfl rfl rfl ?_; clear hS a; intro a hS
        refine L_skip_t hS rfl rfl rfl ?_; clear hS a; intro a hS
        refine L_skip_t hS rfl rfl rfl ?_; clear hS a; intro a hS
        first | (refine L_op (s_e hS (e_pick_t rfl rfl) rfl ?_); clear hS a; intro a hS) | (refine L_op (s_e hS (e_pick_f rfl rfl) rfl ?_); clear hS a; intro a hS)
        exact hcM24 _ _ (hS.ends 7 24 18 rfl (congrArg Value.bool (by first | rfl | (simp [hg18]; done) | (simp [hg18]; omega) | grind)) rfl rfl (by first | exact congrArg Value.bool (decide_eq_false hg18).symm | exact congrArg Value.bool hg18.symm | simp [hg18]) rfl)
    · clear hS a; (try clear w); intro a w hS
      simp only [List.drop_succ_cons, List.drop_zero]
      refine L_nil ?_
      refine n_then ?_
      first | refine c_ifD hS rfl (fun hc24 => ?_) (fun hc24 => ?_) | refine c_if hS rfl (fun hc24 => ?_) (fun hc24 => ?_)
      ·
        refine c_region ?_
        refine L_op (s_e hS (e_move rfl) rfl ?_); clear hS a; intro a hS
        refine L_op (s_e hS (e_move rfl) rfl ?_); clear hS a; intro a hS
        refine L_op (s_e hS (e_move rfl) rfl ?_); clear hS a; intro a hS
        refine L_op (s_e hS (e_move rfl) rfl ?_); clear hS a; intro a hS
        refine L_op (s_e hS (e_ixN rfl rfl ty_sl22 ty_sz5 (by omega)) rfl ?_); clear hS a; intro a hS
        refine L_op (s_e hS (e_loadC rfl ty_sc5 (fun w hh => by rw [Nat.mul_one, Nat.zero_add]; exact bb_cell (hh (bbA 5 b6 (lowTo l k)) (by repeat constructor)) hlx)) rfl ?_); clear hS a; intro a hS
        first | (refine L_op (s_e hS (e_binN rfl rfl rfl (by omega)) rfl ?_); clear hS a; intro a hS) | (refine L_op (s_e hS (e_bin rfl rfl rfl) rfl ?_); clear hS a; intro a hS)
        rw [show IntKind.u8.wrap (x + 32) = x + 32 from wrap_byte (by omega)] at hS
        refine L_op (s_e hS (e_ixN rfl rfl ty_sl22 ty_sz5 (by omega)) rfl ?_); clear hS a; intro a hS
        rw [Nat.mul_one, Nat.zero_add] at hS
        refine L_op (s_storeBB (E := 5) (l := lowTo l k) hS rfl rfl ty_sz5 (by rw [lowTo_len]; exact hkl) (by repeat constructor) ?_); clear hS; (try clear w); intro w hS
        rw [show x + 32 = lowI x by unfold lowI; rw [if_pos hc24], ← lowTo_succ hx] at hS
        refine L_nil ?_
        refine n_block ?_
        refine n_then ?_
        refine c_region ?_
        refine L_op (s_e hS (e_move rfl) rfl ?_); clear hS a; intro a hS
        first | (refine L_op (s_e hS (e_binN rfl rfl rfl (by omega)) rfl ?_); clear hS a; intro a hS) | (refine L_op (s_e hS (e_bin rfl rfl rfl) rfl ?_); clear hS a; intro a hS)
        refine L_op (s_e hS (e_assign rfl) rfl ?_); clear hS a; intro a hS
        refine L_nil ?_
        first
        | exact ⟨k + 1, by omega, hS.slots (by repeat (first | exact trivial | refine ⟨rfl, ?_⟩)), hkl⟩
        | exact ⟨k + 1, by omega, by rw [lowTo_same hx (by unfold lowI; rw [if_neg hc24])]; exact hS.slots (by repeat (first | exact trivial | refine ⟨rfl, ?_⟩)), hkl⟩
      ·
        refine wp_skip ?_
        refine n_block ?_
        refine n_then ?_
        refine c_region ?_
        refine L_op (s_e hS (e_move rfl) rfl ?_); clear hS a; intro a hS
        first | (refine L_op (s_e hS (e_binN rfl rfl rfl (by omega)) rfl ?_); clear hS a; intro a hS) | (refine L_op (s_e hS (e_bin rfl rfl rfl) rfl ?_); clear hS a; intro a hS)
        refine L_op (s_e hS (e_assign rfl) rfl ?_); clear hS a; intro a hS
        refine L_nil ?_
        first
        | exact ⟨k + 1, by omega, hS.slots (by repeat (first | exact trivial | refine ⟨rfl, ?_⟩)), hkl⟩
        | exact ⟨k + 1, by omega, by rw [lowTo_same hx (by unfold lowI; rw [if_neg hc24])]; exact hS.slots (by repeat (first | exact trivial | refine ⟨rfl, ?_⟩)), hkl⟩
  ·
    obtain rfl : k = l.length := by omega
    rw [show lowTo l l.length = l.map lowI by unfold lowTo; simp] at hS
    refine wp_exit ?_
    refine x_then (x_then (x_hit ?_))
    refine n_then ?_
    refine c_seq ?_
    refine c_region ?_
    refine L_op (s_e hS (e_move rfl) rfl ?_); clear hS a; intro a hS
    refine L_op (s_e hS (e_str (l := l.map lowI) rfl ty_sl22 ty_u5 ty_u9 (fun w hh => by have := bb_by (c := c6) (hh (bbA 5 b6 (l.map lowI)) (by repeat constructor)) (by rw [List.length_map]; exact hc6); rw [List.length_map] at this; exact this)) rfl ?_); clear hS a; intro a hS
    refine L_op (s_e hS (e_assign rfl) rfl ?_); clear hS a; intro a hS
    refine L_nil ?_
    refine n_then ?_
    refine wp_ret ?_
    refine c_ret1 hS Tryz.results26 (.tmp rfl) ?_
    exact ⟨by rw [← hle, low_text], hS.chg⟩
end Go.Proofs.YtjmkjkhcognoeaaGreatDoor

namespace Go.Proofs.YtjmkjkhcognoeaaGreatDoor
open Go.RowKit
variable {P : Program} {n : NN} {F0 : Nat → Prop} {w0 w : World} {a : Act} {L : List (Nat × Value)} {Γ : List Asn} {dst : Option Nat}
variable {ty : Nat} {pos : String} {af : Array Edge} {g : Option (Nat × Bool)} {K : Act → World → Prop} {Q : Exit → Act → World → Prop} {d : Nat}

end Go.Proofs.YtjmkjkhcognoeaaGreatDoor

namespace Go.Proofs.YtjmkjkhcognoeaaGreatDoor
open Go.RowKit
variable {Γ : List Asn}

theorem own_get {α : Type} {enc : α → List Value} {s E g c m : Nat} {xs : List α} (hl : ∀ x, (enc x).length = s) (hm : ownA E s (.slice (some ⟨g, 0, none⟩) m c) m (xs.flatMap enc) ∈ Γ) {i : Nat} {x : α} (hx : xs[i]? = some x) : ∀ w, Hd Γ w → ∀ j v, (enc x)[j]? = some v → w.cell? ⟨g, 0 + i * s + j, none⟩ = some v := by
  intro w hh j v hj
  have h : w.ownsRow 0 E s (.slice (some ⟨g, 0, none⟩) m c) m (xs.flatMap enc) := hh _ hm
  have h1 := flat_get enc s hl xs i x hx j v hj
  have h2 := World.ownsRow.cells h (g := g) rfl _ _ h1
  rw [addr_add] at h2
  rw [← h2]; congr 2; omega
end Go.Proofs.YtjmkjkhcognoeaaGreatDoor

namespace Go.Proofs.YtjmkjkhcognoeaaGreatDoor
open Go.RowKit
instance (s : ByteArray) (l : List ByteArray) : Decidable (s ∈ l) := decidable_of_iff (l.any (fun y => decide (s = y)) = true) (by simp)

set_option maxRecDepth 100000 in
theorem Has_P (v : Value) (l : List ByteArray) (s : ByteArray) (hl : l.length ≤ 4611686018427387904) (w0 : World) (h : NmAt v l w0) : PureC Tryz.prog 17 [v, .string s] w0 (.bool (decide (s ∈ l))) := by
   obtain ⟨q, c, rfl⟩ := h.shape
   refine c_enter [(0, .slice q l.length c), (1, .string s)] [nmA (.slice q l.length c) l] noB Tryz.func17 rfl Tryz.ntmps17 ⟨rfl, rfl, trivial⟩ rfl (okC (nm_ok h) okN) dis1 (mineC (by rfl) mineN) ?_
   intro a hS
   refine c_seq ?_
   refine c_region ?_
   refine L_op (s_e hS (e_assign rfl) rfl ?_); clear hS a; intro a hS
   refine L_nil ?_
   refine n_then ?_
   refine c_seq ?_
   refine c_seq ?_
   refine c_region ?_
   refine L_op (s_e hS (e_assign rfl) rfl ?_); clear hS a; intro a hS
   refine L_nil ?_
   refine n_then ?_
   refine wp_block ?_
   skip
   refine c_loop (γ := Nat) (fun k a w => St 18 noB w0 a w [(5, .int .i64 (k : Int)), (0, .slice q l.length c), (1, .string s)] [nmA (.slice q l.length c) l] ∧ k ≤ l.length ∧ ∀ j, j < k → ∀ x, l[j]? = some x → x ≠ s) (fun k => l.length - k) 0 ⟨hS.slots (by repeat (first | exact trivial | refine ⟨rfl, ?_⟩)), Nat.zero_le _, fun j hj => by omega⟩ ?_
   clear hS a; (try clear w); intro k a w hI
   obtain ⟨hS, hk, hno⟩ := hI
   refine c_seq ?_
   refine c_seq ?_
   refine c_region ?_
   refine L_op (s_e hS (e_move rfl) rfl ?_); clear hS a; intro a hS
   refine L_op (s_e hS (e_move rfl) rfl ?_); clear hS a; intro a hS
   refine L_op (s_e hS (e_len rfl rfl ty_sl45) rfl ?_); clear hS a; intro a hS
   refine L_op (s_e hS (e_bin rfl rfl rfl) rfl ?_); clear hS a; intro a hS
   refine L_nil ?_
   refine n_then ?_
   first | refine c_ifD hS rfl (fun hc9 => ?_) (fun hc9 => ?_) | refine c_if hS rfl (fun hc9 => ?_) (fun hc9 => ?_)
   ·
     have hkl : k < l.length := by omega
     obtain ⟨x, hx⟩ : ∃ x, l[k]? = some x := ⟨l[k], by simp⟩
     obtain ⟨ba, oa, ca', e1, _⟩ := h.some (fun e => by rw [e] at hkl; exact absurd hkl (Nat.not_lt_zero _))
     injection e1 with e2 _ e3
     subst e2; subst e3
     refine wp_skip ?_
     refine n_then ?_
     refine c_seq ?_
     refine wp_block ?_
     refine c_seq ?_
     refine c_region ?_
     refine L_op (s_e hS (e_move rfl) rfl ?_); clear hS a; intro a hS
     refine L_op (s_e hS (e_move rfl) rfl ?_); clear hS a; intro a hS
     refine L_op (s_e hS (e_ixN rfl rfl ty_sl45 ty_sz9 (by omega)) rfl ?_); clear hS a; intro a hS
     refine L_op (s_e hS (e_loadC rfl ty_sc9 (fun w hh => by
 obtain ⟨b2, o2, c2, e4, hr⟩ := NmAt.some (hh (nmA _ l) (by repeat constructor)) (fun e => by rw [e] at hkl; exact absurd hkl (Nat.not_lt_zero _))
 injection e4 with e5; injection e5 with e6; injection e6 with e7 e8; subst e7; subst e8
 exact nm_cell hr hx)) rfl ?_); clear hS a; intro a hS
     refine L_op (s_e hS (e_move rfl) rfl ?_); clear hS a; intro a hS
     refine L_op (s_e hS (e_binS rfl rfl rfl) rfl ?_); clear hS a; intro a hS
     refine L_nil ?_
     refine n_then ?_
     first | refine c_ifD hS rfl (fun hc17 => ?_) (fun hc17 => ?_) | refine c_if hS rfl (fun hc17 => ?_) (fun hc17 => ?_)
     ·
       refine c_seq ?_
       refine c_region ?_
       refine L_op (s_e hS (e_assign rfl) rfl ?_); clear hS a; intro a hS
       refine L_nil ?_
       refine n_then ?_
       refine wp_ret ?_
       refine r_block (r_then (r_then (r_block (r_then ?_))))
       refine c_ret1 hS Tryz.results17 (.tmp rfl) ?_
       have : s ∈ l := hc17 ▸ List.mem_of_getElem? hx
       exact ⟨by rw [decide_eq_true this], hS.chg⟩
     ·
       refine wp_skip ?_
       refine n_block ?_
       refine n_then ?_
       refine c_region ?_
       refine L_op (s_e hS (e_move rfl) rfl ?_); clear hS a; intro a hS
       first | (refine L_op (s_e hS (e_binN rfl rfl rfl (by omega)) rfl ?_); clear hS a; intro a hS) | (refine L_op (s_e hS (e_bin rfl rfl rfl) rfl ?_); clear hS a; intro a hS)
       refine L_op (s_e hS (e_assign rfl) rfl ?_); clear hS a; intro a hS
       refine L_nil ?_
       exact ⟨k + 1, by omega, hS.slots (by repeat (first | exact trivial | refine ⟨rfl, ?_⟩)), by omega, fun j hj z hz => by
         rcases Nat.lt_or_ge j k with h | h
         · exact hno j h z hz
         obtain rfl : j = k := (by omega); rw [hx] at hz; cases hz; exact hc17⟩
   ·
     refine wp_exit ?_
     refine x_then (x_then (x_hit ?_))
     refine n_then ?_
     refine c_seq ?_
     refine c_region ?_
     refine L_op (s_e hS (e_assign rfl) rfl ?_); clear hS a; intro a hS
     refine L_nil ?_
     refine n_then ?_
     refine wp_ret ?_
     refine c_ret1 hS Tryz.results17 (.tmp rfl) ?_
     have : ¬ s ∈ l := fun h4 => by
       obtain ⟨j, hj⟩ := List.mem_iff_getElem?.1 h4
       exact hno j (by have := (List.getElem?_eq_some_iff.1 hj).1; omega) s hj rfl
     exact ⟨by rw [decide_eq_false this], hS.chg⟩

theorem own_at {w : World} {E s m c : Nat} {q : Option Addr} {xs : List Value} (h : w.ownsRow 0 E s (.slice q m c) m xs) (hm : m ≠ 0) : ∃ g, q = some ⟨g, 0, none⟩ := by
  rcases h.2 with ⟨_, e2⟩ | ⟨g, cap, cur, e1, _⟩
  · exact absurd e2 hm
  · injection e1 with e3; exact ⟨g, e3⟩
/-- a ticket that is held. -/
structure KT where
  t : Int
  names : List ByteArray
  nv : Value
  alone : Bool
/-- what is held is the same here and there. -/
def sameK (hs : List HE) (l : List KT) : Prop := hs.map (fun e => (e.t, e.names, e.alone)) = l.map (fun e => (e.t, e.names, e.alone))
theorem sameK.len {hs : List HE} {l : List KT} (h : sameK hs l) : hs.length = l.length := by simpa using congrArg List.length h
theorem sameK.add {D : LK} {l : List KT} (h : sameK D.hs l) (nm : List ByteArray) (al : Bool) (v nv : Value) : sameK (D.add nm al v).hs (l ++ [⟨D.given + 1, nm, nv, al⟩]) := by
  unfold sameK LK.add at *
  rw [List.map_append, List.map_append, h]; rfl
theorem sameK.drop {D : LK} {l : List KT} (h : sameK D.hs l) (t : Int) (ch : Nat) : sameK (D.drop t ch).hs (l.filter fun e => decide (e.t ≠ t)) := by
  unfold sameK LK.drop at *
  have e1 : (D.hs.filter fun e => decide (e.t ≠ t)).map (fun e => (e.t, e.names, e.alone)) = (D.hs.map fun e => (e.t, e.names, e.alone)).filter (fun q => decide (q.1 ≠ t)) := by rw [List.filter_map]; rfl
  have e2 : (l.filter fun e => decide (e.t ≠ t)).map (fun e => (e.t, e.names, e.alone)) = (l.map fun e => (e.t, e.names, e.alone)).filter (fun q => decide (q.1 ≠ t)) := by rw [List.filter_map]; rfl
  rw [e1, e2, h]
end Go.Proofs.YtjmkjkhcognoeaaGreatDoor

namespace Go.Proofs.YtjmkjkhcognoeaaGreatDoor
open Go.RowKit

theorem ext_list (s : ByteArray) (i j : Nat) : (s.extract i j).data.toList = (s.data.toList.drop i).take (j - i) := by
  simp only [ByteArray.data_extract, Array.toList_extract, List.extract_eq_take_drop]
theorem drop_word {l : List UInt8} {f k : Nat} (hk : k < l.length) (hf : f ≤ k) (hc : l[k]? = some 32) : l.drop f = (l.drop f).take (k - f) ++ 32 :: l.drop (k + 1) := by
  conv => lhs; rw [← List.take_append_drop (k - f) (l.drop f)]
  rw [List.drop_drop, show f + (k - f) = k by omega, List.drop_eq_getElem_cons hk, (List.getElem?_eq_some_iff.1 hc).2]
theorem word_no {l : List UInt8} {f k : Nat} (h : ∀ j, f ≤ j → j < k → l[j]? ≠ some 32) : ∀ x ∈ (l.drop f).take (k - f), x ≠ 32 := fun x hx e => by
  subst e
  obtain ⟨j, hj⟩ := List.mem_iff_getElem?.1 hx
  rw [List.getElem?_take] at hj
  split at hj
  · rw [List.getElem?_drop] at hj
    exact h (f + j) (by omega) (by omega) hj
  · cases hj
set_option maxRecDepth 100000 in
theorem xCut_P (s : ByteArray) (hs : s.size ≤ 1000000) (w0 : World) : NewC Tryz.prog 40 [.string s, .int .u8 32] w0 (fun v : Value => v) (fun v => ownA 9 1 v (wordsB 32 s).length ((wordsB 32 s).flatMap encN)) := by
  have hl := size_list s
  obtain ⟨l, hle⟩ : ∃ l, s.data.toList = l := ⟨_, rfl⟩
  rw [hle] at hl
  have hat : ∀ j, s.data.toList.getD j 0 = l.getD j 0 := fun j => by rw [hle]
  refine c_enter [(0, .string s), (1, .int .u8 32)] [] noB Tryz.func40 rfl Tryz.ntmps40 ⟨rfl, rfl, trivial⟩ rfl (by simp) (by simp) (by simp) ?_
  intro a hS
  refine c_seq ?_
  refine c_region ?_
  refine L_op (s_e hS (e_assign rfl) rfl ?_); clear hS a; intro a hS
  refine L_nil ?_
  refine n_then ?_
  refine c_seq ?_
  refine c_region ?_
  refine L_op (s_e hS (e_assign rfl) rfl ?_); clear hS a; intro a hS
  refine L_nil ?_
  refine n_then ?_
  refine c_seq ?_
  refine c_region ?_
  refine L_op (s_e hS (e_assign rfl) rfl ?_); clear hS a; intro a hS
  refine L_nil ?_
  refine n_then ?_
  refine c_seq ?_
  refine c_seq ?_
  refine c_region ?_
  refine L_op (s_e hS (e_assign rfl) rfl ?_); clear hS a; intro a hS
  refine L_nil ?_
  refine n_then ?_
  refine wp_block ?_
  skip
  refine c_loop (γ := (Nat × Nat × List ByteArray × Value)) (fun G a w => St 35 noB w0 a w [(7, .int .i64 (G.1 : Int)), (6, .int .i64 (G.2.1 : Int)), (5, G.2.2.2), (0, .string s), (1, .int .u8 32)] [ownA 9 1 G.2.2.2 G.2.2.1.length (G.2.2.1.flatMap encN)] ∧ G.1 ≤ s.size + 1 ∧ G.2.2.1.length ≤ G.1 ∧ (G.1 ≤ s.size → G.2.1 ≤ G.1 ∧ wordsL 32 l = G.2.2.1.map (·.data.toList) ++ wordsL 32 (l.drop G.2.1) ∧ ∀ j, G.2.1 ≤ j → j < G.1 → l[j]? ≠ some 32) ∧ (s.size < G.1 → wordsL 32 l = G.2.2.1.map (·.data.toList))) (fun G => s.size + 1 - G.1) (0, 0, [], .slice none 0 0) ⟨(hS.own_nil 9 1).slots (by repeat (first | exact trivial | refine ⟨rfl, ?_⟩)), Nat.zero_le _, Nat.le_refl _, fun _ => ⟨Nat.le_refl _, rfl, fun j _ hj => by omega⟩, fun h => absurd h (Nat.not_lt_zero _)⟩ ?_
  clear hS a; (try clear w); intro G a w hI
  obtain ⟨k, f, o, vo⟩ := G
  obtain ⟨hS, hk, hok, hA, hB⟩ := hI
  simp only at hS hk hok hA hB
  refine c_seq ?_
  refine c_seq ?_
  refine c_region ?_
  refine L_op (s_e hS (e_move rfl) rfl ?_); clear hS a; intro a hS
  refine L_op (s_e hS (e_move rfl) rfl ?_); clear hS a; intro a hS
  refine L_op (s_e hS (e_lenS rfl rfl ty_u9) rfl ?_); clear hS a; intro a hS
  refine L_op (s_e hS (e_bin rfl rfl rfl) rfl ?_); clear hS a; intro a hS
  refine L_nil ?_
  refine n_then ?_
  first | refine c_ifD hS rfl (fun hc11 => ?_) (fun hc11 => ?_) | refine c_if hS rfl (fun hc11 => ?_) (fun hc11 => ?_)
  ·
    have hks : k ≤ s.size := by omega
    obtain ⟨hfk, hw, hno⟩ := hA hks
    refine wp_skip ?_
    refine n_then ?_
    refine c_seq ?_
    refine wp_block ?_
    refine c_seq ?_
    refine c_region ?_
    refine L_op (s_e hS (e_move rfl) rfl ?_); clear hS a; intro a hS
    refine L_op (s_e hS (e_move rfl) rfl ?_); clear hS a; intro a hS
    refine L_op (s_e hS (e_lenS rfl rfl ty_u9) rfl ?_); clear hS a; intro a hS
    refine L_op (s_e hS (e_bin rfl rfl rfl) rfl ?_); clear hS a; intro a hS
    refine L_op (s_e hS (e_move rfl) rfl ?_); clear hS a; intro a hS
    refine L_merge 6 24 (.bool (decide (k = s.size ∨ l[k]? = some 32))) hS ?_ ?_
    · intro hcM24
      (first | refine g_splitD (t := 18) hS rfl ?_ ?_ | refine g_split (t := 18) hS rfl ?_ ?_) <;> (clear hS; intro hg18 hS)
      ·
        refine L_skip_f hS rfl rfl rfl ?_; clear hS a; intro a hS
        refine L_skip_f hS rfl rfl rfl ?_; clear hS a; intro a hS
        refine L_skip_f hS rfl rfl rfl ?_; clear hS a; intro a hS
        refine L_skip_f hS rfl rfl rfl ?_; clear hS a; intro a hS
        refine L_skip_f hS rfl rfl rfl ?_; clear hS a; intro a hS
        first | (refine L_op (s_e hS (e_pick_t rfl rfl) rfl ?_); clear hS a; intro a hS) | (refine L_op (s_e hS (e_pick_f rfl rfl) rfl ?_); clear hS a; intro a hS)
        exact hcM24 _ _ (hS.ends 7 24 18 rfl (congrArg Value.bool (by exact (decide_eq_true (.inl (by omega))).symm)) rfl rfl (by first | exact congrArg Value.bool (decide_eq_true hg18).symm | exact congrArg Value.bool hg18.symm | simp [hg18]) rfl)
      ·
        have hkl : k < s.size := by omega
        refine L_go hS rfl rfl (s_e hS (e_move rfl) rfl ?_); clear hS a; intro a hS
        refine L_go hS rfl rfl (s_e hS (e_move rfl) rfl ?_); clear hS a; intro a hS
        refine L_go hS rfl rfl (s_e hS (e_ixS rfl rfl ty_u9 (by omega)) rfl ?_); clear hS a; intro a hS
        refine L_go hS rfl rfl (s_e hS (e_move rfl) rfl ?_); clear hS a; intro a hS
        refine L_go hS rfl rfl (s_e hS (e_bin rfl rfl rfl) rfl ?_); clear hS a; intro a hS
        first | (refine L_op (s_e hS (e_pick_t rfl rfl) rfl ?_); clear hS a; intro a hS) | (refine L_op (s_e hS (e_pick_f rfl rfl) rfl ?_); clear hS a; intro a hS)
        exact hcM24 _ _ (hS.ends 7 24 18 rfl (congrArg Value.bool (by have e := List.getElem?_eq_getElem (l := l) (i := k) (by omega); exact decide_eq_decide.2 ⟨fun h => .inr (by rw [Int.toNat_natCast, hat, List.getD_eq_getElem?_getD, e] at h; rw [e]; congr 1; apply UInt8.toNat_inj.1; simp only [Option.getD_some] at h; show _ = 32; omega), fun h => by rw [Int.toNat_natCast, hat, List.getD_eq_getElem?_getD, h.resolve_left (by omega)]; rfl⟩)) rfl rfl (by first | exact congrArg Value.bool (decide_eq_false hg18).symm | exact congrArg Value.bool hg18.symm | simp [hg18]) rfl)
    · clear hS a; (try clear w); intro a w hS
      simp only [List.drop_succ_cons, List.drop_zero]
      refine L_nil ?_
      refine n_then ?_
      first | refine c_ifD hS rfl (fun hc24 => ?_) (fun hc24 => ?_) | refine c_if hS rfl (fun hc24 => ?_) (fun hc24 => ?_)
      ·
        refine c_seq ?_
        refine c_region ?_
        refine L_op (s_e hS (e_move rfl) rfl ?_); clear hS a; intro a hS
        refine L_op (s_e hS (e_move rfl) rfl ?_); clear hS a; intro a hS
        refine L_op (s_e hS (e_move rfl) rfl ?_); clear hS a; intro a hS
        refine L_op (s_e hS (e_move rfl) rfl ?_); clear hS a; intro a hS
        refine L_op (s_e hS (e_slS (i := (f : Int)) (j := (k : Int)) rfl rfl rfl ty_u9 (by omega)) rfl ?_); clear hS a; intro a hS
        rw [Int.toNat_natCast, Int.toNat_natCast] at hS
        have hxl := ext_list s f k
        rw [hle] at hxl
        refine L_op (s_bslice hS ty_sl45 ty_sz9 ty_z9 rfl rfl rfl rfl (.one rfl rfl rfl .nil) rfl ?_); clear hS a; (try clear w); intro a w b30 hS
        refine L_op (s_append1 hS rfl rfl ty_sl45 ty_sz9 ty_by9 ty_z9 rfl rfl rfl (by repeat constructor) (by repeat constructor) (by rfl) (by rfl) (fun _ => (by repeat constructor)) (by omega) ?_); clear hS a; (try clear w); intro v31 a w hv31 hS
        refine L_op (s_e hS (e_assign rfl) rfl ?_); clear hS a; intro a hS
        refine L_nil ?_
        refine n_then ?_
        refine c_region ?_
        refine L_op (s_e hS (e_move rfl) rfl ?_); clear hS a; intro a hS
        first | (refine L_op (s_e hS (e_binN rfl rfl rfl (by omega)) rfl ?_); clear hS a; intro a hS) | (refine L_op (s_e hS (e_bin rfl rfl rfl) rfl ?_); clear hS a; intro a hS)
        refine L_op (s_e hS (e_assign rfl) rfl ?_); clear hS a; intro a hS
        refine L_nil ?_
        refine n_block ?_
        refine n_then ?_
        refine c_region ?_
        refine L_op (s_e hS (e_move rfl) rfl ?_); clear hS a; intro a hS
        first | (refine L_op (s_e hS (e_binN rfl rfl rfl (by omega)) rfl ?_); clear hS a; intro a hS) | (refine L_op (s_e hS (e_bin rfl rfl rfl) rfl ?_); clear hS a; intro a hS)
        refine L_op (s_e hS (e_assign rfl) rfl ?_); clear hS a; intro a hS
        refine L_nil ?_
        first
        | (have hq := hv31
           refine ⟨(k + 1, k + 1, o ++ [s.extract f k], v31), by show s.size + 1 - (k + 1) < s.size + 1 - k; omega, ?_, by show k + 1 ≤ s.size + 1; omega, by simp; omega, fun h1 => ⟨Nat.le_refl _, ?_, fun j h2 h3 => by simp only at h2 h3; omega⟩, fun h1 => ?_⟩
           · show St _ _ _ _ _ _ [ownA _ _ v31 (o ++ [s.extract f k]).length ((o ++ [s.extract f k]).flatMap encN)]
             rw [List.length_append, List.flatMap_append]
             exact (hS.slots (by repeat (first | exact trivial | refine ⟨rfl, ?_⟩))).pick (by repeat (first | exact Pick.nil | (refine Pick.cons (by repeat (first | exact Rem.head | apply Rem.tail)) ?_)))
           · simp only at h1 ⊢
             rw [hw, List.map_append, List.append_assoc, drop_word (l := l) (by omega) hfk (hc24.resolve_left (by omega)), words_hit (word_no hno)]
             simp only [List.map_cons, List.map_nil, hxl]; rfl
           · simp only at h1 ⊢
             have hks2 : k = s.size := by omega
             rw [hw, List.map_append, words_none (l := l.drop f) (fun x hx => word_no (f := f) (k := k) hno x (by rw [List.take_of_length_le (by rw [List.length_drop]; omega)]; exact hx))]
             simp only [List.map_cons, List.map_nil, hxl]
             rw [List.take_of_length_le (by rw [List.length_drop]; omega)])
        | exact ⟨(k + 1, f, o, vo), by show s.size + 1 - (k + 1) < s.size + 1 - k; omega, (hS.slots (by repeat (first | exact trivial | refine ⟨rfl, ?_⟩))).pick (by repeat (first | exact Pick.nil | (refine Pick.cons (by repeat (first | exact Rem.head | apply Rem.tail)) ?_))), by show k + 1 ≤ s.size + 1; omega, by show o.length ≤ k + 1; omega, fun h1 => ⟨by show f ≤ k + 1; omega, hw, fun j h2 h3 => by
              rcases Nat.lt_or_ge j k with h4 | h4
              · exact hno j h2 h4
              · simp only at h3
                obtain rfl : j = k := by omega
                exact fun e => hc24 (.inr e)⟩, fun h1 => by simp only at h1; omega⟩
      ·
        refine wp_skip ?_
        refine n_block ?_
        refine n_then ?_
        refine c_region ?_
        refine L_op (s_e hS (e_move rfl) rfl ?_); clear hS a; intro a hS
        first | (refine L_op (s_e hS (e_binN rfl rfl rfl (by omega)) rfl ?_); clear hS a; intro a hS) | (refine L_op (s_e hS (e_bin rfl rfl rfl) rfl ?_); clear hS a; intro a hS)
        refine L_op (s_e hS (e_assign rfl) rfl ?_); clear hS a; intro a hS
        refine L_nil ?_
        first
        | (have hq := hv31
           refine ⟨(k + 1, k + 1, o ++ [s.extract f k], v31), by show s.size + 1 - (k + 1) < s.size + 1 - k; omega, ?_, by show k + 1 ≤ s.size + 1; omega, by simp; omega, fun h1 => ⟨Nat.le_refl _, ?_, fun j h2 h3 => by simp only at h2 h3; omega⟩, fun h1 => ?_⟩
           · show St _ _ _ _ _ _ [ownA _ _ v31 (o ++ [s.extract f k]).length ((o ++ [s.extract f k]).flatMap encN)]
             rw [List.length_append, List.flatMap_append]
             exact (hS.slots (by repeat (first | exact trivial | refine ⟨rfl, ?_⟩))).pick (by repeat (first | exact Pick.nil | (refine Pick.cons (by repeat (first | exact Rem.head | apply Rem.tail)) ?_)))
           · simp only at h1 ⊢
             rw [hw, List.map_append, List.append_assoc, drop_word (l := l) (by omega) hfk (hc24.resolve_left (by omega)), words_hit (word_no hno)]
             simp only [List.map_cons, List.map_nil, hxl]; rfl
           · simp only at h1 ⊢
             have hks2 : k = s.size := by omega
             rw [hw, List.map_append, words_none (l := l.drop f) (fun x hx => word_no (f := f) (k := k) hno x (by rw [List.take_of_length_le (by rw [List.length_drop]; omega)]; exact hx))]
             simp only [List.map_cons, List.map_nil, hxl]
             rw [List.take_of_length_le (by rw [List.length_drop]; omega)])
        | exact ⟨(k + 1, f, o, vo), by show s.size + 1 - (k + 1) < s.size + 1 - k; omega, (hS.slots (by repeat (first | exact trivial | refine ⟨rfl, ?_⟩))).pick (by repeat (first | exact Pick.nil | (refine Pick.cons (by repeat (first | exact Rem.head | apply Rem.tail)) ?_))), by show k + 1 ≤ s.size + 1; omega, by show o.length ≤ k + 1; omega, fun h1 => ⟨by show f ≤ k + 1; omega, hw, fun j h2 h3 => by
              rcases Nat.lt_or_ge j k with h4 | h4
              · exact hno j h2 h4
              · simp only at h3
                obtain rfl : j = k := by omega
                exact fun e => hc24 (.inr e)⟩, fun h1 => by simp only at h1; omega⟩
  ·
    refine wp_exit ?_
    refine x_then (x_then (x_hit ?_))
    refine n_then ?_
    refine c_seq ?_
    refine c_region ?_
    refine L_op (s_e hS (e_move rfl) rfl ?_); clear hS a; intro a hS
    refine L_op (s_e hS (e_assign rfl) rfl ?_); clear hS a; intro a hS
    refine L_nil ?_
    refine n_then ?_
    refine wp_ret ?_
    refine c_ret1 hS Tryz.results40 (.tmp rfl) ?_
    have hw2 := hB (by omega)
    have hwb : wordsB 32 s = o := by
      unfold wordsB; rw [hle, hw2, ba_map]
    exact ⟨vo, rfl, hS.chg, by rw [hwb]; exact hS.ok (ownA 9 1 vo o.length (o.flatMap encN)) (by repeat constructor), fun b hb => by rw [hwb] at hb; exact (hS.mine (ownA 9 1 vo o.length (o.flatMap encN)) (by repeat constructor) rfl b hb).resolve_right (fun h => h)⟩

theorem some_idx {s : ByteArray} {most : Int} {p : Int → Bool} : someB s most p = true ↔ s.size ≠ 0 ∧ (s.size : Int) ≤ most ∧ ∀ j, j < s.size → p (byteAt s.data.toList j : Int) = true := by
  unfold someB
  rw [Bool.and_eq_true, decide_eq_true_eq, List.all_eq_true, and_assoc]
  exact and_congr_right fun _ => and_congr_right fun _ => ⟨fun h j hj => h j (List.mem_range.2 hj), fun h j hj => h j (List.mem_range.1 hj)⟩
def headL (s : ByteArray) (m0 p0 : ByteArray) (bv : Value) (cl : Bool) : List Value := if (headF s).1 = 0 then [.string (headF s).2.1, .string (headF s).2.2, bv, .bool cl] else [.string m0, .string p0, bv, .bool cl]
set_option maxRecDepth 100000 in
theorem yHead_none (s m0 p0 : ByteArray) (bv : Value) (cl : Bool) (br : Nat) (hs : s.size ≤ 1000000) (hw : (wordsB 32 s).length ≠ 3) (w0 : World) (h : (Asn.blk br [.string m0, .string p0, bv, .bool cl] 30).φ w0) :
    MutC Tryz.prog 24 [.string s, .pointer (some ⟨br, 0, none⟩)] w0 (.blk br [.string m0, .string p0, bv, .bool cl] 30) (fun _ : Unit => .int .i64 (headF s).1) (fun _ => .blk br (headL s m0 p0 bv cl) 30) := by
  have hwl : (wordsB 32 s).length ≤ 4611686018427387904 := by
    unfold wordsB; rw [List.length_map, count_words 32 (s.data.toList.length + 1) _ (by omega)]
    have : ∀ f (l : List UInt8), Lib.countFrom [32] f l ≤ f := by
      intro f
      induction f with
      | zero => intro l; exact Nat.le_refl _
      | succ f ih => intro l; unfold Lib.countFrom; split; exact Nat.zero_le _; have := ih (l.drop ((Lib.index l [32]).toNat + [(32 : UInt8)].length)); omega
    have h2 := this (s.data.toList.length + 1) s.data.toList
    have h3 := size_list s
    omega
  refine c_enter [(0, .string s), (1, .pointer (some ⟨br, 0, none⟩))] [.blk br [.string m0, .string p0, bv, .bool cl] 30] (fun k => k = br) Tryz.func24 rfl Tryz.ntmps24 ⟨rfl, rfl, trivial⟩ rfl (okC (ok_blk h) okN) dis1 (mineO (fun _ hb => hb) mineN) ?_
  intro a hS
  refine c_seq ?_
  refine c_region ?_
  refine L_op (s_e hS (e_assign rfl) rfl ?_); clear hS a; intro a hS
  refine L_nil ?_
  refine n_then ?_
  refine c_seq ?_
  refine c_region ?_
  refine L_op (s_e hS (e_move rfl) rfl ?_); clear hS a; intro a hS
  refine L_op (s_callN hS (.cons rfl (.cons rfl .nil)) cf40 rfl (xCut_P s hs _) ?_); clear hS a; (try clear w); intro x8 a w hS
  obtain ⟨q8, c8, rfl⟩ := own_slice (hS.get (X := ownA 9 1 x8 (wordsB 32 s).length ((wordsB 32 s).flatMap encN)) (by repeat constructor))
  refine L_op (s_e hS (e_assign rfl) rfl ?_); clear hS a; intro a hS
  refine L_nil ?_
  refine n_then ?_
  refine c_seq ?_
  refine c_seq ?_
  refine c_region ?_
  refine L_op (s_e hS (e_move rfl) rfl ?_); clear hS a; intro a hS
  refine L_op (s_e hS (e_len rfl rfl ty_sl45) rfl ?_); clear hS a; intro a hS
  refine L_op (s_e hS (e_bin rfl rfl rfl) rfl ?_); clear hS a; intro a hS
  refine L_op (s_e hS (e_move rfl) rfl ?_); clear hS a; intro a hS
  replace hS := hS.is (t := 12) (c := true) rfl ((decide_eq_true (by omega)))
  refine L_skip_f hS rfl rfl rfl ?_; clear hS a; intro a hS
  refine L_skip_f hS rfl rfl rfl ?_; clear hS a; intro a hS
  refine L_skip_f hS rfl rfl rfl ?_; clear hS a; intro a hS
  refine L_skip_f hS rfl rfl rfl ?_; clear hS a; intro a hS
  first | (refine L_op (s_e hS (e_pick_t rfl rfl) rfl ?_); clear hS a; intro a hS) | (refine L_op (s_e hS (e_pick_f rfl rfl) rfl ?_); clear hS a; intro a hS)
  refine L_op (s_e hS (e_move rfl) rfl ?_); clear hS a; intro a hS
  refine L_skip_f hS rfl rfl rfl ?_; clear hS a; intro a hS
  refine L_skip_f hS rfl rfl rfl ?_; clear hS a; intro a hS
  refine L_skip_f hS rfl rfl rfl ?_; clear hS a; intro a hS
  refine L_skip_f hS rfl rfl rfl ?_; clear hS a; intro a hS
  refine L_skip_f hS rfl rfl rfl ?_; clear hS a; intro a hS
  first | (refine L_op (s_e hS (e_pick_t rfl rfl) rfl ?_); clear hS a; intro a hS) | (refine L_op (s_e hS (e_pick_f rfl rfl) rfl ?_); clear hS a; intro a hS)
  refine L_op (s_e hS (e_move rfl) rfl ?_); clear hS a; intro a hS
  refine L_skip_f hS rfl rfl rfl ?_; clear hS a; intro a hS
  refine L_skip_f hS rfl rfl rfl ?_; clear hS a; intro a hS
  refine L_skip_f hS rfl rfl rfl ?_; clear hS a; intro a hS
  refine L_skip_f hS rfl rfl rfl ?_; clear hS a; intro a hS
  refine L_skip_f hS rfl rfl rfl ?_; clear hS a; intro a hS
  first | (refine L_op (s_e hS (e_pick_t rfl rfl) rfl ?_); clear hS a; intro a hS) | (refine L_op (s_e hS (e_pick_f rfl rfl) rfl ?_); clear hS a; intro a hS)
  refine L_op (s_e hS (e_move rfl) rfl ?_); clear hS a; intro a hS
  refine L_skip_f hS rfl rfl rfl ?_; clear hS a; intro a hS
  refine L_skip_f hS rfl rfl rfl ?_; clear hS a; intro a hS
  refine L_skip_f hS rfl rfl rfl ?_; clear hS a; intro a hS
  refine L_skip_f hS rfl rfl rfl ?_; clear hS a; intro a hS
  refine L_skip_f hS rfl rfl rfl ?_; clear hS a; intro a hS
  first | (refine L_op (s_e hS (e_pick_t rfl rfl) rfl ?_); clear hS a; intro a hS) | (refine L_op (s_e hS (e_pick_f rfl rfl) rfl ?_); clear hS a; intro a hS)
  refine L_nil ?_
  refine n_then ?_
  refine c_if_t hS rfl ?_
  refine c_seq ?_
  refine c_region ?_
  refine L_op (s_e hS (e_assign rfl) rfl ?_); clear hS a; intro a hS
  refine L_nil ?_
  refine n_then ?_
  refine wp_ret ?_
  refine r_then ?_
  refine c_ret1 hS Tryz.results24 (.tmp rfl) ?_
  exact ⟨(), by rw [head_no hw], hS.chg, by unfold headL; rw [head_no hw]; exact hS.ok (.blk br [.string m0, .string p0, bv, .bool cl] 30) (by repeat constructor), fun b hb => .inl hb⟩
set_option maxRecDepth 100000 in
theorem yHead_three (s m0 p0 a1 b1 v1 : ByteArray) (bv : Value) (cl : Bool) (_hbv : isOne bv = true) (br : Nat) (hs : s.size ≤ 1000000) (hw : wordsB 32 s = [a1, b1, v1]) (w0 : World) (h : (Asn.blk br [.string m0, .string p0, bv, .bool cl] 30).φ w0) :
    MutC Tryz.prog 24 [.string s, .pointer (some ⟨br, 0, none⟩)] w0 (.blk br [.string m0, .string p0, bv, .bool cl] 30) (fun _ : Unit => .int .i64 (headF s).1) (fun _ => .blk br (headL s m0 p0 bv cl) 30) := by
  have ha1 : a1.size ≤ s.size := wordsB_bd (c := 32) (by rw [hw]; exact .head _)
  have hb1 : b1.size ≤ s.size := wordsB_bd (c := 32) (by rw [hw]; exact .tail _ (.head _))
  have no_ : ¬ (someB a1 10 (fun c => decide (65 ≤ c ∧ c ≤ 90)) = true ∧ pathB b1 = true ∧ v1 = sVer) → headF s = (10, ⟨#[]⟩, ⟨#[]⟩) := fun hn => by unfold headF; rw [hw]; simp only; rw [if_neg hn]
  refine c_enter [(0, .string s), (1, .pointer (some ⟨br, 0, none⟩))] [.blk br [.string m0, .string p0, bv, .bool cl] 30] (fun k => k = br) Tryz.func24 rfl Tryz.ntmps24 ⟨rfl, rfl, trivial⟩ rfl (okC (ok_blk h) okN) dis1 (mineO (fun _ hb => hb) mineN) ?_
  intro a hS
  refine c_seq ?_
  refine c_region ?_
  refine L_op (s_e hS (e_assign rfl) rfl ?_); clear hS a; intro a hS
  refine L_nil ?_
  refine n_then ?_
  refine c_seq ?_
  refine c_region ?_
  refine L_op (s_e hS (e_move rfl) rfl ?_); clear hS a; intro a hS
  have hsp := xCut_P s hs w0
  rw [hw] at hsp
  refine L_op (s_callN hS (.cons rfl (.cons rfl .nil)) cf40 rfl hsp ?_); clear hS a hsp; (try clear w); intro x8 a w hS
  simp only [List.length_cons, List.length_nil, Nat.zero_add, Nat.reduceAdd] at hS
  obtain ⟨q8, c8, rfl⟩ := own_slice (hS.get (X := ownA 9 1 x8 3 ([a1, b1, v1].flatMap encN)) (by repeat constructor))
  obtain ⟨g8, rfl⟩ := own_at (hS.get (X := ownA 9 1 (.slice q8 3 c8) 3 ([a1, b1, v1].flatMap encN)) (by repeat constructor)) (by decide)
  refine L_op (s_e hS (e_assign rfl) rfl ?_); clear hS a; intro a hS
  refine L_nil ?_
  refine n_then ?_
  refine c_seq ?_
  refine c_seq ?_
  refine c_region ?_
  refine L_op (s_e hS (e_move rfl) rfl ?_); clear hS a; intro a hS
  refine L_op (s_e hS (e_len rfl rfl ty_sl45) rfl ?_); clear hS a; intro a hS
  refine L_op (s_e hS (e_bin rfl rfl rfl) rfl ?_); clear hS a; intro a hS
  refine L_op (s_e hS (e_move rfl) rfl ?_); clear hS a; intro a hS
  replace hS := hS.is (t := 12) (c := false) rfl ((by decide))
  refine L_go hS rfl rfl (s_e hS (e_move rfl) rfl ?_); clear hS a; intro a hS
  refine L_go hS rfl rfl (s_e hS (e_ix rfl rfl ty_sl45 ty_sz9 (by omega)) rfl ?_); clear hS a; intro a hS
  refine L_go hS rfl rfl (s_e hS (e_loadC rfl ty_sc9 (fun w hh => own_get (enc := encN) (s := 1) (i := 2) (x := v1) (fun _ => rfl) (by repeat constructor) rfl w hh 0 _ rfl)) rfl ?_); clear hS a; intro a hS
  refine L_go hS rfl rfl (s_e hS (e_binS rfl rfl rfl) rfl ?_); clear hS a; intro a hS
  first | (refine L_op (s_e hS (e_pick_t rfl rfl) rfl ?_); clear hS a; intro a hS) | (refine L_op (s_e hS (e_pick_f rfl rfl) rfl ?_); clear hS a; intro a hS)
  refine L_op (s_e hS (e_move rfl) rfl ?_); clear hS a; intro a hS
  refine L_merge 6 24 (.bool (decide (v1 ≠ sVer ∨ a1.size < 1))) hS ?_ ?_
  · intro hcM24
    (first | refine g_splitD (t := 18) hS rfl ?_ ?_ | refine g_split (t := 18) hS rfl ?_ ?_) <;> (clear hS; intro hg18 hS)
    ·
      refine L_skip_f hS rfl rfl rfl ?_; clear hS a; intro a hS
      refine L_skip_f hS rfl rfl rfl ?_; clear hS a; intro a hS
      refine L_skip_f hS rfl rfl rfl ?_; clear hS a; intro a hS
      refine L_skip_f hS rfl rfl rfl ?_; clear hS a; intro a hS
      refine L_skip_f hS rfl rfl rfl ?_; clear hS a; intro a hS
      first | (refine L_op (s_e hS (e_pick_t rfl rfl) rfl ?_); clear hS a; intro a hS) | (refine L_op (s_e hS (e_pick_f rfl rfl) rfl ?_); clear hS a; intro a hS)
      exact hcM24 _ _ (hS.ends 7 24 18 rfl (congrArg Value.bool (by exact (decide_eq_true (.inl hg18)).symm)) rfl rfl (by first | exact congrArg Value.bool (decide_eq_true hg18).symm | exact congrArg Value.bool hg18.symm | simp [hg18]) rfl)
    ·
      refine L_go hS rfl rfl (s_e hS (e_move rfl) rfl ?_); clear hS a; intro a hS
      refine L_go hS rfl rfl (s_e hS (e_ix rfl rfl ty_sl45 ty_sz9 (by omega)) rfl ?_); clear hS a; intro a hS
      refine L_go hS rfl rfl (s_e hS (e_loadC rfl ty_sc9 (fun w hh => own_get (enc := encN) (s := 1) (i := 0) (x := a1) (fun _ => rfl) (by repeat constructor) rfl w hh 0 _ rfl)) rfl ?_); clear hS a; intro a hS
      refine L_go hS rfl rfl (s_e hS (e_lenS rfl rfl ty_u9) rfl ?_); clear hS a; intro a hS
      refine L_go hS rfl rfl (s_e hS (e_bin rfl rfl rfl) rfl ?_); clear hS a; intro a hS
      first | (refine L_op (s_e hS (e_pick_t rfl rfl) rfl ?_); clear hS a; intro a hS) | (refine L_op (s_e hS (e_pick_f rfl rfl) rfl ?_); clear hS a; intro a hS)
      exact hcM24 _ _ (hS.ends 7 24 18 rfl (congrArg Value.bool (by exact decide_eq_decide.2 ⟨fun h => .inr (by omega), fun h => by have := h.resolve_left hg18; omega⟩)) rfl rfl (by first | exact congrArg Value.bool (decide_eq_false hg18).symm | exact congrArg Value.bool hg18.symm | simp [hg18]) rfl)
  · clear hS a; (try clear w); intro a w hS
    simp only [List.drop_succ_cons, List.drop_zero]
    refine L_op (s_e hS (e_move rfl) rfl ?_); clear hS a; intro a hS
    refine L_merge 6 31 (.bool (decide (v1 ≠ sVer ∨ a1.size < 1 ∨ 10 < a1.size))) hS ?_ ?_
    · intro hcM31
      (first | refine g_splitD (t := 25) hS rfl ?_ ?_ | refine g_split (t := 25) hS rfl ?_ ?_) <;> (clear hS; intro hg25 hS)
      ·
        refine L_skip_f hS rfl rfl rfl ?_; clear hS a; intro a hS
        refine L_skip_f hS rfl rfl rfl ?_; clear hS a; intro a hS
        refine L_skip_f hS rfl rfl rfl ?_; clear hS a; intro a hS
        refine L_skip_f hS rfl rfl rfl ?_; clear hS a; intro a hS
        refine L_skip_f hS rfl rfl rfl ?_; clear hS a; intro a hS
        first | (refine L_op (s_e hS (e_pick_t rfl rfl) rfl ?_); clear hS a; intro a hS) | (refine L_op (s_e hS (e_pick_f rfl rfl) rfl ?_); clear hS a; intro a hS)
        exact hcM31 _ _ (hS.ends 7 31 25 rfl (congrArg Value.bool (by exact (decide_eq_true (hg25.elim .inl (fun h => .inr (.inl h)))).symm)) rfl rfl (by first | exact congrArg Value.bool (decide_eq_true hg25).symm | exact congrArg Value.bool hg25.symm | simp [hg25]) rfl)
      ·
        refine L_go hS rfl rfl (s_e hS (e_move rfl) rfl ?_); clear hS a; intro a hS
        refine L_go hS rfl rfl (s_e hS (e_ix rfl rfl ty_sl45 ty_sz9 (by omega)) rfl ?_); clear hS a; intro a hS
        refine L_go hS rfl rfl (s_e hS (e_loadC rfl ty_sc9 (fun w hh => own_get (enc := encN) (s := 1) (i := 0) (x := a1) (fun _ => rfl) (by repeat constructor) rfl w hh 0 _ rfl)) rfl ?_); clear hS a; intro a hS
        refine L_go hS rfl rfl (s_e hS (e_lenS rfl rfl ty_u9) rfl ?_); clear hS a; intro a hS
        refine L_go hS rfl rfl (s_e hS (e_bin rfl rfl rfl) rfl ?_); clear hS a; intro a hS
        first | (refine L_op (s_e hS (e_pick_t rfl rfl) rfl ?_); clear hS a; intro a hS) | (refine L_op (s_e hS (e_pick_f rfl rfl) rfl ?_); clear hS a; intro a hS)
        exact hcM31 _ _ (hS.ends 7 31 25 rfl (congrArg Value.bool (by exact decide_eq_decide.2 ⟨fun h => .inr (.inr (by omega)), fun h => by rcases h with h | h | h; exact absurd (.inl h) hg25; exact absurd (.inr h) hg25; omega⟩)) rfl rfl (by first | exact congrArg Value.bool (decide_eq_false hg25).symm | exact congrArg Value.bool hg25.symm | simp [hg25]) rfl)
    · clear hS a; (try clear w); intro a w hS
      simp only [List.drop_succ_cons, List.drop_zero]
      refine L_op (s_e hS (e_move rfl) rfl ?_); clear hS a; intro a hS
      refine L_merge 6 38 (.bool (decide (v1 ≠ sVer ∨ a1.size < 1 ∨ 10 < a1.size ∨ ¬ pathB b1 = true))) hS ?_ ?_
      · intro hcM38
        (first | refine g_splitD (t := 32) hS rfl ?_ ?_ | refine g_split (t := 32) hS rfl ?_ ?_) <;> (clear hS; intro hg32 hS)
        ·
          refine L_skip_f hS rfl rfl rfl ?_; clear hS a; intro a hS
          refine L_skip_f hS rfl rfl rfl ?_; clear hS a; intro a hS
          refine L_skip_f hS rfl rfl rfl ?_; clear hS a; intro a hS
          refine L_skip_f hS rfl rfl rfl ?_; clear hS a; intro a hS
          refine L_skip_f hS rfl rfl rfl ?_; clear hS a; intro a hS
          first | (refine L_op (s_e hS (e_pick_t rfl rfl) rfl ?_); clear hS a; intro a hS) | (refine L_op (s_e hS (e_pick_f rfl rfl) rfl ?_); clear hS a; intro a hS)
          exact hcM38 _ _ (hS.ends 7 38 32 rfl (congrArg Value.bool (by exact (decide_eq_true (by rcases hg32 with h | h | h; exact .inl h; exact .inr (.inl h); exact .inr (.inr (.inl h)))).symm)) rfl rfl (by first | exact congrArg Value.bool (decide_eq_true hg32).symm | exact congrArg Value.bool hg32.symm | simp [hg32]) rfl)
        ·
          refine L_go hS rfl rfl (s_e hS (e_move rfl) rfl ?_); clear hS a; intro a hS
          refine L_go hS rfl rfl (s_e hS (e_ix rfl rfl ty_sl45 ty_sz9 (by omega)) rfl ?_); clear hS a; intro a hS
          refine L_go hS rfl rfl (s_e hS (e_loadC rfl ty_sc9 (fun w hh => own_get (enc := encN) (s := 1) (i := 1) (x := b1) (fun _ => rfl) (by repeat constructor) rfl w hh 0 _ rfl)) rfl ?_); clear hS a; intro a hS
          refine L_go hS rfl rfl (s_callP hS (.cons rfl .nil) cf41 rfl (yPath_P b1 (by omega) _) ?_); clear hS a; (try clear w); intro a w hS
          refine L_go hS rfl rfl (s_e hS (e_not rfl) rfl ?_); clear hS a; intro a hS
          first | (refine L_op (s_e hS (e_pick_t rfl rfl) rfl ?_); clear hS a; intro a hS) | (refine L_op (s_e hS (e_pick_f rfl rfl) rfl ?_); clear hS a; intro a hS)
          exact hcM38 _ _ (hS.ends 7 38 32 rfl (congrArg Value.bool (by cases hpb : pathB b1 <;> simp only [Bool.not_true, Bool.not_false]; exact (decide_eq_true (.inr (.inr (.inr (by decide))))).symm; exact (decide_eq_false (fun h => by rcases h with h | h | h | h; exact hg32 (.inl h); exact hg32 (.inr (.inl h)); exact hg32 (.inr (.inr h)); exact absurd h (by first | decide | simp))).symm)) rfl rfl (by first | exact congrArg Value.bool (decide_eq_false hg32).symm | exact congrArg Value.bool hg32.symm | simp [hg32]) rfl)
      · clear hS a; (try clear w); intro a w hS
        simp only [List.drop_succ_cons, List.drop_zero]
        refine L_nil ?_
        refine n_then ?_
        first | refine c_ifD hS rfl (fun hc38 => ?_) (fun hc38 => ?_) | refine c_if hS rfl (fun hc38 => ?_) (fun hc38 => ?_)
        ·
          refine c_seq ?_
          refine c_region ?_
          refine L_op (s_e hS (e_assign rfl) rfl ?_); clear hS a; intro a hS
          refine L_nil ?_
          refine n_then ?_
          refine wp_ret ?_
          refine r_then ?_
          refine c_ret1 hS Tryz.results24 (.tmp rfl) ?_
          have e := no_ (fun hh => by
            have h1 := (some_idx.1 hh.1)
            rcases hc38 with h | h | h | h
            · exact h hh.2.2
            · omega
            · omega
            · exact h hh.2.1)
          exact ⟨(), by rw [e], hS.chg, by unfold headL; rw [e]; exact hS.ok (.blk br [.string m0, .string p0, bv, .bool cl] 30) (by repeat constructor), fun b hb => .inl hb⟩
        ·
          have hv1 : v1 = sVer := Classical.not_not.1 (fun h => hc38 (.inl h))
          have hpb : pathB b1 = true := Classical.not_not.1 (fun h => hc38 (.inr (.inr (.inr h))))
          have hsz : ¬ a1.size < 1 ∧ ¬ 10 < a1.size := ⟨fun h => hc38 (.inr (.inl h)), fun h => hc38 (.inr (.inr (.inl h)))⟩
          refine wp_skip ?_
          refine n_then ?_
          refine c_seq ?_
          refine c_seq ?_
          refine c_region ?_
          refine L_op (s_e hS (e_assign rfl) rfl ?_); clear hS a; intro a hS
          refine L_nil ?_
          refine n_then ?_
          refine wp_block ?_
          skip
          refine c_loop (γ := Nat) (fun k a w => St 83 (fun k => k = br) w0 a w [(6, .int .i64 (k : Int)), (5, .slice (some ⟨g8, 0, none⟩) 3 c8), (1, .pointer (some ⟨br, 0, none⟩))] [ownA 9 1 (.slice (some ⟨g8, 0, none⟩) 3 c8) 3 ([a1, b1, v1].flatMap encN), .blk br [.string m0, .string p0, bv, .bool cl] 30] ∧ k ≤ a1.size ∧ ∀ j, j < k → 65 ≤ byteAt a1.data.toList j ∧ byteAt a1.data.toList j ≤ 90) (fun k => a1.size - k) 0 ⟨(hS.slots (by repeat (first | exact trivial | refine ⟨rfl, ?_⟩))).pick (by repeat (first | exact Pick.nil | (refine Pick.cons (by repeat (first | exact Rem.head | apply Rem.tail)) ?_))), Nat.zero_le _, fun j hj => by omega⟩ ?_
          clear hS a; (try clear w); intro k a w hI
          obtain ⟨hS, hk, hno⟩ := hI
          refine c_seq ?_
          refine c_seq ?_
          refine c_region ?_
          refine L_op (s_e hS (e_move rfl) rfl ?_); clear hS a; intro a hS
          refine L_op (s_e hS (e_move rfl) rfl ?_); clear hS a; intro a hS
          refine L_op (s_e hS (e_ix rfl rfl ty_sl45 ty_sz9 (by omega)) rfl ?_); clear hS a; intro a hS
          refine L_op (s_e hS (e_loadC rfl ty_sc9 (fun w hh => own_get (enc := encN) (s := 1) (i := 0) (x := a1) (fun _ => rfl) (by repeat constructor) rfl w hh 0 _ rfl)) rfl ?_); clear hS a; intro a hS
          refine L_op (s_e hS (e_lenS rfl rfl ty_u9) rfl ?_); clear hS a; intro a hS
          refine L_op (s_e hS (e_bin rfl rfl rfl) rfl ?_); clear hS a; intro a hS
          refine L_nil ?_
          refine n_then ?_
          first | refine c_ifD hS rfl (fun hc44 => ?_) (fun hc44 => ?_) | refine c_if hS rfl (fun hc44 => ?_) (fun hc44 => ?_)
          ·
            have hkl : k < a1.size := by omega
            refine wp_skip ?_
            refine n_then ?_
            refine c_seq ?_
            refine wp_block ?_
            refine c_seq ?_
            refine c_region ?_
            refine L_op (s_e hS (e_move rfl) rfl ?_); clear hS a; intro a hS
            refine L_op (s_e hS (e_ix rfl rfl ty_sl45 ty_sz9 (by omega)) rfl ?_); clear hS a; intro a hS
            refine L_op (s_e hS (e_loadC rfl ty_sc9 (fun w hh => own_get (enc := encN) (s := 1) (i := 0) (x := a1) (fun _ => rfl) (by repeat constructor) rfl w hh 0 _ rfl)) rfl ?_); clear hS a; intro a hS
            refine L_op (s_e hS (e_move rfl) rfl ?_); clear hS a; intro a hS
            refine L_op (s_e hS (e_ixS rfl rfl ty_u9 (by omega)) rfl ?_); clear hS a; intro a hS
            refine L_op (s_e hS (e_bin rfl rfl rfl) rfl ?_); clear hS a; intro a hS
            refine L_op (s_e hS (e_move rfl) rfl ?_); clear hS a; intro a hS
            refine L_merge 7 60 (.bool (decide (byteAt a1.data.toList k < 65 ∨ 90 < byteAt a1.data.toList k))) hS ?_ ?_
            · intro hcM60
              (first | refine g_splitD (t := 53) hS rfl ?_ ?_ | refine g_split (t := 53) hS rfl ?_ ?_) <;> (clear hS; intro hg53 hS)
              ·
                refine L_skip_f hS rfl rfl rfl ?_; clear hS a; intro a hS
                refine L_skip_f hS rfl rfl rfl ?_; clear hS a; intro a hS
                refine L_skip_f hS rfl rfl rfl ?_; clear hS a; intro a hS
                refine L_skip_f hS rfl rfl rfl ?_; clear hS a; intro a hS
                refine L_skip_f hS rfl rfl rfl ?_; clear hS a; intro a hS
                refine L_skip_f hS rfl rfl rfl ?_; clear hS a; intro a hS
                first | (refine L_op (s_e hS (e_pick_t rfl rfl) rfl ?_); clear hS a; intro a hS) | (refine L_op (s_e hS (e_pick_f rfl rfl) rfl ?_); clear hS a; intro a hS)
                exact hcM60 _ _ (hS.ends 8 60 53 rfl (congrArg Value.bool (by unfold byteAt; rw [Int.toNat_natCast] at hg53; exact (decide_eq_true (by omega)).symm)) rfl rfl (by first | exact congrArg Value.bool (decide_eq_true hg53).symm | exact congrArg Value.bool hg53.symm | simp [hg53]) rfl)
              ·
                refine L_go hS rfl rfl (s_e hS (e_move rfl) rfl ?_); clear hS a; intro a hS
                refine L_go hS rfl rfl (s_e hS (e_ix rfl rfl ty_sl45 ty_sz9 (by omega)) rfl ?_); clear hS a; intro a hS
                refine L_go hS rfl rfl (s_e hS (e_loadC rfl ty_sc9 (fun w hh => own_get (enc := encN) (s := 1) (i := 0) (x := a1) (fun _ => rfl) (by repeat constructor) rfl w hh 0 _ rfl)) rfl ?_); clear hS a; intro a hS
                refine L_go hS rfl rfl (s_e hS (e_move rfl) rfl ?_); clear hS a; intro a hS
                refine L_go hS rfl rfl (s_e hS (e_ixS rfl rfl ty_u9 (by omega)) rfl ?_); clear hS a; intro a hS
                refine L_go hS rfl rfl (s_e hS (e_bin rfl rfl rfl) rfl ?_); clear hS a; intro a hS
                first | (refine L_op (s_e hS (e_pick_t rfl rfl) rfl ?_); clear hS a; intro a hS) | (refine L_op (s_e hS (e_pick_f rfl rfl) rfl ?_); clear hS a; intro a hS)
                exact hcM60 _ _ (hS.ends 8 60 53 rfl (congrArg Value.bool (by unfold byteAt; rw [Int.toNat_natCast] at *; exact decide_eq_decide.2 (by omega))) rfl rfl (by first | exact congrArg Value.bool (decide_eq_false hg53).symm | exact congrArg Value.bool hg53.symm | simp [hg53]) rfl)
            · clear hS a; (try clear w); intro a w hS
              simp only [List.drop_succ_cons, List.drop_zero]
              refine L_nil ?_
              refine n_then ?_
              first | refine c_ifD hS rfl (fun hc60 => ?_) (fun hc60 => ?_) | refine c_if hS rfl (fun hc60 => ?_) (fun hc60 => ?_)
              ·
                refine c_seq ?_
                refine c_region ?_
                refine L_op (s_e hS (e_assign rfl) rfl ?_); clear hS a; intro a hS
                refine L_nil ?_
                refine n_then ?_
                refine wp_ret ?_
                refine r_block (r_then (r_then (r_block (r_then ?_))))
                refine c_ret1 hS Tryz.results24 (.tmp rfl) ?_
                have e := no_ (fun hh => by
                  have h1 := of_decide_eq_true ((some_idx.1 hh.1).2.2 k hkl)
                  omega)
                exact ⟨(), by rw [e], hS.chg, by unfold headL; rw [e]; exact hS.ok (.blk br [.string m0, .string p0, bv, .bool cl] 30) (by repeat constructor), fun b hb => .inl hb⟩
              ·
                refine wp_skip ?_
                refine n_block ?_
                refine n_then ?_
                refine c_region ?_
                refine L_op (s_e hS (e_move rfl) rfl ?_); clear hS a; intro a hS
                first | (refine L_op (s_e hS (e_binN rfl rfl rfl (by omega)) rfl ?_); clear hS a; intro a hS) | (refine L_op (s_e hS (e_bin rfl rfl rfl) rfl ?_); clear hS a; intro a hS)
                refine L_op (s_e hS (e_assign rfl) rfl ?_); clear hS a; intro a hS
                refine L_nil ?_
                exact ⟨k + 1, by omega, (hS.slots (by repeat (first | exact trivial | refine ⟨rfl, ?_⟩))).pick (by repeat (first | exact Pick.nil | (refine Pick.cons (by repeat (first | exact Rem.head | apply Rem.tail)) ?_))), by omega, fun j hj => by
                rcases Nat.lt_or_ge j k with h | h
                · exact hno j h
                obtain rfl : j = k := (by omega)
                omega⟩
          ·
            have hyes : someB a1 10 (fun c => decide (65 ≤ c ∧ c ≤ 90)) = true ∧ pathB b1 = true ∧ v1 = sVer := ⟨some_idx.2 ⟨by omega, by omega, fun j hj => decide_eq_true (by have := hno j (by omega); omega)⟩, hpb, hv1⟩
            refine wp_exit ?_
            refine x_then (x_then (x_hit ?_))
            refine n_then ?_
            refine c_seq ?_
            refine c_seq ?_
            refine c_region ?_
            refine L_op (s_e hS (e_move rfl) rfl ?_); clear hS a; intro a hS
            refine L_op (s_e hS (e_ix rfl rfl ty_sl45 ty_sz9 (by omega)) rfl ?_); clear hS a; intro a hS
            refine L_op (s_e hS (e_loadC rfl ty_sc9 (fun w hh => own_get (enc := encN) (s := 1) (i := 0) (x := a1) (fun _ => rfl) (by repeat constructor) rfl w hh 0 _ rfl)) rfl ?_); clear hS a; intro a hS
            refine L_op (s_e hS (e_binS rfl rfl rfl) rfl ?_); clear hS a; intro a hS
            refine L_op (s_e hS (e_move rfl) rfl ?_); clear hS a; intro a hS
            refine L_merge 5 70 (.bool (decide (¬ (a1 = sGet ∨ a1 = sPost)))) hS ?_ ?_
            · intro hcM70
              (first | refine g_splitD (t := 65) hS rfl ?_ ?_ | refine g_split (t := 65) hS rfl ?_ ?_) <;> (clear hS; intro hg65 hS)
              ·
                refine L_go hS rfl rfl (s_e hS (e_move rfl) rfl ?_); clear hS a; intro a hS
                refine L_go hS rfl rfl (s_e hS (e_ix rfl rfl ty_sl45 ty_sz9 (by omega)) rfl ?_); clear hS a; intro a hS
                refine L_go hS rfl rfl (s_e hS (e_loadC rfl ty_sc9 (fun w hh => own_get (enc := encN) (s := 1) (i := 0) (x := a1) (fun _ => rfl) (by repeat constructor) rfl w hh 0 _ rfl)) rfl ?_); clear hS a; intro a hS
                refine L_go hS rfl rfl (s_e hS (e_binS rfl rfl rfl) rfl ?_); clear hS a; intro a hS
                first | (refine L_op (s_e hS (e_pick_t rfl rfl) rfl ?_); clear hS a; intro a hS) | (refine L_op (s_e hS (e_pick_f rfl rfl) rfl ?_); clear hS a; intro a hS)
                exact hcM70 _ _ (hS.ends 6 70 65 rfl (congrArg Value.bool (by exact decide_eq_decide.2 ⟨fun h1 h2 => h2.elim hg65 h1, fun h1 h2 => h1 (.inr h2)⟩)) rfl rfl (by first | exact congrArg Value.bool (decide_eq_true hg65).symm | exact congrArg Value.bool hg65.symm | simp [hg65]) rfl)
              ·
                refine L_skip_t hS rfl rfl rfl ?_; clear hS a; intro a hS
                refine L_skip_t hS rfl rfl rfl ?_; clear hS a; intro a hS
                refine L_skip_t hS rfl rfl rfl ?_; clear hS a; intro a hS
                refine L_skip_t hS rfl rfl rfl ?_; clear hS a; intro a hS
                first | (refine L_op (s_e hS (e_pick_t rfl rfl) rfl ?_); clear hS a; intro a hS) | (refine L_op (s_e hS (e_pick_f rfl rfl) rfl ?_); clear hS a; intro a hS)
                exact hcM70 _ _ (hS.ends 6 70 65 rfl (congrArg Value.bool (by exact (decide_eq_false (fun h1 => h1 (.inl (Classical.not_not.1 hg65)))).symm)) rfl rfl (by first | exact congrArg Value.bool (decide_eq_false hg65).symm | exact congrArg Value.bool hg65.symm | simp [hg65]) rfl)
            · clear hS a; (try clear w); intro a w hS
              simp only [List.drop_succ_cons, List.drop_zero]
              refine L_nil ?_
              refine n_then ?_
              first | refine c_ifD hS rfl (fun hc70 => ?_) (fun hc70 => ?_) | refine c_if hS rfl (fun hc70 => ?_) (fun hc70 => ?_)
              ·
                refine c_seq ?_
                refine c_region ?_
                refine L_op (s_e hS (e_assign rfl) rfl ?_); clear hS a; intro a hS
                refine L_nil ?_
                refine n_then ?_
                refine wp_ret ?_
                refine r_then ?_
                refine c_ret1 hS Tryz.results24 (.tmp rfl) ?_
                have e : headF s = (30, ⟨#[]⟩, ⟨#[]⟩) := by unfold headF; rw [hw]; simp only; rw [if_pos hyes, if_neg hc70]
                exact ⟨(), by rw [e], hS.chg, by unfold headL; rw [e]; exact hS.ok (.blk br [.string m0, .string p0, bv, .bool cl] 30) (by repeat constructor), fun b hb => .inl hb⟩
              ·
                refine wp_skip ?_
                refine n_then ?_
                refine c_seq ?_
                refine c_region ?_
                refine L_op (s_e hS (e_move rfl) rfl ?_); clear hS a; intro a hS
                refine L_op (s_e hS (e_move rfl) rfl ?_); clear hS a; intro a hS
                refine L_op (s_e hS (e_ix rfl rfl ty_sl45 ty_sz9 (by omega)) rfl ?_); clear hS a; intro a hS
                refine L_op (s_e hS (e_loadC rfl ty_sc9 (fun w hh => own_get (enc := encN) (s := 1) (i := 0) (x := a1) (fun _ => rfl) (by repeat constructor) rfl w hh 0 _ rfl)) rfl ?_); clear hS a; intro a hS
                refine L_op (s_e hS (e_nilCheck rfl) rfl ?_); clear hS a; intro a hS
                first | (refine L_op (s_e hS (e_fa0 rfl ty_fo30_0) rfl ?_); clear hS a; intro a hS) | (refine L_op (s_e hS (e_faK rfl ty_fo30_0) rfl ?_); clear hS a; intro a hS)
                refine L_op (s_store hS rfl rfl rfl ty_sz9 (by repeat constructor) (by repeat constructor) ?_); clear hS; (try clear w); intro w hS
                refine L_nil ?_
                refine n_then ?_
                refine c_seq ?_
                refine c_region ?_
                refine L_op (s_e hS (e_move rfl) rfl ?_); clear hS a; intro a hS
                refine L_op (s_e hS (e_move rfl) rfl ?_); clear hS a; intro a hS
                refine L_op (s_e hS (e_ix rfl rfl ty_sl45 ty_sz9 (by omega)) rfl ?_); clear hS a; intro a hS
                refine L_op (s_e hS (e_loadC rfl ty_sc9 (fun w hh => own_get (enc := encN) (s := 1) (i := 1) (x := b1) (fun _ => rfl) (by repeat constructor) rfl w hh 0 _ rfl)) rfl ?_); clear hS a; intro a hS
                refine L_op (s_e hS (e_nilCheck rfl) rfl ?_); clear hS a; intro a hS
                first | (refine L_op (s_e hS (e_fa0 rfl ty_fo30_1) rfl ?_); clear hS a; intro a hS) | (refine L_op (s_e hS (e_faK rfl ty_fo30_1) rfl ?_); clear hS a; intro a hS)
                refine L_op (s_store hS rfl rfl rfl ty_sz9 (by repeat constructor) (by repeat constructor) ?_); clear hS; (try clear w); intro w hS
                refine L_nil ?_
                refine n_then ?_
                refine c_seq ?_
                refine c_region ?_
                refine L_op (s_e hS (e_assign rfl) rfl ?_); clear hS a; intro a hS
                refine L_nil ?_
                refine n_then ?_
                refine wp_ret ?_
                refine c_ret1 hS Tryz.results24 (.tmp rfl) ?_
                have e : headF s = (0, a1, b1) := by unfold headF; rw [hw]; simp only; rw [if_pos hyes, if_pos (Classical.not_not.1 hc70)]
                exact ⟨(), by rw [e], hS.chg, by unfold headL; rw [e]; exact hS.ok (.blk br [.string a1, .string b1, bv, .bool cl] 30) (by repeat constructor), fun b hb => .inl hb⟩
theorem yHead_M (s m0 p0 : ByteArray) (bv : Value) (cl : Bool) (hbv : isOne bv = true) (br : Nat) (hs : s.size ≤ 1000000) (w0 : World) (h : (Asn.blk br [.string m0, .string p0, bv, .bool cl] 30).φ w0) :
    MutC Tryz.prog 24 [.string s, .pointer (some ⟨br, 0, none⟩)] w0 (.blk br [.string m0, .string p0, bv, .bool cl] 30) (fun _ : Unit => .int .i64 (headF s).1) (fun _ => .blk br (headL s m0 p0 bv cl) 30) := by
  by_cases hw : (wordsB 32 s).length = 3
  · obtain ⟨a1, b1, v1, e⟩ := words3 hw
    exact yHead_three s m0 p0 a1 b1 v1 bv cl hbv br hs e w0 h
  · exact yHead_none s m0 p0 bv cl br hs hw w0 h
end Go.Proofs.YtjmkjkhcognoeaaGreatDoor
