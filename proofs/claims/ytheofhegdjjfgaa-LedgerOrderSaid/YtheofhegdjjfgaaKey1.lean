/- The keys of a map, as an iterator. -/
import Derived.Test.YtheofhegdjjfgaaSe16
import Derived.Test.YtheofhegdjjfgaaSeTz
namespace Go.Proofs.Ytheofhegdjjfgaa
open Go.RowKit

theorem nodup_le : ∀ (n : Nat) (s : List Nat), s.Nodup → (∀ i ∈ s, i < n) → s.length ≤ n
  | 0, s, _, h => by
    cases s with
    | nil => exact Nat.le_refl _
    | cons x r => exact absurd (h x (.head _)) (by omega)
  | n + 1, s, hd, h => by
    by_cases hm : n ∈ s
    · have h1 := nodup_le n (s.erase n) (hd.erase n) (fun i hi => by
        have h2 := (List.Nodup.mem_erase_iff hd).1 hi
        have := h i h2.2
        have := h2.1
        omega)
      rw [List.length_erase_of_mem hm] at h1
      omega
    · have h1 := nodup_le n s hd (fun i hi => by
        have := h i hi
        have : i ≠ n := fun e => hm (e ▸ hi)
        omega)
      omega
def keysM (l : List (ByteArray × Value)) : List ByteArray := l.map (·.1)
def keyAt (l : List (ByteArray × Value)) (i : Nat) : ByteArray := (keysM l).getD i ⟨#[]⟩
theorem keyAt_of {l : List (ByteArray × Value)} {i : Nat} {k : ByteArray} {v : Value} (h : l[i]? = some (k, v)) : keyAt l i = k := by
  unfold keyAt keysM; rw [List.getD_eq_getElem?_getD, List.getElem?_map, h]; rfl
theorem keys_all {l : List (ByteArray × Value)} {s : List Nat} (hd : s.Nodup) (h : ∀ i ∈ s, i < l.length) (ha : ∀ i, i < l.length → i ∈ s) : (s.map (keyAt l)).Perm (keysM l) := by
  have h1 : s.Perm (List.range l.length) := (List.perm_ext_iff_of_nodup hd List.nodup_range).2 (fun i => ⟨fun hi => List.mem_range.2 (h i hi), fun hi => ha i (List.mem_range.1 hi)⟩)
  refine (h1.map (keyAt l)).trans ?_
  have h2 : (List.range l.length).map (keyAt l) = keysM l := by
    apply List.ext_getElem
    · simp [keysM]
    · intro i h3 h4
      have h5 : i < l.length := by simpa using h3
      simp [keyAt, keysM, List.getD_eq_getElem?_getD, List.getElem?_eq_getElem h5]
  rw [h2]
/-- a map's own place, and the box that holds it, only read. -/
structure keysK (b m T : Nat) (l : List (ByteArray × Value)) (w : World) : Prop where
  box : w.heap[b]? = some (.cells [Value.map (some m)].toArray T (0, 0))
  mp : w.heap[m]? = some (.map (mkM 0 l).toArray l.length)
def keysA (b m T : Nat) (l : List (ByteArray × Value)) : Asn := .any (fun k => k = b ∨ k = m) (keysK b m T l) false
theorem keys_ok {b m T : Nat} {l : List (ByteArray × Value)} {w : World} (h : keysK b m T l w) : (keysA b m T l).ok w := by
  refine ⟨fun k hk => ?_, fun w' hw => ⟨?_, ?_⟩⟩
  · rcases hk with rfl | rfl
    · exact (Array.getElem?_eq_some_iff.1 h.box).1
    · exact (Array.getElem?_eq_some_iff.1 h.mp).1
  · rw [hw b (.inl rfl)]; exact h.box
  · rw [hw m (.inr rfl)]; exact h.mp
def keyV (k : ByteArray) : Array Value := [.string k].toArray
def itF (it : Nat) : Nat → Prop := fun k => k = it
theorem St.bareK {n : Nat} {a : Act} {w : World} {L : List (Nat × Value)} (h : Sl n a L) : St n noB w a w L [] := ⟨h, Chg.refl _ _, okN, disN, mineN⟩
theorem St.iter {n : Nat} {a : Act} {w : World} {L : List (Nat × Value)} (h : Sl n a L) {it m N : Nat} {s : List Nat} {Y : Asn} (hi : w.heap[it]? = some (.mapIter (some m) N s.toArray N)) (hY : Y.ok w) (hm : Y.mine = false) (hd : ¬ Y.F it) : St n (itF it) w a w L [itA it m s N, Y] :=
  ⟨h, Chg.refl _ _, okC (it_ok hi) (okC hY okN), disC (sepC (fun b e1 e2 => hd (by have e3 : b = it := e1; rw [← e3]; exact e2)) sepN) dis1, mineO (fun _ hb => hb) (mineC hm mineN)⟩
/-- what does not hang on this place stays while only it is written. -/
theorem ab_it {β : Type} {B it : Nat} {I : β → World → Prop} (h : AbR B (it + 1) I) (hit : B ≤ it) {s : β} {w w' : World} (hs : I s w) (hc : Chg (itF it) w w') : I s w' :=
  h s w w' hs hc.os hc.tape hc.output hc.size (fun k hk hk2 => hc.block k hk (fun e => by have e2 : k = it := e; omega))

set_option maxRecDepth 100000 in
theorem Keys_Fx_seq (b m : Nat) (l : List (ByteArray × Value)) : SeqD Try.prog 109 #[.pointer (some ⟨b, 0, none⟩)] keyV (fun xs => xs.Perm (keysM l)) (fun _ => True) l.length (keysK b m 112 l) := by
  intro ly J Jx W hK hJ hJx hY h0
  have hk0 := hK _ _ _ (h0 W.heap.size (Nat.le_refl _))
  have hbW : b < W.heap.size := (Array.getElem?_eq_some_iff.1 hk0.box).1
  have hmW : m < W.heap.size := (Array.getElem?_eq_some_iff.1 hk0.mp).1
  rw [show (#[Value.func (.yield ly) #[] #[]] ++ #[Value.pointer (some ⟨b, 0, none⟩)] : Array Value) = [Value.func (.yield ly) #[] #[], Value.pointer (some ⟨b, 0, none⟩)].toArray from rfl]
  refine callsIn_enter [(0, .func (.yield ly) #[] #[]), (1, .pointer (some ⟨b, 0, none⟩))] [keysA b m 112 l] noB Try.func109 rfl Try.ntmps109 ⟨rfl, rfl, trivial⟩ rfl (okC (keys_ok hk0) okN) dis1 (mineC (by rfl) mineN) ?_
  intro a hS
  refine R_seq ?_
  refine R_region ?_
  refine R_op rfl (s_e hS (e_loadC rfl ty_sc112 (fun w hh => cell_of_blk (cs := [.map (some m)]) (hh (keysA b m 112 l) (by repeat constructor)).box rfl)) rfl ?_); clear hS a; intro a hS
  refine R_op rfl (s_rangeM (l := l) hS rfl ty_mp112 (fun w hh => (hh (keysA b m 112 l) (by repeat constructor)).mp) (by rfl) ?_); clear hS a; (try clear w); intro a w it hS
  refine R_nil ?_
  refine n_then ?_
  refine R_block ?_
  have hitW : W.heap.size ≤ it := by
    have h1 := hS.mine (itA it m [] l.length) (by repeat constructor) rfl it rfl
    rcases h1 with h1 | h1
    · exact h1
    · exact h1.elim
  have hnF : ¬ (keysA b m 112 l).F it := fun e => by
    have e2 : it = b ∨ it = m := e
    omega
  have hJi := hJ (it + 1) (by omega)
  have hJ0 : J (it + 1) [] w := hJi _ _ _ (h0 (it + 1) (by omega)) hS.chg.os hS.chg.tape hS.chg.output hS.chg.size (fun k hk _ => hS.chg.block k hk (fun e => e))
  have hWw := hS.chg.size
  refine R_loop (γ := List Nat) (fun s a w => St 14 (itF it) w a w [(5, .pointer (some ⟨it, 0, none⟩)), (0, .func (.yield ly) #[] #[]), (1, .pointer (some ⟨b, 0, none⟩))] [itA it m s l.length, keysA b m 112 l] ∧ W.heap.size ≤ w.heap.size ∧ s.Nodup ∧ (∀ i ∈ s, i < l.length) ∧ J (it + 1) (s.map (keyAt l)) w) (fun s => l.length - s.length) [] ⟨St.iter (hS.sl.sub (by repeat (first | exact trivial | refine ⟨rfl, ?_⟩))) (hS.get (X := itA it m [] l.length) (by repeat constructor)) (hS.ok _ (by repeat constructor)) rfl hnF, hWw, .nil, fun i hi => (by cases hi), hJ0⟩ ?_
  clear hS a; (try clear w); intro s a w hI
  obtain ⟨hS, hWw, hnd, hlt, hj⟩ := hI
  refine R_seq ?_
  refine R_region ?_
  refine R_op rfl (s_nextO (l := l) hS rfl (fun w hh => (hh (keysA b m 112 l) (by repeat constructor)).mp) (by rfl) (fun _ => .head) ?_); intro o ho a1 w1 hS1; have hj1 := ab_it hJi hitW hj hS1.chg; have hW1 : W.heap.size ≤ w1.heap.size := Nat.le_trans hWw hS1.chg.size; clear hS a; revert a1; intro a hS
  refine R_op rfl (s_e hS (e_extract rfl (nx0 o)) rfl ?_); clear hS a; intro a hS
  refine R_nil ?_
  refine n_then ?_
  refine R_seq ?_
  first | refine R_ifD hS rfl (fun hc7 => ?_) (fun hc7 => ?_) | refine R_if hS rfl (fun hc7 => ?_) (fun hc7 => ?_)
  ·
    obtain ⟨⟨i, k, v⟩, rfl⟩ : ∃ q, o = some q := Option.isSome_iff_exists.1 hc7
    obtain ⟨hl, hns⟩ := ho
    simp only [nxS] at hS
    have hil := (List.getElem?_eq_some_iff.1 hl).1
    have hnd2 : (s ++ [i]).Nodup := List.nodup_append.2 ⟨hnd, by simp, fun x hx y hy => by obtain rfl := List.mem_singleton.1 hy; exact fun e => hns (e ▸ hx)⟩
    have hlt2 : ∀ j ∈ s ++ [i], j < l.length := fun j hj => by
      rcases List.mem_append.1 hj with hj | hj
      · exact hlt j hj
      · obtain rfl := List.mem_singleton.1 hj; exact hil
    have hsl := nodup_le _ _ hnd2 hlt2
    rw [List.length_append, List.length_singleton] at hsl
    have hka : s.map (keyAt l) ++ [k] = (s ++ [i]).map (keyAt l) := by rw [List.map_append, List.map_singleton, keyAt_of hl]
    have hiw : w1.heap[it]? = some (.mapIter (some m) l.length (s ++ [i]).toArray l.length) := hS.get (X := itA it m (s ++ [i]) l.length) (by repeat constructor)
    have hilt := (Array.getElem?_eq_some_iff.1 hiw).1
    have hy := hY (it + 1) _ k w1 (by omega) hilt hj1 (by rw [List.length_map]; omega)
    unfold keyV at hy
    rw [hka] at hy
    refine R_skip ?_
    refine n_then ?_
    refine R_block ?_
    refine R_seq ?_
    refine R_region ?_
    refine R_op rfl (s_e hS (e_entryM rfl (fun w hh => (hh (keysA b m 112 l) (by repeat constructor)).mp) (by repeat constructor) hl) rfl ?_); clear hS a; intro a hS
    refine R_op rfl (s_e hS (e_extract rfl rfl) rfl ?_); clear hS a; intro a hS
    refine R_op rfl (s_e hS (e_assign rfl) rfl ?_); clear hS a; intro a hS
    refine R_nil ?_
    refine n_then ?_
    refine R_seq ?_
    refine R_region ?_
    refine R_op rfl (s_e hS (e_move rfl) rfl ?_); clear hS a; intro a hS
    refine R_op rfl (s_e hS (e_move rfl) rfl ?_); clear hS a; intro a hS
    refine R_yield hS rfl (.cons rfl .nil) hy (fun e' w' hR => ?_)
    obtain ⟨hKp, hR⟩ := hR
    have hit2 := (hKp.2 it hitW (by omega)).trans hiw
    have hW2 : W.heap.size ≤ w'.heap.size := Nat.le_trans hW1 hKp.1
    obtain ⟨y, rfl, hR2⟩ : ∃ y : Bool, e' = .returned (.bool y) ∧ ((y = true ∧ J (it + 1) ((s ++ [i]).map (keyAt l)) w') ∨ (y = false ∧ Jx (it + 1) ((s ++ [i]).map (keyAt l)) w')) := by
      rcases hR with ⟨h1, h2⟩ | ⟨h1, h2⟩
      · exact ⟨true, h1, .inl ⟨rfl, h2⟩⟩
      · exact ⟨false, h1, .inr ⟨rfl, h2⟩⟩
    refine ⟨_, rfl, ?_⟩
    replace hS := St.bareK (w := w') (hS.sl.put (d := 12) rfl (.bool y))
    clear hj1 hy hj hKp
    generalize a.put (some 12) (Value.bool y) = a2 at hS ⊢
    clear a; revert a2; intro a hS
    refine R_op rfl (s_e hS (e_not rfl) rfl ?_); clear hS a; intro a hS
    refine R_nil ?_
    refine n_then ?_
    first | refine R_ifD hS rfl (fun hc13 => ?_) (fun hc13 => ?_) | refine R_if hS rfl (fun hc13 => ?_) (fun hc13 => ?_)
    ·
      refine R_ret ?_
      refine r_block (r_then (r_block ?_))
      refine c_retN hS Try.results109 .nil rfl ?_
      have hx2 : Jx (it + 1) ((s ++ [i]).map (keyAt l)) w' := by
        rcases hR2 with ⟨h1, _⟩ | ⟨_, h2⟩
        · rw [h1] at hc13; cases hc13
        · exact h2
      exact ⟨⟨_, rfl⟩, it + 1, by omega, .inr ⟨_, trivial, hx2⟩⟩
    ·
      refine R_skip ?_
      refine n_block ?_
      have hx2 : J (it + 1) ((s ++ [i]).map (keyAt l)) w' := by
        rcases hR2 with ⟨_, h2⟩ | ⟨h1, _⟩
        · exact h2
        · rw [h1] at hc13; cases hc13
      exact ⟨s ++ [i], by rw [List.length_append, List.length_singleton]; omega, St.iter (hS.sl.sub (by repeat (first | exact trivial | refine ⟨rfl, ?_⟩))) hit2 (keys_ok (hK _ _ _ hx2)) rfl hnF, hW2, hnd2, hlt2, hx2⟩
  ·
    refine R_exit ?_
    refine x_then (x_then (x_hit ?_))
    refine r_norm ?_
    refine c_retN hS Try.results109 .nil rfl ?_
    obtain rfl : o = none := by
      cases o with
      | none => rfl
      | some q => cases hc7
    exact ⟨⟨_, rfl⟩, it + 1, by omega, .inl ⟨_, keys_all hnd hlt ho, hj1⟩⟩
end Go.Proofs.Ytheofhegdjjfgaa
