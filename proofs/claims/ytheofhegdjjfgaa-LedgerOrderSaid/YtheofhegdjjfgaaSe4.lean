/- Rows: slices that came in, slices of the walk's own, structs built, strings cut and joined. -/
import Derived.Test.YtheofhegdjjfgaaSe3
namespace Go.Proofs.Ytheofhegdjjfgaa
open Go.RowKit

section
variable {P : Program} {n : Nat} {F0 : Nat → Prop} {w0 : World} {a : Act} {w : World} {L : List (Nat × Value)} {Γ : List Asn}
variable {K : Act → World → Prop} {Q : Exit → Act → World → Prop} {d ty : Nat} {dst : Option Tmp} {pos : String} {af : Array Edge} {g : Option (Nat × Bool)}

theorem sliceT_eq {T E : TypeId} (h : sliceT P T = some E) : P.underlying T = some (.slice E) := by
  unfold sliceT at h; cases hi : P.underlying T with
  | none => simp [hi] at h
  | some D => cases D <;> simp_all

theorem info_of {E s b : Nat} {zs : List Value} (h1 : szOf P E = some s) (h2 : byOf P E = some b) (h3 : zeroOf P E = some zs) :
    ∃ i z, P.info? E = some i ∧ i.zero = some z ∧ i.size = s ∧ i.bytes = b ∧ z.cells = zs.toArray := by
  unfold szOf at h1; unfold byOf at h2; unfold zeroOf at h3
  cases hi : P.info? E with
  | none => simp [hi] at h1
  | some i =>
    cases hz : i.zero with
    | none => simp [hi, hz] at h3
    | some z => simp [hi, hz] at h1 h2 h3; exact ⟨i, z, rfl, hz, h1, h2, by simp [← h3]⟩

/-! ### element addresses -/
theorem e_ix {T E s b off m c : Nat} {x y : Operand} {k : IntKind} {i : Int} (hx : ev L x = some (.slice (some ⟨b, off, none⟩) m c)) (hy : ev L y = some (.int k i)) (hT : sliceT P T = some E) (hs : szOf P E = some s)
    (hi : 0 ≤ i ∧ i < m) : Ex P n a L Γ ⟨dst, .indexAddr T x y, ty, pos, af, g⟩ (.pointer (some ⟨b, off + i.toNat * s, none⟩)) := fun hs' w _ => by
  simp [execOp, hs'.ev hx, hs'.ev hy, Instr.indexAt, asIntOf, underlying, sliceT_eq hT, hi.1, hi.2, sizeOf_run hs, addr_add]
theorem e_ixN {T E s b off m c : Nat} {x y : Operand} {k : IntKind} {i : Nat} (hx : ev L x = some (.slice (some ⟨b, off, none⟩) m c)) (hy : ev L y = some (.int k (i : Int))) (hT : sliceT P T = some E) (hs : szOf P E = some s)
    (hi : i < m) : Ex P n a L Γ ⟨dst, .indexAddr T x y, ty, pos, af, g⟩ (.pointer (some ⟨b, off + i * s, none⟩)) := by
  have h := e_ix (P := P) (n := n) (a := a) (Γ := Γ) (dst := dst) (ty := ty) (pos := pos) (af := af) (g := g) hx hy hT hs (by omega)
  rwa [Int.toNat_natCast] at h
/-- the element 0 of a block. -/
theorem e_ix0 {T E s b m c : Nat} {x y : Operand} {k : IntKind} (hx : ev L x = some (.slice (some ⟨b, 0, none⟩) m c)) (hy : ev L y = some (.int k 0)) (hT : sliceT P T = some E) (hs : szOf P E = some s)
    (hi : 0 < m) : Ex P n a L Γ ⟨dst, .indexAddr T x y, ty, pos, af, g⟩ (.pointer (some ⟨b, 0, none⟩)) := by
  have h := e_ix (P := P) (n := n) (a := a) (Γ := Γ) (dst := dst) (ty := ty) (pos := pos) (af := af) (g := g) hx hy hT hs (by omega)
  simpa using h
theorem e_ixS {T : Nat} {x y : Operand} {k : IntKind} {i : Int} {s : ByteArray} (hx : ev L x = some (.string s)) (hy : ev L y = some (.int k i)) (hT : P.underlying T = some .string)
    (hi : 0 ≤ i ∧ i < s.size) : Ex P n a L Γ ⟨dst, .index T x y, ty, pos, af, g⟩ (.int .u8 ((s.data.toList.getD i.toNat 0).toNat : Int)) := fun hs' w _ => by
  have h := run_index_string (P := P) (w := w) T s k i hT
  rw [dif_pos hi] at h
  have e : s.data.toList.getD i.toNat 0 = s[i.toNat]'(by omega) := by
    have hl : i.toNat < s.data.toList.length := by have := hi.2; simp; omega
    rw [List.getD_eq_getElem?_getD, List.getElem?_eq_getElem hl]; rfl
  rw [e]
  simp [execOp, hs'.ev hx, hs'.ev hy, h]

/-! ### rows -/
/-- a row that can be read: element i holds xs[i]. -/
def RowAt (b off s : Nat) (xs : List (List Value)) (w : World) : Prop :=
  ∀ i x, xs[i]? = some x → ∀ j v, x[j]? = some v → w.cell? ⟨b, off + i * s + j, none⟩ = some v

/-- a slice of the walk's own. -/
def ownA (E s : Nat) (v : Value) (m : Nat) (xs : List Value) : Asn := .any (fun k => v.ownBlock = some k) (fun w => w.ownsRow 0 E s v m xs) true

theorem ok_own {w : World} {E s : Nat} {v : Value} {m : Nat} {xs : List Value} (h : w.ownsRow 0 E s v m xs) : (ownA E s v m xs).ok w := by
  refine ⟨fun b hb => (h.lt b hb).2, fun w' hw => ?_⟩
  refine ⟨h.1, h.2.imp id ?_⟩
  rintro ⟨g, cap, cur, rfl, h1, h2, h3⟩
  exact ⟨g, cap, cur, rfl, h1, by rw [hw g rfl]; exact h2, h3⟩

theorem own_nil (w : World) (E s : Nat) : (ownA E s (.slice none 0 0) 0 []).ok w := ok_own (World.ownsRow_nil w 0 E s)

/-- an entry that owns no block, or only new ones, may be added at any time. -/
theorem St.more (h : St n F0 w0 a w L Γ) {Y : Asn} (hY : Y.ok w) (hnew : ∀ b, Y.F b → False) : St n F0 w0 a w L (Y :: Γ) :=
  h.fresh (Chg.refl _ _) hY (fun b hb => (hnew b hb).elim)

theorem St.own_nil (h : St n F0 w0 a w L Γ) (E s : Nat) : St n F0 w0 a w L (ownA E s (.slice none 0 0) 0 [] :: Γ) :=
  h.more (Go.Proofs.Ytheofhegdjjfgaa.own_nil w E s) (fun b hb => by simp [ownA, Asn.F, Value.ownBlock] at hb)

theorem Chg.grown {w w' : World} {v : Value} (h : w.grownBy w' v.ownBlock) : Chg (fun k => v.ownBlock = some k) w w' :=
  ⟨h.os, h.tape, h.output, h.size, fun k hk hn => h.block k hk (fun e => hn e.symm)⟩
theorem Chg.grown0 {w w' : World} (h : w.grownBy w' none) : Chg noB w w' :=
  ⟨h.os, h.tape, h.output, h.size, fun k hk _ => h.block k hk (by simp)⟩

theorem own_slice {w : World} {E s : Nat} {v : Value} {m : Nat} {xs : List Value} (h : w.ownsRow 0 E s v m xs) : ∃ p c, v = .slice p m c := by
  rcases h.2 with ⟨rfl, rfl⟩ | ⟨g, cap, cur, rfl, _⟩
  · exact ⟨none, 0, rfl⟩
  · exact ⟨_, _, rfl⟩

theorem append_own {t ty e : TypeId} {i : TypeInfo} {z : Value} {size bytes : Nat} (ht : P.underlying t = some (.slice e)) (hi : P.info? e = some i) (hz : i.zero = some z)
    (hsize : i.size = size) (hby : i.bytes = bytes) (hzs : z.cells.size = size) (hsz : 0 < size)
    {v : Value} {m : Nat} {xs : List Value} (hown : w.ownsRow 0 e size v m xs) {ad : Addr} {k c : Nat} {news : List Value} (hl : news.length = k * size) (hnews : ∀ j u, news[j]? = some u → w.cell? (ad.add j) = some u) (h1 : ∀ u ∈ news, u.oneCell' = true)
    (h63 : m + k ≤ 4611686018427387904) (hbytes : (m + k) * bytes ≤ 140737488355328) :
    ∃ v' w', (Builtin.append_ #[t, t] ty #[v, .slice (some ad) k c]).run P w = .ok v' w' ∧ w'.ownsRow 0 e size v' (m + k) (xs ++ news) ∧ w.grownBy w' v.ownBlock ∧
      (∀ q, v'.ownBlock = some q → v.ownBlock = some q ∨ w.heap.size ≤ q) ∧ (v' = .slice none 0 0 ↔ v = .slice none 0 0 ∧ k = 0) := by
  obtain ⟨v', w', hrun, hown', hgr, hnil⟩ := run_append_own (P := P) w 0 t ty e i z size bytes ht hi hz hsize hby hzs hsz v m xs hown ad k c news hl hnews h1 (by unfold maxLen; omega) hbytes (Nat.zero_le _)
  refine ⟨v', w', hrun, hown', hgr, ?_, hnil⟩
  subst hsize
  subst hby
  rcases hown.2 with ⟨rfl, rfl⟩ | ⟨g, cap, cur, rfl, _, hg, hnc, hcm, hcs, htake⟩
  · by_cases hk : k = 0
    · intro q hq; rw [hnil.2 ⟨rfl, hk⟩] at hq; simp [Value.ownBlock] at hq
    · have hr := run_append_nil (P := P) w t ty e i z ht hi hz ad k c news hl hnews (by omega) (by omega) (by simp only [Nat.zero_add] at hbytes; omega)
      have := hrun.symm.trans hr
      injection this with e1 _
      intro q hq; rw [e1] at hq; simp [Value.ownBlock] at hq; right; omega
  · by_cases hroom : m + k ≤ cap
    · have hfit : m * i.size + news.length ≤ cur.size := by rw [hl, hcs, ← Nat.add_mul]; exact Nat.mul_le_mul_right _ hroom
      have hr := run_append_room (P := P) w t ty e i ht hi g m cap cur hg ad k c news hl hnews h1 hroom hfit
      have := hrun.symm.trans hr
      injection this with e1 _
      intro q hq; rw [e1] at hq; left; simpa [Value.ownBlock] using hq
    · have holds : ∀ j u, xs[j]? = some u → w.cell? ((⟨g, 0, none⟩ : Addr).add j) = some u := hown.cells (g := g) rfl
      have hr := run_append_grow (P := P) w t ty e i z ht hi hz ⟨g, 0, none⟩ m cap xs hown.1 holds ad k c news hl hnews (by omega) (by omega) (growslice_fits (by omega) hbytes)
      have := hrun.symm.trans hr
      injection this with e1 _
      intro q hq; rw [e1] at hq; simp [Value.ownBlock] at hq; right; omega

/-- 'append(s, x..)': s is the walk's own, the new cells can be read where they lie. -/
theorem s_append {T E s b : Nat} {zs : List Value} {x y : Operand} {v : Value} {m bx ox k c : Nat} {cs ys : List Value} {Γ' : Value → List Asn} (hS : St n F0 w0 a w L Γ) (hx : ev L x = some v) (hy : ev L y = some (.slice (some ⟨bx, ox, none⟩) k c))
    (hT : sliceT P T = some E) (hs : szOf P E = some s) (hb : byOf P E = some b) (hz : zeroOf P E = some zs) (hzl : Nat.beq zs.length s = true) (hs0 : Nat.blt 0 s = true) (hn : Nat.blt d n = true)
    (hm : ownA E s v m cs ∈ Γ) (hyl : ys.length = k * s) (hys : ∀ j u, ys[j]? = some u → w.cell? ⟨bx, ox + j, none⟩ = some u) (h1 : ∀ u ∈ ys, isOne u = true) (hbd : (m + k) * b ≤ 140737488355328 ∧ m + k ≤ 4611686018427387904)
    (hr : ∀ v', Rep (ownA E s v m cs) (ownA E s v' (m + k) (cs ++ ys)) Γ (Γ' v'))
    (h : ∀ v' a' w', (v' = .slice none 0 0 ↔ v = .slice none 0 0 ∧ k = 0) → St n F0 w0 a' w' ((d, v') :: L) (Γ' v') → K a' w') : OW P ⟨some d, .call ⟨.builtin .append, #[x, y], #[T, T]⟩, ty, pos, af, g⟩ a w K Q := by
  obtain ⟨i, z, hi, hz', hsz, hby, hzc⟩ := info_of hs hb hz
  have hown : w.ownsRow 0 E s v m cs := hS.get hm
  have e1 := Nat.eq_of_beq_eq_true hzl
  have e2 : 0 < s := by simpa using hs0
  obtain ⟨v', w', hrun, hown', hgr, hblk, hnil⟩ := append_own (P := P) (ty := ty) (sliceT_eq hT) hi hz' hsz hby (by rw [hzc]; simpa using e1) e2 hown (ad := ⟨bx, ox, none⟩) (c := c) hyl
    (fun j u hj => by rw [addr_add]; exact hys j u hj) (fun u hu => isOne_oneCell (h1 u hu)) hbd.2 hbd.1
  have he : (execOp a.eval (⟨some d, .call ⟨.builtin .append, #[x, y], #[T, T]⟩, ty, pos, af, g⟩ : Oper)).run P w = .ok (.value v') w' := by
    simp [execOp, resolve, invoke, builtin, hS.sl.ev hx, hS.sl.ev hy, hrun]
  refine ⟨?_⟩
  unfold Oper.wp
  rw [he]
  exact h v' _ _ hnil ((hS.upd (hr v') (Chg.grown hgr) (ok_own hown') (fun k hk => hblk k hk) rfl).put hn _)

/-- 'append(s, x)': the one new element lies in a block of its own. -/
theorem s_append1 {T E s b : Nat} {zs : List Value} {x y : Operand} {v : Value} {m bx k c Ex : Nat} {cs ys : List Value} {Γ' : Value → List Asn} (hS : St n F0 w0 a w L Γ) (hx : ev L x = some v) (hy : ev L y = some (.slice (some ⟨bx, 0, none⟩) k c))
    (hT : sliceT P T = some E) (hs : szOf P E = some s) (hb : byOf P E = some b) (hz : zeroOf P E = some zs) (hzl : Nat.beq zs.length s = true) (hs0 : Nat.blt 0 s = true) (hn : Nat.blt d n = true)
    (hm : ownA E s v m cs ∈ Γ) (hbx : Asn.blk bx ys Ex ∈ Γ) (hyl : Nat.beq ys.length (k * s) = true) (h1 : ys.all isOne = true) (hr : ∀ v', Rep (ownA E s v m cs) (ownA E s v' (m + k) (cs ++ ys)) Γ (Γ' v')) (hbd : (m + k) * b ≤ 140737488355328 ∧ m + k ≤ 4611686018427387904)
    (h : ∀ v' a' w', (v' = .slice none 0 0 ↔ v = .slice none 0 0 ∧ k = 0) → St n F0 w0 a' w' ((d, v') :: L) (Γ' v') → K a' w') : OW P ⟨some d, .call ⟨.builtin .append, #[x, y], #[T, T]⟩, ty, pos, af, g⟩ a w K Q :=
  s_append hS hx hy hT hs hb hz hzl hs0 hn hm (Nat.eq_of_beq_eq_true hyl) (fun j u hj => by rw [Nat.zero_add]; exact cell_of_blk (hS.get hbx) hj) (by simpa using h1) hbd hr h

/-! ### maps -/
def mapT (P : Program) (T : TypeId) : Option (TypeId × TypeId) := match P.underlying T with | some (.map k e) => some (k, e) | _ => none
theorem mapT_eq {T K E : TypeId} (h : mapT P T = some (K, E)) : P.underlying T = some (.map K E) := by
  unfold mapT at h; cases hi : P.underlying T with
  | none => simp [hi] at h
  | some D => cases D <;> simp_all
def plainKey : TypeDesc → Bool
  | .int _ | .string | .bool => true
  | _ => false
theorem checkKey_plain {t : TypeId} {D : TypeDesc} (h : P.underlying t = some D) (hp : plainKey D = true) (em : Bool) (m : Nat) (v : Value) : (Instr.checkKey em (m + 1) t v).run P w = .ok () w := by
  cases D <;> simp [plainKey] at hp <;> simp [Instr.checkKey, underlying, h]

theorem s_makeMap {T : TypeId} (hS : St n F0 w0 a w L Γ) (hn : Nat.blt d n = true)
    (h : ∀ a' w' b, St n F0 w0 a' w' ((d, .map (some b)) :: L) (.mp b [] 0 :: Γ) → K a' w') : OW P ⟨some d, .makeMap T none, ty, pos, af, g⟩ a w K Q := by
  have he : (execOp a.eval (⟨some d, .makeMap T none, ty, pos, af, g⟩ : Oper)).run P w = .ok (.value (.map (some w.heap.size))) (w.alloc (.map #[] 0)) := by
    simp [execOp, Instr.makeMap]
  refine ⟨?_⟩
  unfold Oper.wp
  rw [he]
  refine h _ _ w.heap.size ((hS.fresh (Chg.alloc _ _ _) (Y := .mp w.heap.size [] 0) ⟨fun b hb => ?_, fun w' hw => ?_⟩ ?_).put hn _)
  · obtain rfl : b = w.heap.size := hb; simp
  · show w'.heap[w.heap.size]? = _
    rw [hw _ rfl]; show (w.heap.push _)[w.heap.size]? = _
    simp
  · intro b hb; obtain rfl : b = w.heap.size := hb; exact Nat.le_refl _

theorem s_insert {T Kt Et b c : Nat} {D : TypeDesc} {x y z : Operand} {k v : Value} {es : List MapEntry} {Γ' : List Asn} (hS : St n F0 w0 a w L Γ) (hx : ev L x = some (.map (some b))) (hy : ev L y = some k) (hz : ev L z = some v)
    (hT : mapT P T = some (Kt, Et)) (hD : P.underlying Kt = some D) (hp : plainKey D = true) (hr : Rep (.mp b es c) (.mp b (es ++ [MapEntry.mk k v c]) (c + 1)) Γ Γ') (hf : Instr.findNow D k es 0 = some none)
    (h : ∀ w', St n F0 w0 a w' L Γ' → K a w') : OW P ⟨none, .insert T x y z, ty, pos, af, g⟩ a w K Q := by
  have hb : w.heap[b]? = some (.map es.toArray c) := hS.get hr.mem
  have hlt := (Array.getElem?_eq_some_iff.1 hb).1
  have hck := checkKey_plain (P := P) (w := w) hD hp false 9999 k
  have he : (execOp a.eval (⟨none, .insert T x y z, ty, pos, af, g⟩ : Oper)).run P w = .ok .skip { w with heap := w.heap.setIfInBounds b (.map (es ++ [MapEntry.mk k v c]).toArray (c + 1)) } := by
    simp only [execOp, hS.sl.ev hx, hS.sl.ev hy, hS.sl.ev hz, Instr.mapUpdate, Sem.run_bind, underlying, run_program, Result.andThen_ok, mapT_eq hT, Sem.run_pure]
    simp [getObj, Sem.run, hb, hck, Instr.findKey, underlying, hD, hf, setObj]
  refine ⟨?_⟩
  unfold Oper.wp
  rw [he]
  refine h _ (hS.upd hr ⟨rfl, rfl, rfl, by simp, fun q hq hne => ?_⟩ ⟨fun q hq => ?_, fun w' hw => ?_⟩ (fun q hq => .inl hq) rfl)
  · have : b ≠ q := fun e => hne e.symm
    simp [Array.getElem?_setIfInBounds_ne this]
  · obtain rfl : q = b := hq; simpa using hlt
  · show w'.heap[b]? = _
    rw [hw _ rfl]; simp [hlt]

theorem e_lookup {T Kt Et b c i : Nat} {D : TypeDesc} {x y : Operand} {k v : Value} {es : List MapEntry} (hx : ev L x = some (.map (some b))) (hy : ev L y = some k)
    (hT : mapT P T = some (Kt, Et)) (hD : P.underlying Kt = some D) (hp : plainKey D = true) (hm : Asn.mp b es c ∈ Γ) (hf : Instr.findNow D k es 0 = some (some (i, v))) : Ex P n a L Γ ⟨dst, .lookup T x y false, ty, pos, af, g⟩ v := fun hs w hh => by
  have hb : w.heap[b]? = some (.map es.toArray c) := hh _ hm
  have hck := checkKey_plain (P := P) (w := w) hD hp es.isEmpty 9999 k
  simp only [execOp, hs.ev hx, hs.ev hy, Instr.lookup, Sem.run_bind, underlying, run_program, Result.andThen_ok, mapT_eq hT, Sem.run_pure]
  simp [getObj, Sem.run, hb, hck, Instr.findKey, underlying, hD, hf]

/-- 'append(s, none..)'. -/
theorem e_append0 {T E s b : Nat} {zs : List Value} {x y : Operand} {v : Value} {m : Nat} {cs : List Value} (hx : ev L x = some v) (hy : ev L y = some (.slice none 0 0))
    (hT : sliceT P T = some E) (hs : szOf P E = some s) (hb : byOf P E = some b) (hz : zeroOf P E = some zs) (hm : ownA E s v m cs ∈ Γ) : Ex P n a L Γ ⟨dst, .call ⟨.builtin .append, #[x, y], #[T, T]⟩, ty, pos, af, g⟩ v := fun hs' w hh => by
  obtain ⟨i, z, hi, hz', hsz, hby, hzc⟩ := info_of hs hb hz
  have hown : w.ownsRow 0 E s v m cs := hh _ hm
  have h := run_append_owned_none (P := P) w 0 T ty E i s (sliceT_eq hT) hi v m cs hown
  simp [execOp, resolve, invoke, builtin, hs'.ev hx, hs'.ev hy, h]

/-- 'make([]T, 0, c)'. -/
theorem s_make0 {T E s b : Nat} {zs : List Value} {x y : Operand} {k k' : IntKind} {c : Nat} (hS : St n F0 w0 a w L Γ) (hx : ev L x = some (.int k 0)) (hy : ev L y = some (.int k' (c : Int)))
    (hT : sliceT P T = some E) (hs : szOf P E = some s) (hb : byOf P E = some b) (hz : zeroOf P E = some zs) (hn : Nat.blt d n = true) (hbd : b * c ≤ 281474976710656 ∧ c ≤ 4611686018427387904)
    (h : ∀ b' a' w', St n F0 w0 a' w' ((d, .slice (some ⟨b', 0, none⟩) 0 c) :: L) (ownA E s (.slice (some ⟨b', 0, none⟩) 0 c) 0 [] :: Γ) → K a' w') : OW P ⟨some d, .makeSlice T x y, ty, pos, af, g⟩ a w K Q := by
  obtain ⟨i, z, hi, hz', hsz, hby, hzc⟩ := info_of hs hb hz
  obtain ⟨w', hrun, hown, hgr⟩ := run_make_own (P := P) w 0 T E i z s (sliceT_eq hT) hi hz' hsz k k' c (by rw [hby]; exact hbd.1) (by unfold maxLen; omega) (Nat.zero_le _)
  have he : (execOp a.eval (⟨some d, .makeSlice T x y, ty, pos, af, g⟩ : Oper)).run P w = .ok (.value (.slice (some ⟨w.heap.size, 0, none⟩) 0 c)) w' := by
    simp [execOp, hS.sl.ev hx, hS.sl.ev hy, hrun]
  refine ⟨?_⟩
  unfold Oper.wp
  rw [he]
  exact h _ _ _ ((hS.fresh (Chg.grown0 hgr) (ok_own hown) (fun q hq => by
    have : Value.ownBlock (.slice (some ⟨w.heap.size, 0, none⟩) 0 c) = some q := hq
    simp [Value.ownBlock] at this; omega)).put hn _)

/-! ### slices of structs, structs built -/
/-- cells overwritten from 'off' on. -/
def setL : List Value → Nat → List Value → List Value
  | l, _, [] => l
  | l, off, v :: vs => setL (l.set off v) (off + 1) vs

theorem fold_set (off : Nat) (vs : List Value) (k : Nat) (cs : Array Value) :
    (vs.toArray.zipIdx k).foldl (fun cs (c, j) => cs.setIfInBounds (off + j) c) cs = (setL cs.toList (off + k) vs).toArray := by
  rw [Array.zipIdx_toArray, List.foldl_toArray]
  induction vs generalizing k cs with
  | nil => simp [setL]
  | cons v vs ih =>
    rw [List.zipIdx_cons, List.foldl_cons, ih]
    simp only [setL, Array.toList_setIfInBounds, Nat.add_assoc]

theorem setL_full : ∀ (vs pre old : List Value), old.length = vs.length → setL (pre ++ old) pre.length vs = pre ++ vs := by
  intro vs
  induction vs with
  | nil => intro pre old h; have : old = [] := by simpa using h
           subst this; rfl
  | cons v vs ih =>
    intro pre old h
    cases old with
    | nil => simp at h
    | cons o old =>
      have := ih (pre ++ [v]) old (by simpa using h)
      simp only [setL]
      rw [show (pre ++ o :: old).set pre.length v = (pre ++ [v]) ++ old by simp]
      simpa using this
theorem length_setL : ∀ (vs l : List Value) (off : Nat), (setL l off vs).length = l.length := by
  intro vs
  induction vs with
  | nil => intro l off; rfl
  | cons v vs ih => intro l off; simp [setL, ih]

inductive UpdA : List Value → Nat → List Value → List Value → Prop
  | nil {cs : List Value} {k : Nat} : UpdA cs k [] cs
  | cons {cs cs1 cs2 vs : List Value} {k : Nat} {v : Value} (h : Upd cs k v cs1) (t : UpdA cs1 (k + 1) vs cs2) : UpdA cs k (v :: vs) cs2
theorem UpdA.eq {cs vs cs' : List Value} {k : Nat} (h : UpdA cs k vs cs') : cs' = setL cs k vs ∧ (vs = [] ∨ k + vs.length ≤ cs.length) := by
  induction h with
  | nil => exact ⟨rfl, .inl rfl⟩
  | cons h _ ih =>
    obtain ⟨rfl, h2⟩ := h.eq
    refine ⟨by rw [ih.1]; rfl, .inr ?_⟩
    rcases ih.2 with rfl | h3
    · simp; omega
    · simp at h3 ⊢; omega

def nthP : List (Nat × Nat) → Nat → Option (Nat × Nat)
  | [], _ => none
  | v :: l, i => bif Nat.beq i 0 then some v else nthP l (i - 1)
theorem nthP_eq (l : List (Nat × Nat)) (i : Nat) : nthP l i = l[i]? := by
  induction l generalizing i with
  | nil => simp [nthP]
  | cons v l ih =>
    cases i with
    | zero => simp [nthP]
    | succ i => exact (ih i).trans (by simp)

/-- a struct's fields set one by one. -/
inductive FillR (L : List (Nat × Value)) (pl : List (Nat × Nat)) : List Value → List (Nat × Operand) → List Value → Prop
  | nil {cs : List Value} : FillR L pl cs [] cs
  | one {cs cs1 l : List Value} {i off : Nat} {x : Operand} {v : Value} {r : List (Nat × Operand)} (hx : ev L x = some v) (h1 : isOne v = true) (hp : nthP pl i = some (off, 1)) (hu : Upd cs off v cs1) (t : FillR L pl cs1 r l) : FillR L pl cs ((i, x) :: r) l
  | agg {cs cs1 l vs : List Value} {i off m : Nat} {x : Operand} {r : List (Nat × Operand)} (hx : ev L x = some (.agg vs.toArray)) (hp : nthP pl i = some (off, m)) (hl : Nat.beq vs.length m = true) (hm : Nat.blt 0 m = true) (hu : UpdA cs off vs cs1) (t : FillR L pl cs1 r l) : FillR L pl cs ((i, x) :: r) l

theorem fill_cons {place : Nat → Option (Nat × Nat)} {cells : Array Value} {i off size : Nat} {v : Value} {rest : List (Nat × Value)} {vs : List Value} (hp : place i = some (off, size)) (hc : v.cells = vs.toArray) (h1 : vs.length = size) (h2 : off + vs.length ≤ cells.size) :
    Instr.fill place cells ((i, v) :: rest) = Instr.fill place (setL cells.toList off vs).toArray rest := by
  have hf := fold_set off vs 0 cells
  have h3 : ¬ off + vs.length > cells.size := by omega
  simp only [Instr.fill, hp, hc, hf, Nat.add_zero]
  simp [h1] at h3 ⊢
  omega

theorem FillR.run {pl : List (Nat × Nat)} {cs l : List Value} {r : List (Nat × Operand)} (hs : Sl n a L) (h : FillR L pl cs r l) {place : Nat → Option (Nat × Nat)} (hp : ∀ i, place i = pl[i]?) :
    Instr.fill place cs.toArray (r.map fun p => (p.1, a.eval p.2)) = some l.toArray := by
  induction h with
  | nil => simp [Instr.fill]
  | @one cs cs1 l i off x v r hx h1 hp' hu _ ih =>
    obtain ⟨e1, e2⟩ := hu.eq
    rw [nthP_eq] at hp'
    rw [List.map_cons, hs.ev hx, fill_cons (vs := [v]) (off := off) (size := 1) (by rw [hp, hp']) (isOne_cells h1) rfl (by simp; omega)]
    rw [e1] at ih; exact ih
  | @agg cs cs1 l vs i off m x r hx hp' hl hm hu _ ih =>
    obtain ⟨e1, e2⟩ := hu.eq
    have e3 := Nat.eq_of_beq_eq_true hl
    have e4 : 0 < m := by simpa using hm
    rw [nthP_eq] at hp'
    have e5 : off + vs.length ≤ cs.length := by
      rcases e2 with rfl | e2
      · simp at e3; omega
      · exact e2
    rw [List.map_cons, hs.ev hx, fill_cons (vs := vs) (by rw [hp, hp']) rfl e3 (by simpa using e5)]
    rw [← e1]; exact ih

theorem places_list : ∀ (fs : List Field) (pl : List (Nat × Nat)) (w : World), (fs.mapM fun f => (szOf P f.type).map fun s => (f.offset, s)) = some pl →
    (fs.mapM fun f => do pure (f.offset, ← Go.sizeOf f.type) : Sem (List (Nat × Nat))).run P w = .ok pl w := by
  intro fs
  induction fs with
  | nil => intro pl w h; simp at h; subst h; rfl
  | cons f fs ih =>
    intro pl w h
    simp only [List.mapM_cons] at h
    cases hz : szOf P f.type with
    | none => simp [hz] at h
    | some m =>
      cases hr : (fs.mapM fun f => (szOf P f.type).map fun s => (f.offset, s)) with
      | none => simp [hz, hr] at h
      | some r =>
        simp [hz, hr] at h; subst h
        have ih' := ih r w hr
        rw [List.mapM_cons, Sem.run_bind]
        rw [show ((do pure (f.offset, ← Go.sizeOf f.type) : Sem (Nat × Nat))).run P w = .ok (f.offset, m) w by simp [sizeOf_run hz]]
        simp only [Result.andThen_ok, Sem.run_bind]
        rw [ih']; rfl

theorem places_run {t : TypeId} {pl : List (Nat × Nat)} (h : placesOf P t = some pl) (w : World) : ∃ fs : Array Field, P.underlying t = some (.struct fs) ∧
    (fs.mapM fun f => do pure (f.offset, ← Go.sizeOf f.type) : Sem (Array (Nat × Nat))).run P w = .ok pl.toArray w := by
  unfold placesOf at h
  cases hi : P.underlying t with
  | none => simp [hi] at h
  | some D =>
    cases D <;> simp [hi] at h
    rename_i fs
    refine ⟨fs, rfl, ?_⟩
    obtain ⟨fs⟩ := fs
    simp only at h
    rw [show (⟨fs⟩ : Array Field) = fs.toArray from rfl, List.mapM_toArray, Sem.run_map]
    rw [places_list fs pl w h]; rfl

theorem e_build {T : Nat} {zs l : List Value} {pl : List (Nat × Nat)} {r : List (Nat × Operand)} (hz : zeroOf P T = some zs) (hp : placesOf P T = some pl) (hf : FillR L pl zs r l) : Ex P n a L Γ ⟨dst, .build T r.toArray, ty, pos, af, g⟩ (.agg l.toArray) := fun hs w _ => by
  obtain ⟨z, hz1, hz2⟩ := zero_run hz w
  obtain ⟨fs, hu, hrun⟩ := places_run hp w
  have h := hf.run hs (place := fun i => pl.toArray[i]?) (fun i => by simp)
  have hb : (Instr.build T (r.toArray.map fun (i, x) => (i, a.eval x))).run P w = .ok (.agg l.toArray) w := by
    simp only [Instr.build, Sem.run_bind, hz1, Result.andThen_ok, hz2, underlying, run_program, hu, Sem.run_pure]
    rw [hrun]
    simp only [Result.andThen_ok]
    rw [show (r.toArray.map fun (i, x) => (i, a.eval x)).toList = r.map fun p => (p.1, a.eval p.2) by simp]
    rw [h]; rfl
  unfold execOp
  show ((do pure (.value (← Instr.build T (r.toArray.map fun (i, x) => (i, a.eval x)))) : Sem Next)).run P w = _
  rw [Sem.run_bind, hb]; rfl

/-- a slice's elements set one behind the other. -/
inductive PartsR (L : List (Nat × Value)) (m : Nat) : Nat → List (Nat × Operand) → List Value → Prop
  | nil {k : Nat} : PartsR L m k [] []
  | agg {k : Nat} {l vs : List Value} {x : Operand} {r : List (Nat × Operand)} (hx : ev L x = some (.agg l.toArray)) (hl : Nat.beq l.length m = true) (t : PartsR L m (k + 1) r vs) : PartsR L m k ((k, x) :: r) (l ++ vs)
  | one {k : Nat} {v : Value} {vs : List Value} {x : Operand} {r : List (Nat × Operand)} (hx : ev L x = some v) (h1 : isOne v = true) (hm : Nat.beq m 1 = true) (t : PartsR L m (k + 1) r vs) : PartsR L m k ((k, x) :: r) (v :: vs)

theorem PartsR.run {m k : Nat} {r : List (Nat × Operand)} {vs : List Value} (hs : Sl n a L) (h : PartsR L m k r vs) : ∀ (pre old : List Value), pre.length = k * m → old.length = r.length * m →
    Instr.fill (fun i => some (i * m, m)) (pre ++ old).toArray (r.map fun p => (p.1, a.eval p.2)) = some (pre ++ vs).toArray ∧ vs.length = r.length * m := by
  induction h with
  | nil => intro pre old h1 h2; have : old = [] := by simpa using h2
           subst this; simp [Instr.fill]
  | @agg k l vs x r hx hl _ ih =>
    intro pre old h1 h2
    have e1 := Nat.eq_of_beq_eq_true hl
    have h3 : old.length = m + r.length * m := by rw [h2, List.length_cons, Nat.add_mul, Nat.one_mul, Nat.add_comm]
    obtain ⟨o1, o2, rfl, ho⟩ : ∃ o1 o2, old = o1 ++ o2 ∧ o1.length = m := ⟨old.take m, old.drop m, by simp, by simp; omega⟩
    have hfull := setL_full l pre o1 (by omega)
    have hgen : ∀ (vs x y : List Value) (q : Nat), q + vs.length ≤ x.length → setL (x ++ y) q vs = setL x q vs ++ y := by
      intro vs
      induction vs with
      | nil => intro x y q _; rfl
      | cons v vs ih2 =>
        intro x y q hq
        simp only [setL]
        rw [List.set_append_left _ _ (by simp at hq; omega)]
        exact ih2 _ _ _ (by simp at hq ⊢; omega)
    obtain ⟨i1, i2⟩ := ih (pre ++ l) o2 (by simp [h1, e1, Nat.add_mul]) (by simp at h3; omega)
    refine ⟨?_, by simp [i2, e1, Nat.add_mul]; omega⟩
    rw [List.map_cons, hs.ev hx, fill_cons (vs := l) (off := k * m) (size := m) rfl rfl e1 (by simp; simp at h3; omega)]
    rw [← h1, ← List.append_assoc, hgen l (pre ++ o1) o2 pre.length (by simp; omega), hfull]
    simpa using i1
  | @one k v vs x r hx h1' hm _ ih =>
    intro pre old h1 h2
    have e1 : m = 1 := Nat.eq_of_beq_eq_true hm
    subst e1
    cases old with
    | nil => simp at h2
    | cons o old =>
      obtain ⟨i1, i2⟩ := ih (pre ++ [v]) old (by simp at h1 ⊢; omega) (by simp at h2 ⊢; omega)
      refine ⟨?_, by simp at i2 ⊢; omega⟩
      rw [List.map_cons, hs.ev hx, fill_cons (vs := [v]) (off := k * 1) (size := 1) rfl (isOne_cells h1') rfl (by simp at h1 ⊢; omega)]
      simp only [setL]
      have : k * 1 = pre.length := by omega
      rw [this, show (pre ++ o :: old).set pre.length v = (pre ++ [v]) ++ old by simp]
      simpa using i1

theorem s_bslice {T E m q : Nat} {zs vs : List Value} {r : List (Nat × Operand)} (hS : St n F0 w0 a w L Γ) (hT : sliceT P T = some E) (hs : szOf P E = some m) (hz : zeroOf P E = some zs) (hzl : Nat.beq zs.length m = true) (hm : Nat.blt 0 m = true) (hm2 : Nat.ble (q * m) 16777216 = true) (hq : Nat.beq r.length q = true) (hp : PartsR L m 0 r vs) (hn : Nat.blt d n = true)
    (h : ∀ a' w' b, St n F0 w0 a' w' ((d, .slice (some ⟨b, 0, none⟩) q q) :: L) (.blk b vs E :: Γ) → K a' w') : OW P ⟨some d, .buildSlice T q r.toArray, ty, pos, af, g⟩ a w K Q := by
  have e2 := Nat.eq_of_beq_eq_true hzl
  have e3 : 0 < m := by simpa using hm
  have e4 := Nat.le_of_ble_eq_true hm2
  have e5 := Nat.eq_of_beq_eq_true hq
  obtain ⟨z, hz1, hz2⟩ := zero_run hz w
  have hfill : ∀ cs : Array Value, cs.size = q * m → Instr.fill (fun i => some (i * m, m)) cs (r.map fun p => (p.1, a.eval p.2)) = some vs.toArray := fun cs hc => by
    have := (hp.run hS.sl [] cs.toList (by simp) (by simp [hc, e5])).1
    simpa using this
  have he : (execOp a.eval (⟨some d, .buildSlice T q r.toArray, ty, pos, af, g⟩ : Oper)).run P w = .ok (.value (.slice (some ⟨w.heap.size, 0, none⟩) q q)) (w.alloc (.cells vs.toArray E)) := by
    by_cases h0 : q * m = 0
    · simp [execOp, Instr.buildSlice, underlying, sliceT_eq hT, sizeOf_run hs, h0, newRow]
      rw [hfill _ (by simp [h0])]; rfl
    · have h5 : ¬ (16777216 < q * m) := by omega
      simp [execOp, Instr.buildSlice, underlying, sliceT_eq hT, sizeOf_run hs, h0, h5, newRow, hz1, hz2]
      rw [hfill _ (by simp)]; rfl
  refine ⟨?_⟩
  unfold Oper.wp
  rw [he]
  refine h _ _ w.heap.size ((hS.fresh (Chg.alloc _ _ _) (Y := .blk w.heap.size vs E) (ok_blk ?_) ?_).put hn _)
  · show (w.heap.push _)[w.heap.size]? = _
    simp
  · intro b hb; obtain rfl : b = w.heap.size := hb; exact Nat.le_refl _

/-! ### strings -/
theorem e_cat {t t' : TypeId} {x y : Operand} {i j : ByteArray} (hx : ev L x = some (.string i)) (hy : ev L y = some (.string j)) (hb : i.size + j.size ≤ 9223372036854775807) :
    Ex P n a L Γ ⟨dst, .binOp .add t x y t', ty, pos, af, g⟩ (.string (i ++ j)) := fun hs w _ => by
  have h := run_string_add_sum (P := P) (w := w) i j hb
  simp [execOp, hs.ev hx, hs.ev hy, eqGuard, binOp, h]
theorem e_slS {T : Nat} {x y z : Operand} {s : ByteArray} {k k' : IntKind} {i j : Int} (hx : ev L x = some (.string s)) (hy : ev L y = some (.int k i)) (hz : ev L z = some (.int k' j)) (hT : P.underlying T = some .string) (hb : 0 ≤ i ∧ i ≤ j ∧ j ≤ s.size) :
    Ex P n a L Γ ⟨dst, .slice T x (some y) (some z) none, ty, pos, af, g⟩ (.string (s.extract i.toNat j.toNat)) := fun hs w _ => by
  have h := run_slice_string (P := P) (w := w) T s k k' i j hT hb.1 hb.2.1 hb.2.2
  have h2 := run_sliceAt_string (P := P) (w := w) T (.string s) (some (.int k i)) (some (.int k' j)) none hT
  simp [execOp, hs.ev hx, hs.ev hy, hs.ev hz, h2, h]
theorem e_slSf {T : Nat} {x y : Operand} {s : ByteArray} {k : IntKind} {i : Int} (hx : ev L x = some (.string s)) (hy : ev L y = some (.int k i)) (hT : P.underlying T = some .string) (hb : 0 ≤ i ∧ i ≤ s.size) :
    Ex P n a L Γ ⟨dst, .slice T x (some y) none none, ty, pos, af, g⟩ (.string (s.extract i.toNat s.size)) := fun hs w _ => by
  have h := run_slice_string_from_if (P := P) (w := w) T s k i hT
  rw [if_pos hb] at h
  have h2 := run_sliceAt_string (P := P) (w := w) T (.string s) (some (.int k i)) none none hT
  simp [execOp, hs.ev hx, hs.ev hy, h2, h]
theorem e_slSt {T : Nat} {x z : Operand} {s : ByteArray} {k : IntKind} {j : Int} (hx : ev L x = some (.string s)) (hz : ev L z = some (.int k j)) (hT : P.underlying T = some .string) (hb : 0 ≤ j ∧ j ≤ s.size) :
    Ex P n a L Γ ⟨dst, .slice T x none (some z) none, ty, pos, af, g⟩ (.string (s.extract 0 j.toNat)) := fun hs w _ => by
  have h := run_slice_string_to_if (P := P) (w := w) T s k j hT
  rw [if_pos hb] at h
  have h2 := run_sliceAt_string (P := P) (w := w) T (.string s) none (some (.int k j)) none hT
  simp [execOp, hs.ev hx, hs.ev hz, h2, h]
theorem e_convN {t t' : TypeId} {x : Operand} {k : IntKind} {i : Int} {D : TypeDesc} (hx : ev L x = some (.int k i)) (hD : P.underlying t = some D) (hu : P.underlying t' = some (.int .i64))
    (hm : -9223372036854775808 ≤ i ∧ i ≤ 9223372036854775807) : Ex P n a L Γ ⟨dst, .convert t t' x, ty, pos, af, g⟩ (.int .i64 i) := by
  have h := e_conv (P := P) (n := n) (a := a) (Γ := Γ) (dst := dst) (ty := ty) (pos := pos) (af := af) (g := g) hx hD hu
  rwa [IntWalk.i64_in _ (by omega)] at h
end
end Go.Proofs.Ytheofhegdjjfgaa
