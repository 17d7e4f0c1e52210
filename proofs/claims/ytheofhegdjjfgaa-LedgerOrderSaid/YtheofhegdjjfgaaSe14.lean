/- Nothing put behind a slice, wherever that nothing lies. -/
import Derived.Test.YtheofhegdjjfgaaSe8
namespace Go.Proofs.Ytheofhegdjjfgaa
open Go.RowKit
variable {P : Program} {n : Nat} {w : World} {a : Act} {L : List (Nat × Value)} {Γ : List Asn} {dst : Option Nat}
variable {ty : Nat} {pos : String} {af : Array Edge} {g : Option (Nat × Bool)}

theorem run_append_nothing (t ty e : TypeId) (i : TypeInfo) (size : Nat) (ht : P.underlying t = some (.slice e)) (hi : P.info? e = some i) (v : Value) (m : Nat) (xs : List Value) (hown : w.ownsRow 0 e size v m xs) (ad : Option Addr) (c : Nat) :
    (Builtin.append_ #[t, t] ty #[v, .slice ad 0 c]).run P w = .ok v w := by
  rcases hown.2 with ⟨rfl, rfl⟩ | ⟨g, cap, cur, rfl, _, _, hnc, _⟩
  · cases ad <;> simp [Builtin.append_, run_underlying ht, sizeOf, typeInfo, hi, Builtin.lenOf, Builtin.firstCells, loadCells, loadCellsFrom]
  · cases ad <;> simp [Builtin.append_, run_underlying ht, sizeOf, typeInfo, hi, Builtin.lenOf, Builtin.firstCells, loadCells, loadCellsFrom, hnc, storeCells]
theorem e_appendE {T E s b m c : Nat} {zs : List Value} {x y : Operand} {v : Value} {ad : Option Addr} {cs : List Value} (hx : ev L x = some v) (hy : ev L y = some (.slice ad 0 c))
    (hT : sliceT P T = some E) (hs : szOf P E = some s) (hb : byOf P E = some b) (hz : zeroOf P E = some zs) (hm : ownA E s v m cs ∈ Γ) : Ex P n a L Γ ⟨dst, .call ⟨.builtin .append, #[x, y], #[T, T]⟩, ty, pos, af, g⟩ v := fun hs' w hh => by
  obtain ⟨i, z, hi, hz', hsz, hby, hzc⟩ := info_of hs hb hz
  have hown : w.ownsRow 0 E s v m cs := hh _ hm
  have h := run_append_nothing (P := P) (w := w) T ty E i s (sliceT_eq hT) hi v m cs hown ad c
  simp [execOp, resolve, invoke, builtin, hs'.ev hx, hs'.ev hy, h]
section
variable {F0 : Nat → Prop} {w0 : World} {K : Act → World → Prop} {Q : Exit → Act → World → Prop} {d : Nat}
/-- 'append(s, x..)' of what can be read, or of nothing. -/
theorem s_appendL {T E s b : Nat} {zs : List Value} {x y : Operand} {v : Value} {m k c : Nat} {q : Option Addr} {cs ys : List Value} {Γ' : Value → List Asn} (hS : St n F0 w0 a w L Γ) (hx : ev L x = some v) (hy : ev L y = some (.slice q k c))
    (hT : sliceT P T = some E) (hs : szOf P E = some s) (hb : byOf P E = some b) (hz : zeroOf P E = some zs) (hzl : Nat.beq zs.length s = true) (hs0 : Nat.blt 0 s = true) (hn : Nat.blt d n = true)
    (hm : ownA E s v m cs ∈ Γ) (hyl : ys.length = k * s) (hq : (k = 0 ∧ ys = []) ∨ ∃ bx ox, q = some ⟨bx, ox, none⟩ ∧ ∀ j u, ys[j]? = some u → w.cell? ⟨bx, ox + j, none⟩ = some u) (h1 : ∀ u ∈ ys, isOne u = true) (hbd : (m + k) * b ≤ 140737488355328 ∧ m + k ≤ 4611686018427387904)
    (hr : ∀ v', Rep (ownA E s v m cs) (ownA E s v' (m + k) (cs ++ ys)) Γ (Γ' v'))
    (h : ∀ v' a' w', (v' = .slice none 0 0 ↔ v = .slice none 0 0 ∧ k = 0) → St n F0 w0 a' w' ((d, v') :: L) (Γ' v') → K a' w') : OW P ⟨some d, .call ⟨.builtin .append, #[x, y], #[T, T]⟩, ty, pos, af, g⟩ a w K Q := by
  rcases hq with ⟨rfl, rfl⟩ | ⟨bx, ox, rfl, hys⟩
  · refine s_e hS (e_appendE hx hy hT hs hb hz hm) hn (fun a' hS' => h v a' w (by simp) ?_)
    have hown : w.ownsRow 0 E s v m cs := hS.get hm
    refine hS'.upd (hr v) (Chg.refl _ _) ?_ (fun b hb => .inl hb) rfl
    have := ok_own (w := w) (E := E) (s := s) (v := v) (m := m) (xs := cs) hown
    rwa [Nat.add_zero, List.append_nil]
  · exact s_append hS hx hy hT hs hb hz hzl hs0 hn hm hyl hys h1 hbd hr h
end
end Go.Proofs.Ytheofhegdjjfgaa
