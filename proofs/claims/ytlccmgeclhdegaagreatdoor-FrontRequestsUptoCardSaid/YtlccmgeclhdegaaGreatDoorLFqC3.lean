/- FrontRequests: for every argument the law returns true, and each argument reads afterwards as it read before. No conditions. (text 3 of 6) -/
import Derived.Test.YtlccmgeclhdegaaGreatDoorLFqC2
import Derived.Shelf.Unicode.ValidAny
import Derived.Shelf.Slices.CompactS
import Derived.Lib.AtoiAllCases
import Derived.Lib.ItoaNum
import Derived.Lib.ConvBytes
import Derived.Lib.AtoiErrMem
import Derived.Lib.Builder
import Derived.Laws.Externs
import Derived.Lib.AppendStr
import Derived.Lib.UnsafeStr
import Derived.Deep.QuietTactic
import Derived.BigQuiet
import Derived.Shelf.SlSortCmp.Whole1
set_option maxRecDepth 100000
set_option maxHeartbeats 16000000
namespace Go.Proofs.YtlccmgeclhdegaaGreatDoor
open Go.RowKit
def Da (l : List UInt8) : Option (JV × Nat) := match Dq (2 * l.length + 2) 0 (l.drop (Ag l)) with
 | none => none
 | some (v, k) => if Ag l + k + Ag (l.drop (Ag l + k)) < l.length then none else some (v, Ag l + k + Ag (l.drop (Ag l + k)))
theorem Q9 (W0 : World) (hU : Lib.Utf8Tabs 0 1 W0) (bp br : Nat) (q : Option Addr) (c : Nat) (l : List UInt8) (ht : EB W0 q c l) (hb : W0.heap.size ≤ br) (hbp : W0.heap.size ≤ bp) (hne : bp ≠ br) (w0 : World) (h1 : (AT.blk bp [.pointer (some ⟨br, 0, none⟩)] 91).ok w0) (h : (Ah br q c l 0).φ w0) (ho : AQ W0 w0) :
 Du Tryz.prog 32 [.pointer (some ⟨bp, 0, none⟩)] w0 (fun v => B6 Fe v ∧ Da l = none) (C5 (.blk bp [.pointer (some ⟨br, 0, none⟩)] 91) (Ah br q c l 0))
  (fun x : { x : JX × Nat // Da l = some (x.1.v, x.2) } => .agg x.1.1.cs.toArray) (fun x => C5 (Ah br q c l x.1.2) (Be 33 x.1.1)) := by
 have hn := ht.n
 have hbl : ∀ i, Ag (l.drop i) ≤ l.length - i := fun i => by have := LM (l.drop i); rwa [List.length_drop] at this
 refine En [.blk bp [.pointer (some ⟨br, 0, none⟩)] 91, Ah br q c l 0, AG W0] (fun k => k = bp ∨ k = br) Tryz.func32 Tryz.ntmps32 (B3 h1 (B3 (BE h) (B3 (BB ho) DN))) (CT (CK (fun k h1 h2 => by have h1 : k = bp := h1; have h2 : k = br := h2; omega) (CK (fun k h1 h2 => by have h1 : k = bp := h1; have h2 : k < W0.heap.size := h2; omega) CU)) (CT (CK (fun k h1 h2 => by have h1 : k = br := h1; have h2 : k < W0.heap.size := h2; omega) CU) Bi)) (A9 (fun k hk => .inl hk) (A9 (fun k hk => .inr hk) (BP rfl Aw))) ?_
 intro a hS
 refine Wh 2 hS ?_
 refine Lo (Al ?_); intro b1
 refine Wn 5 ?_
 refine Lo (cM Jz (fun hS => Ch W0 br q c l ht 0 (Nat.zero_le _) _ (hS.gg (X := Ah br q c l 0)) hS.od hb) ?_); intro x4
 obtain ⟨p1, hp1⟩ : ∃ k, 0 + Ag (l.drop 0) = k := ⟨_, rfl⟩
 have hb0 := hbl 0
 have hp1' : Ag l = p1 := by rw [← hp1, Nat.zero_add]; rfl
 intro a w hS
 rw [hp1] at hS
 refine Wq 5 hS ?_; intro a hS
 refine Aa (cY hS Zn (Tu W0 hU br q c l ht hb (2 * l.length + 2) 0 p1 _ (by omega) (by omega) (by omega) (hS.gg (X := Ah br q c l p1)) hS.od) ?_ ?_)
 ·
  intro vp wp hvp hdp hcp
  refine AS ?_
  exact ⟨hdp, .inr ⟨vp, ⟨hvp.1, by unfold Da; rw [hp1', hvp.2]⟩, rfl, hcp⟩⟩
 intro x6 a w hS
 obtain ⟨⟨x, k⟩, hx1, hx2, hx3⟩ := x6
 simp only at hx1 hx2 hx3 hS
 rw [show 33 - 0 = 33 from rfl] at hS
 replace hS := (hS.pk (Γ' := [C5 (Ah br q c l (p1 + k)) (Be 33 x), .blk b1 BM 37, .blk bp [.pointer (some ⟨br, 0, none⟩)] 91, AG W0])).unduo
 obtain ⟨lx, nx, ⟨a1, a2, a3, rfl⟩, ⟨a4, a5, a6, rfl⟩, hcs⟩ := DZ.four (hS.get (X := Be 33 x) (.tail _ (.head _)))
 rw [hcs] at hS
 obtain ⟨p2, hp2⟩ : ∃ j, p1 + k = j := ⟨_, rfl⟩
 obtain ⟨p3, hp3⟩ : ∃ j, p2 + Ag (l.drop p2) = j := ⟨_, rfl⟩
 have hb2 := hbl p2
 rw [hp2] at hS
 have hbd : Da l = if p3 < l.length then none else some (x.v, p3) := by unfold Da; rw [hp1', hx1]; simp only; rw [hp2, hp3]
 refine Un hS (Lo (Al ?_)); intro b2
 refine Lo (Sa ?_)
 refine Wn 5 ?_
 refine Lo (cM Jz (fun hS => Ch W0 br q c l ht p2 (by omega) _ (hS.gg (X := Ah br q c l p2)) hS.od hb) ?_); intro x8
 intro a w hS
 rw [hp3] at hS
 refine Wh 4 hS ?_
 refine Dr 10 [] [.blk br [.slice q l.length c, .int .i64 (p3 : Int)] 93, .blk bp [.pointer (some ⟨br, 0, none⟩)] 91] ?_
 intro a w hS
 unfold Ah LK at hS
 refine Un hS (ZR 10 ?_)
 refine Wn 2 ?_
 refine iD (fun hc18 => ?_) fun hc18 => ?_
 ·
  rw [if_pos (by omega)] at hbd
  refine Wn 2 ?_
  intro a w hS
  refine Aa (cY hS J0 (C9 br q c l p3 _ (hS.gg (X := Ah br q c l p3))) ?_ ?_)
  ·
   intro vp wp hvp hdp hcp
   refine AS ?_
   exact ⟨hdp, .inr ⟨vp, ⟨hvp, hbd⟩, rfl, hcp⟩⟩
  intro x20 a w hS
  exact x20.elim
 rw [if_neg (by omega)] at hbd
 refine Wn 5 ?_
 refine Lo (Sa ?_)
 refine Wn 3 ?_
 intro a w hS
 refine Ro hS Tryz.results32 ?_
 refine .inl ⟨⟨(x, p3), hbd⟩, by show _ = Ending.returned (Value.agg x.cs.toArray); rw [hcs], hS.chg, ?_, ?_⟩
 ·
  show (C5 (Ah br q c l p3) (Be 33 x)).ok w
  exact By (hS.ok (Ah br q c l p3) (by repeat constructor)) (hS.ok (Be 33 x) (by repeat constructor)) (fun b h1 h2 => hS.sep (X := Ah br q c l p3) (Y := Be 33 x) (by repeat constructor) (by repeat constructor) b h1 h2)
 ·
  rintro b (hb | hb)
  · exact .inl (.inr hb)
  ·
   rcases hS.mine (Be 33 x) (by repeat constructor) rfl b hb with h | h
   · exact .inr h
   · exact .inl h
theorem JE {l : List UInt8} (h : l.length ≤ 65536) : Ct l = (Da l).map Prod.fst := by
 unfold Ct Da
 rw [if_neg (by omega)]
 cases Dq (2 * l.length + 2) 0 (l.drop (Ag l)) with
 | none => rfl
 | some r => obtain ⟨v, k⟩ := r; simp only; split <;> rfl
def pH (l : List UInt8) : Type := { x : JX // Ct l = some x.v } ⊕ { pe : Int × Int // Fe pe.2 ∧ Ct l = none }
def qV (l : List UInt8) : pH l → Value
 | .inl x => .tuple [.agg x.1.cs.toArray, .int .i64 0, .int .i64 0].toArray
 | .inr pe => .tuple [.agg BM.toArray, .int .i64 pe.1.1, .int .i64 pe.1.2].toArray
def eO (l : List UInt8) : pH l → AT
 | .inl x => Be 33 x.1
 | .inr _ => A7
theorem Wo {γ : Type} (f : γ → JX) (x : γ) : ∃ v1 v2 v3 v4, (f x).cs = [v1, v2, v3, v4] ∧ Bl v1 = true ∧ Bl v2 = true ∧ Bl v3 = true ∧ Bl v4 = true := by
 have h1 := (f x).len
 have h2 := (f x).one
 match h : (f x).cs, h1 with
 | [v1, v2, v3, v4], _ =>
   rw [h] at h2
   simp at h2
   exact ⟨v1, v2, v3, v4, rfl, h2.1, h2.2.1, h2.2.2.1, h2.2.2.2⟩
def Ca (k : Int) (s : ByteArray) (a : Option Addr) (m c : Nat) (a' : Option Addr) (m' c' : Nat) : List Value := [.int .i64 k, .string s, .slice a m c, .slice a' m' c']
theorem LX {γ : Type} {E : Int → Prop} {V : γ → List Value} {Y : γ → AT} (x : γ ⊕ { pe : Int × Int // E pe.2 }) {w : World} (hV : ∀ y, (Y y).ok w → ∃ k s a m c a' m' c', V y = Ca k s a m c a' m' c') (h : (We E Y x).ok w) :
 ∃ (k : Int) (s : ByteArray) (a : Option Addr) (m c : Nat) (a' : Option Addr) (m' c' : Nat) (p e : Int), qU E V x = .tuple [.agg [.int .i64 k, .string s, .slice a m c, .slice a' m' c'].toArray, .agg [.int .i64 p, .int .i64 e].toArray].toArray ∧
  ((∃ y, x = .inl y ∧ V y = Ca k s a m c a' m' c' ∧ p = 0 ∧ e = 0) ∨ (∃ pe, x = .inr pe ∧ BM = Ca k s a m c a' m' c' ∧ p = pe.1.1 ∧ e = pe.1.2)) := by
 rcases x with y | pe
 ·
  obtain ⟨k, s, a, m, c, a', m', c', e⟩ := hV y h
  exact ⟨k, s, a, m, c, a', m', c', 0, 0, by show Value.tuple [.agg (V y).toArray, _].toArray = _; rw [e]; rfl, .inl ⟨y, rfl, e, rfl, rfl⟩⟩
 · exact ⟨0, ⟨#[]⟩, none, 0, 0, none, 0, 0, pe.1.1, pe.1.2, rfl, .inr ⟨pe, rfl, rfl, rfl, rfl⟩⟩
theorem DZ.fourJ {d : Nat} {v : JV} {cs : List Value} {w : World} (h : DZ d v cs w) : ∃ k s a m c a' m' c', cs = Go.Proofs.YtlccmgeclhdegaaGreatDoor.Ca k s a m c a' m' c' := by
 obtain ⟨lv, nv, ⟨a1, a2, a3, rfl⟩, ⟨a4, a5, a6, rfl⟩, e⟩ := h.four
 exact ⟨_, _, _, _, _, _, _, _, e⟩
theorem Mj (q : Option Addr) (c : Nat) (l : List UInt8) (w0 : World) (hU : Lib.Utf8Tabs 0 1 w0) (ht : EB w0 q c l) : Bb Tryz.prog 11 [.slice q l.length c] w0 (qV l) (eO l) := by
 have hn := ht.n
 refine En [AG w0] Ai Tryz.func11 Tryz.ntmps11 (B3 (BB ⟨Nat.le_refl _, fun _ _ => rfl⟩) DN) Bi (BP rfl Aw) ?_
 intro a hS
 refine Wh 2 hS ?_
 refine Lo (Al ?_); intro b2
 refine Wn 12 ?_
 refine iD (fun hc10 => ?_) fun hc10 => ?_
 ·
  refine Wn 3 ?_
  refine Lo (Sa ?_)
  refine Wn 6 ?_
  intro a w hS
  refine Rm hS Tryz.results11 ?_
  exact ⟨.inr ⟨(0, 8), (by decide : (8 : Int) ≠ 0), by unfold Ct; rw [if_pos (by omega)]⟩, rfl, hS.chg, AL _, fun k hk => hk.elim⟩
 refine Wn 6 ?_
 refine Lo (Bx ?_); intro b14
 refine Lo (Al ?_); intro b5
 refine Lo (Sb ?_)
 refine Wn 4 ?_
 refine Xp (CR .nil (.cons rfl .nil)) ?_
 intro a w hS
 have hm14 : w0.heap.size ≤ b14 := (hS.mine (.blk b14 [.slice q l.length c, .int .i64 0] 93) (by repeat constructor) rfl b14 rfl).resolve_right (fun h => h)
 have hm5 : w0.heap.size ≤ b5 := (hS.mine (.blk b5 [.pointer (some ⟨b14, 0, none⟩)] 91) (by repeat constructor) rfl b5 rfl).resolve_right (fun h => h)
 have hne : b5 ≠ b14 := fun e => hS.sep (X := .blk b5 [.pointer (some ⟨b14, 0, none⟩)] 91) (Y := .blk b14 [.slice q l.length c, .int .i64 0] 93) (by repeat constructor) (by repeat constructor) b5 rfl e
 replace hS : St _ _ _ _ _ _ [C5 (.blk b5 [.pointer (some ⟨b14, 0, none⟩)] 91) (Ah b14 q c l 0), .blk b2 BM 37, AG w0] := (hS.pk (Γ' := [.blk b5 [.pointer (some ⟨b14, 0, none⟩)] 91, .blk b14 [.slice q l.length c, .int .i64 0] 93, .blk b2 BM 37, AG w0])).duo rfl rfl
 have hold : AQ w0 w := hS.gg (X := AG w0)
 refine Aa (dB hS ZO (Hf 32 [.pointer (some ⟨b5, 0, none⟩)] (fun e => Fe e ∧ Da l = none) (C5 (.blk b5 [.pointer (some ⟨b14, 0, none⟩)] 91) (Ah b14 q c l 0)) (fun x : { x : JX × Nat // Da l = some (x.1.v, x.2) } => x.1.1.cs) (fun x => C5 (Ah b14 q c l x.1.2) (Be 33 x.1.1)) nX rfl (Wo (fun x : { x : JX × Nat // Da l = some (x.1.v, x.2) } => x.1.1)) _ (fun _ => rfl) (hS.ok (C5 (.blk b5 [.pointer (some ⟨b14, 0, none⟩)] 91) (Ah b14 q c l 0)) (by repeat constructor)) (fun w' hX hch => (Q9 w0 hU b5 b14 q c l ht hm14 hm5 hne w' hX.now.1 hX.now.2.1.now ⟨Nat.le_trans hold.1 hch.size, fun k hk => (hch.block k (Nat.lt_of_lt_of_le hk hold.1) (fun hF => by rcases hF with hF | hF; exact absurd (show k = b5 from hF) (by omega); exact absurd (show k = b14 from hF) (by omega))).trans (hold.2 k hk)⟩).pan (fun v ⟨⟨p, e, he, hv⟩, hb⟩ => ⟨p, e, ⟨he, hb⟩, hv⟩))) ?_); intro x17
 intro a w hS
 obtain ⟨jk, js, ja, jm, jc, ja', jm', jc', p, e, hgu, hres⟩ := LX (E := fun e => Fe e ∧ Da l = none) (V := fun x : { x : JX × Nat // Da l = some (x.1.v, x.2) } => x.1.1.cs) (Y := fun x => C5 (Ah b14 q c l x.1.2) (Be 33 x.1.1)) x17 (fun y hy => (show DZ 33 y.1.1.v y.1.1.cs _ from hy.now.2.1.now).fourJ) (hS.ok (We (fun e => Fe e ∧ Da l = none) (fun x : { x : JX × Nat // Da l = some (x.1.v, x.2) } => C5 (Ah b14 q c l x.1.2) (Be 33 x.1.1)) x17) (by repeat constructor))
 rw [hgu] at hS
 refine Wh 3 hS ?_
 refine Lo (Al ?_); intro b6
 refine Lo (Al ?_); intro b7
 refine Lo (Sa ?_)
 refine Lo (Sa ?_)
 refine Wn 3 ?_
 refine Dr 8 [] [.blk b6 [.int .i64 jk, .string js, .slice ja jm jc, .slice ja' jm' jc'] 37, .blk b7 [.int .i64 p, .int .i64 e] 95] ?_
 refine ZR 5 ?_
 refine Z0 rfl (Sa ?_)
 refine Za ?_
 refine ZR 2 ?_
 refine Wn 3 ?_
 intro a w hS
 refine Rm hS Tryz.results11 ?_
 rcases hres with ⟨y, rfl, he, rfl, rfl⟩ | ⟨pe, rfl, he, rfl, rfl⟩
 ·
  have hok := hS.ok (We (fun e => Fe e ∧ Da l = none) (fun x : { x : JX × Nat // Da l = some (x.1.v, x.2) } => C5 (Ah b14 q c l x.1.2) (Be 33 x.1.1)) (.inl y)) (by repeat constructor)
  have hmi := hS.mine (We (fun e => Fe e ∧ Da l = none) (fun x : { x : JX × Nat // Da l = some (x.1.v, x.2) } => C5 (Ah b14 q c l x.1.2) (Be 33 x.1.1)) (.inl y)) (by repeat constructor) rfl
  refine ⟨.inl ⟨y.1.1, (JE (by omega)).trans (congrArg (Option.map Prod.fst) y.2)⟩, by show _ = Ending.returned (Value.tuple [.agg y.1.1.cs.toArray, .int .i64 0, .int .i64 0].toArray); rw [he]; rfl, hS.chg, hok.now.2.1, fun k hk => (hmi k (.inr hk)).resolve_right (fun h => h)⟩
 · refine ⟨.inr ⟨pe.1, pe.2.1, (JE (by omega)).trans (congrArg (Option.map Prod.fst) pe.2.2)⟩, by show _ = Ending.returned (Value.tuple [.agg BM.toArray, .int .i64 pe.1.1, .int .i64 pe.1.2].toArray); rw [he]; rfl, hS.chg, AL _, fun k hk => hk.elim⟩
end Go.Proofs.YtlccmgeclhdegaaGreatDoor
namespace Go.Proofs
open Go.Shelf
def Tryz.lays196v_ren : Go.Shelf.Ren := ⟨fun | 196 => 86 | 259 => 134 | n => n, fun | 9 => 9 | 4 => 4 | 3 => 3 | 5 => 5 | 12 => 12 | 119 => 200 | 0 => 0 | 46 => 204 | 139 => 203 | 138 => 202 | 53 => 252 | n => n, fun | 3 => 0 | 4 => 1 | n => n⟩
theorem Tryz.lays196v : Go.Proofs.Lays.n196 Tryz.prog Tryz.lays196v_ren := {
  mixed := by kernel_rfl
  f196 := Tryz.func86.trans (congrArg some (by kernel_rfl))
  f259 := Tryz.func134.trans (congrArg some (by kernel_rfl))
  t0 := Tryz.underlying0
  a0 := Tryz.isAgg0
  z0 := Tryz.sizeOf0
  v0 := Tryz.zeroValue0
  t3 := Tryz.underlying3
  a3 := Tryz.isAgg3
  z3 := Tryz.sizeOf3
  v3 := Tryz.zeroValue3
  t4 := Tryz.underlying4
  a4 := Tryz.isAgg4
  z4 := Tryz.sizeOf4
  v4 := Tryz.zeroValue4
  t5 := Tryz.underlying5
  a5 := Tryz.isAgg5
  z5 := Tryz.sizeOf5
  v5 := Tryz.zeroValue5
  t9 := Tryz.underlying9
  a9 := Tryz.isAgg9
  z9 := Tryz.sizeOf9
  v9 := Tryz.zeroValue9
  t12 := Tryz.underlying12
  a12 := Tryz.isAgg12
  z12 := Tryz.sizeOf12
  v12 := Tryz.zeroValue12
  t46 := Tryz.underlying204
  a46 := Tryz.isAgg204
  z46 := Tryz.sizeOf204
  v46 := Tryz.zeroValue204
  t53 := Tryz.underlying252
  a53 := Tryz.isAgg252
  z53 := Tryz.sizeOf252
  v53 := Tryz.zeroValue252
  t119 := Tryz.underlying200
  a119 := Tryz.isAgg200
  z119 := Tryz.sizeOf200
  t138 := Tryz.underlying202
  a138 := Tryz.isAgg202
  z138 := Tryz.sizeOf202
  v138 := Tryz.zeroValue202
  t139 := Tryz.underlying203
  a139 := Tryz.isAgg203
  z139 := Tryz.sizeOf203
  v139 := Tryz.zeroValue203
  g3 := by kernel_rfl
  g4 := by kernel_rfl }
end Go.Proofs
namespace Go.Proofs
open Go.Shelf
def Tryz.lays194c_ren : Go.Shelf.Ren := ⟨fun | 194 => 107 | n => n, fun | 31 => 35 | 9 => 9 | 3 => 3 | 4 => 4 | 0 => 0 | n => n, fun | n => n⟩
theorem Tryz.lays194c : Go.Proofs.Lays.n194 Tryz.prog Tryz.lays194c_ren := {
  mixed := by kernel_rfl
  f194 := Tryz.func107.trans (congrArg some (by kernel_rfl))
  t0 := Tryz.underlying0
  a0 := Tryz.isAgg0
  z0 := Tryz.sizeOf0
  v0 := Tryz.zeroValue0
  t3 := Tryz.underlying3
  a3 := Tryz.isAgg3
  z3 := Tryz.sizeOf3
  v3 := Tryz.zeroValue3
  t4 := Tryz.underlying4
  a4 := Tryz.isAgg4
  z4 := Tryz.sizeOf4
  v4 := Tryz.zeroValue4
  t9 := Tryz.underlying9
  a9 := Tryz.isAgg9
  z9 := Tryz.sizeOf9
  v9 := Tryz.zeroValue9
  t31 := Tryz.underlying35
  a31 := Tryz.isAgg35
  z31 := Tryz.sizeOf35
  v31 := Tryz.zeroValue35 }
end Go.Proofs
namespace Go.Proofs.YtlccmgeclhdegaaGreatDoor
open Go.RowKit
theorem FJ {k : Nat} (h : k < 256) : (UInt8.ofNat k).toNat = k := by simp [UInt8.toNat_ofNat']; omega
theorem B8 {u : Nat} (h : u < 10) : Lib.decDigits u = [UInt8.ofNat (48 + u)] := by rw [Lib.decDigits, dif_pos h]
theorem FK {u : Nat} (h : ¬ u < 10) : Lib.decDigits u = Lib.decDigits (u / 10) ++ [UInt8.ofNat (48 + u % 10)] := by rw [Lib.decDigits, dif_neg h]
theorem Em (u : Nat) : ∀ x ∈ Lib.decDigits u, MS x = true := by
 induction u using Nat.strongRecOn with
 | ind u ih =>
   intro x hx
   by_cases h : u < 10
   ·
    rw [B8 h] at hx
    obtain rfl := List.mem_singleton.1 hx
    refine decide_eq_true ?_
    rw [FJ (by omega)]; omega
   ·
    rw [FK h] at hx
    rcases List.mem_append.1 hx with hx | hx
    · exact ih (u / 10) (by omega) x hx
    ·
     obtain rfl := List.mem_singleton.1 hx
     refine decide_eq_true ?_
     rw [FJ (by omega)]; omega
theorem Dk (u : Nat) : Lib.decDigits u ≠ [] := by
 by_cases h : u < 10
 · rw [B8 h]; simp
 · rw [FK h]; simp
theorem Fh (u : Nat) : (Lib.decDigits u).head? = some 48 → u = 0 := by
 induction u using Nat.strongRecOn with
 | ind u ih =>
   intro hx
   by_cases h : u < 10
   ·
    rw [B8 h] at hx
    have h2 : UInt8.ofNat (48 + u) = 48 := by simpa using hx
    have h3 := FJ (k := 48 + u) (by omega)
    rw [h2] at h3
    have h4 : (48 : UInt8).toNat = 48 := rfl
    omega
   ·
    rw [FK h] at hx
    have h2 : (Lib.decDigits (u / 10)).head? = some 48 := by
     cases e : Lib.decDigits (u / 10) with
     | nil => exact absurd e (Dk _)
     | cons y t => rw [e] at hx; simpa using hx
    have := ih (u / 10) (by omega) h2
    omega
theorem IS {u : Nat} : ∀ {k : Nat}, u < 10 ^ (k + 1) → (Lib.decDigits u).length ≤ k + 1 := by
 intro k
 induction k generalizing u with
 | zero => intro h; rw [B8 (by simpa using h)]; simp
 | succ k ih =>
   intro h
   by_cases h2 : u < 10
   · rw [B8 h2]; simp
   ·
    rw [FK h2, List.length_append, List.length_singleton]
    have : u / 10 < 10 ^ (k + 1) := by rw [Nat.pow_succ] at h; omega
    have := ih this
    omega
def pI : Lib.NumEnd Nat := Lib.parseUint10 0 [0]
theorem GT (acc : Nat) (c : UInt8) (r : List UInt8) : Lib.parseUint10 acc (c :: r) = if 48 ≤ c.toNat ∧ c.toNat ≤ 57 then
 if 1844674407370955162 ≤ acc then .range
 else if 18446744073709551616 ≤ acc * 10 + (c.toNat - 48) then .range
 else Lib.parseUint10 (acc * 10 + (c.toNat - 48)) r
 else pI := rfl
theorem RA (u : Nat) (hu : u < 18446744073709551616) : ∀ r, Lib.parseUint10 0 (Lib.decDigits u ++ r) = Lib.parseUint10 u r := by
 induction u using Nat.strongRecOn with
 | ind u ih =>
   intro r
   by_cases h : u < 10
   ·
    rw [B8 h, List.singleton_append]
    have e := FJ (k := 48 + u) (by omega)
    rw [GT, e, if_pos (by omega), if_neg (by omega), if_neg (by omega)]
    rw [show 0 * 10 + (48 + u - 48) = u from by omega]
   ·
    rw [FK h, List.append_assoc, ih (u / 10) (by omega) (by omega), List.singleton_append]
    have e := FJ (k := 48 + u % 10) (by omega)
    rw [GT, e, if_pos (by omega), if_neg (by omega), if_neg (by omega)]
    rw [show u / 10 * 10 + (48 + u % 10 - 48) = u from by omega]
theorem Pk (u : Nat) (hu : u < 18446744073709551616) : Lib.parseMag (Lib.decDigits u) = .ok u := by
 unfold Lib.parseMag
 rw [if_neg (Dk u)]
 have := RA u hu []
 rw [List.append_nil] at this
 rw [this]; rfl
theorem RB {n : Int} (h0 : -9223372036854775808 ≤ n) (h1 : n ≤ 9223372036854775807) : Lib.atoiAll (Lib.itoa n) = .ok n := by
 unfold Lib.itoa
 by_cases h : n < 0
 ·
  rw [if_pos h, Lib.atoiAll_minus, Pk _ (by omega)]
  unfold Lib.signed
  simp only
  rw [if_neg (by omega)]
  congr 1; omega
 ·
  rw [if_neg h]
  obtain ⟨c, t, e⟩ : ∃ c t, Lib.decDigits n.toNat = c :: t := by
   cases e : Lib.decDigits n.toNat with
   | nil => exact absurd e (Dk _)
   | cons c t => exact ⟨c, t, rfl⟩
  have hc := of_decide_eq_true (Em n.toNat c (by rw [e]; exact .head _))
  rw [e, Lib.atoiAll_plain c t (by omega) (by omega), ← e, Pk _ (by omega)]
  unfold Lib.signless
  simp only
  rw [if_neg (by omega)]
  congr 1; omega
theorem Fi {n : Int} (h0 : -9223372036854775808 ≤ n) (h1 : n ≤ 9223372036854775807) : I0 (Lib.itoa n) := by
 have key : ∀ u : Nat, (Lib.decDigits u).head? = some 48 → Lib.decDigits u = [48] := fun u h => by rw [Fh u h]; exact B8 (by omega)
 unfold Lib.itoa
 by_cases h : n < 0
 ·
  rw [if_pos h]
  have := IS (u := n.natAbs) (k := 19) (by omega)
  exact ⟨⟨[45], Lib.decDigits n.natAbs, rfl, .inr rfl, Em _, Dk _, key _⟩, by rw [List.length_cons]; omega⟩
 ·
  rw [if_neg h]
  have := IS (u := n.toNat) (k := 19) (by omega)
  exact ⟨⟨[], Lib.decDigits n.toNat, rfl, .inl rfl, Em _, Dk _, key _⟩, by omega⟩
def Bt (t : List UInt8) : List UInt8 := match t with
 | [] => []
 | c :: r => if c.toNat = 45 then r else c :: r
def Eh (t : List UInt8) : Prop := Bt t ≠ [] ∧ (∀ x ∈ Bt t, MS x = true) ∧ ¬ ((Bt t).head? = some 48 ∧ (1 < (Bt t).length ∨ t.head? = some 45))
instance (t : List UInt8) : Decidable (Eh t) := by unfold Eh; exact inferInstance
theorem OF (n : Int) : Eh (Lib.itoa n) := by
 unfold Lib.itoa
 by_cases h : n < 0
 ·
  rw [if_pos h]
  refine ⟨Dk _, Em _, fun h2 => ?_⟩
  have := Fh _ h2.1
  omega
 ·
  rw [if_neg h]
  obtain ⟨c, t, e⟩ : ∃ c t, Lib.decDigits n.toNat = c :: t := by
   cases e : Lib.decDigits n.toNat with
   | nil => exact absurd e (Dk _)
   | cons c t => exact ⟨c, t, rfl⟩
  have hc := of_decide_eq_true (Em n.toNat c (by rw [e]; exact .head _))
  have hs : Bt (Lib.decDigits n.toNat) = Lib.decDigits n.toNat := by rw [e]; unfold Bt; simp only; rw [if_neg (by omega)]
  refine ⟨by rw [hs]; exact Dk _, by rw [hs]; exact Em _, fun h2 => ?_⟩
  rw [hs] at h2
  have h3 := Fh _ h2.1
  rw [h3, B8 (by omega)] at h2
  rcases h2.2 with h4 | h4
  · simp at h4
  ·
   have h5 : UInt8.ofNat (48 + 0) = 45 := by simp at h4
   exact absurd h5 (by decide)
def D1 (v : JV) : Int × Int := if v.k ≠ 3 then (0, 13) else if ¬ Eh v.t then (0, 10) else match Lib.atoiAll v.t with
 | .ok n => (n, 0)
 | _ => (0, 6)
theorem Fj {n : Int} (h0 : -9223372036854775808 ≤ n) (h1 : n ≤ 9223372036854775807) : D1 (DI (Lib.itoa n)) = (n, 0) := by
 unfold D1
 rw [if_neg (fun h => h rfl), if_neg (fun h => h (OF n)), show (DI (Lib.itoa n)).t = Lib.itoa n from rfl, RB h0 h1]
structure B5 where
 nm : List UInt8
 ty : Int
 n : Int
 s : List UInt8
def Az (x : B5) : List Value := [.string (tx x.nm), .int .i64 x.ty, .int .i64 x.n, .string (tx x.s)]
structure Cd where
 kind : Int
 t : Nat → List UInt8
 n : Nat → Int
 fx : List B5
def CQ (kind : Int) : Cd := ⟨kind, fun _ => [], fun _ => 0, []⟩
def Cd.putT (c : Cd) (i : Nat) (x : List UInt8) : Cd := { c with t := fun k => if k = i then x else c.t k }
def Cd.putN (c : Cd) (i : Nat) (x : Int) : Cd := { c with n := fun k => if k = i then x else c.n k }
def AB (c : Cd) (fv : Value) : List Value := [.int .i64 c.kind, .string (tx (c.t 1)), .string (tx (c.t 2)), .string (tx (c.t 3)), .string (tx (c.t 4)), .string (tx (c.t 5)), .string (tx (c.t 6)), .int .i64 (c.n 7), .int .i64 (c.n 8), .int .i64 (c.n 9), .int .i64 (c.n 10), .int .i64 (c.n 11), .int .i64 (c.n 12), .int .i64 (c.n 13), fv]
structure Fd where
 nm : List UInt8
 kd : Nat
 off : Nat
structure Fd.ok (f : Fd) : Prop where
 kd : f.kd = 0 ∨ f.kd = 1 ∨ f.kd = 2
 t : f.kd = 0 → 1 ≤ f.off ∧ f.off ≤ 6
 n : f.kd = 1 → 7 ≤ f.off ∧ f.off ≤ 13
theorem OG (c : Cd) (fv : Value) {i : Nat} (x : List UInt8) (h : 1 ≤ i ∧ i ≤ 6) : (AB c fv).set i (.string (tx x)) = AB (c.putT i x) fv := by
 obtain _ | _ | _ | _ | _ | _ | _ | i := i <;> first | rfl | omega
theorem OH (c : Cd) (fv : Value) {i : Nat} (x : Int) (h : 7 ≤ i ∧ i ≤ 13) : (AB c fv).set i (.int .i64 x) = AB (c.putN i x) fv := by
 obtain _ | _ | _ | _ | _ | _ | _ | _ | _ | _ | _ | _ | _ | _ | i := i <;> first | rfl | omega
theorem LY (c : Cd) (fv : Value) {i : Nat} (h : 1 ≤ i ∧ i ≤ 6) : (AB c fv)[i]? = some (.string (tx (c.t i))) := by
 obtain _ | _ | _ | _ | _ | _ | _ | i := i <;> first | rfl | omega
theorem LZ (c : Cd) (fv : Value) {i : Nat} (h : 7 ≤ i ∧ i ≤ 13) : (AB c fv)[i]? = some (.int .i64 (c.n i)) := by
 obtain _ | _ | _ | _ | _ | _ | _ | _ | _ | _ | _ | _ | _ | _ | i := i <;> first | rfl | omega
def KW : Fd := ⟨[115, 101, 116], 0, 2⟩
def Hg : Fd := ⟨[110, 97, 109, 101], 0, 1⟩
def Mk : Fd := ⟨[99, 117, 114], 0, 3⟩
def Pm : Fd := ⟨[107, 101, 121], 0, 4⟩
def IT : Fd := ⟨[109, 101, 116, 101, 114], 0, 5⟩
def G5 : Fd := ⟨[115, 111, 117, 114, 99, 101], 0, 6⟩
def La : Fd := ⟨[116, 101, 120, 116], 0, 6⟩
def IE : Fd := ⟨[97, 116], 1, 8⟩
def JF : Fd := ⟨[102, 114, 111, 109], 1, 9⟩
def Wp : Fd := ⟨[116, 111], 1, 10⟩
def Pn : Fd := ⟨[113, 116, 121], 1, 7⟩
def E5 : Fd := ⟨[110, 117, 109, 98, 101, 114], 1, 11⟩
def G6 : Fd := ⟨[117, 110, 105, 116, 115], 1, 12⟩
def Lb : Fd := ⟨[110, 97, 110, 111], 1, 13⟩
def IU : Fd := ⟨[102, 97, 99, 116, 115], 2, 0⟩
def pJ : List (List UInt8 × List Fd) := [([47, 114, 117, 108, 101, 115], [KW, JF, G5]), ([47, 114, 117, 108, 101, 115, 47, 114, 101, 116, 105, 114, 101], [KW, IE]), ([47, 99, 117, 115, 116, 111, 109, 101, 114, 115], [Hg, Mk, KW, IU]), ([47, 117, 115, 97, 103, 101], [Pm, Hg, IT, Pn, IE]), ([47, 98, 105, 108, 108, 115], [Hg, JF, Wp, IE]), ([47, 112, 97, 121, 109, 101, 110, 116, 115], [E5, G6, IE]), ([47, 99, 114, 101, 100, 105, 116, 115], [E5, G6, IE]), ([47, 118, 111, 105, 100, 115], [E5, IE]), ([47, 114, 97, 116, 101, 115], [Mk, IE, Lb]), ([47, 114, 101, 118, 97, 108, 117, 97, 116, 105, 111, 110, 115], [IE]), ([47, 99, 108, 111, 115, 105, 110, 103, 115], [IE]), ([47, 113, 117, 101, 114, 121], [La])]
def CI (v : JV) (nm : List UInt8) : Option JV := if v.k = 6 then ((v.ns.zip v.l).find? fun p => p.1 == nm).map (·.2) else none
def BR (v : JV) : Int × Int := if (D1 v).2 = 10 then ((D1 v).1, 13) else D1 v
def JG (f : Fd) (v : JV) : Int := if f.kd = 0 then (if v.k = 4 then 0 else 13) else if f.kd = 1 then (BR v).2 else if v.k = 6 then 0 else 13
def G7 (f : Fd) (v : JV) (c : Cd) : Cd := if f.kd = 0 then c.putT f.off v.t else if f.kd = 1 then c.putN f.off (BR v).1 else c
def CB : List Fd → JV → Cd → JV → Int × Cd × JV
 | [], _, c, fx => (0, c, fx)
 | f :: fs, v, c, fx => match CI v f.nm with
   | none => (32, c, fx)
   | some y => if JG f y ≠ 0 then (JG f y, c, fx) else CB fs v (G7 f y c) (if f.kd = 2 then y else fx)
def BJ (nm : List UInt8) (v : JV) : Int × B5 :=
 if v.k = 3 then ((BR v).2, ⟨nm, 1, (BR v).1, []⟩)
 else if v.k = 4 then (0, ⟨nm, 3, 0, v.t⟩)
 else if v.k = 1 ∨ v.k = 2 then (0, ⟨nm, 2, if v.k = 2 then 1 else 0, []⟩)
 else (13, ⟨[], 0, 0, []⟩)
def CC (v : JV) : List (List UInt8) → List B5 → Int × List B5
 | [], acc => (0, acc)
 | nm :: r, acc => if (BJ nm ((CI v nm).getD jz)).1 ≠ 0 then ((BJ nm ((CI v nm).getD jz)).1, []) else CC v r (acc ++ [(BJ nm ((CI v nm).getD jz)).2])
def Ao (ns : List (List UInt8)) : List (List UInt8) := ns.mergeSort fun x y => decide (x ≤ y)
def AU (v : JV) : Int × List B5 := CC v (Ao v.ns) []
def Bj (fs : List Fd) (kind : Int) (v : JV) : Int × Cd :=
 if (CB fs v (CQ kind) jz).1 ≠ 0 then ((CB fs v (CQ kind) jz).1, CQ 0)
 else if fs.length < v.ns.length then (32, CQ 0)
 else if (AU (CB fs v (CQ kind) jz).2.2).1 ≠ 0 then ((AU (CB fs v (CQ kind) jz).2.2).1, CQ 0)
 else (0, { (CB fs v (CQ kind) jz).2.1 with fx := (AU (CB fs v (CQ kind) jz).2.2).2 })
def Bu (x : B5) : Option JV :=
 if x.ty = 1 then (if x.s = [] then some (DI (Lib.itoa x.n)) else none)
 else if x.ty = 2 then (if x.s = [] ∧ (x.n = 0 ∨ x.n = 1) then some (.mk (if x.n = 1 then 2 else 1) [] [] []) else none)
 else if x.ty = 3 ∧ x.n = 0 then some (Fb x.s) else none
def BN : List B5 → List (List UInt8) → List JV → Option JV
 | [], ns, l => some (.mk 6 [] ns l)
 | x :: r, ns, l => match Bu x with
   | none => none
   | some y => if (match ns.getLast? with | none => true | some p => decide (p < x.nm)) then BN r (ns ++ [x.nm]) (l ++ [y]) else none
def Av (f : Fd) (c : Cd) : Option JV × Cd :=
 if f.kd = 0 then (if Lib.validD (c.t f.off) then some (Fb (c.t f.off)) else none, c.putT f.off [])
 else if f.kd = 1 then (some (DI (Lib.itoa (c.n f.off))), c.putN f.off 0)
 else (BN c.fx [] [], { c with fx := [] })
def DJ : List Fd → Cd → List (List UInt8) → List JV → Option (JV × Cd)
 | [], c, ns, l => some (.mk 6 [] ns l, c)
 | f :: fs, c, ns, l => match Av f c with
   | (none, _) => none
   | (some y, c') => DJ fs c' (ns ++ [f.nm]) (l ++ [y])
def CD (c : Cd) : Prop := c.t 1 = [] ∧ c.t 2 = [] ∧ c.t 3 = [] ∧ c.t 4 = [] ∧ c.t 5 = [] ∧ c.t 6 = [] ∧ c.fx = [] ∧ c.n 7 = 0 ∧ c.n 8 = 0 ∧ c.n 9 = 0 ∧ c.n 10 = 0 ∧ c.n 11 = 0 ∧ c.n 12 = 0 ∧ c.n 13 = 0
open Go.RowKit Go.Lib Go.Sort
theorem Wr {α : Type} [Inhabited α] [DecidableEq α] (d : Array α) (m : Nat) : (compactUpTo d m).length ≤ m := by
 induction m with
 | zero => simp [compactUpTo]
 | succ m ih =>
   rw [compactUpTo_succ, List.length_append]
   split <;> simp <;> omega
theorem Ws {α : Type} [Inhabited α] [DecidableEq α] (d : Array α) (m j : Nat) (hj : j < m) (h : keeps d j = false) : (compactUpTo d m).length < m := by
 induction m with
 | zero => omega
 | succ m ih =>
   rw [compactUpTo_succ, List.length_append]
   by_cases e : j = m
   ·
    subst e
    have := Wr d j
    rw [h]; simp; omega
   ·
    have := ih (by omega)
    split <;> simp <;> omega
theorem Tv {zs : List (List UInt8)} (hs : zs.Pairwise (· ≤ ·)) : (compact zs).length = zs.length ↔ zs.Nodup := by
 have hget : ∀ j (hj : j < zs.length), zs.toArray[j]! = zs[j] := fun j hj => by simp [hj]
 have hle : ∀ i j (hi : i < zs.length) (hj : j < zs.length), i < j → zs[i] ≤ zs[j] := fun i j hi hj h => List.pairwise_iff_getElem.1 hs i j hi hj h
 constructor
 ·
  intro h
  have hk : ∀ j, j < zs.length → keeps zs.toArray j = true := fun j hj => by
   rw [← Bool.not_eq_false]
   intro h2
   have := Ws zs.toArray zs.length j hj h2
   unfold compact at h; omega
  refine List.pairwise_iff_getElem.2 fun i j hi hj hij e => ?_
  have h1 := hk j hj
  have hne : zs[j] ≠ zs[j - 1] := fun e2 => by
   rw [keeps_neg (by omega) (by rw [hget j hj, hget (j - 1) (by omega)]; exact e2)] at h1
   cases h1
  refine hne (List.le_antisymm ?_ (hle (j - 1) j (by omega) hj (by omega)))
  rcases Nat.lt_or_ge i (j - 1) with h3 | h3
  ·
   have := hle i (j - 1) hi (by omega) h3
   rw [e] at this; exact this
  ·
   have : i = j - 1 := by omega
   subst this
   rw [← e]; exact List.le_refl _
 ·
  intro h
  rw [compact_all zs fun j hj => ?_]
  rcases Nat.eq_zero_or_pos j with rfl | hp
  · exact keeps_lt_one _ 0 (by omega)
  ·
   refine keeps_pos ?_
   rw [hget j hj, hget (j - 1) (by omega)]
   exact fun e => List.pairwise_iff_getElem.1 h (j - 1) j (by omega) hj (by omega) e.symm
theorem OI (v : Value) (zs : List (List UInt8)) (hz : zs.length ≤ 1000000) (w0 : World) (h : (AJ 9 1 v zs.length (zs.map encStr)).ok w0) :
 CV Tryz.prog 107 [v] w0 (AJ 9 1 v zs.length (zs.map encStr)) (fun p : Option Addr × Nat => .slice p.1 (compact zs).length p.2) (fun _ => A7) := by
 rcases h.now.2 with ⟨rfl, h0⟩ | ⟨q, cap, cur, rfl, _, hb, h1, h2, h3, h4⟩
 ·
  obtain rfl : zs = [] := List.eq_nil_of_length_eq_zero h0
  exact (Any.slices_Compact_string_empty Tryz.lays194c none 0 w0).mono fun e w' ⟨he, hw⟩ => ⟨(none, 0), he, by rw [hw]; exact Bd.refl _ _, AL _, fun b hb => hb.elim⟩
 ·
  have hH := Go.holds_of_block (ss := zs) hb (by simpa using h4)
  refine (Any.slices_Compact_string Tryz.lays194c q 0 cap zs w0 hH (by omega) h1).mono fun e w' ⟨he, k, hw⟩ => ⟨(_, _), he, ?_, AL _, fun b hb => hb.elim⟩
  subst hw
  refine ⟨rfl, rfl, rfl, by simp, fun j hj hn => ?_⟩
  have : q ≠ j := fun e => hn (by rw [← e]; rfl)
  simp [Go.Sort.putRow, Go.Sort.mapBlock, Go.Sort.ahead, Array.getElem?_modify, this]
theorem JH (W0 : World) (hU : Lib.Utf8Tabs 0 1 W0) (s : List UInt8) (hs : s.length ≤ 10000000) (w0 : World) (ho : AQ W0 w0) : Ae Tryz.prog 86 [.string (tx s)] w0 (.bool (Lib.validD s)) := by
 have hU0 : Lib.Utf8Tabs 0 1 w0 := ⟨fun c hc => AF ho (hU.1 c hc), fun i hi => ⟨AF ho (hU.2 i hi).1, AF ho (hU.2 i hi).2⟩⟩
 exact (Any.utf8_ValidString Tryz.lays196v (tx s) w0 (by rw [BA]; omega) hU0).mono fun e w' ⟨he, hb⟩ => ⟨he, Bd.of_below hb⟩
theorem RC (W0 : World) (hU : Lib.Utf8Tabs 0 1 W0) (s : List UInt8) (hs : s.length ≤ 10000000) (w0 : World) (ho : AQ W0 w0) : Ae Tryz.prog 104 [.string (tx s)] w0 (.bool (!Lib.validD s)) := by
 refine Ew Ai Tryz.func104 Tryz.ntmps104 ho ?_
 intro a hS
 refine Wh 8 hS ?_
 refine Lo (cP Zi (fun hS => JH W0 hU s hs _ hS.od) ?_)
 refine Wn 5 ?_
 intro a w hS
 refine Ro hS Tryz.results104 ?_
 exact ⟨rfl, hS.chg⟩
def Wt (e : Int) : Prop := e ≠ 0 ∧ e ≠ 8
theorem DP (b : Bool) (e : Int) (he : Wt e) (w0 : World) : Du Tryz.prog 101 [.bool b, .int .i64 e] w0 (fun v => B6 Wt v ∧ b = false) A7 (fun _ : { _u : Unit // b = true } => .tuple [].toArray) (fun _ => A7) := by
 refine Eo Ai Tryz.func101 Tryz.ntmps101 ?_
 intro a hS
 refine Wh 6 hS ?_
 refine iB (fun hc5 => ?_) fun hc5 => ?_
 ·
  refine Wn 3 ?_
  refine Xp (PO rfl PG.1) ?_
  intro a w hS
  refine Aa (PP hS rfl ?_)
  exact ⟨hS.sl.defers, .inr ⟨_, ⟨⟨0, e, he, rfl⟩, by simpa using hc5⟩, rfl, hS.chg⟩⟩
 refine Wn 1 ?_
 intro a w hS
 refine CS ?_
 refine Rm hS Tryz.results101 ?_
 exact .inl ⟨⟨(), by simpa using hc5⟩, rfl, hS.chg, AL _, fun b h => h.elim⟩
theorem RD (W0 : World) (hU : Lib.Utf8Tabs 0 1 W0) (sa : Option Addr) (sc : Nat) (names : List (List UInt8)) (hT : Ff W0 sa names) (hn : names.length ≤ 1000000) (hs : ∀ x ∈ names, x.length ≤ 10000000) (w0 : World) (ho : AQ W0 w0) :
 Bb Tryz.prog 144 [.slice sa names.length sc, .func (.func 104) #[] [].toArray] w0 (fun i : { i : Int // i < 0 ↔ ∀ x ∈ names, Lib.validD x = true } => .int .i64 i.1) (fun _ => A7) := by
 refine Ew Ai Tryz.func144 Tryz.ntmps144 ho ?_
 intro a hS
 refine Wq 14 hS ?_; intro a hS
 refine AW (γ := Nat) (fun k a w => St 19 Ai w0 a w [(8, .int .i64 (k : Int)), (7, .int .i64 (names.length : Int)), (0, .slice sa names.length sc), (1, .func (.func 104) #[] [].toArray)] [AG W0] ∧ k ≤ names.length ∧ ∀ (j : Nat) (x : List UInt8), j < k → names[j]? = some x → Lib.validD x = true) (fun k => names.length - k) 0 ⟨hS.sq, Nat.zero_le _, fun j _ hj => by omega⟩ ?_
 intro k a w hI
 obtain ⟨hS, hk, hno⟩ := hI
 refine Wh 6 hS ?_
 refine iD (fun hc9 => ?_) fun hc9 => ?_
 ·
  have hkn : k < names.length := by omega
  obtain ⟨nb, no, rfl, hcn⟩ := hT.at_ (fun e => by rw [e] at hkn; exact absurd hkn (Nat.not_lt_zero _))
  obtain ⟨nm, hnm⟩ : ∃ x, names[k]? = some x := ⟨_, List.getElem?_eq_getElem hkn⟩
  refine Wn 16 ?_
  refine Xp (AI rfl Af.1 (fun w hh => by rw [Nat.mul_one]; exact AF (hh (AG W0) (by repeat constructor)) (hcn k nm hnm))) ?_
  intro a w hS
  refine Aa (Cq hS rfl (.cons rfl .nil) gO rfl (RC W0 hU nm (hs nm (List.mem_of_getElem? hnm)) _ hS.od) ?_); intro a w hS
  refine Wh 2 hS ?_
  refine iB (fun hc16 => ?_) fun hc16 => ?_
  ·
   refine Wn 7 ?_
   intro a w hS
   refine AD (AC (AC (AD (AC ?_))))
   refine Ro hS Tryz.results144 ?_
   exact ⟨⟨(k : Int), fun h => absurd h (by omega), fun h => by rw [h nm (List.mem_of_getElem? hnm)] at hc16; cases hc16⟩, rfl, hS.chg, AL _, fun b hb => hb.elim⟩
  refine Wn 7 ?_
  intro a w hS
  refine ⟨k + 1, by omega, hS.sq, hkn, fun j x hj hx => ?_⟩
  by_cases e : j = k
  · subst e; rw [hnm] at hx; cases hx; simpa using hc16
  · exact hno j x (by omega) hx
 refine Wn 1 ?_
 intro a w hS
 refine AH (AH (Aj ?_))
 refine Wh 7 hS ?_
 intro a w hS
 refine Ro hS Tryz.results144 ?_
 refine ⟨⟨-1, fun _ x hx => ?_, fun _ => by decide⟩, rfl, hS.chg, AL _, fun b hb => hb.elim⟩
 obtain ⟨j, hj⟩ := List.getElem?_of_mem hx
 exact hno j x (by have := (List.getElem?_eq_some_iff.1 hj).1; omega) hj
theorem Tw (W0 : World) (hU : Lib.Utf8Tabs 0 1 W0) (sa : Option Addr) (sc : Nat) (names : List (List UInt8)) (hT : Ff W0 sa names) (hn : names.length ≤ 1000000) (hs : ∀ x ∈ names, x.length ≤ 10000000) (w0 : World) (ho : AQ W0 w0) :
 Bb Tryz.prog 103 [.slice sa names.length sc, .func (.func 104) #[] [].toArray] w0 (fun b : { b : Bool // b = false ↔ ∀ x ∈ names, Lib.validD x = true } => .bool b.1) (fun _ => A7) := by
 refine Ew Ai Tryz.func103 Tryz.ntmps103 ho ?_
 intro a hS
 refine Wh 9 hS ?_
 refine Lo (cN iJ (fun hS => RD W0 hU sa sc names hT hn hs _ hS.od) ?_); intro x7
 refine Wn 5 ?_
 intro a w hS
 refine Ro hS Tryz.results103 ?_
 obtain ⟨i, hi⟩ := x7
 exact ⟨⟨decide (0 ≤ i), by rw [← hi, decide_eq_false_iff_not]; omega⟩, rfl, hS.chg, AL _, fun b hb => hb.elim⟩
theorem KX (W0 : World) (b : Nat) (sa : Option Addr) (sc : Nat) (names : List (List UInt8)) (hT : Ff W0 sa names) (hn : names.length ≤ 1000000) (w0 : World) (h : Wb W0 b (.slice sa names.length sc) w0) :
 Bb Tryz.prog 105 [.func (.func 147) #[] [.pointer (some ⟨b, 0, none⟩)].toArray] w0 (fun v : Value => v) (fun v => AJ 9 1 v (Ao names).length ((Ao names).map encStr)) := by
 refine (Q5 iM hn (S := fun xs => xs = names.map tx) (fun xs hx => by rw [hx, List.length_map]; exact Nat.le_refl _) (Q6 W0 b (.slice sa names.length sc)) rfl (OB W0 b sa sc names hT hn) w0 (OA h)).mono ?_
 rintro e w' ⟨⟨⟨v, xs⟩, xs', rfl, hx⟩, he, h1, h2, h3⟩
 simp only at hx he h2 h3
 have e1 : xs.map Value.string = (Ao names).map encStr := by
  rw [hx]
  unfold Vh Ao Dx
  rw [List.map_map, List.map_map]
  rw [show (fun x : ByteArray => x.data.toList) ∘ tx = id from rfl, List.map_id]
  rfl
 have e2 : xs.length = (Ao names).length := by rw [hx, LS, List.length_map]; exact (List.mergeSort_perm names _).length_eq.symm
 unfold I6 at h2 h3
 rw [e1, e2] at h2 h3
 exact ⟨v, he, h1, h2, h3⟩
theorem JI (ns : List (List UInt8)) : (Ao ns).Perm ns := List.mergeSort_perm ns _
theorem Hh (ns : List (List UInt8)) : (Ao ns).length = ns.length := (JI ns).length_eq
theorem RE (ns : List (List UInt8)) : (Ao ns).Pairwise (· ≤ ·) := by
 have := List.pairwise_mergeSort (le := fun x y : List UInt8 => decide (x ≤ y)) (fun a b c h1 h2 => decide_eq_true (List.le_trans (of_decide_eq_true h1) (of_decide_eq_true h2))) (fun a b => by
   rcases List.le_total a b with h | h
   · simp [h]
   · simp [h]) ns
 exact this.imp fun h => of_decide_eq_true h
theorem H1 (ns : List (List UInt8)) : (compact (Ao ns)).length = ns.length ↔ ns.Nodup := by
 rw [← Hh ns, Tv (RE ns)]
 exact (JI ns).nodup_iff
section
def Wu (E b : Nat) (l : List Int) (w : World) : Prop := ∃ (sp : List Value) (N : Nat), w.heap[b]? = some (.cells (l.map (Value.int .u8) ++ sp).toArray E (N, N + 1)) ∧ l.length ≤ N
def Gb (E b : Nat) (l : List Int) : AT := .any (fun k => k = b) (Wu E b l) true
theorem jV {E b : Nat} {l : List Int} {w : World} (h : Wu E b l w) : (Gb E b l).ok w := by
 obtain ⟨sp, N, h1, h2⟩ := h
 exact ⟨fun k hk => by obtain rfl : k = b := hk; exact (Array.getElem?_eq_some_iff.1 h1).1, fun w' hw => ⟨sp, N, (hw b rfl).trans h1, h2⟩⟩
theorem Wv {E b : Nat} {l : List Int} {w : World} (h : Wu E b l w) {i : Nat} {x : Int} (hx : l[i]? = some x) : w.cell? ⟨b, i, none⟩ = some (.int .u8 x) := by
 obtain ⟨sp, N, h1, h2⟩ := h
 have hi := (List.getElem?_eq_some_iff.1 hx).1
 unfold World.cell?
 rw [h1]
 simp only [List.getElem?_toArray]
 rw [List.getElem?_append_left (by rw [List.length_map]; exact hi), List.getElem?_map, hx]; rfl
theorem Po {E b c : Nat} {l : List Int} {w : World} (h : Wu E b l w) (hc : l.length ≤ c) : CL (.slice (some ⟨b, 0, none⟩) l.length c) l w := by
 by_cases hl : l = []
 · subst hl; exact .inl ⟨rfl, _, _, rfl⟩
 ·
  refine .inr ⟨b, 0, c, hl, rfl, hc, fun j x hj => by rw [Nat.zero_add]; exact Wv h hj, ?_⟩
  obtain ⟨sp, N, h1, _⟩ := h
  exact (Array.getElem?_eq_some_iff.1 h1).1
def CE (s : ByteArray) : List Int := s.data.toList.map fun b => (b.toNat : Int)
theorem Cv (s : ByteArray) : (CE s).length = s.size := by unfold CE; simp
section
variable {P : Program} {n : NN} {F0 : Nat → Prop} {w0 w : World} {a : Act} {L : List (Nat × Value)} {Γ : List AT}
variable {K : Act → World → Prop} {Q : Exit → Act → World → Prop} {d ty : Nat} {pos : String} {af : Array Edge} {g : Option (Nat × Bool)}
theorem E6 {T T' E : Nat} {x : Operand} {s : ByteArray} {u : TypeDesc} (hS : St n F0 w0 a w L Γ) (hx : ev L x = some (.string s)) (hu : P.underlying T = some u) (hT : BD P T' = some E) (hE : P.underlying E = some (.int .u8)) (hn : Nat.blt d n.n = true)
 (h : ∀ b c a' w', (CE s).length ≤ c → St n F0 w0 a' w' ((d, .slice (some ⟨b, 0, none⟩) (CE s).length c) :: L) (Gb E b (CE s) :: Γ) → K a' w') : OW P ⟨some d, .convert T T' x, ty, pos, af, g⟩ a w K Q := by
 have hcv := Lib.run_convert_string_bytes (P := P) w T T' E s hu (BF hT) hE
 have he : (execOp a.eval (⟨some d, .convert T T' x, ty, pos, af, g⟩ : Oper)).run P w = .ok (.value (.slice (some ⟨w.heap.size, 0, none⟩) s.size (grownCap w s.size 0 E))) (Lib.bytesWorld w E s) := by
  simp [execOp, hS.sl.ev hx, hcv]
 refine ⟨?_⟩
 unfold Oper.wp
 rw [he]
 have hcap : s.size ≤ grownCap w s.size 0 E := grownCap_ge w s.size 0 E
 have hcs : Lib.bytesCells w E s = ((CE s).map (Value.int .u8) ++ List.replicate (grownCap w s.size 0 E - s.size) (Value.int .u8 0)).toArray := by
  unfold Lib.bytesCells CE
  apply Array.ext'
  simp
 rw [← Cv s]
 refine h w.heap.size _ _ _ (by rw [Cv]; exact hcap) ((hS.fresh (Bd.of_below (Lib.bytesWorld_below w E s)) (jV ⟨List.replicate (grownCap w s.size 0 E - s.size) (Value.int .u8 0), (Lib.bytesCells w E s).size, ?_, ?_⟩) (fun b hb => by have : b = w.heap.size := hb; omega)).put hn _)
 · rw [Lib.bytesWorld_at_new, ← hcs]
 · rw [hcs]; simp
theorem St.toOld {n : NN} {F0 : Nat → Prop} (h : St n F0 w0 a w L Γ) : St n F0 w0 a w L [AG w] := ⟨h.sl, h.chg, B3 (BB (Ax w)) DN, Bi, BP rfl Aw⟩
end
end
theorem Ml (W0 : World) (bp br : Nat) (q : Option Addr) (c : Nat) (l : List UInt8) (ht : EB W0 q c l) (hb : W0.heap.size ≤ br) (hbp : W0.heap.size ≤ bp) (hne : bp ≠ br) (w0 : World) (h1 : (AT.blk bp [.pointer (some ⟨br, 0, none⟩)] 91).ok w0) (h : (Ah br q c l 0).φ w0) (ho : AQ W0 w0) :
 Du Tryz.prog 143 [.pointer (some ⟨bp, 0, none⟩)] w0 (fun v => B6 Fe v ∧ Cs l = none) (C5 (.blk bp [.pointer (some ⟨br, 0, none⟩)] 91) (Ah br q c l 0))
  (fun x : { k : Nat // Cs l = some k } => TR (l.take x.1)) (fun x => C5 (.blk bp [.pointer (some ⟨br, 0, none⟩)] 91) (Ah br q c l x.1)) := by
 have hn := ht.n
 refine En [.blk bp [.pointer (some ⟨br, 0, none⟩)] 91, Ah br q c l 0, AG W0] (fun k => k = bp ∨ k = br) Tryz.func143 Tryz.ntmps143 (B3 h1 (B3 (BE h) (B3 (BB ho) DN))) (CT (CK (fun k h1 h2 => by have h1 : k = bp := h1; have h2 : k = br := h2; omega) (CK (fun k h1 h2 => by have h1 : k = bp := h1; have h2 : k < W0.heap.size := h2; omega) CU)) (CT (CK (fun k h1 h2 => by have h1 : k = br := h1; have h2 : k < W0.heap.size := h2; omega) CU) Bi)) (A9 (fun k hk => .inl hk) (A9 (fun k hk => .inr hk) (BP rfl Aw))) ?_
 intro a hS
 refine Wh 2 hS ?_
 refine Lo (Al ?_); intro b1
 refine Wn 5 ?_
 intro a w hS
 refine Aa (cY hS gJ (KQ W0 br q c l ht 0 (Nat.zero_le _) _ (hS.gg (X := Ah br q c l 0)) hS.od hb) ?_ ?_)
 ·
  intro vp wp hvp hdp hcp
  refine AS ?_
  exact ⟨hdp, .inr ⟨vp, ⟨hvp.1, hvp.2⟩, rfl, hcp⟩⟩
 intro x3 a w hS
 obtain ⟨k, hk⟩ := x3
 simp only [Nat.zero_add] at hS
 rw [show l.drop 0 = l from rfl] at hk hS
 unfold TR at hS
 refine Un hS (Lo (Sa ?_))
 refine Wn 3 ?_
 intro a w hS
 refine Ro hS Tryz.results143 ?_
 exact .inl ⟨⟨k, hk⟩, rfl, hS.chg, By (hS.ok (.blk bp [.pointer (some ⟨br, 0, none⟩)] 91) (by repeat constructor)) (hS.ok (Ah br q c l k) (by repeat constructor)) (fun b h1 h2 => hS.sep (X := .blk bp [.pointer (some ⟨br, 0, none⟩)] 91) (Y := Ah br q c l k) (by repeat constructor) (by repeat constructor) b h1 h2), fun b hb => .inl hb⟩
theorem OJ (t : List UInt8) (hn : t.length ≤ 1100000) (w0 : World) : Ae Tryz.prog 102 [.string (tx t)] w0 (.bool (decide (Cs t = some t.length))) := by
 have htx := BA t
 refine Eo Ai Tryz.func102 Tryz.ntmps102 ?_
 intro a hS
 refine Wq 8 hS ?_; intro a hS
 refine Aa (E6 hS rfl Tryz.underlying9 AZ.1 C7.1 rfl ?_)
 intro b7 c7 a w hc7 hS
 obtain ⟨W1, rfl⟩ : ∃ W, W = w := ⟨_, rfl⟩
 have ht : EB W1 (some ⟨b7, 0, none⟩) c7 t := ⟨by have := Po (hS.gg (X := Gb 5 b7 (CE (tx t)))) hc7; rw [show CE (tx t) = Br t from rfl, Ap] at this; exact this, hn⟩
 rw [show (CE (tx t)).length = t.length from Ap t] at hS
 replace hS := hS.toOld
 refine Wh 1 hS ?_
 refine Lo (Bx ?_); intro b9
 refine Lo (Al ?_); intro b3
 refine Lo (Sb ?_)
 refine Wn 4 ?_
 refine Xp (CR .nil (.cons rfl .nil)) ?_
 intro a w hS
 have hm9 : W1.heap.size ≤ b9 := Nat.not_lt.1 fun h => hS.sep (X := .blk b9 [.slice (some ⟨b7, 0, none⟩) t.length c7, .int .i64 0] 93) (Y := AG W1) (by repeat constructor) (by repeat constructor) b9 rfl h
 have hm3 : W1.heap.size ≤ b3 := Nat.not_lt.1 fun h => hS.sep (X := .blk b3 [.pointer (some ⟨b9, 0, none⟩)] 91) (Y := AG W1) (by repeat constructor) (by repeat constructor) b3 rfl h
 have hne : b3 ≠ b9 := fun e => hS.sep (X := .blk b3 [.pointer (some ⟨b9, 0, none⟩)] 91) (Y := .blk b9 [.slice (some ⟨b7, 0, none⟩) t.length c7, .int .i64 0] 93) (by repeat constructor) (by repeat constructor) b3 rfl e
 replace hS : St _ _ _ _ _ _ [C5 (.blk b3 [.pointer (some ⟨b9, 0, none⟩)] 91) (Ah b9 (some ⟨b7, 0, none⟩) c7 t 0), AG W1] := (hS.pk (Γ' := [.blk b3 [.pointer (some ⟨b9, 0, none⟩)] 91, .blk b9 [.slice (some ⟨b7, 0, none⟩) t.length c7, .int .i64 0] 93, AG W1])).duo rfl rfl
 have hold : AQ W1 w := hS.gg (X := AG W1)
 refine Aa (dB hS ZO (Hf 143 [.pointer (some ⟨b3, 0, none⟩)] (fun e => Fe e ∧ Cs t = none) (C5 (.blk b3 [.pointer (some ⟨b9, 0, none⟩)] 91) (Ah b9 (some ⟨b7, 0, none⟩) c7 t 0)) (fun x : { k : Nat // Cs t = some k } => Ca 3 (tx (t.take x.1)) none 0 0 none 0 0) (fun x => C5 (.blk b3 [.pointer (some ⟨b9, 0, none⟩)] 91) (Ah b9 (some ⟨b7, 0, none⟩) c7 t x.1)) iI rfl (fun x => ⟨_, _, _, _, rfl, rfl, rfl, rfl, rfl⟩) _ (fun _ => rfl) (hS.ok (C5 (.blk b3 [.pointer (some ⟨b9, 0, none⟩)] 91) (Ah b9 (some ⟨b7, 0, none⟩) c7 t 0)) (by repeat constructor)) (fun w' hX hch => (Ml W1 b3 b9 (some ⟨b7, 0, none⟩) c7 t ht hm9 hm3 hne w' hX.now.1 hX.now.2.1.now ⟨Nat.le_trans hold.1 hch.size, fun k hk => (hch.block k (Nat.lt_of_lt_of_le hk hold.1) (fun hF => by rcases hF with hF | hF; exact absurd (show k = b3 from hF) (by omega); exact absurd (show k = b9 from hF) (by omega))).trans (hold.2 k hk)⟩).pan (fun v ⟨⟨p, e, he, hv⟩, hb⟩ => ⟨p, e, ⟨he, hb⟩, hv⟩))) ?_); intro x12
 intro a w hS
 obtain ⟨jk, js, ja, jm, jc, ja', jm', jc', p, e, hgu, hres⟩ := LX (E := fun e => Fe e ∧ Cs t = none) (V := fun x : { k : Nat // Cs t = some k } => Ca 3 (tx (t.take x.1)) none 0 0 none 0 0) (Y := fun x => C5 (.blk b3 [.pointer (some ⟨b9, 0, none⟩)] 91) (Ah b9 (some ⟨b7, 0, none⟩) c7 t x.1)) x12 (fun y hy => ⟨_, _, _, _, _, _, _, _, rfl⟩) (hS.ok (We (fun e => Fe e ∧ Cs t = none) (fun x : { k : Nat // Cs t = some k } => C5 (.blk b3 [.pointer (some ⟨b9, 0, none⟩)] 91) (Ah b9 (some ⟨b7, 0, none⟩) c7 t x.1)) x12) (by repeat constructor))
 rw [hgu] at hS
 refine Wh 3 hS ?_
 refine Lo (Al ?_); intro b4
 refine Lo (Al ?_); intro b5
 refine Lo (Sa ?_)
 refine Lo (Sa ?_)
 refine Wn 8 ?_
 intro a w hS
 refine ME (t := 18) hS rfl ?_ ?_ <;> (clear hS; intro hc18 hS)
 ·
  rcases hres with ⟨y, rfl, _, _, _⟩ | ⟨pe, rfl, _, _, he⟩
  case inr => exact absurd (he.symm.trans hc18) pe.2.1
  have hyn := y.2
  replace hS := (hS.pk (Γ' := [C5 (.blk b3 [.pointer (some ⟨b9, 0, none⟩)] 91) (.blk b9 [.slice (some ⟨b7, 0, none⟩) t.length c7, .int .i64 (y.1 : Int)] 93), .blk b5 [.int .i64 p, .int .i64 e] 95])).unduo
  refine Wh 12 hS ?_
  intro a w hS
  refine Ro hS Tryz.results102 ?_
  exact ⟨congrArg (fun x => Ending.returned (Value.bool x)) (decide_eq_decide.2 ⟨fun h => hyn.trans (congrArg some (by omega)), fun h => by have h2 := hyn.symm.trans h; injection h2 with h2; omega⟩), hS.chg⟩
 have hno : decide (Cs t = some t.length) = false := by
  rcases hres with ⟨y, rfl, _, _, he⟩ | ⟨pe, rfl, _, _, he⟩
  · exact absurd he hc18
  · exact decide_eq_false (fun h => by have := pe.2.2.symm.trans h; cases this)
 refine Wh 12 hS ?_
 intro a w hS
 refine Ro hS Tryz.results102 ?_
 exact ⟨by rw [hno], hS.chg⟩
section
def pK (b : Nat) (cs : List Value) (T : TypeId) : AT := .any (fun k => k = b) (fun w => w.heap[b]? = some (.cells cs.toArray T (0, 0))) false
theorem jW {b : Nat} {cs : List Value} {T : TypeId} {w : World} (h : (AT.blk b cs T).ok w) : (pK b cs T).ok w := ⟨fun k hk => h.lt k hk, fun w' hw => (h.agree fun k hk => hw k hk).now⟩
section
variable {P : Program} {n : NN} {F0 : Nat → Prop} {w0 : World} {a : Act} {w : World} {L : List (Nat × Value)} {Γ : List AT}
variable {K : Act → World → Prop} {Q : Exit → Act → World → Prop} {d ty : Nat} {dst : Option Tmp} {pos : String} {af : Array Edge} {g : Option (Nat × Bool)}
theorem G8 {w : World} {b : Nat} {cs : List Value} {E : TypeId} (h : w.heap[b]? = some (.cells cs.toArray E (0, 0))) : w.shape? b = some (E, cs.length) := by
 simp [World.shape?, h]
theorem jX {src ds t e b : Nat} {x : Operand} {cs : List Value} (hx : ev L x = some (.pointer (some ⟨b, 0, none⟩))) (hm : AT.blk b cs e ∈ Γ) (hs : P.underlying src = some (.pointer t)) (hd : P.underlying ds = some .unsafePointer)
 (hz : ((P.info? t).map fun j => Nat.blt 0 j.size) = some true) (hl : Nat.blt 0 cs.length = true) : Ex P n a L Γ ⟨dst, .convert src ds x, ty, pos, af, g⟩ (.pointer (some ⟨b, 0, none⟩)) := fun hs' w hh => by
 obtain ⟨j, hj, hjz⟩ := Option.map_eq_some_iff.1 hz
 have := Lib.run_to_unsafe (P := P) w ⟨b, 0, none⟩ hs hd hj (by have := Nat.le_of_ble_eq_true hjz; omega) (G8 (hh _ hm)) (Nat.le_of_ble_eq_true hl)
 simp [execOp, hs'.ev hx, this]
theorem Ww {src ds u e b : Nat} {x : Operand} {cs : List Value} (hx : ev L x = some (.pointer (some ⟨b, 0, none⟩))) (hm : AT.blk b cs e ∈ Γ) (hs : P.underlying src = some .unsafePointer) (hd : P.underlying ds = some (.pointer u))
 (hz : (P.info? u).isSome = true) (hl : liesAt P P.depth e (cs.length / P.cellsOf e) 0 u 1 = true) : Ex P n a L Γ ⟨dst, .convert src ds x, ty, pos, af, g⟩ (.pointer (some ⟨b, 0, none⟩)) := fun hs' w hh => by
 obtain ⟨j, hj⟩ := Option.isSome_iff_exists.1 hz
 have := Lib.run_from_unsafe (P := P) w ⟨b, 0, none⟩ hs hd hj (G8 (hh _ hm)) hl
 simp [execOp, hs'.ev hx, this]
theorem RF {f : FuncId} {fn : Func} {v : Value} (hf : P.funcs[f]? = some fn) (hname : (fn.name == "runtime.NumGoroutine") = false) (hb : fn.body.isNone = true) (hn : Extern.findNext fn = none) (he : Extern.find fn = some Extern.AbiNoEscape.same) : eZ P f [v] v := fun w => by
 rw [run_callFunc_extern hf hname hb hn he, show [v].toArray = #[v] from rfl, Lib.run_noEscape]; rfl
theorem RG {t t' te : TypeId} {x y : Operand} {p : Addr} (hx : ev L x = some (.pointer (some p))) (hy : ev L y = some (.pointer (some p))) (hp : P.underlying t = some (.pointer te)) (hte : (P.info? te).isSome = true) :
 Ex P n a L Γ ⟨dst, .binOp .neq t x y t', ty, pos, af, g⟩ (.bool false) := fun hs w hh => by
 obtain ⟨j, hj⟩ := Option.isSome_iff_exists.1 hte
 have := Lib.run_neq_ptr_same (P := P) w p hp hj
 simp [execOp, hs.ev hx, hs.ev hy, eqGuard, this]
theorem Mm {x : Operand} {p : Addr} {m c : Nat} {ts : Array TypeId} (hx : ev L x = some (.slice (some p) m c)) (hc : c ≠ 0) : Ex P n a L Γ ⟨dst, .call ⟨.builtin .unsafeSliceData, #[x], ts⟩, ty, pos, af, g⟩ (.pointer (some p)) := fun hs w hh => by
 have := Lib.run_unsafeSliceData_row (P := P) w ts ty p m c hc
 simp [execOp, resolve, invoke, builtin, hs.ev hx, this]
theorem RH {T U E : Nat} {x y : Operand} {v : Value} {s : ByteArray} {m : Nat} {cs : List Value} {Γ' : Value → List AT} (hS : St n F0 w0 a w L Γ) (hx : ev L x = some v) (hy : ev L y = some (.string s))
 (hT : BD P T = some E) (hU : P.underlying U = some .string) (hs : BS P E = some 1) (hb : Ev P E = some 1) (hz : ((P.info? E).bind (·.zero)) = some (.int .u8 0)) (hn : Nat.blt d n.n = true)
 (hm : AJ E 1 v m cs ∈ Γ) (hr : ∀ v', DY (AJ E 1 v m cs) (AJ E 1 v' (m + s.size) (cs ++ Lib.strCells s)) Γ (Γ' v')) (hbd : m + s.size ≤ 1000000000)
 (h : ∀ v' a' w', (v' = .slice none 0 0 ↔ v = .slice none 0 0 ∧ s.size = 0) → St n F0 w0 a' w' ((d, v') :: L) (Γ' v') → K a' w') : OW P ⟨some d, .call ⟨.builtin .append, #[x, y], #[T, U]⟩, ty, pos, af, g⟩ a w K Q := by
 obtain ⟨i, hi, hz'⟩ := Option.bind_eq_some_iff.1 hz
 have h1 : i.size = 1 := by unfold BS at hs; rw [hi] at hs; simpa using hs
 have h2 : i.bytes = 1 := by unfold Ev at hb; rw [hi] at hb; simpa using hb
 have hown : w.ownsRow 0 E 1 v m cs := hS.get hm
 obtain ⟨v', w', hrun, hown', hgr, hnil⟩ := Lib.run_append_own_string w 0 T U ty E i (BF hT) hU hi hz' h1 h2 v m cs hown s (by unfold maxLen; omega) (by omega) (Nat.zero_le _)
 have hblk : ∀ q, v'.ownBlock = some q → v.ownBlock = some q ∨ w.heap.size ≤ q := by
  rcases hown.2 with ⟨rfl, rfl⟩ | ⟨g, cap, cur, rfl, _, hg, hnc, hcm, hcs, htake⟩
  ·
   obtain rfl : cs = [] := List.eq_nil_of_length_eq_zero (by simpa using hown.1)
   obtain ⟨v2, w2, hrun2, hown2, _⟩ := Lib.run_append_own_string w w.heap.size T U ty E i (BF hT) hU hi hz' h1 h2 (.slice none 0 0) 0 [] (World.ownsRow_nil _ _ _ _) s (by unfold maxLen; omega) (by omega) (Nat.le_refl _)
   have := hrun.symm.trans hrun2
   injection this with e1 e2
   subst e1
   intro q hq
   rcases hown2.2 with ⟨h3, _⟩ | ⟨g, c2, cu2, h3, h4, _⟩
   · rw [h3] at hq; cases hq
   · rw [h3] at hq; simp [Value.ownBlock] at hq; right; omega
  ·
   by_cases hroom : m + s.size ≤ cap
   ·
    have hr := Lib.run_append_room_string (P := P) w T U ty E i (BF hT) hU hi h1 g m cap cur hg s hroom (by rw [hcs, Nat.mul_one]; exact hroom)
    have := hrun.symm.trans hr
    injection this with e1 _
    intro q hq; rw [e1] at hq; left; simpa [Value.ownBlock] using hq
   ·
    have holds : ∀ j u, cs[j]? = some u → w.cell? ((⟨g, 0, none⟩ : Addr).add j) = some u := hown.cells (g := g) rfl
    have hr := Lib.run_append_grow_string (P := P) w T U ty E i (.int .u8 0) (BF hT) hU hi hz' ⟨g, 0, none⟩ m cap cs (by rw [h1]; exact hown.1) holds s (by omega) (by omega) (growslice_fits (by omega) (by rw [h2]; omega))
    have := hrun.symm.trans hr
    injection this with e1 _
    intro q hq; rw [e1] at hq; simp [Value.ownBlock] at hq; right; omega
 have he : (execOp a.eval (⟨some d, .call ⟨.builtin .append, #[x, y], #[T, U]⟩, ty, pos, af, g⟩ : Oper)).run P w = .ok (.value v') w' := by
  simp [execOp, resolve, invoke, builtin, hS.sl.ev hx, hS.sl.ev hy, hrun]
 refine ⟨?_⟩
 unfold Oper.wp
 rw [he]
 exact h v' _ _ hnil ((hS.upd (hr v') (Bd.grown hgr) (C2 hown') (fun k hk => hblk k hk) rfl).put hn _)
theorem Mn {E pt it q m c : Nat} {x y : Operand} {l : List UInt8} {Γ' : List AT} (hS : St n F0 w0 a w L Γ) (hx : ev L x = some (.pointer (some ⟨q, 0, none⟩))) (hy : ev L y = some (.int .i64 (l.length : Int)))
 (hp : P.underlying pt = some (.pointer E)) (hc : P.cellsOf E = 1) (hn : Nat.blt d n.n = true) (hl : l ≠ []) (hl2 : l.length ≤ 1000000000)
 (hr : DY (AJ E 1 (.slice (some ⟨q, 0, none⟩) m c) l.length (Lib.byteCells l)) A7 Γ Γ')
 (h : ∀ a' w', St n F0 w0 a' w' ((d, .string ⟨l.toArray⟩) :: L) Γ' → K a' w') : OW P ⟨some d, .call ⟨.builtin .unsafeString, #[x, y], #[pt, it]⟩, ty, pos, af, g⟩ a w K Q := by
 have hown : w.ownsRow 0 E 1 (.slice (some ⟨q, 0, none⟩) m c) l.length (Lib.byteCells l) := hS.get hr.mem
 have hl0 : l.length ≠ 0 := fun e => hl (List.eq_nil_of_length_eq_zero e)
 rcases hown.2 with ⟨h1, h2⟩ | ⟨g', cap, cur, h1, _, hg, hnc, _, hcs, htake⟩
 · exact absurd h2 hl0
 ·
  injection h1 with h3 h4 h5
  injection h3 with h3
  injection h3 with h3
  subst h3 h4 h5
  have hsh : w.shape? q = some (E, cur.size) := by simp [World.shape?, hg]
  have hcell : ∀ j x, l[j]? = some x → w.cell? ((⟨q, 0, none⟩ : Addr).add j) = some (.int .u8 x.toNat) := fun j x hj => by
   refine hown.cells (g := q) rfl j _ ?_
   unfold Lib.byteCells
   rw [List.getElem?_map, hj]; rfl
  have hrun := Lib.run_unsafeString_row (P := P) w pt it ty E hp hc q cur.size hsh l hl (by rw [hcs, Nat.mul_one]; exact hnc) (by omega) hcell
  have he : (execOp a.eval (⟨some d, .call ⟨.builtin .unsafeString, #[x, y], #[pt, it]⟩, ty, pos, af, g⟩ : Oper)).run P w = .ok (.value (.string ⟨l.toArray⟩)) (w.freeze ⟨q, 0, none⟩ l.length) := by
   simp [execOp, resolve, invoke, builtin, hS.sl.ev hx, hS.sl.ev hy, hrun]
  refine ⟨?_⟩
  unfold Oper.wp
  rw [he]
  refine h _ _ ((hS.upd hr ?_ (AL _) (fun k hk => hk.elim) rfl).put hn _)
  unfold World.freeze
  rw [if_neg hl0]
  exact ⟨rfl, rfl, rfl, by simp, fun k hk hF => by
    simp only [Array.getElem?_modify]
    rw [if_neg (fun e => hF (by rw [← e]; rfl))]⟩
end
end
def BC (T b : Nat) (ad : Option Addr) (s : Value) (l : List UInt8) : AT := C5 (.blk b [.pointer ad, s] T) (AJ 5 1 s l.length (Lib.byteCells l))
def jY (T : Nat) : Prop := T = 104 ∨ T = 106
theorem Wx {T : Nat} (h : jY T) : liesAt Tryz.prog Tryz.prog.depth T (2 / Tryz.prog.cellsOf T) 0 104 1 = true := by
 rcases h with rfl | rfl
 · kernel_rfl
 · kernel_rfl
theorem Mo (T : Nat) (hT : jY T) (b : Nat) (s : Value) (w0 : World) (h : (AT.blk b [.pointer none, s] T).φ w0) :
 CV Tryz.prog 109 [.pointer (some ⟨b, 0, none⟩)] w0 (.blk b [.pointer none, s] T) (fun _ : Unit => .tuple [].toArray) (fun _ => .blk b [.pointer (some ⟨b, 0, none⟩), s] T) := by
 refine En [.blk b [.pointer none, s] T] (fun k => k = b) Tryz.func109 Tryz.ntmps109 (B3 (BE h) DN) Bi (A9 (fun _ hb => hb) Aw) ?_
 intro a hS
 refine Wh 6 hS ?_
 refine Xp (YC rfl Gm.1) ?_
 refine Wn 2 ?_
 refine Ie 6 true rfl rfl ?_
 refine Wn 4 ?_
 refine Xp (jX rfl (by repeat constructor) Gm.1 Tryz.underlying218 (by kernel_rfl) rfl) ?_
 refine Xp (Sc (.cons rfl .nil) (RF Tryz.func151 (by kernel_rfl) (by kernel_rfl) (by kernel_rfl) (by kernel_rfl))) ?_
 refine Xp (Ww rfl (by repeat constructor) Tryz.underlying218 Gm.1 (by kernel_rfl) (Wx hT)) ?_
 refine Wn 2 ?_
 refine Lo (Sb ?_)
 refine Wn 1 ?_
 intro a w hS
 refine CS ?_
 refine Rm hS Tryz.results109 ?_
 exact ⟨(), rfl, hS.chg, hS.ok (.blk b [.pointer (some ⟨b, 0, none⟩), s] T) (by repeat constructor), fun k hk => .inl hk⟩
theorem Mp (T : Nat) (b : Nat) (s : Value) (w0 : World) (h : (AT.blk b [.pointer (some ⟨b, 0, none⟩), s] T).φ w0) :
 CV Tryz.prog 109 [.pointer (some ⟨b, 0, none⟩)] w0 (.blk b [.pointer (some ⟨b, 0, none⟩), s] T) (fun _ : Unit => .tuple [].toArray) (fun _ => .blk b [.pointer (some ⟨b, 0, none⟩), s] T) := by
 refine En [.blk b [.pointer (some ⟨b, 0, none⟩), s] T] (fun k => k = b) Tryz.func109 Tryz.ntmps109 (B3 (BE h) DN) Bi (A9 (fun _ hb => hb) Aw) ?_
 intro a hS
 refine Wh 6 hS ?_
 refine Xp (YC rfl Gm.1) ?_
 refine Wn 2 ?_
 refine Ie 6 false rfl rfl ?_
 refine Wn 8 ?_
 refine Xp (RG rfl rfl Gm.1 (by kernel_rfl)) ?_
 refine Wn 2 ?_
 refine Ie 19 false rfl rfl ?_
 refine Wn 2 ?_
 intro a w hS
 refine CS ?_
 refine Rm hS Tryz.results109 ?_
 exact ⟨(), rfl, hS.chg, hS.ok (.blk b [.pointer (some ⟨b, 0, none⟩), s] T) (by repeat constructor), fun k hk => .inl hk⟩
theorem H2 (T : Nat) (hT : jY T) (b : Nat) (ad : Option Addr) (had : ad = none ∨ ad = some ⟨b, 0, none⟩) (s : Value) (w0 : World) (h : (AT.blk b [.pointer ad, s] T).φ w0) :
 CV Tryz.prog 109 [.pointer (some ⟨b, 0, none⟩)] w0 (.blk b [.pointer ad, s] T) (fun _ : Unit => .tuple [].toArray) (fun _ => .blk b [.pointer (some ⟨b, 0, none⟩), s] T) := by
 rcases had with rfl | rfl
 · exact Mo T hT b s w0 h
 · exact Mp T b s w0 h
theorem bD {T b : Nat} {ad : Option Addr} {s : Value} {l : List UInt8} {w : World} (h1 : (AT.blk b [.pointer ad, s] T).ok w) (h2 : (AJ 5 1 s l.length (Lib.byteCells l)).ok w) (hs : ∀ k, (AT.blk b [.pointer ad, s] T).F k → ¬ (AJ 5 1 s l.length (Lib.byteCells l)).F k) : (BC T b ad s l).ok w := By h1 h2 hs
theorem Pp {n : NN} {w0 w : World} {a : Act} {L : List (Nat × Value)} {Γ : List AT} {T b m : Nat} {ad : Option Addr} {s s' : Value} {l : List UInt8} {cs : List Value} (hS : St n (fun k => k = b ∨ s.ownBlock = some k) w0 a w L (.blk b [.pointer ad, s'] T :: AJ 5 1 s' m cs :: Γ)) (hm : m = l.length) (hc : cs = Lib.byteCells l) :
 Bd (fun k => k = b ∨ s.ownBlock = some k) w0 w ∧ (BC T b ad s' l).ok w ∧ ∀ k, (BC T b ad s' l).F k → (k = b ∨ s.ownBlock = some k) ∨ w0.heap.size ≤ k := by
 subst hm hc
 refine ⟨hS.chg, bD (hS.ok _ (.head _)) (hS.ok _ (.tail _ (.head _))) (fun k h1 h2 => (List.pairwise_cons.1 hS.dis).1 _ (.head _) k h1 h2), fun k hk => ?_⟩
 rcases hk with hk | hk
 · exact (hS.mine _ (.head _) rfl k hk).symm
 · exact (hS.mine _ (.tail _ (.head _)) rfl k hk).symm
theorem Tx (x y : List UInt8) : Lib.byteCells (x ++ y) = Lib.byteCells x ++ Lib.byteCells y := List.map_append
theorem DA (T : Nat) (hT : jY T) (b : Nat) (ad : Option Addr) (had : ad = none ∨ ad = some ⟨b, 0, none⟩) (s : Value) (l : List UInt8) (x : UInt8) (hl : l.length ≤ 900000000) (w0 : World) (h : (BC T b ad s l).ok w0) :
 CV Tryz.prog 41 [.pointer (some ⟨b, 0, none⟩), .int .u8 (x.toNat : Int)] w0 (BC T b ad s l) (fun _ : Value => .nilIface) (fun s' => BC T b (some ⟨b, 0, none⟩) s' (l ++ [x])) := by
 refine En [.blk b [.pointer ad, s] T, AJ 5 1 s l.length (Lib.byteCells l)] (fun k => k = b ∨ s.ownBlock = some k) Tryz.func41 Tryz.ntmps41 (B3 h.now.1 (B3 h.now.2.1 DN)) (CT (CK h.now.2.2 CU) Bi) (A9 (fun k hk => .inl hk) (A9 (fun k hk => .inr hk) Aw)) ?_
 intro a hS
 refine Wh 8 hS ?_
 refine Lo (cM YJ (fun hS => H2 T hT b ad had s _ (hS.gg (X := .blk b [.pointer ad, s] T))) ?_); intro x6
 refine Wn 10 ?_
 refine Lo (Bz ?_); intro b13
 refine Lo (A1 ?_); intro v14 hv14
 intro a w hS
 obtain ⟨q14, c14, rfl⟩ := AN (hS.gg (X := AJ 5 1 v14 (l.length + 1) (Lib.byteCells l ++ [.int .u8 (x.toNat : Int)])))
 refine Wh 2 hS ?_
 refine Lo (Sb ?_)
 refine Wn 8 ?_
 intro a w hS
 refine Ro hS Tryz.results41 ?_
 replace hS := hS.pk (Γ' := [.blk b [.pointer (some ⟨b, 0, none⟩), .slice q14 (l.length + 1) c14] T, AJ 5 1 (.slice q14 (l.length + 1) c14) (l.length + 1) (Lib.byteCells l ++ [.int .u8 (x.toNat : Int)])])
 exact ⟨_, rfl, Pp hS (by simp) (by rw [Tx]; rfl)⟩
theorem G9 (T : Nat) (hT : jY T) (b : Nat) (ad : Option Addr) (had : ad = none ∨ ad = some ⟨b, 0, none⟩) (s : Value) (l x : List UInt8) (hl : l.length + x.length ≤ 900000000) (w0 : World) (h : (BC T b ad s l).ok w0) :
 CV Tryz.prog 42 [.pointer (some ⟨b, 0, none⟩), .string (tx x)] w0 (BC T b ad s l) (fun _ : Value => .tuple [.int .i64 (x.length : Int), .nilIface].toArray) (fun s' => BC T b (some ⟨b, 0, none⟩) s' (l ++ x)) := by
 have hxs : (tx x).size = x.length := by unfold tx; simp [ByteArray.size]
 refine En [.blk b [.pointer ad, s] T, AJ 5 1 s l.length (Lib.byteCells l)] (fun k => k = b ∨ s.ownBlock = some k) Tryz.func42 Tryz.ntmps42 (B3 h.now.1 (B3 h.now.2.1 DN)) (CT (CK h.now.2.2 CU) Bi) (A9 (fun k hk => .inl hk) (A9 (fun k hk => .inr hk) Aw)) ?_
 intro a hS
 refine Wh 9 hS ?_
 refine Lo (cM YJ (fun hS => H2 T hT b ad had s _ (hS.gg (X := .blk b [.pointer ad, s] T))) ?_); intro x7
 refine Wn 10 ?_
 intro a w hS
 refine Aa (RH hS rfl rfl AZ.1 Tryz.underlying9 BL.1 HX.1 (by kernel_rfl) rfl (by repeat constructor) (fun _ => (by repeat constructor)) (by omega) ?_); intro v14 a w hv14 hS
 obtain ⟨q14, c14, rfl⟩ := AN (hS.gg (X := AJ 5 1 v14 (l.length + (tx x).size) (Lib.byteCells l ++ Lib.strCells (tx x))))
 refine Wh 2 hS ?_
 refine Lo (Sb ?_)
 refine Wn 11 ?_
 intro a w hS
 refine Rm hS Tryz.results42 ?_
 replace hS := hS.pk (Γ' := [.blk b [.pointer (some ⟨b, 0, none⟩), .slice q14 (l.length + (tx x).size) c14] T, AJ 5 1 (.slice q14 (l.length + (tx x).size) c14) (l.length + (tx x).size) (Lib.byteCells l ++ Lib.strCells (tx x))])
 exact ⟨_, by rw [hxs], Pp hS (by rw [List.length_append, hxs]) (by rw [Tx]; rfl)⟩
theorem bE (T b : Nat) (ad : Option Addr) (s : Value) (l : List UInt8) (w0 : World) (h : (BC T b ad s l).ok w0) :
 Ae Tryz.prog 39 [.pointer (some ⟨b, 0, none⟩)] w0 (.int .i64 (l.length : Int)) := by
 obtain ⟨q, c, rfl⟩ := AN h.now.2.1.now
 refine En [pK b [.pointer ad, .slice q l.length c] T] Ai Tryz.func39 Tryz.ntmps39 (B3 (jW h.now.1) DN) Bi (BP rfl Aw) ?_
 intro a hS
 refine Wh 10 hS ?_
 refine Xp (AI rfl Vx.1 (fun w hh => AR (cs := [.pointer ad, .slice q l.length c]) (hh (pK b [.pointer ad, .slice q l.length c] T) (by repeat constructor)) rfl)) ?_
 refine Wn 5 ?_
 intro a w hS
 refine Ro hS Tryz.results39 ?_
 exact ⟨rfl, hS.chg⟩
theorem KY (T b : Nat) (ad : Option Addr) (s : Value) (l : List UInt8) (hne : l ≠ []) (hl : l.length ≤ 900000000) (w0 : World) (h : (BC T b ad s l).ok w0) :
 CV Tryz.prog 40 [.pointer (some ⟨b, 0, none⟩)] w0 (BC T b ad s l) (fun _ : Unit => .string (tx l)) (fun _ => A7) := by
 obtain ⟨q, c, rfl⟩ := AN h.now.2.1.now
 have hl0 : l.length ≠ 0 := fun e => hne (List.eq_nil_of_length_eq_zero e)
 obtain ⟨k, rfl⟩ := Dv h.now.2.1.now hl0
 have hc0 : c ≠ 0 := by
  rcases h.now.2.1.now.2 with ⟨h1, h2⟩ | ⟨g', cap, cur, h1, _, _, hnc, _⟩
  · exact absurd h2 hl0
  · injection h1 with _ _ h5; omega
 refine En [.blk b [.pointer ad, .slice (some ⟨k, 0, none⟩) l.length c] T, AJ 5 1 (.slice (some ⟨k, 0, none⟩) l.length c) l.length (Lib.byteCells l)] (fun i => i = b ∨ (Value.slice (some ⟨k, 0, none⟩) l.length c).ownBlock = some i) Tryz.func40 Tryz.ntmps40 (B3 h.now.1 (B3 h.now.2.1 DN)) (CT (CK h.now.2.2 CU) Bi) (A9 (fun k hk => .inl hk) (A9 (fun k hk => .inr hk) Aw)) ?_
 intro a hS
 refine Wh 6 hS ?_
 refine Dr 12 [10] [.blk b [.pointer ad, .slice (some ⟨k, 0, none⟩) l.length c] T] ?_
 refine ZR 4 ?_
 refine Zy rfl (Mm rfl hc0) ?_
 refine ZR 5 ?_
 intro a w hS
 refine Zo 10 (tf 11 1) hS rfl wN rfl (Mn (l := l) hS rfl rfl Tryz.underlying174 (by kernel_rfl) rfl hne (by omega) (by repeat constructor) ?_); intro a w hS
 refine GJ (by simp) ?_
 refine Un hS (ZR 1 ?_)
 refine Wn 3 ?_
 intro a w hS
 refine Ro hS Tryz.results40 ?_
 exact ⟨(), rfl, hS.chg, AL _, fun b hb => hb.elim⟩
theorem HB {l : List UInt8} {k : Nat} {x : UInt8} (h : l[k]? = some x) : l.getD k 0 = x := by rw [List.getD_eq_getElem?_getD, h]; rfl
theorem bF (x : UInt8) : (qB x).length ≤ 6 := by unfold qB; split; simp; split <;> simp
theorem Ty (l : List UInt8) : (l.flatMap qB).length ≤ 6 * l.length := by
 induction l with
 | nil => exact Nat.le_refl _
 | cons x l ih =>
   rw [List.flatMap_cons, List.length_append, List.length_cons]
   have := bF x
   omega
theorem BG {α : Type} {l : List α} {k : Nat} {x : α} (h : l[k]? = some x) : l.take (k + 1) = l.take k ++ [x] := by
 rw [List.take_add_one, h]; rfl
def Mq : ByteArray := ⟨#[48, 49, 50, 51, 52, 53, 54, 55, 56, 57, 97, 98, 99, 100, 101, 102]⟩
theorem Pq : ∀ n : Fin 16, Mq.extract n.val (n.val + 1) = tx [HU n.val] := by decide +kernel
theorem GU (a b : List UInt8) : tx a ++ tx b = tx (a ++ b) := by
 apply ByteArray.ext
 show (tx a ++ tx b).data = _
 rw [ByteArray.data_append]
 simp [tx]
theorem Mr (l : List UInt8) (hl : l.length ≤ 10000000) (w0 : World) : Ae Tryz.prog 13 [.string (tx l)] w0 (.string (tx (AV l))) := by
 have hsz := BA l
 refine Eo Ai Tryz.func13 Tryz.ntmps13 ?_
 intro a hS
 refine Wh 7 hS ?_
 refine Lo (Al ?_); intro b3
 refine Wn 4 ?_
 intro a w hS
 replace hS : St _ _ _ _ _ _ [BC 104 b3 none (.slice none 0 0) []] := ((hS.own_nil 5 1).pk (Γ' := [.blk b3 [.pointer none, .slice none 0 0] 104, AJ 5 1 (.slice none 0 0) 0 []])).duo rfl rfl
 refine Aa (dB hS Jy (DA 104 (.inl rfl) b3 none (.inl rfl) (.slice none 0 0) [] 34 (by simp) _ (hS.ok (BC 104 b3 none (.slice none 0 0) []) (by repeat constructor))) ?_); intro x6
 refine Wn 9 ?_
 intro a w hS
 refine AW (γ := Nat × Value) (fun G a w => St 52 Ai w0 a w [(4, .int .i64 (G.1 : Int)), (0, .string (tx l)), (3, .pointer (some ⟨b3, 0, none⟩))] [BC 104 b3 (some ⟨b3, 0, none⟩) G.2 (34 :: (l.take G.1).flatMap qB)] ∧ G.1 ≤ l.length) (fun G => l.length - G.1) (0, x6) ⟨hS.sq, Nat.zero_le _⟩ ?_
 intro G a w hI
 obtain ⟨k, s⟩ := G
 obtain ⟨hS, hk⟩ := hI
 simp only at hS hk
 obtain ⟨acc, hacc⟩ : ∃ acc, 34 :: (l.take k).flatMap qB = acc := ⟨_, rfl⟩
 have hal : acc.length ≤ 6 * l.length + 1 := by
  have := Ty (l.take k)
  rw [List.length_take, Nat.min_eq_left hk] at this
  rw [← hacc, List.length_cons]; omega
 rw [hacc] at hS
 refine Wh 9 hS ?_
 refine iD (fun hc10 => ?_) fun hc10 => ?_
 ·
  have hkl : k < l.length := by rw [← hsz]; omega
  obtain ⟨x, hx⟩ : ∃ x, l[k]? = some x := ⟨_, List.getElem?_eq_getElem hkl⟩
  have hx0 : (tx l).data.toList.getD (k : Int).toNat 0 = x := HB hx
  have hxl := x.toNat_lt
  have hnx : 34 :: (l.take (k + 1)).flatMap qB = acc ++ qB x := by rw [BG hx, List.flatMap_append, ← List.cons_append, hacc]; simp
  refine Wn 9 ?_
  intro a w hS
  rw [hx0] at hS
  refine Wh 9 hS ?_
  refine Lm 3 24 (.bool (decide (x.toNat = 34 ∨ x.toNat = 92))) ?_ ?_
  ·
   intro hcM24
   refine Gd 21 ?_ ?_ <;> intro hg21
   ·
    refine Wn 3 ?_
    exact Et 4 24 21 hcM24 rfl ((decide_eq_true (.inl (by omega))).symm) hg21
   refine Wn 3 ?_
   exact Ef 4 24 21 hcM24 rfl (decide_eq_decide.2 (by omega)) hg21
  ·
   refine Wn 3 ?_
   refine iD (fun hc18 => ?_) fun hc18 => ?_
   ·
    have hq : qB x = [92, x] := if_pos hc18
    refine Wn 2 ?_
    refine Lo (cM Jy (fun hS => DA 104 (.inl rfl) b3 _ (.inr rfl) s acc 92 (by omega) _ (hS.ok (BC 104 b3 (some ⟨b3, 0, none⟩) s acc) (by repeat constructor))) ?_); intro x25
    refine Wn 4 ?_
    refine Lo (cM Jy (fun hS => DA 104 (.inl rfl) b3 _ (.inr rfl) x25 (acc ++ [92]) x (by rw [List.length_append, List.length_singleton]; omega) _ (hS.ok (BC 104 b3 (some ⟨b3, 0, none⟩) x25 (acc ++ [92])) (by repeat constructor))) ?_); intro x27
    obtain ⟨s2, rfl⟩ : ∃ s2, s2 = x27 := ⟨_, rfl⟩
    intro a w hS
    rw [show acc ++ [92] ++ [x] = 34 :: (l.take (k + 1)).flatMap qB by rw [hnx, hq]; simp] at hS
    refine Wq 9 hS ?_; intro a hS
    exact ⟨(k + 1, s2), by show l.length - (k + 1) < l.length - k; omega, hS.sq, hkl⟩
   refine Wn 5 ?_
   refine Lm 3 34 (.bool (decide (x.toNat < 32 ∨ x.toNat = 127))) ?_ ?_
   ·
    intro hcM34
    refine Gd 31 ?_ ?_ <;> intro hg31
    ·
     refine Wn 3 ?_
     exact Et 4 34 31 hcM34 rfl ((decide_eq_true (.inl (by omega))).symm) hg31
    refine Wn 3 ?_
    exact Ef 4 34 31 hcM34 rfl (decide_eq_decide.2 (by omega)) hg31
   ·
    refine Wn 3 ?_
    refine iD (fun hc28 => ?_) fun hc28 => ?_
    ·
     have hq : qB x = [92, 117, 48, 48, HU (x.toNat / 16), HU (x.toNat % 16)] := by unfold qB; rw [if_neg hc18, if_pos hc28]
     have e36 : IntKind.u8.wrap (Int.tdiv (x.toNat : Int) 16) = ((x.toNat / 16 : Nat) : Int) := by
      rw [Int.tdiv_eq_ediv_of_nonneg (by omega)]
      unfold IntKind.wrap IntKind.bits IntKind.signed; simp; omega
     have e39 : IntKind.u8.wrap (((x.toNat / 16 : Nat) : Int) + 1) = ((x.toNat / 16 + 1 : Nat) : Int) := by
      unfold IntKind.wrap IntKind.bits IntKind.signed; simp; omega
     have e46 : IntKind.u8.wrap (((x.toNat % 16 : Nat) : Int) + 1) = ((x.toNat % 16 + 1 : Nat) : Int) := by
      unfold IntKind.wrap IntKind.bits IntKind.signed; simp; omega
     have c1 := Pq ⟨x.toNat / 16, by omega⟩
     have c2 := Pq ⟨x.toNat % 16, by omega⟩
     have hh : ∀ n : Nat, (n : Int).toNat = n := fun n => Int.toNat_natCast n
     intro a w hS
     refine K8 [14] (by kernel_rfl) hS ?_; intro w hS
     simp only [List.length_cons, List.length_nil, Nat.zero_add, Nat.reduceAdd, List.replicate]
     refine dA 0 (tf 1 14) hS rfl Ab (CJ rfl) rfl (by kernel_rfl) rfl ?_; intro a hS
     refine Un hS (Zx rfl (KC rfl rfl (by omega)) ?_)
     intro a w hS
     rw [e36] at hS
     refine Un hS (ZR 1 ?_)
     refine Zx rfl (KC rfl rfl (by omega)) ?_
     intro a w hS
     rw [e36] at hS
     refine Un hS (ZR 1 ?_)
     intro a w hS
     rw [e39] at hS
     refine Un hS (Zx rfl (Sm rfl rfl rfl Dp.1 (by show (0 : Int) ≤ ((x.toNat / 16 : Nat) : Int) ∧ ((x.toNat / 16 : Nat) : Int) ≤ ((x.toNat / 16 + 1 : Nat) : Int) ∧ ((x.toNat / 16 + 1 : Nat) : Int) ≤ 16; omega)) ?_)
     intro a w hS
     rw [hh, hh, show ByteArray.mk #[48, 49, 50, 51, 52, 53, 54, 55, 56, 57, 97, 98, 99, 100, 101, 102] = Mq from rfl, c1] at hS
     refine Un hS (Zx rfl (Do rfl rfl (by show (4 : Nat) + (tx [_]).size ≤ _; rw [BA]; simp)) ?_)
     intro a w hS
     rw [show (ByteArray.mk #[92, 117, 48, 48]) = tx [92, 117, 48, 48] from rfl, GU] at hS
     refine Un hS (ZR 1 ?_)
     refine Zx rfl (Ii rfl rfl (by omega)) ?_
     intro a w hS
     rw [show (x.toNat : Int) % 16 = ((x.toNat % 16 : Nat) : Int) by omega] at hS
     refine Un hS (ZR 1 ?_)
     refine Zx rfl (Ii rfl rfl (by omega)) ?_
     intro a w hS
     rw [show (x.toNat : Int) % 16 = ((x.toNat % 16 : Nat) : Int) by omega] at hS
     refine Un hS (ZR 1 ?_)
     intro a w hS
     first | rw [e46] at hS | (rw [show ((x.toNat : Int) % 16 + 1) = ((x.toNat % 16 : Nat) : Int) + 1 by omega, e46] at hS)
     refine Un hS (Zx rfl (Sm rfl rfl rfl Dp.1 (by show (0 : Int) ≤ ((x.toNat % 16 : Nat) : Int) ∧ ((x.toNat % 16 : Nat) : Int) ≤ ((x.toNat % 16 + 1 : Nat) : Int) ∧ ((x.toNat % 16 + 1 : Nat) : Int) ≤ 16; omega)) ?_)
     intro a w hS
     rw [hh, hh, show ByteArray.mk #[48, 49, 50, 51, 52, 53, 54, 55, 56, 57, 97, 98, 99, 100, 101, 102] = Mq from rfl, c2] at hS
     refine Un hS (Zx rfl (Do rfl rfl (by rw [BA, BA]; simp)) ?_)
     intro a w hS
     rw [GU] at hS
     refine Zo 14 (tf 15 0) hS rfl wN rfl (K6 hS (.cons rfl (.cons rfl .nil)) Sw rfl (G9 104 (.inl rfl) b3 _ (.inr rfl) s acc _ (by simp; omega) _ (hS.ok (BC 104 b3 (some ⟨b3, 0, none⟩) s acc) (by repeat constructor))) (fun x => (by repeat constructor)) rfl ?_); intro x49 a w hS
     obtain ⟨s2, rfl⟩ : ∃ s2, s2 = x49 := ⟨_, rfl⟩
     rw [show acc ++ ([92, 117, 48, 48] ++ [HU (x.toNat / 16)] ++ [HU (x.toNat % 16)]) = 34 :: (l.take (k + 1)).flatMap qB by rw [hnx, hq]; simp] at hS
     refine GJ (by simp) ?_
     refine Wq 9 hS ?_; intro a hS
     exact ⟨(k + 1, s2), by show l.length - (k + 1) < l.length - k; omega, hS.sq, hkl⟩
    have hq : qB x = [x] := by unfold qB; rw [if_neg hc18, if_neg hc28]
    refine Wn 2 ?_
    refine Lo (cM Jy (fun hS => DA 104 (.inl rfl) b3 _ (.inr rfl) s acc x (by omega) _ (hS.ok (BC 104 b3 (some ⟨b3, 0, none⟩) s acc) (by repeat constructor))) ?_); intro x17
    obtain ⟨s2, rfl⟩ : ∃ s2, s2 = x17 := ⟨_, rfl⟩
    intro a w hS
    rw [show acc ++ [x] = 34 :: (l.take (k + 1)).flatMap qB by rw [hnx, hq]] at hS
    refine Wq 9 hS ?_; intro a hS
    exact ⟨(k + 1, s2), by show l.length - (k + 1) < l.length - k; omega, hS.sq, hkl⟩
 have hk2 : k = l.length := by omega
 rw [hk2, List.take_length] at hacc
 refine Wn 1 ?_
 intro a w hS
 refine AH (AH (Aj ?_))
 refine Wh 3 hS ?_
 refine Lo (cM Jy (fun hS => DA 104 (.inl rfl) b3 _ (.inr rfl) s acc 34 (by omega) _ (hS.ok (BC 104 b3 (some ⟨b3, 0, none⟩) s acc) (by repeat constructor))) ?_); intro x50
 refine Wn 4 ?_
 refine Lo (cM fK (fun hS => KY 104 b3 _ x50 (acc ++ [34]) (by simp) (by rw [List.length_append, List.length_singleton]; omega) _ (hS.ok (BC 104 b3 (some ⟨b3, 0, none⟩) x50 (acc ++ [34])) (by repeat constructor))) ?_); intro x51
 refine Wn 4 ?_
 intro a w hS
 refine Ro hS Tryz.results13 ?_
 exact ⟨by rw [← hacc]; rfl, hS.chg⟩
open Go.RowKit Go.Shelf Go.Lib Go.Sort
theorem bG (b nb off c n : Nat) (i k : Nat) (x y : ByteArray) (W : World) (hv : W.cell? ⟨b, 3, none⟩ = some (.slice (some ⟨nb, off, none⟩) n c)) (hi : i < n) (hk : k < n) (hn : n < 4611686018427387904)
 (hx : W.cell? ⟨nb, off + i, none⟩ = some (.string x)) (hy : W.cell? ⟨nb, off + k, none⟩ = some (.string y)) :
 Calls Tryz.prog 149 #[.int .i64 (i : Int), .int .i64 (k : Int), .pointer (some ⟨b, 0, none⟩)] W fun e w' => e = .returned (.int .i64 (Lib.compareBytes x.data.toList y.data.toList)) ∧ ∃ q, w' = W.drewN q := by
 have b1 : (i : Int) < (n : Int) := by omega
 have b2 : (k : Int) < (n : Int) := by omega
 have b3 : (0 : Int) ≤ (i : Int) := by omega
 have b4 : (0 : Int) ≤ (k : Int) := by omega
 go_enter Tryz.func149, Tryz.ntmps149
 go_wp2
 go_quiet ((go_at_call 150; refine Calls.quiet_of_same (Tryz.strings_Compare _ _ _)))
 go_wp2
 go_ret
 exact ⟨rfl, nq, rfl⟩
open Go.RowKit Go.Shelf Go.Lib Go.Sort
theorem OK : ∀ a b : List UInt8, Lib.compareBytes a b < 0 ↔ a < b
 | [], [] => by simp [Lib.compareBytes]
 | [], _ :: _ => by simp [Lib.compareBytes]
 | _ :: _, [] => by simp [Lib.compareBytes]
 | a :: as1, b :: bs => by
   unfold Lib.compareBytes
   rw [List.cons_lt_cons_iff]
   by_cases h : a < b
   · simp [h]
   ·
    by_cases h2 : b < a
    ·
     have hne : a ≠ b := fun e => by subst e; exact UInt8.lt_irrefl _ h2
     simp [h, h2, hne]
    ·
     have : a = b := UInt8.le_antisymm (UInt8.not_lt.1 h2) (UInt8.not_lt.1 h)
     subst this
     simp [OK as1 bs]
def eP (names : List (List UInt8)) (i k : Nat) : Int := Lib.compareBytes (names.getD i []) (names.getD k [])
theorem bH {n : Nat} (names : List (List UInt8)) : SWO (ltOf fun i k : Fin n => eP names i.val k.val) := by
 have e : ∀ i k : Fin n, ltOf (fun i k : Fin n => eP names i.val k.val) i k = decide (names.getD i.val [] < names.getD k.val []) := fun i k => by
  unfold ltOf eP
  exact decide_eq_decide.2 (OK _ _)
 refine ⟨fun x => ?_, fun x y z h1 h2 => ?_, fun x y z h1 h2 => ?_⟩
 · rw [e]; exact decide_eq_false (List.lt_irrefl _)
 · rw [e] at *; exact decide_eq_true (List.lt_trans (of_decide_eq_true h1) (of_decide_eq_true h2))
 ·
  rw [e] at *
  exact decide_eq_false (fun h => List.le_trans (List.not_lt.1 (of_decide_eq_false h2)) (List.not_lt.1 (of_decide_eq_false h1)) h)
section
variable {α : Type} [Inhabited α]
theorem RI {w : World} {q : Nat} {cur : Array Value} {e : TypeId} (enc : α → Value) {ss : List α} (hb : w.heap[q]? = some (.cells cur e (0, 0))) (ht : cur.toList.take ss.length = ss.map enc) : Holds enc w q 0 ss.toArray := by
 intro j hj
 have hj' : j < ss.length := by simpa using hj
 refine ⟨?_, by simp [World.frozen?, hb]⟩
 have h1 : (cur.toList.take ss.length)[j]? = (ss.map enc)[j]? := by rw [ht]
 rw [List.getElem?_take_of_lt hj'] at h1
 have h2 : w.cell? ⟨q, 0 + j, none⟩ = cur[j]? := by simp [World.cell?, hb]
 rw [h2, ← Array.getElem?_toList, h1]
 simp [hj']
theorem Ms {w : World} {q m k : Nat} (enc : α → Value) {dk : Array α} {os : Array Obj} (hk : k < w.heap.size) (hne : k ≠ q) : (sortWorld enc w q 0 m dk os).heap[k]? = w.heap[k]? := by
 unfold sortWorld
 rw [heap_grow_old _ _ (by simpa using hk)]
 have : q ≠ k := fun e => hne e.symm
 simp [putRow, mapBlock, Sort.ahead, Array.getElem?_modify, this]
theorem Mt {w : World} {q m : Nat} (enc : α → Value) {dk : Array α} {os : Array Obj} : Bd (fun k => k = q) w (sortWorld enc w q 0 m dk os) :=
 ⟨rfl, rfl, rfl, by unfold sortWorld; simp, fun k hk hn => Ms enc hk hn⟩
theorem Tz (cur : Array Value) (enc : α → Value) (ts : List α) (h : ts.length ≤ cur.size) : (putCells enc 0 ts.toArray cur).toList.take ts.length = ts.map enc := by
 apply List.ext_getElem?
 intro j
 rcases Nat.lt_or_ge j ts.length with hj | hj
 ·
  rw [List.getElem?_take_of_lt hj, Array.getElem?_toList]
  unfold putCells
  rw [Array.getElem?_mapIdx, Array.getElem?_eq_getElem (by omega)]
  simp [hj]
 · rw [List.getElem?_eq_none (by rw [List.length_take]; omega), List.getElem?_eq_none (by simpa using hj)]
theorem T0 {w : World} {q cap m : Nat} {e : TypeId} {os : Array Obj} {cur : Array Value} (enc : α → Value) {k : Nat} {ts : List α} (hl : ts.length = k) (hb : w.heap[q]? = some (.cells cur e (0, 0)))
 (h1 : k ≤ cap) (h2 : cap ≤ maxLen) (h3 : cur.size = cap * 1) : (sortWorld enc w q 0 m ts.toArray os).ownsRow 0 e 1 (.slice (some ⟨q, 0, none⟩) k cap) k (ts.map enc) := by
 have hq : q < w.heap.size := (Array.getElem?_eq_some_iff.1 hb).1
 have hh : (sortWorld enc w q 0 m ts.toArray os).heap[q]? = some (.cells (putCells enc 0 ts.toArray cur) e (0, 0)) := by
  unfold sortWorld
  rw [heap_grow_old _ _ (by simpa using hq)]
  simp [putRow, mapBlock, Sort.ahead, Array.getElem?_modify, hb, onCells]
 exact ⟨by simp [hl], .inr ⟨q, cap, _, rfl, Nat.zero_le _, hh, h1, h2, by simp [putCells, h3], by rw [Nat.mul_one, ← hl]; exact Tz cur enc ts (by omega)⟩⟩
end
theorem KZ (n : Nat) : (List.finRange n).map Fin.val = List.range n := by
 apply List.ext_getElem
 · simp
 · intro i h1 h2; simp
def EU (l : List Nat) : List Value := l.map fun i : Nat => .int .i64 (i : Int)
def jZ (names : List (List UInt8)) (p : List Nat) : Prop := p.Perm (List.range names.length) ∧ (p.map fun i => names.getD i []).Pairwise (· ≤ ·)
theorem RJ (b q c nb off nc m : Nat) (names : List (List UInt8)) (hn : names.length = m + 1) (hbig : m < 1000000) (w0 : World) (hv : w0.cell? ⟨b, 3, none⟩ = some (.slice (some ⟨nb, off, none⟩) names.length nc))
 (hnm : ∀ i x, names[i]? = some x → w0.cell? ⟨nb, off + i, none⟩ = some (.string (tx x))) (hb : b < w0.heap.size) (hnb : nb < w0.heap.size) (h1 : b ≠ q) (h2 : nb ≠ q)
 (h : (AJ 3 1 (.slice (some ⟨q, 0, none⟩) names.length c) names.length (EU (List.range names.length))).ok w0) :
 CV Tryz.prog 148 [.slice (some ⟨q, 0, none⟩) names.length c, .func (.func 149) #[] [.pointer (some ⟨b, 0, none⟩)].toArray] w0 (AJ 3 1 (.slice (some ⟨q, 0, none⟩) names.length c) names.length (EU (List.range names.length)))
  (fun _ : { p : List Nat // jZ names p } => .tuple [].toArray) (fun p => AJ 3 1 (.slice (some ⟨q, 0, none⟩) names.length c) names.length (EU p.1)) := by
 have hown := h.now
 rcases hown.2 with ⟨_, h0⟩ | ⟨g', cap, cur, e1, _, hblk, hnc, hcm, hcs, htake⟩
 · omega
 ·
  injection e1 with e2 e3 e4
  injection e2 with e2
  injection e2 with e2
  subst e2 e4
  let enc : Fin (m + 1) → Value := fun i => .int .i64 (i.val : Int)
  have hr : (List.finRange (m + 1)).map enc = EU (List.range names.length) := by
   rw [hn]; unfold EU
   rw [← KZ, List.map_map]; rfl
  have hlen : (List.finRange (m + 1)).length = names.length := by rw [List.length_finRange, hn]
  have hH : Holds enc w0 q 0 (List.finRange (m + 1)).toArray := RI enc hblk (by rw [hlen, hr]; simpa using htake)
  have hsz : (List.finRange (m + 1)).toArray.size = names.length := by simpa using hlen
  have hget : ∀ i : Fin (m + 1), names[i.val]? = some (names.getD i.val []) := fun i => by
   rw [List.getD_eq_getElem?_getD, List.getElem?_eq_getElem (by omega)]; rfl
  have hcmp : CmpLays1 Tryz.prog 149 #[.pointer (some ⟨b, 0, none⟩)] enc (fun i k : Fin (m + 1) => eP names i.val k.val) q 0 (List.finRange (m + 1)).toArray.size w0 := by
   intro mm os dk _ x y
   have hW : ∀ k i, k < w0.heap.size → k ≠ q → (sortWorld enc w0 q 0 mm dk os).cell? ⟨k, i, none⟩ = w0.cell? ⟨k, i, none⟩ := fun k i hk hne => World.cell?_of_block (Ms enc hk hne)
   refine (bG b nb off nc names.length x.val y.val _ _ _ ((hW b 3 hb h1).trans hv) (by omega) (by omega) (by omega) ((hW nb _ hnb h2).trans (hnm x.val _ (hget x))) ((hW nb _ hnb h2).trans (hnm y.val _ (hget y)))).mono ?_
   rintro e w' ⟨rfl, k, rfl⟩
   exact ⟨rfl, k, #[], by rw [grow_empty]⟩
  have hc := Tryz.slices_SortFunc enc (fun _ => rfl) (fun i k : Fin (m + 1) => eP names i.val k.val) (bH names) 149 #[.pointer (some ⟨b, 0, none⟩)] q 0 c (List.finRange (m + 1)).toArray w0 iN hcmp hH (Array.getElem?_eq_some_iff.1 hblk).1 (by rw [hsz]; omega)
  rw [hsz] at hc
  refine hc.mono ?_
  rintro e w' ⟨rfl, d', k, os, hp, hs, rfl⟩
  have hds : d'.size = names.length := hp.1.trans hsz
  have hperm : d'.toList.Perm (List.finRange (m + 1)) := by
   have h3 := hp.2.2
   rw [Array.extract_eq_self_of_le (by omega), Array.extract_eq_self_of_le (by omega)] at h3
   exact h3
  have hok : jZ names (d'.toList.map Fin.val) := by
   refine ⟨?_, ?_⟩
   ·
    have h4 := hperm.map Fin.val
    rw [KZ] at h4
    rw [hn]; exact h4
   ·
    rw [List.map_map, List.pairwise_map, List.pairwise_iff_getElem]
    intro i j hi hj hij
    have hi' : i < d'.size := by simpa using hi
    have hj' : j < d'.size := by simpa using hj
    have h5 := hs i j (Nat.zero_le _) hij (by omega)
    rw [getElem!_pos d' i hi', getElem!_pos d' j hj'] at h5
    unfold ltOf eP at h5
    have h6 := fun h => (of_decide_eq_false h5) ((OK _ _).2 h)
    simpa using List.not_lt.1 h6
  have hrow := T0 (w := w0) (m := k) (os := os) enc (ts := d'.toList) (k := names.length) (by simpa using hds) hblk hnc hcm hcs
  rw [show d'.toList.toArray = d' from by simp] at hrow
  refine ⟨⟨_, hok⟩, rfl, ?_, C2 ?_, fun k hk => .inl hk⟩
  · exact ⟨rfl, rfl, rfl, (Mt enc).size, fun k hk hn => (Mt enc).block k hk (fun e => hn (by rw [e]; rfl))⟩
  ·
   have e5 : EU (d'.toList.map Fin.val) = d'.toList.map enc := by unfold EU; rw [List.map_map]; rfl
   rw [e5]; exact hrow
end Go.Proofs.YtlccmgeclhdegaaGreatDoor
namespace Go.Proofs.YtlccmgeclhdegaaGreatDoor
open Go.RowKit
theorem T1 (fv : Value) (w0 : World) : Ae Tryz.prog 224 [.slice none 0 0, .int .i64 0, .int .i64 0, fv] w0 (.tuple [].toArray) := by
 refine Eo Ai Tryz.func224 Tryz.ntmps224 ?_
 intro a hS
 refine Wq 8 hS ?_; intro a hS
 refine AW (γ := Nat) (fun k a w => St 53 Ai w0 a w [(8, .int .i64 1), (2, .int .i64 0)] [] ∧ k = 0) (fun k => k) 0 ⟨hS.sq, rfl⟩ ?_
 intro k a w hI
 obtain ⟨hS, hk⟩ := hI
 refine Wh 8 hS ?_
 refine Ie 14 false rfl rfl ?_
 refine Wn 2 ?_
 intro a w hS
 refine AH (AH (Aj ?_))
 refine CS ?_
 refine Rm hS Tryz.results224 ?_
 exact ⟨rfl, hS.chg⟩
theorem T2 (lim : Int) (fv : Value) (w0 : World) : Ae Tryz.prog 189 [.slice none 0 0, .int .i64 0, .int .i64 0, .int .i64 lim, fv] w0 (.tuple [].toArray) := by
 refine Eo Ai Tryz.func189 Tryz.ntmps189 ?_
 intro a hS
 refine Wq 11 hS ?_; intro a hS
 refine AW (γ := Nat) (fun k a w => St 148 Ai w0 a w [(0, .slice none 0 0), (1, .int .i64 0), (2, .int .i64 0), (4, fv)] [] ∧ k = 0) (fun k => k) 0 ⟨hS.sq, rfl⟩ ?_
 intro k a w hI
 obtain ⟨hS, hk⟩ := hI
 refine Wh 16 hS ?_
 refine Ie 25 true rfl rfl ?_
 refine Wn 7 ?_
 refine Lo (cP jB (fun _ => T1 fv _) ?_)
 refine Wn 3 ?_
 intro a w hS
 refine AC (AD (AC (AD ?_)))
 refine Rm hS Tryz.results189 ?_
 exact ⟨rfl, hS.chg⟩
theorem bI (w : World) : Ae Tryz.prog 188 [.int .u64 0] w (.int .i64 0) :=
 (Tryz.bits_Len 0 w (by omega) (by omega)).mono fun e w' ⟨h1, h2⟩ => ⟨h1, by rw [h2]; exact Bd.refl _ _⟩
theorem OL (fv : Value) (w0 : World) : Ae Tryz.prog 148 [.slice none 0 0, fv] w0 (.tuple [].toArray) := by
 refine Eo Ai Tryz.func148 Tryz.ntmps148 ?_
 intro a hS
 refine Wh 11 hS ?_
 refine Xp (GH rfl Is.1 V5.1) ?_
 refine Lo (cP iW (fun _ => bI _) ?_)
 refine Wn 1 ?_
 refine Lo (cP iX (fun _ => T2 0 fv _) ?_)
 refine Wn 1 ?_
 intro a w hS
 refine CS ?_
 refine Rm hS Tryz.results148 ?_
 exact ⟨rfl, hS.chg⟩
theorem Mu {nv : Value} {ns : List (List UInt8)} {W : World} (h : GR 1 nv (ns.map AM) W) (hne : ns ≠ []) : ∃ nb no nc, nv = .slice (some ⟨nb, no, none⟩) ns.length nc ∧ nb < W.heap.size ∧ ∀ (i : Nat) (x : List UInt8), ns[i]? = some x → W.cell? ⟨nb, no + i, none⟩ = some (.string (tx x)) := by
 rcases h with ⟨h, _⟩ | ⟨b, off, c, _, rfl, h2, h3⟩
 · exact absurd (List.map_eq_nil_iff.1 h) hne
 ·
  refine ⟨b, off, c, by rw [List.length_map], h3, fun i x hx => ?_⟩
  have := h2 i (AM x) (by rw [List.getElem?_map, hx]; rfl) 0 _ rfl
  simpa using this
theorem FL {lv : Value} {rows : List (List Value)} {W : World} (h : GR 4 lv rows W) (hne : rows ≠ []) : ∃ lb lo lc, lv = .slice (some ⟨lb, lo, none⟩) rows.length lc ∧ lb < W.heap.size ∧ ∀ (i : Nat) (r : List Value), rows[i]? = some r → ∀ (j : Nat) (v : Value), r[j]? = some v → W.cell? ⟨lb, lo + i * 4 + j, none⟩ = some v := by
 rcases h with ⟨h, _⟩ | ⟨b, off, c, _, rfl, h2, h3⟩
 · exact absurd h hne
 · exact ⟨b, off, c, rfl, h3, h2⟩
theorem DZ.len4 {n : Nat} {v : JV} {cs : List Value} {W : World} (h : DZ n v cs W) : cs.length = 4 := by
 obtain ⟨lv, nv, _, _, rfl⟩ := h.four; rfl
def T3 (W0 : World) (n : Nat) : Prop := ∀ (v : JV) (cs : List Value) (d b : Nat) (ad : Option Addr) (s : Value) (acc : List UInt8) (w0 : World), D0 n v → Cp n d v → DZ n v cs W0 → (ad = none ∨ ad = some ⟨b, 0, none⟩) → acc.length + BY n v ≤ 9000000 →
 (BC 106 b ad s acc).ok w0 → AQ W0 w0 → (∀ k, (BC 106 b ad s acc).F k → W0.heap.size ≤ k) →
 CV Tryz.prog 38 [.pointer (some ⟨b, 0, none⟩), .agg cs.toArray] w0 (BC 106 b ad s acc) (fun _ : { x : Value × JV × List UInt8 // PJ n v x.2.1 x.2.2 } => .tuple [].toArray) (fun x => BC 106 b (some ⟨b, 0, none⟩) x.1.1 (acc ++ x.1.2.2))
def Yp (ns : List (List UInt8)) (l : List JV) (i : Nat) : List UInt8 × JV := (ns.getD i [], l.getD i jz)
theorem bJ {ns : List (List UInt8)} {l : List JV} (h : ns.length = l.length) : (List.range ns.length).map (Yp ns l) = ns.zip l := by
 apply List.ext_getElem
 · simp [h]
 ·
  intro i h1 h2
  have h3 : i < ns.length := by simpa using h1
  have h4 : i < l.length := by omega
  simp [Yp, List.getD_eq_getElem?_getD, List.getElem?_eq_getElem h3, List.getElem?_eq_getElem h4]
def wt (n : Nat) (p : List UInt8 × JV) : Nat := (AV p.1).length + 2 + BY n p.2
theorem Wy (n : Nat) {L : List (List UInt8 × JV)} {i : Nat} {p : List UInt8 × JV} (h : L[i]? = some p) : ((L.take i).map (wt n)).sum + wt n p ≤ (L.map (wt n)).sum := by
 have e : L = L.take i ++ (p :: L.drop (i + 1)) := by
  conv => lhs; rw [← List.take_append_drop i L]
  congr 1
  rw [List.drop_eq_getElem_cons (List.getElem?_eq_some_iff.1 h).1, (List.getElem?_eq_some_iff.1 h).2]
 conv => rhs; rw [e]
 rw [List.map_append, List.map_cons, List.sum_append, List.sum_cons]
 omega
theorem Wz {n k : Nat} {t : List UInt8} {ns : List (List UInt8)} {l : List JV} (hk : k = 6) (hne : ns.zip l ≠ []) : BY (n + 1) (.mk k t ns l) = ((ns.zip l).map (wt n)).sum + 1 := by
 unfold BY
 rw [if_neg (by omega), if_neg (by omega), if_pos hk, if_neg (by simpa using hne)]
 rfl
theorem W4 {n : Nat} {ms : List Ee} {L : List (List UInt8 × JV)} {i : Nat} (hm : (ms.map fun m => (m.n, m.v)) = L.take i) (hp : ∀ m ∈ ms, PJ n m.v m.r m.t) : (A2 ms).length ≤ ((L.take i).map (wt n)).sum := by
 by_cases he : ms = []
 · subst he; exact Nat.zero_le _
 ·
  have h1 := I2 ms he
  have h2 : (ms.map fun m => (AV m.n).length + 2 + m.t.length) = (L.take i).map (wt n) := by
   rw [← hm, List.map_map]
   exact List.map_congr_left fun m hm' => by show _ = (AV m.n).length + 2 + BY n m.v; rw [FG n m.v m.r m.t (hp m hm')]
  rw [h2] at h1
  omega
theorem Mv (kd : Nat) (t : List UInt8) (lv : Value) (nc : Nat) (na : Option Addr) (l4 : Bl lv = true) (b : Nat) (ad : Option Addr) (s : Value) (acc : List UInt8) (w0 : World) (had : ad = none ∨ ad = some ⟨b, 0, none⟩) (hlen : acc.length ≤ 9000000)
 (h : (BC 106 b ad s acc).ok w0) :
 CV Tryz.prog 108 [.pointer (some ⟨b, 0, none⟩), .agg [.int .i64 (kd : Int), .string (tx t), lv, .slice na 0 nc].toArray] w0 (BC 106 b ad s acc) (fun _ : Value => .tuple [].toArray) (fun s' => BC 106 b (some ⟨b, 0, none⟩) s' (acc ++ [123, 125])) := by
 refine Bq [(0, .pointer (some ⟨b, 0, none⟩)), (1, .agg [.int .i64 (kd : Int), .string (tx t), lv, .slice na 0 nc].toArray)] [BC 106 b ad s acc] (BC 106 b ad s acc).F Tryz.func108 rfl Tryz.ntmps108 ⟨rfl, rfl, trivial⟩ rfl (B3 h DN) Bi (A9 (fun _ hb => hb) Aw) ?_
 intro a hS
 refine Wh 2 hS ?_
 refine Lo (Bx ?_); intro b3
 refine Wn 17 ?_
 intro a w hS
 refine AW (γ := Nat) (fun k a w => St 62 (BC 106 b ad s acc).F w0 a w [(11, .int .i64 0), (10, .int .i64 ((0 : Nat) : Int)), (4, .slice none 0 0), (3, .pointer (some ⟨b3, 0, none⟩)), (0, .pointer (some ⟨b, 0, none⟩))] [.blk b3 [.int .i64 (kd : Int), .string (tx t), lv, .slice na 0 nc] 37, BC 106 b ad s acc] ∧ k = 0) (fun k => k) 0 ⟨hS.sq, rfl⟩ ?_
 intro k a w hI
 obtain ⟨hS, hk⟩ := hI
 refine Wh 6 hS ?_
 refine Ie 12 false rfl rfl ?_
 refine Wn 2 ?_
 intro a w hS
 refine AH (AH (Aj ?_))
 refine Wh 4 hS ?_
 refine Xp (CR .nil (.cons rfl .nil)) ?_
 refine Lo (cP YS (fun _ => OL _ _) ?_)
 refine Wn 7 ?_
 refine Lo (cM Jy (fun hS => DA 106 (.inr rfl) b ad had s acc 123 (by omega) _ (hS.ok (BC 106 b ad s acc) (by repeat constructor))) ?_); intro x25
 refine Wn 11 ?_
 intro a w hS
 refine AW (γ := Nat) (fun k a w => St 62 (BC 106 b ad s acc).F w0 a w [(28, .int .i64 0), (27, .int .i64 ((0 : Nat) : Int)), (0, .pointer (some ⟨b, 0, none⟩))] [BC 106 b (some ⟨b, 0, none⟩) x25 (acc ++ [123])] ∧ k = 0) (fun k => k) 0 ⟨hS.sp, rfl⟩ ?_
 intro k a w hI
 obtain ⟨hS, hk⟩ := hI
 refine Wh 6 hS ?_
 refine Ie 29 false rfl rfl ?_
 refine Wn 2 ?_
 intro a w hS
 refine AH (AH (Aj ?_))
 refine Wh 5 hS ?_
 refine Lo (cM Jy (fun hS => DA 106 (.inr rfl) b _ (.inr rfl) x25 (acc ++ [123]) 125 (by rw [List.length_append, List.length_singleton]; omega) _ (hS.ok (BC 106 b (some ⟨b, 0, none⟩) x25 (acc ++ [123])) (by repeat constructor))) ?_); intro x61
 refine Wn 1 ?_
 intro a w hS
 refine CS ?_
 refine Rm hS Tryz.results108 ?_
 rw [List.append_assoc] at hS
 exact ⟨x61, rfl, hS.chg, hS.ok (BC 106 b (some ⟨b, 0, none⟩) x61 (acc ++ [123, 125])) (by repeat constructor), fun k hk => (hS.mine (BC 106 b (some ⟨b, 0, none⟩) x61 (acc ++ [123, 125])) (by repeat constructor) rfl k hk).symm⟩
theorem T4 (k : Nat) : EU (List.range (k + 1)) = EU (List.range k) ++ [.int .i64 (k : Int)] := by unfold EU; rw [List.range_succ, List.map_append]; rfl
theorem W5 {p : List Nat} {k i : Nat} (h : p[k]? = some i) : (EU p)[k]? = some (.int .i64 (i : Int)) := by unfold EU; rw [List.getElem?_map, h]; rfl
theorem OM (W0 : World) (n : Nat) (IH : T3 W0 n) (t : List UInt8) (ns : List (List UInt8)) (l : List JV) (cs : List Value) (d b : Nat) (ad : Option Addr) (s : Value) (acc : List UInt8) (w0 : World) (hne : ns ≠ []) (hg : D0 (n + 1) (.mk 6 t ns l)) (ho : Cp (n + 1) d (.mk 6 t ns l)) (hj : DZ (n + 1) (.mk 6 t ns l) cs W0)
  (had : ad = none ∨ ad = some ⟨b, 0, none⟩) (hlen : acc.length + BY (n + 1) (.mk 6 t ns l) ≤ 9000000) (h : (BC 106 b ad s acc).ok w0) (hold : AQ W0 w0) (hF : ∀ k, (BC 106 b ad s acc).F k → W0.heap.size ≤ k) :
  CV Tryz.prog 108 [.pointer (some ⟨b, 0, none⟩), .agg cs.toArray] w0 (BC 106 b ad s acc) (fun _ : { x : Value × JV × List UInt8 // PJ (n + 1) (.mk 6 t ns l) x.2.1 x.2.2 } => .tuple [].toArray) (fun x => BC 106 b (some ⟨b, 0, none⟩) x.1.1 (acc ++ x.1.2.2)) := by
  obtain ⟨lv, nv, rows, rfl, hn1, hn2, hn3, hn4⟩ := hj
  have ho0 := ho
  obtain ⟨_, _, ho3⟩ := ho
  obtain ⟨hvn, hnl, hd32, hl1000, hnd, hsub⟩ := ho3 rfl
  have hgs := hg.2.2.2 rfl
  have hn0 : ns.length ≠ 0 := fun e => hne (List.eq_nil_of_length_eq_zero e)
  obtain ⟨nb, no, nc, rfl, hnb, hcn⟩ := Mu hn1 hne
  obtain ⟨lb, lo, lc, rfl, hlb, hcl⟩ := FL hn2 (fun e => by rw [← hnl, e] at hn3; exact hn0 hn3.symm)
  have hzne : ns.zip l ≠ [] := fun e => by have := congrArg List.length e; rw [List.length_zip, ← hnl] at this; exact hne (by simpa using this)
  rw [Wz rfl hzne] at hlen
  refine Bq [(0, .pointer (some ⟨b, 0, none⟩)), (1, .agg [.int .i64 ((6 : Nat) : Int), .string (tx t), .slice (some ⟨lb, lo, none⟩) rows.length lc, .slice (some ⟨nb, no, none⟩) ns.length nc].toArray)] [BC 106 b ad s acc, AG W0] (BC 106 b ad s acc).F Tryz.func108 rfl Tryz.ntmps108 ⟨rfl, rfl, trivial⟩ rfl (B3 h (B3 (BB hold) DN)) (CT (CK (fun k h1 h2 => by have h1 := hF k h1; have h2 : k < W0.heap.size := h2; omega) CU) Bi) (A9 (fun _ hb => hb) (BP rfl Aw)) ?_
  intro a hS
  refine Wh 2 hS ?_
  refine Lo (Bx ?_); intro b3
  refine Wn 17 ?_
  intro a w hS
  refine AW (γ := Nat × Value) (fun G a w => St 62 (BC 106 b ad s acc).F w0 a w [(11, .int .i64 (G.1 : Int)), (10, .int .i64 (ns.length : Int)), (4, G.2), (3, .pointer (some ⟨b3, 0, none⟩)), (0, .pointer (some ⟨b, 0, none⟩))] [AJ 3 1 G.2 G.1 (EU (List.range G.1)), .blk b3 [.int .i64 ((6 : Nat) : Int), .string (tx t), .slice (some ⟨lb, lo, none⟩) rows.length lc, .slice (some ⟨nb, no, none⟩) ns.length nc] 37, BC 106 b ad s acc, AG W0] ∧ G.1 ≤ ns.length) (fun G => ns.length - G.1) (0, .slice none 0 0) ⟨((hS.own_nil 3 1).sq).pk, Nat.zero_le _⟩ ?_
  intro G a w hI
  obtain ⟨k, sv⟩ := G
  obtain ⟨hS, hk⟩ := hI
  simp only at hS hk
  refine Wh 6 hS ?_
  refine iD (fun hc12 => ?_) fun hc12 => ?_
  ·
   refine Wn 13 ?_
   refine Lo (Bz ?_); intro b16
   refine Lo (A1 ?_); intro v17 hv17
   intro a w hS
   rw [← T4] at hS
   refine Wq 8 hS ?_; intro a hS
   exact ⟨(k + 1, v17), by show ns.length - (k + 1) < ns.length - k; omega, hS.sp, by show k + 1 ≤ ns.length; omega⟩
  have hk2 : k = ns.length := by omega
  subst hk2
  intro a w hS
  obtain ⟨q1, c1, rfl⟩ := AN (hS.gg (X := AJ 3 1 sv ns.length (EU (List.range ns.length))))
  obtain ⟨q, rfl⟩ := Dv (hS.gg (X := AJ 3 1 (.slice q1 ns.length c1) ns.length (EU (List.range ns.length)))) hn0
  obtain ⟨m, hm⟩ : ∃ m, ns.length = m + 1 := ⟨ns.length - 1, by omega⟩
  refine Wq 1 hS ?_; intro a hS
  refine AH (AH (Aj ?_))
  refine Wh 4 hS ?_
  refine Xp (CR .nil (.cons rfl .nil)) ?_
  refine Lo (cM YS (fun hS => RJ b3 q c1 nb no nc m ns hm (by omega) _ (AR (hS.gg (X := .blk b3 [.int .i64 ((6 : Nat) : Int), .string (tx t), .slice (some ⟨lb, lo, none⟩) rows.length lc, .slice (some ⟨nb, no, none⟩) ns.length nc] 37)) rfl) (fun i x hx => AF hS.od (hcn i x hx)) ((hS.ok (.blk b3 [.int .i64 ((6 : Nat) : Int), .string (tx t), .slice (some ⟨lb, lo, none⟩) rows.length lc, .slice (some ⟨nb, no, none⟩) ns.length nc] 37) (by repeat constructor)).lt b3 rfl) (Nat.lt_of_lt_of_le hnb hS.od.1) (fun e => hS.sep (X := AJ 3 1 (.slice (some ⟨q, 0, none⟩) ns.length c1) ns.length (EU (List.range ns.length))) (Y := .blk b3 [.int .i64 ((6 : Nat) : Int), .string (tx t), .slice (some ⟨lb, lo, none⟩) rows.length lc, .slice (some ⟨nb, no, none⟩) ns.length nc] 37) (by repeat constructor) (by repeat constructor) q rfl e.symm) (fun e => hS.sep (X := AJ 3 1 (.slice (some ⟨q, 0, none⟩) ns.length c1) ns.length (EU (List.range ns.length))) (Y := AG W0) (by repeat constructor) (by repeat constructor) q rfl (by show q < W0.heap.size; omega)) (hS.ok (AJ 3 1 (.slice (some ⟨q, 0, none⟩) ns.length c1) ns.length (EU (List.range ns.length))) (by repeat constructor))) ?_); intro x21
  obtain ⟨p, hp1, hp2⟩ := x21
  intro a w hS
  simp only at hS
  have hpl : p.length = ns.length := by have := hp1.length_eq; rwa [List.length_range] at this
  have hpz : (p.map (Yp ns l)).Perm (ns.zip l) := by have := hp1.map (Yp ns l); rwa [bJ hnl] at this
  have hpsum := (hpz.map (wt n)).sum_nat
  refine Wh 7 hS ?_
  refine Lo (cM Jy (fun hS => DA 106 (.inr rfl) b ad had s acc 123 (by omega) _ (hS.ok (BC 106 b ad s acc) (by repeat constructor))) ?_); intro x25
  refine Wn 11 ?_
  intro a w hS
  refine AW (γ := List Ee × Value) (fun G a w => St 62 (BC 106 b ad s acc).F w0 a w [(28, .int .i64 (G.1.length : Int)), (27, .int .i64 (ns.length : Int)), (26, .slice (some ⟨q, 0, none⟩) ns.length c1), (3, .pointer (some ⟨b3, 0, none⟩)), (0, .pointer (some ⟨b, 0, none⟩))] [BC 106 b (some ⟨b, 0, none⟩) G.2 (acc ++ 123 :: A2 G.1), AJ 3 1 (.slice (some ⟨q, 0, none⟩) ns.length c1) ns.length (EU p), .blk b3 [.int .i64 ((6 : Nat) : Int), .string (tx t), .slice (some ⟨lb, lo, none⟩) rows.length lc, .slice (some ⟨nb, no, none⟩) ns.length nc] 37, AG W0] ∧ G.1.length ≤ ns.length ∧ (G.1.map fun m => (m.n, m.v)) = (p.map (Yp ns l)).take G.1.length ∧ ∀ m ∈ G.1, PJ n m.v m.r m.t) (fun G => ns.length - G.1.length) ([], x25) ⟨hS.sp, Nat.zero_le _, rfl, fun m hm => by cases hm⟩ ?_
  intro G a w hI
  obtain ⟨ms, s2⟩ := G
  obtain ⟨hS, hk, hmz, hmp⟩ := hI
  simp only at hS hk hmz hmp
  have hjs := W4 (n := n) hmz hmp
  refine Wh 6 hS ?_
  refine iD (fun hc29 => ?_) fun hc29 => ?_
  ·
   have hkn : ms.length < ns.length := by omega
   obtain ⟨i, hi⟩ : ∃ i, p[ms.length]? = some i := ⟨_, List.getElem?_eq_getElem (by omega)⟩
   have hin : i < ns.length := List.mem_range.1 (hp1.mem_iff.1 (List.mem_of_getElem? hi))
   obtain ⟨nm, hnm⟩ : ∃ x, ns[i]? = some x := ⟨_, List.getElem?_eq_getElem hin⟩
   obtain ⟨v, hv⟩ : ∃ x, l[i]? = some x := ⟨_, List.getElem?_eq_getElem (by omega)⟩
   obtain ⟨r, hr⟩ : ∃ x, rows[i]? = some x := ⟨_, List.getElem?_eq_getElem (by omega)⟩
   have hjv := hn4 i v r hv hr
   have hzi : (p.map (Yp ns l))[ms.length]? = some (nm, v) := by
    rw [List.getElem?_map, hi]
    show some (ns.getD i [], l.getD i jz) = _
    rw [List.getD_eq_getElem?_getD, List.getD_eq_getElem?_getD, hnm, hv]; rfl
   have hwt := Wy n hzi
   rw [hpsum] at hwt
   have hwq : wt n (nm, v) = (AV nm).length + 2 + BY n v := rfl
   have hql := HZ nm
   have hq2 := Yh nm
   obtain ⟨acc2, hacc2⟩ : ∃ x, acc ++ 123 :: (A2 ms ++ if ms.isEmpty then [] else [44]) = x := ⟨_, rfl⟩
   have hal2 : acc2.length ≤ acc.length + 1 + (A2 ms).length + 1 := by
    rw [← hacc2, List.length_append, List.length_cons, List.length_append]
    split <;> simp <;> omega
   refine Wn 7 ?_
   refine Xp (Vo rfl rfl CN.1 Cj.1 (by omega)) ?_
   intro a w hS
   refine Aa (FU hS (AI rfl El.1 (fun w hh => by
 have h1 := (World.ownsRow.cells (g := q) (show w.ownsRow 0 3 1 (.slice (some ⟨q, 0, none⟩) ns.length c1) ns.length (EU p) from hh (AJ 3 1 (.slice (some ⟨q, 0, none⟩) ns.length c1) ns.length (EU p)) (by repeat constructor)) rfl) ms.length _ (W5 hi)
 simpa [BH] using h1)) rfl ?_); intro a hS
   refine Wq 4 hS ?_; intro a hS
   refine C1 (fun a w => ∃ s3 : Value, St 62 (BC 106 b ad s acc).F w0 a w [(6, .int .i64 (ms.length : Int)), (7, .int .i64 (i : Int)), (28, .int .i64 (ms.length : Int)), (27, .int .i64 (ns.length : Int)), (26, .slice (some ⟨q, 0, none⟩) ns.length c1), (3, .pointer (some ⟨b3, 0, none⟩)), (0, .pointer (some ⟨b, 0, none⟩))] [BC 106 b (some ⟨b, 0, none⟩) s3 acc2, AJ 3 1 (.slice (some ⟨q, 0, none⟩) ns.length c1) ns.length (EU p), .blk b3 [.int .i64 ((6 : Nat) : Int), .string (tx t), .slice (some ⟨lb, lo, none⟩) rows.length lc, .slice (some ⟨nb, no, none⟩) ns.length nc] 37, AG W0]) ?_ ?_
   ·
    refine Wh 6 hS ?_
    refine iD (fun hc34 => ?_) fun hc34 => ?_
    ·
     rw [show ms.isEmpty = false from by cases ms with | nil => simp at hc34 | cons x y => rfl] at hacc2
     refine Wn 4 ?_
     refine Lo (cM Jy (fun hS => DA 106 (.inr rfl) b _ (.inr rfl) s2 (acc ++ 123 :: A2 ms) 44 (by rw [List.length_append, List.length_cons]; omega) _ (hS.ok (BC 106 b (some ⟨b, 0, none⟩) s2 (acc ++ 123 :: A2 ms)) (by repeat constructor))) ?_); intro x38
     obtain ⟨s3, rfl⟩ : ∃ s3, s3 = x38 := ⟨_, rfl⟩
     intro a w hS
     rw [List.append_assoc, List.cons_append, show A2 ms ++ [44] = A2 ms ++ (if false = true then [] else [44]) from rfl, hacc2] at hS
     refine Wq 1 hS ?_; intro a hS
     exact ⟨_, hS.sp⟩
    obtain ⟨s3, rfl⟩ : ∃ s3, s3 = s2 := ⟨_, rfl⟩
    rw [show ms.isEmpty = true from by cases ms with | nil => rfl | cons x y => exact absurd (show (0 : Int) < ((x :: y).length : Int) by simp) hc34] at hacc2
    intro a w hS
    rw [show acc ++ 123 :: A2 ms = acc2 from by rw [← hacc2]; simp] at hS
    refine Wq 1 hS ?_; intro a hS
    exact ⟨_, hS.sp⟩
   intro a w hS
   obtain ⟨s3, hS⟩ := hS
   refine Wh 1 hS ?_
   refine Dr 11 [10] [.blk b3 [.int .i64 ((6 : Nat) : Int), .string (tx t), .slice (some ⟨lb, lo, none⟩) rows.length lc, .slice (some ⟨nb, no, none⟩) ns.length nc] 37, AG W0] ?_
   refine ZR 7 ?_
   refine Zy rfl (AI rfl Af.1 (fun w hh => by rw [Nat.mul_one]; exact AF (hh (AG W0) (by repeat constructor)) (hcn i nm hnm))) ?_
   refine Z0 rfl (cP fE (fun _ => Mr nm (by omega) _) ?_)
   refine Za ?_
   refine Zx rfl (Do rfl rfl (by rw [BA]; show (AV nm).length + 1 ≤ _; omega)) ?_
   intro a w hS
   rw [show (ByteArray.mk #[58]) = tx [58] from rfl, GU] at hS
   refine Un hS (Z0 rfl (cM Sw (fun hS => G9 106 (.inr rfl) b _ (.inr rfl) s3 acc2 (AV nm ++ [58]) (by rw [List.length_append, List.length_singleton]; omega) _ (hS.ok (BC 106 b (some ⟨b, 0, none⟩) s3 acc2) (by repeat constructor))) ?_)); intro x49
   refine Zl ?_
   refine Wn 8 ?_
   refine Xp (BV (l := r) rfl Ea.1 (by rw [hjv.len4]; exact Cb.1) (fun w hh j x hx => AF (hh (AG W0) (by repeat constructor)) (hcl i r hr j x hx))) ?_
   refine Lo (cM fJ (fun hS => IH v r (d + 1) b _ x49 (acc2 ++ (AV nm ++ [58])) _ (hgs v (List.mem_of_getElem? hv)) (hsub v (List.mem_of_getElem? hv)) hjv (.inr rfl) (by rw [List.length_append, List.length_append, List.length_singleton]; omega) (hS.ok (BC 106 b (some ⟨b, 0, none⟩) x49 (acc2 ++ (AV nm ++ [58]))) (by repeat constructor)) hS.od (fun k hk => Nat.not_lt.1 fun h2 => hS.sep (X := BC 106 b (some ⟨b, 0, none⟩) x49 (acc2 ++ (AV nm ++ [58]))) (Y := AG W0) (by repeat constructor) (by repeat constructor) k hk h2)) ?_); intro x56
   obtain ⟨⟨s4, rv, tv⟩, hpj⟩ := x56
   intro a w hS
   simp only at hpj hS
   rw [show acc2 ++ (AV nm ++ [58]) ++ tv = acc ++ 123 :: A2 (ms ++ [⟨nm, v, rv, tv⟩]) by rw [← hacc2, I1]; simp [GP]] at hS
   refine Wq 7 hS ?_; intro a hS
   refine ⟨(ms ++ [⟨nm, v, rv, tv⟩], s4), by show ns.length - (ms ++ [_]).length < ns.length - ms.length; rw [List.length_append, List.length_singleton]; omega, ?_, by show (ms ++ [_]).length ≤ ns.length; rw [List.length_append, List.length_singleton]; omega, ?_, ?_⟩
   ·
    show St _ _ _ _ _ [(28, .int .i64 ((ms ++ [(⟨nm, v, rv, tv⟩ : Ee)]).length : Int)), _, _, _, _] _
    rw [List.length_append, List.length_singleton]
    exact hS.sp
   ·
    show (ms ++ [(⟨nm, v, rv, tv⟩ : Ee)]).map _ = (p.map (Yp ns l)).take (ms ++ [(⟨nm, v, rv, tv⟩ : Ee)]).length
    rw [List.length_append, List.length_singleton, BG hzi, List.map_append, hmz]; rfl
   ·
    intro m hm'
    rcases List.mem_append.1 hm' with hm' | hm'
    · exact hmp m hm'
    · obtain rfl := List.mem_singleton.1 hm'; exact hpj
  have hk2 : ms.length = ns.length := by omega
  rw [hk2, List.take_of_length_le (by rw [List.length_map]; omega)] at hmz hjs
  rw [hpsum] at hjs
  refine Wn 1 ?_
  intro a w hS
  refine AH (AH (Aj ?_))
  refine Wh 5 hS ?_
  refine Lo (cM Jy (fun hS => DA 106 (.inr rfl) b _ (.inr rfl) s2 (acc ++ 123 :: A2 ms) 125 (by rw [List.length_append, List.length_cons]; omega) _ (hS.ok (BC 106 b (some ⟨b, 0, none⟩) s2 (acc ++ 123 :: A2 ms)) (by repeat constructor))) ?_); intro x61
  refine Wn 1 ?_
  intro a w hS
  refine CS ?_
  refine Rm hS Tryz.results108 ?_
  have hpj : PJ (n + 1) (.mk 6 t ns l) (.mk 6 [] (ms.map (·.n)) (ms.map (·.r))) (123 :: (A2 ms ++ [125])) := by
   refine .inr (.inr (.inr ⟨rfl, ms, by rw [hmz]; exact hpz, ?_, hmp, rfl, rfl⟩))
   have e1 : ms.map (·.n) = (p.map (Yp ns l)).map (·.1) := by rw [← hmz, List.map_map]; rfl
   rw [e1, List.map_map]; exact hp2
  rw [List.append_assoc, List.cons_append] at hS
  exact ⟨⟨(x61, _, _), hpj⟩, rfl, hS.chg, hS.ok (BC 106 b (some ⟨b, 0, none⟩) x61 (acc ++ 123 :: (A2 ms ++ [125]))) (by repeat constructor), fun k hk => (hS.mine (BC 106 b (some ⟨b, 0, none⟩) x61 (acc ++ 123 :: (A2 ms ++ [125]))) (by repeat constructor) rfl k hk).symm⟩
theorem RK (W0 : World) (n : Nat) (IH : T3 W0 n) (t : List UInt8) (ns : List (List UInt8)) (l : List JV) (cs : List Value) (d b : Nat) (ad : Option Addr) (s : Value) (acc : List UInt8) (w0 : World) (hg : D0 (n + 1) (.mk 6 t ns l)) (ho : Cp (n + 1) d (.mk 6 t ns l)) (hj : DZ (n + 1) (.mk 6 t ns l) cs W0)
 (had : ad = none ∨ ad = some ⟨b, 0, none⟩) (hlen : acc.length + BY (n + 1) (.mk 6 t ns l) ≤ 9000000) (h : (BC 106 b ad s acc).ok w0) (hold : AQ W0 w0) (hF : ∀ k, (BC 106 b ad s acc).F k → W0.heap.size ≤ k) :
 CV Tryz.prog 108 [.pointer (some ⟨b, 0, none⟩), .agg cs.toArray] w0 (BC 106 b ad s acc) (fun _ : { x : Value × JV × List UInt8 // PJ (n + 1) (.mk 6 t ns l) x.2.1 x.2.2 } => .tuple [].toArray) (fun x => BC 106 b (some ⟨b, 0, none⟩) x.1.1 (acc ++ x.1.2.2)) := by
 by_cases hne : ns = []
 ·
  subst hne
  obtain ⟨lv, nv, rows, rfl, hn1, hn2, hn3, hn4⟩ := hj
  obtain ⟨na, nc, rfl⟩ : ∃ a c, nv = .slice a 0 c := by
   rcases hn1 with ⟨_, h⟩ | ⟨_, _, _, h, _⟩
   · exact h
   · exact absurd rfl h.1
  obtain ⟨la, lc, rfl⟩ := hn2.shape
  refine (Mv 6 t (.slice la rows.length lc) nc na rfl b ad s acc w0 had (by omega) h).mono ?_
  rintro e w' ⟨s', he, h1, h2, h3⟩
  exact ⟨⟨(s', .mk 6 [] [] [], [123, 125]), .inr (.inr (.inr ⟨rfl, [], .refl _, .nil, fun m hm => (by cases hm), rfl, rfl⟩))⟩, he, h1, h2, h3⟩
 · exact OM W0 n IH t ns l cs d b ad s acc w0 hne hg ho hj had hlen h hold hF
theorem T5 (W0 : World) (n : Nat) (IH : T3 W0 n) : T3 W0 (n + 1) := by
 intro v cs d b ad s acc w0 hg ho hj had hlen h hold hF
 cases v with
 | mk kd t ns l =>
 have hj0 := hj
 obtain ⟨lv, nv, ⟨a1, a2, a3, rfl⟩, ⟨a4, a5, a6, rfl⟩, hcs⟩ := hj.four
 subst hcs
 have hg0 := hg
 obtain ⟨hg1, hg2, hg3, hg4⟩ := hg
 have hl3 : kd = 3 → BY (n + 1) (.mk kd t ns l) = t.length := fun e => by unfold BY; rw [if_pos e]
 have hl4 : kd = 4 → BY (n + 1) (.mk kd t ns l) = (AV t).length := fun e => by unfold BY; rw [if_neg (by omega), if_pos e]
 have hql := HZ t
 have hq2 := Yh t
 simp only [JV.k, JV.t] at *
 refine Bq [(0, .pointer (some ⟨b, 0, none⟩)), (1, .agg [.int .i64 (kd : Int), .string (tx t), .slice a1 a2 a3, .slice a4 a5 a6].toArray)] [BC 106 b ad s acc, AG W0] (BC 106 b ad s acc).F Tryz.func38 rfl Tryz.ntmps38 ⟨rfl, rfl, trivial⟩ rfl (B3 h (B3 (BB hold) DN)) (CT (CK (fun k h1 h2 => by have h1 := hF k h1; have h2 : k < W0.heap.size := h2; omega) CU) Bi) (A9 (fun _ hb => hb) (BP rfl Aw)) ?_
 intro a hS
 refine Wh 2 hS ?_
 refine Lo (Bx ?_); intro b3
 refine Wn 15 ?_
 refine iD (fun hc17 => ?_) fun hc17 => ?_
 ·
  have hk3 : kd = 3 := by omega
  have hl := hl3 hk3
  refine Dr 6 [5] [.blk b3 [.int .i64 (kd : Int), .string (tx t), .slice a1 a2 a3, .slice a4 a5 a6] 37] ?_
  refine ZR 5 ?_
  refine Z0 rfl (cM Sw (fun hS => G9 106 (.inr rfl) b ad had s acc t (by omega) _ (hS.ok (BC 106 b ad s acc) (by repeat constructor))) ?_); intro x24
  refine Zl ?_
  refine Wn 2 ?_
  intro a w hS
  refine CS ?_
  refine Rm hS Tryz.results38 ?_
  have hpj : PJ (n + 1) (.mk kd t ns l) (DI t) t := .inl ⟨hk3, rfl, rfl⟩
  exact ⟨⟨(x24, DI t, t), hpj⟩, rfl, hS.chg, hS.ok (BC 106 b (some ⟨b, 0, none⟩) x24 (acc ++ t)) (by repeat constructor), fun k hk => (hS.mine (BC 106 b (some ⟨b, 0, none⟩) x24 (acc ++ t)) (by repeat constructor) rfl k hk).symm⟩
 refine Wn 6 ?_
 refine iD (fun hc25 => ?_) fun hc25 => ?_
 ·
  have hk4 : kd = 4 := by omega
  have hl := hl4 hk4
  refine Dr 7 [6] [.blk b3 [.int .i64 (kd : Int), .string (tx t), .slice a1 a2 a3, .slice a4 a5 a6] 37] ?_
  refine ZR 5 ?_
  refine Z0 rfl (cP fE (fun _ => Mr t (by omega) _) ?_)
  refine Za ?_
  refine Z0 rfl (cM Sw (fun hS => G9 106 (.inr rfl) b ad had s acc (AV t) (by omega) _ (hS.ok (BC 106 b ad s acc) (by repeat constructor))) ?_); intro x33
  refine Zl ?_
  refine Wn 2 ?_
  intro a w hS
  refine CS ?_
  refine Rm hS Tryz.results38 ?_
  have hpj : PJ (n + 1) (.mk kd t ns l) (Fb t) (AV t) := .inr (.inl ⟨hk4, rfl, rfl⟩)
  exact ⟨⟨(x33, Fb t, AV t), hpj⟩, rfl, hS.chg, hS.ok (BC 106 b (some ⟨b, 0, none⟩) x33 (acc ++ AV t)) (by repeat constructor), fun k hk => (hS.mine (BC 106 b (some ⟨b, 0, none⟩) x33 (acc ++ AV t)) (by repeat constructor) rfl k hk).symm⟩
 refine Wn 6 ?_
 refine Ie 34 false rfl (decide_eq_false (by omega)) ?_
 refine Wn 7 ?_
 refine iD (fun hc62 => ?_) fun hc62 => ?_
 ·
  obtain rfl : kd = 6 := by omega
  refine Wn 3 ?_
  refine Lo (cM gQ (fun hS => RK W0 n IH t ns l _ d b ad s acc _ hg0 ho hj0 had hlen (hS.ok (BC 106 b ad s acc) (by repeat constructor)) hS.od hF) ?_); intro x66
  refine Wn 2 ?_
  intro a w hS
  refine CS ?_
  refine Rm hS Tryz.results38 ?_
  obtain ⟨⟨s', r, tv⟩, hpj⟩ := x66
  simp only at hpj hS
  exact ⟨⟨(s', r, tv), hpj⟩, rfl, hS.chg, hS.ok (BC 106 b (some ⟨b, 0, none⟩) s' (acc ++ tv)) (by repeat constructor), fun k hk => (hS.mine (BC 106 b (some ⟨b, 0, none⟩) s' (acc ++ tv)) (by repeat constructor) rfl k hk).symm⟩
 have hk3 : kd < 3 := by omega
 obtain ⟨ww, hww⟩ : ∃ x, B0[kd]? = some x := ⟨B0[kd], List.getElem?_eq_getElem hk3⟩
 have hwd : B0.getD kd [] = ww := by rw [List.getD_eq_getElem?_getD, hww]; rfl
 have hwl : ww.length ≤ 5 := by rcases (by omega : kd = 0 ∨ kd = 1 ∨ kd = 2) with rfl | rfl | rfl <;> (cases hww; decide)
 refine Dr 9 [8] [.blk b3 [.int .i64 (kd : Int), .string (tx t), .slice a1 a2 a3, .slice a4 a5 a6] 37] ?_
 refine ZR 3 ?_
 refine Zv 4 _ rfl ExA.go ?_
 refine Zu 5 _ rfl ExA.go ?_
 refine Zz 3 (tf 6 3) rfl (cN gK (fun _ => Mh _) ?_); intro x11
 refine Za ?_
 refine ZR 1 ?_
 intro a w hS
 refine Zo 7 (tf 8 1) hS rfl wN rfl (FU hS (AI rfl Af.1 (fun w hh => In (enc := AM) (by repeat constructor) (fun _ => rfl) hww w hh 0 (.string (tx ww)) rfl)) rfl ?_); intro a hS
 refine Bc hS (AP (by repeat constructor) Ay) ?_
 refine Un hS (Z0 rfl (cM Sw (fun hS => G9 106 (.inr rfl) b ad had s acc ww (by omega) _ (hS.ok (BC 106 b ad s acc) (by repeat constructor))) ?_)); intro x16
 refine Zl ?_
 refine Wn 2 ?_
 intro a w hS
 refine CS ?_
 refine Rm hS Tryz.results38 ?_
 have hpj : PJ (n + 1) (.mk kd t ns l) (.mk kd [] [] []) ww := .inr (.inr (.inl ⟨hk3, rfl, hwd.symm⟩))
 exact ⟨⟨(x16, .mk kd [] [] [], ww), hpj⟩, rfl, hS.chg, hS.ok (BC 106 b (some ⟨b, 0, none⟩) x16 (acc ++ ww)) (by repeat constructor), fun k hk => (hS.mine (BC 106 b (some ⟨b, 0, none⟩) x16 (acc ++ ww)) (by repeat constructor) rfl k hk).symm⟩
theorem Pr (W0 : World) : ∀ n, T3 W0 n
 | 0 => fun _ _ _ _ _ _ _ _ hg => absurd hg (fun h => h)
 | n + 1 => T5 W0 n (Pr W0 n)
def Fy : Nat → JV → Prop
 | 0, _ => False
 | n + 1, .mk _ t ns l => t.length ≤ 1100000 ∧ ns.length ≤ 1000000 ∧ (∀ x ∈ ns, x.length ≤ 1000000) ∧ l.length ≤ 1000000 ∧ ∀ x ∈ l, Fy n x
def ON (W0 : World) (n : Nat) : Prop := ∀ (v : JV) (cs : List Value) (d : Nat) (w0 : World), D0 n v → Fy n v → DZ n v cs W0 → AQ W0 w0 → d ≤ 1000 →
 Du Tryz.prog 37 [.agg cs.toArray, .int .i64 (d : Int)] w0 (fun u => B6 Wt u ∧ ¬ Cp n d v) A7 (fun _ : { _u : Unit // Cp n d v } => .tuple [].toArray) (fun _ => A7)
theorem FM {nv : Value} {ns : List (List UInt8)} {W : World} (h : GR 1 nv (ns.map AM) W) : ∃ na nc, nv = .slice na ns.length nc ∧ Ff W na ns := by
 obtain ⟨a, c, e⟩ := h.shape
 rw [List.length_map] at e
 refine ⟨a, c, e, ⟨fun hne => ?_⟩⟩
 obtain ⟨nb, no, nc, e2, _, h2⟩ := Mu h hne
 rw [e] at e2
 injection e2 with e3
 exact ⟨nb, no, e3, h2⟩
theorem OO (W0 : World) (hU : Lib.Utf8Tabs 0 1 W0) (n : Nat) (IH : ON W0 n) : ON W0 (n + 1) := by
 intro v cs d w0 hg hsm hj hold hd
 cases v with
 | mk kd t ns l =>
 obtain ⟨lv, nv, rows, rfl, hn1, hn2, hn3, hn4⟩ := hj
 obtain ⟨na, nc, rfl, hT⟩ := FM hn1
 obtain ⟨la, lc, rfl⟩ := hn2.shape
 obtain ⟨hg1, hg2, hg3, hg4⟩ := hg
 obtain ⟨hs1, hs2, hs3, hs4, hs5⟩ := hsm
 refine En [A7, AG W0] A7.F Tryz.func37 Tryz.ntmps37 (B3 (AL _) (B3 (BB hold) DN)) (CT (CK (fun k h _ => h) CU) Bi) (A9 (fun _ hb => hb) (BP rfl Aw)) ?_
 intro a hS
 refine Wh 2 hS ?_
 refine Lo (Bx ?_); intro b2
 refine Wn 8 ?_
 refine Ie 10 true rfl (decide_eq_true (by omega)) ?_
 refine Wn 4 ?_
 intro a w hS
 refine Aa (cY hS Hw (DP (decide ((kd : Int) ≤ 6)) 7 (by decide : (7 : Int) ≠ 0 ∧ (7 : Int) ≠ 8) _) ?_ ?_)
 ·
  intro vp wp hvp hdp hcp
  refine AS ?_
  exact absurd hvp.2 (by rw [decide_eq_true (by omega)]; decide)
 intro x15 a w hS
 refine Wq 2 hS ?_; intro a hS
 refine C1 (fun a w => St 88 A7.F w0 a w [(2, .pointer (some ⟨b2, 0, none⟩)), (1, .int .i64 (d : Int))] [.blk b2 [.int .i64 (kd : Int), .string (tx t), .slice la rows.length lc, .slice na ns.length nc] 37, A7, AG W0] ∧ (kd = 3 → Cs t = some t.length) ∧ (kd = 4 → Lib.validD t = true) ∧ (kd = 6 → (∀ x ∈ ns, Lib.validD x = true) ∧ ns.length = l.length)) ?_ ?_
 ·
  refine Wh 13 hS ?_
  refine iD (fun hc18 => ?_) fun hc18 => ?_
  ·
   have hk3 : kd = 3 := by omega
   refine Wn 3 ?_
   refine Lo (cP gM (fun _ => OJ t hs1 _) ?_)
   intro a w hS
   refine Aa (cY hS Hw (DP (decide (Cs t = some t.length)) 10 (by decide : (10 : Int) ≠ 0 ∧ (10 : Int) ≠ 8) _) ?_ ?_)
   ·
    intro vp wp hvp hdp hcp
    refine AX (AS ?_)
    exact ⟨hdp, .inr ⟨vp, ⟨hvp.1, fun ho => (of_decide_eq_false hvp.2) (ho.1 hk3)⟩, rfl, hcp⟩⟩
   intro x23 a w hS
   have hfin : (kd = 3 → Cs t = some t.length) ∧ (kd = 4 → Lib.validD t = true) ∧ (kd = 6 → (∀ x ∈ ns, Lib.validD x = true) ∧ ns.length = l.length) := ⟨fun _ => of_decide_eq_true x23.2, fun e => by omega, fun e => by omega⟩
   refine Wq 2 hS ?_; intro a hS
   exact ⟨hS.sp, hfin⟩
  refine Wn 6 ?_
  refine iD (fun hc24 => ?_) fun hc24 => ?_
  ·
   have hk4 : kd = 4 := by omega
   refine Wn 3 ?_
   refine Lo (cP Zi (fun hS => JH W0 hU t (by omega) _ hS.od) ?_)
   intro a w hS
   refine Aa (cY hS Hw (DP (Lib.validD t) 10 (by decide : (10 : Int) ≠ 0 ∧ (10 : Int) ≠ 8) _) ?_ ?_)
   ·
    intro vp wp hvp hdp hcp
    refine AX (AS ?_)
    exact ⟨hdp, .inr ⟨vp, ⟨hvp.1, fun ho => by have := ho.2.1 hk4; rw [hvp.2] at this; cases this⟩, rfl, hcp⟩⟩
   intro x29 a w hS
   have hfin : (kd = 3 → Cs t = some t.length) ∧ (kd = 4 → Lib.validD t = true) ∧ (kd = 6 → (∀ x ∈ ns, Lib.validD x = true) ∧ ns.length = l.length) := ⟨fun e => by omega, fun _ => x29.2, fun e => by omega⟩
   refine Wq 2 hS ?_; intro a hS
   exact ⟨hS.sp, hfin⟩
  refine Wn 6 ?_
  refine iD (fun hc30 => ?_) fun hc30 => ?_
  ·
   have hk6 : kd = 6 := by omega
   refine Wn 4 ?_
   refine Lo (cN gN (fun hS => Tw W0 hU na nc ns hT hs2 (fun x hx => by have := hs3 x hx; omega) _ hS.od) ?_); intro x34
   refine Wn 1 ?_
   intro a w hS
   refine Aa (cY hS Hw (DP (!x34.1) 10 (by decide : (10 : Int) ≠ 0 ∧ (10 : Int) ≠ 8) _) ?_ ?_)
   ·
    intro vp wp hvp hdp hcp
    refine AS (AX (AS ?_))
    exact ⟨hdp, .inr ⟨vp, ⟨hvp.1, fun ho => by have := x34.2.2 (ho.2.2 hk6).1; rw [this] at hvp; cases hvp.2⟩, rfl, hcp⟩⟩
   intro x36 a w hS
   refine Wq 10 hS ?_; intro a hS
   refine Aa (cY hS Hw (DP (decide ((ns.length : Int) = (rows.length : Int))) 10 (by decide : (10 : Int) ≠ 0 ∧ (10 : Int) ≠ 8) _) ?_ ?_)
   ·
    intro vp wp hvp hdp hcp
    refine AX (AS ?_)
    exact ⟨hdp, .inr ⟨vp, ⟨hvp.1, fun ho => (of_decide_eq_false hvp.2) (by have := (ho.2.2 hk6).2.1; omega)⟩, rfl, hcp⟩⟩
   intro x44 a w hS
   have hfin : (kd = 3 → Cs t = some t.length) ∧ (kd = 4 → Lib.validD t = true) ∧ (kd = 6 → (∀ x ∈ ns, Lib.validD x = true) ∧ ns.length = l.length) := ⟨fun e => by omega, fun e => by omega, fun _ => ⟨x34.2.1 (by simpa using x36.2), by have := of_decide_eq_true x44.2; omega⟩⟩
   refine Wq 2 hS ?_; intro a hS
   exact ⟨hS.sp, hfin⟩
  have hfin : (kd = 3 → Cs t = some t.length) ∧ (kd = 4 → Lib.validD t = true) ∧ (kd = 6 → (∀ x ∈ ns, Lib.validD x = true) ∧ ns.length = l.length) := ⟨fun e => by omega, fun e => by omega, fun e => by omega⟩
  refine Wn 2 ?_
  intro a w hS
  exact ⟨hS.sp, hfin⟩
 intro a w hS
 obtain ⟨hS, hf3, hf4, hf6⟩ := hS
 refine Wh 7 hS ?_
 refine Ie 48 true rfl (decide_eq_true (by omega)) ?_
 refine Wn 6 ?_
 refine iD (fun hc52 => ?_) fun hc52 => ?_
 ·
  refine Wn 2 ?_
  intro a w hS
  refine Rm hS Tryz.results37 ?_
  exact .inl ⟨⟨(), hf3, hf4, fun e => by omega⟩, rfl, hS.chg, AL _, fun b h => h.elim⟩
 have hk6 : kd = 6 := by omega
 obtain ⟨hvn, hnl⟩ := hf6 hk6
 refine Wn 6 ?_
 intro a w hS
 refine Aa (cY hS Hw (DP (decide ((d : Int) < 32)) 20 (by decide : (20 : Int) ≠ 0 ∧ (20 : Int) ≠ 8) _) ?_ ?_)
 ·
  intro vp wp hvp hdp hcp
  refine AS ?_
  exact ⟨hdp, .inr ⟨vp, ⟨hvp.1, fun ho => (of_decide_eq_false hvp.2) (by have := (ho.2.2 hk6).2.2.1; omega)⟩, rfl, hcp⟩⟩
 intro x55 a w hS
 have hd32 : d < 32 := by have := of_decide_eq_true x55.2; omega
 refine Wq 8 hS ?_; intro a hS
 refine Aa (cY hS Hw (DP (decide ((rows.length : Int) ≤ 1000)) 9 (by decide : (9 : Int) ≠ 0 ∧ (9 : Int) ≠ 8) _) ?_ ?_)
 ·
  intro vp wp hvp hdp hcp
  refine AS ?_
  exact ⟨hdp, .inr ⟨vp, ⟨hvp.1, fun ho => (of_decide_eq_false hvp.2) (by have := (ho.2.2 hk6).2.2.2.1; omega)⟩, rfl, hcp⟩⟩
 intro x60 a w hS
 refine Wh 10 hS ?_
 refine Ie 63 true rfl (decide_eq_true (by omega)) ?_
 refine Wn 5 ?_
 refine Lo (cN YH (fun _ => Mf na ns.length nc _) ?_); intro x66
 refine Lo (cN YI (fun hS => KX W0 x66 na nc ns hT hs2 _ ⟨hS.gg (X := .blk x66 [.slice na ns.length nc] 35), hS.gg (X := AG W0)⟩) ?_); intro x67
 refine Wn 3 ?_
 refine Dr 8 [] [.blk b2 [.int .i64 (kd : Int), .string (tx t), .slice la rows.length lc, .slice na ns.length nc] 37] ?_
 refine ZR 1 ?_
 refine Zv 3 _ rfl ExA.go ?_
 refine Zu 4 _ rfl ExA.go ?_
 refine Zv 5 _ rfl ExA.go ?_
 refine Zz 1 _ rfl (cM gP (fun hS => OI x67 (Ao ns) (by rw [Hh]; exact hs2) _ (hS.ok (AJ 9 1 x67 (Ao ns).length ((Ao ns).map encStr)) (by repeat constructor))) ?_); intro x69
 refine Za ?_
 refine Zv 2 (tf 6 2) rfl ExA.go ?_
 refine ZR 1 ?_
 intro a w hS
 refine Zo 7 (tf 8 0) hS rfl wN rfl (IP hS (.cons rfl (.cons rfl .nil)) Hw rfl (DP (decide (((Lib.compact (Ao ns)).length : Int) = (ns.length : Int))) 12 (by decide : (12 : Int) ≠ 0 ∧ (12 : Int) ≠ 8) _) (fun x => (by repeat constructor)) rfl (by repeat constructor) ?_ ?_)
 ·
  intro vp wp hvp hdp hcp
  refine AS ?_
  exact ⟨hdp, .inr ⟨vp, ⟨hvp.1, fun ho => (of_decide_eq_false hvp.2) (by have := (H1 ns).2 (ho.2.2 hk6).2.2.2.2.1; omega)⟩, rfl, hcp⟩⟩
 intro x75 a w hS
 refine Bc hS (AP (by repeat constructor) Ay) ?_
 refine Wq 11 hS ?_; intro a hS
 refine AW (γ := Nat) (fun k a w => St 88 A7.F w0 a w [(79, .int .i64 (k : Int)), (78, .int .i64 (rows.length : Int)), (77, .slice la rows.length lc), (1, .int .i64 (d : Int))] [A7, AG W0] ∧ k ≤ rows.length ∧ ∀ (j : Nat) (x : JV), j < k → l[j]? = some x → Cp n (d + 1) x) (fun k => rows.length - k) 0 ⟨hS.sp, Nat.zero_le _, fun j _ hj => by omega⟩ ?_
 intro k a w hI
 obtain ⟨hS, hk, hno⟩ := hI
 refine Wh 6 hS ?_
 refine iD (fun hc80 => ?_) fun hc80 => ?_
 ·
  have hkn : k < rows.length := by omega
  obtain ⟨lb, lo, lc', e3, hlb, hcl⟩ := FL hn2 (fun e => by rw [e] at hkn; exact absurd hkn (Nat.not_lt_zero _))
  injection e3 with e3 _ _
  subst e3
  obtain ⟨v, hv⟩ : ∃ x, l[k]? = some x := ⟨_, List.getElem?_eq_getElem (by omega)⟩
  obtain ⟨r, hr⟩ : ∃ x, rows[k]? = some x := ⟨_, List.getElem?_eq_getElem hkn⟩
  have hjv := hn4 k v r hv hr
  obtain ⟨lv2, nv2, ⟨a1, a2, a3, rfl⟩, ⟨a4, a5, a6, rfl⟩, hrc⟩ := hjv.four
  subst hrc
  refine Wn 7 ?_
  refine Xp (BV (l := [.int .i64 (v.k : Int), .string (tx v.t), .slice a1 a2 a3, .slice a4 a5 a6]) rfl Ea.1 Cb.1 (fun w hh j x hx => AF (hh (AG W0) (by repeat constructor)) (hcl k _ hr j x hx))) ?_
  refine Lo (Al ?_); intro b6
  refine Lo (Sa ?_)
  refine Wn 6 ?_
  intro a w hS
  refine Aa (cY hS gL (IH v _ (d + 1) _ (hg4 hk6 v (List.mem_of_getElem? hv)) (hs5 v (List.mem_of_getElem? hv)) hjv hS.od (by omega)) ?_ ?_)
  ·
   intro vp wp hvp hdp hcp
   refine AX (AS (AS (AX ?_)))
   exact ⟨hdp, .inr ⟨vp, ⟨hvp.1, fun ho => hvp.2 ((ho.2.2 hk6).2.2.2.2.2 v (List.mem_of_getElem? hv))⟩, rfl, hcp⟩⟩
  intro x86 a w hS
  refine Wq 7 hS ?_; intro a hS
  refine ⟨k + 1, by omega, hS.sp, hkn, fun j x hj hx => ?_⟩
  by_cases e : j = k
  · subst e; rw [hv] at hx; cases hx; exact x86.2
  · exact hno j x (by omega) hx
 refine Wn 1 ?_
 intro a w hS
 refine AH (AH (Aj ?_))
 refine CS ?_
 refine Rm hS Tryz.results37 ?_
 refine .inl ⟨⟨(), hf3, hf4, fun _ => ⟨hvn, hnl, by have := of_decide_eq_true x55.2; omega, by have := of_decide_eq_true x60.2; omega, (H1 ns).1 (by have := of_decide_eq_true x75.2; omega), fun x hx => ?_⟩⟩, rfl, hS.chg, AL _, fun b h => h.elim⟩
 obtain ⟨j, hj⟩ := List.getElem?_of_mem hx
 exact hno j x (by have := (List.getElem?_eq_some_iff.1 hj).1; omega) hj
theorem Ka (W0 : World) (hU : Lib.Utf8Tabs 0 1 W0) : ∀ n, ON W0 n
 | 0 => fun _ _ _ _ hg => absurd hg (fun h => h)
 | n + 1 => OO W0 hU n (Ka W0 hU n)
theorem GR.old {s : Nat} {v : Value} {rows : List (List Value)} {W W' : World} (h : GR s v rows W) (ho : AQ W W') : GR s v rows W' := by
 rcases h with h | ⟨b, off, c, h1, rfl, h3, h4⟩
 · exact .inl h
 · exact .inr ⟨b, off, c, h1, rfl, h3.keep (ho.2 b h4), Nat.lt_of_lt_of_le h4 ho.1⟩
theorem DZ.old {n : Nat} {v : JV} {cs : List Value} {W W' : World} (h : DZ n v cs W) (ho : AQ W W') : DZ n v cs W' := by
 induction n generalizing v cs with
 | zero => exact h
 | succ n ih =>
   cases v with
   | mk k t ns l =>
     obtain ⟨lv, nv, rows, e, h1, h2, h3, h4⟩ := h
     exact ⟨lv, nv, rows, e, h1.old ho, h2.old ho, h3, fun i v r hv hr => ih (h4 i v r hv hr)⟩
theorem kA {n : Nat} {v r : JV} {tv : List UInt8} (hg : D0 n v) (h : PJ n v r tv) : tv ≠ [] := by
 cases n with
 | zero => exact absurd hg (fun h => h)
 | succ n =>
   cases v with
   | mk k t ns l =>
     rcases h with ⟨hk, rfl, rfl⟩ | ⟨hk, rfl, rfl⟩ | ⟨hk, rfl, rfl⟩ | ⟨hk, ms, hp, hs, hm, rfl, rfl⟩
     ·
      have := Qq (hg.2.2.1 hk)
      intro e; rw [e] at this; exact absurd this (by decide)
     · unfold AV; simp
     ·
      obtain _ | _ | _ | k := k
      · decide
      · decide
      · decide
      · omega
     · simp
theorem RL (W0 : World) (hU : Lib.Utf8Tabs 0 1 W0) (n bp : Nat) (v : JV) (cs : List Value) (hg : D0 n v) (hsm : Fy n v) (hj : DZ n v cs W0) (hbox : W0.heap[bp]? = some (.cells cs.toArray 37 (0, 0))) (w0 : World) (hold : AQ W0 w0) :
 Du Tryz.prog 36 [.pointer (some ⟨bp, 0, none⟩)] w0 (fun u => B6 Wt u ∧ ¬ Cp n 0 v) A7 (fun _ : { _u : Unit // Cp n 0 v } => .agg BM.toArray) (fun _ => A7) := by
 obtain ⟨lv2, nv2, ⟨a1, a2, a3, rfl⟩, ⟨a4, a5, a6, rfl⟩, hrc⟩ := hj.four
 subst hrc
 refine En [A7, AG W0] A7.F Tryz.func36 Tryz.ntmps36 (B3 (AL _) (B3 (BB hold) DN)) (CT (CK (fun k h _ => h) CU) Bi) (A9 (fun _ hb => hb) (BP rfl Aw)) ?_
 intro a hS
 refine Wh 2 hS ?_
 refine Lo (Al ?_); intro b1
 refine Wn 4 ?_
 refine Xp (BV (k := 0) (l := [.int .i64 (v.k : Int), .string (tx v.t), .slice a1 a2 a3, .slice a4 a5 a6]) rfl Ea.1 Cb.1 (fun w hh j x hx => AF (hh (AG W0) (by repeat constructor)) (by rw [Nat.zero_add]; exact AR hbox hx))) ?_
 intro a w hS
 refine Aa (cY hS gL (Ka W0 hU n v _ 0 _ hg hsm hj hS.od (by omega)) ?_ ?_)
 ·
  intro vp wp hvp hdp hcp
  refine AS ?_
  exact ⟨hdp, .inr ⟨vp, hvp, rfl, hcp⟩⟩
 intro x3 a w hS
 refine Wh 5 hS ?_
 refine Lo (Sa ?_)
 refine Wn 3 ?_
 intro a w hS
 refine Ro hS Tryz.results36 ?_
 exact .inl ⟨⟨(), x3.2⟩, rfl, hS.chg, AL _, fun b h => h.elim⟩
def pL (n : Nat) (v : JV) : Type := { x : (Nat × Nat) × JV × List UInt8 // Cp n 0 v ∧ PJ n v x.2.1 x.2.2 ∧ x.2.2.length ≤ 65536 ∧ x.2.2.length ≤ x.1.2 } ⊕ { e : Int // (e ≠ 0 ∧ (e = 8 → Cp n 0 v)) ∧ (Cp n 0 v → e = 8 ∧ 65536 < BY n v) }
def pM (n : Nat) (v : JV) : pL n v → Value
 | .inl x => .tuple [.slice (some ⟨x.1.1.1, 0, none⟩) x.1.2.2.length x.1.1.2, .int .i64 0].toArray
 | .inr e => .tuple [.slice none 0 0, .int .i64 e.1].toArray
def qW (n : Nat) (v : JV) : pL n v → AT
 | .inl x => Gb 5 x.1.1.1 (Br x.1.2.2)
 | .inr _ => A7
theorem Mw (n : Nat) (v : JV) (cs : List Value) (w0 : World) (hU : Lib.Utf8Tabs 0 1 w0) (hg : D0 n v) (hsm : Fy n v) (hj : DZ n v cs w0) (hl : BY n v ≤ 9000000) : Bb Tryz.prog 12 [.agg cs.toArray] w0 (pM n v) (qW n v) := by
 obtain ⟨lv2, nv2, ⟨a1, a2, a3, rfl⟩, ⟨a4, a5, a6, rfl⟩, hrc⟩ := hj.four
 subst hrc
 refine Ew Ai Tryz.func12 Tryz.ntmps12 (Ax _) ?_
 intro a hS
 refine Wh 2 hS ?_
 refine Lo (Bx ?_); intro b1
 refine Wn 7 ?_
 intro a w hS
 obtain ⟨W1, rfl⟩ : ∃ W, W = w := ⟨_, rfl⟩
 have hold1 : AQ w0 W1 := hS.gg (X := AG w0)
 have hbox : W1.heap[b1]? = some (.cells [.int .i64 (v.k : Int), .string (tx v.t), .slice a1 a2 a3, .slice a4 a5 a6].toArray 37 (0, 0)) := hS.gg (X := .blk b1 [.int .i64 (v.k : Int), .string (tx v.t), .slice a1 a2 a3, .slice a4 a5 a6] 37)
 have hj1 := hj.old hold1
 have hU1 : Lib.Utf8Tabs 0 1 W1 := ⟨fun c hc => AF hold1 (hU.1 c hc), fun i hi => ⟨AF hold1 (hU.2 i hi).1, AF hold1 (hU.2 i hi).2⟩⟩
 replace hS := hS.toOld.more (AL _) (fun b h => h)
 refine Un hS (Xp (CR .nil (.cons rfl .nil)) ?_)
 refine Lo (cM ZO (fun hS => Hf 36 [.pointer (some ⟨b1, 0, none⟩)] (fun e => Wt e ∧ ¬ Cp n 0 v) A7 (fun _ : { _u : Unit // Cp n 0 v } => BM) (fun _ => A7) nY rfl (fun x => ⟨_, _, _, _, rfl, rfl, rfl, rfl, rfl⟩) _ (fun _ => rfl) (AL _) (fun w' hX hch => (RL W1 hU1 n b1 v _ hg hsm hj1 hbox w' (WJ (hS.gg (X := AG W1)) hch)).pan (fun v ⟨⟨p, e, he, hv⟩, hb⟩ => ⟨p, e, ⟨he, hb⟩, hv⟩))) ?_); intro x9
 intro a w hS
 obtain ⟨jk, js, ja, jm, jc, ja', jm', jc', p, e, hgu, hres⟩ := LX (E := fun e => Wt e ∧ ¬ Cp n 0 v) (V := fun _ : { _u : Unit // Cp n 0 v } => BM) (Y := fun _ => A7) x9 (fun y hy => ⟨_, _, _, _, _, _, _, _, rfl⟩) (hS.ok (We (fun e => Wt e ∧ ¬ Cp n 0 v) (fun _ : { _u : Unit // Cp n 0 v } => A7) x9) (by repeat constructor))
 rw [hgu] at hS
 refine Wh 3 hS ?_
 refine Lo (Al ?_); intro b4
 refine Lo (Al ?_); intro b5
 refine Lo (Sa ?_)
 refine Lo (Sa ?_)
 refine Wn 9 ?_
 refine iD (fun hc14 => ?_) fun hc14 => ?_
 ·
  have hno : ¬ Cp n 0 v ∧ e ≠ 8 := by
   rcases hres with ⟨y, _, _, _, he⟩ | ⟨pe, _, _, _, he⟩
   · exact absurd he hc14
   · exact ⟨pe.2.2, he ▸ pe.2.1.2⟩
  refine Wn 1 ?_
  refine Dr 4 [] [.blk b5 [.int .i64 p, .int .i64 e] 95] ?_
  refine ZR 4 ?_
  refine Wn 4 ?_
  intro a w hS
  refine Rm hS Tryz.results12 ?_
  exact ⟨.inr ⟨e, ⟨hc14, fun h8 => absurd h8 hno.2⟩, fun ho => absurd ho hno.1⟩, rfl, hS.chg, AL _, fun b h => h.elim⟩
 have hok : Cp n 0 v := by
  rcases hres with ⟨y, _, _, _, _⟩ | ⟨pe, _, _, _, he⟩
  · exact y.2
  · exact absurd (he.symm.trans (Classical.not_not.1 hc14)) pe.2.1.1
 refine Wn 5 ?_
 refine Lo (Bx ?_); intro b18
 refine Wn 6 ?_
 refine Xp (BV (k := 0) (l := [.int .i64 (v.k : Int), .string (tx v.t), .slice a1 a2 a3, .slice a4 a5 a6]) rfl Ea.1 Cb.1 (fun w hh j x hx => AF (hh (AG W1) (by repeat constructor)) (by rw [Nat.zero_add]; exact AR hbox hx))) ?_
 intro a w hS
 replace hS : St _ _ _ _ _ _ [BC 106 b18 none (.slice none 0 0) [], .blk b5 [.int .i64 p, .int .i64 e] 95, .blk b4 [.int .i64 jk, .string js, .slice ja jm jc, .slice ja' jm' jc'] 37, We (fun e => Wt e ∧ ¬ Cp n 0 v) (fun _ : { _u : Unit // Cp n 0 v } => A7) x9, AG W1] := ((hS.own_nil 5 1).pk (Γ' := [.blk b18 [.pointer none, .slice none 0 0] 106, AJ 5 1 (.slice none 0 0) 0 [], .blk b5 [.int .i64 p, .int .i64 e] 95, .blk b4 [.int .i64 jk, .string js, .slice ja jm jc, .slice ja' jm' jc'] 37, We (fun e => Wt e ∧ ¬ Cp n 0 v) (fun _ : { _u : Unit // Cp n 0 v } => A7) x9, AG W1])).duo rfl rfl
 refine Aa (dB hS fJ (Pr W1 n v _ 0 b18 none (.slice none 0 0) [] _ hg hok hj1 (.inl rfl) (by simpa using hl) (hS.ok (BC 106 b18 none (.slice none 0 0) []) (by repeat constructor)) (hS.gg (X := AG W1)) (fun k hk => Nat.not_lt.1 fun h2 => hS.sep (X := BC 106 b18 none (.slice none 0 0) []) (Y := AG W1) (by repeat constructor) (by repeat constructor) k hk h2)) ?_); intro x21
 obtain ⟨⟨s', r, tv⟩, hpj⟩ := x21
 intro a w hS
 simp only [List.nil_append] at hpj hS
 have htl := FG n v r tv hpj
 refine Wh 8 hS ?_
 refine Lo (cP nZ (fun hS => bE 106 b18 _ s' tv _ (hS.ok (BC 106 b18 (some ⟨b18, 0, none⟩) s' tv) (by repeat constructor))) ?_)
 refine Wn 3 ?_
 refine iD (fun hc26 => ?_) fun hc26 => ?_
 ·
  refine Wn 8 ?_
  intro a w hS
  refine Rm hS Tryz.results12 ?_
  exact ⟨.inr ⟨8, ⟨by decide, fun _ => hok⟩, fun _ => ⟨rfl, by omega⟩⟩, rfl, hS.chg, AL _, fun b h => h.elim⟩
 refine Wn 7 ?_
 refine Lo (cM fK (fun hS => KY 106 b18 _ s' tv (kA hg hpj) (by omega) _ (hS.ok (BC 106 b18 (some ⟨b18, 0, none⟩) s' tv) (by repeat constructor))) ?_); intro x30
 intro a w hS
 refine Aa (E6 hS rfl Tryz.underlying9 AZ.1 C7.1 rfl ?_)
 intro b31 c31 a w hc31 hS
 rw [show CE (tx tv) = Br tv from rfl, Ap] at hS hc31
 refine Wh 5 hS ?_
 intro a w hS
 refine Rm hS Tryz.results12 ?_
 refine ⟨.inl ⟨((b31, c31), r, tv), hok, hpj, by show tv.length ≤ 65536; omega, hc31⟩, rfl, hS.chg, hS.ok (Gb 5 b31 (Br tv)) (by repeat constructor), fun b hb => (hS.mine (Gb 5 b31 (Br tv)) (by repeat constructor) rfl b hb).resolve_right (fun h => h)⟩
section
section
variable {P : Program} {n : NN} {F0 : Nat → Prop} {w0 : World} {a : Act} {w : World} {L : List (Nat × Value)} {Γ : List AT}
variable {K : Act → World → Prop} {Q : Exit → Act → World → Prop} {d ty : Nat} {dst : Option Tmp} {pos : String} {af : Array Edge} {g : Option (Nat × Bool)}
theorem Hi (t ty e : TypeId) (i : TypeInfo) (size : Nat) (ht : P.underlying t = some (.slice e)) (hi : P.info? e = some i)
 (v : Value) (n : Nat) (xs : List Value) (hown : w.ownsRow 0 e size v n xs) (q : Option Addr) (c : Nat) :
 (Builtin.append_ #[t, t] ty #[v, .slice q 0 c]).run P w = .ok v w := by
 rcases hown.2 with ⟨rfl, rfl⟩ | ⟨g, cap, cur, rfl, _, _, hnc, _⟩
 · cases q <;> simp [Builtin.append_, run_underlying ht, sizeOf, typeInfo, hi, Builtin.lenOf, Builtin.firstCells, loadCells, loadCellsFrom]
 · cases q <;> simp [Builtin.append_, run_underlying ht, sizeOf, typeInfo, hi, Builtin.lenOf, Builtin.firstCells, hnc, storeCells, loadCells, loadCellsFrom]
theorem Hj {T E s b : Nat} {zs : List Value} {x y : Operand} {v : Value} {m k c : Nat} {q : Option Addr} {cs ys : List Value} {Γ' : Value → List AT} (hS : St n F0 w0 a w L Γ) (hx : ev L x = some v) (hy : ev L y = some (.slice q k c))
 (hT : BD P T = some E) (hs : BS P E = some s) (hb : Ev P E = some b) (hz : A3 P E = some zs) (hzl : Nat.beq zs.length s = true) (hs0 : Nat.blt 0 s = true) (hn : Nat.blt d n.n = true)
 (hm : AJ E s v m cs ∈ Γ) (hyl : ys.length = k * s) (hq : k ≠ 0 → ∃ bx ox, q = some ⟨bx, ox, none⟩ ∧ ∀ j u, ys[j]? = some u → w.cell? ⟨bx, ox + j, none⟩ = some u) (h1 : ∀ u ∈ ys, Bl u = true) (hbd : (m + k) * b ≤ 140737488355328 ∧ m + k ≤ 4611686018427387904)
 (hr : ∀ v', DY (AJ E s v m cs) (AJ E s v' (m + k) (cs ++ ys)) Γ (Γ' v'))
 (h : ∀ v' a' w', (v' = .slice none 0 0 ↔ v = .slice none 0 0 ∧ k = 0) → St n F0 w0 a' w' ((d, v') :: L) (Γ' v') → K a' w') : OW P ⟨some d, .call ⟨.builtin .append, #[x, y], #[T, T]⟩, ty, pos, af, g⟩ a w K Q := by
 by_cases hk : k = 0
 ·
  subst hk
  obtain rfl : ys = [] := List.eq_nil_of_length_eq_zero (by simpa using hyl)
  obtain ⟨i, z, hi, hz', hsz, hby, hzc⟩ := Fq hs hb hz
  have hown : w.ownsRow 0 E s v m cs := hS.get hm
  have hrun := Hi (P := P) T ty E i s (BF hT) hi v m cs hown q c
  have he : (execOp a.eval (⟨some d, .call ⟨.builtin .append, #[x, y], #[T, T]⟩, ty, pos, af, g⟩ : Oper)).run P w = .ok (.value v) w := by
   simp [execOp, resolve, invoke, builtin, hS.sl.ev hx, hS.sl.ev hy, hrun]
  refine ⟨?_⟩
  unfold Oper.wp
  rw [he]
  refine h v _ _ (by simp) ((hS.upd (hr v) (Bd.refl _ _) ?_ (fun b hb => .inl hb) rfl).put hn _)
  rw [Nat.add_zero, List.append_nil]
  exact C2 hown
 ·
  obtain ⟨bx, ox, rfl, hys⟩ := hq hk
  exact EF hS hx hy hT hs hb hz hzl hs0 hn hm hyl hys h1 hbd hr h
end
theorem JJ {W : World} {sa : Option Addr} {names : List (List UInt8)} (hT : Ff W sa names) {w : World} (ho : AQ W w) : names.length ≠ 0 → ∃ bx ox, sa = some ⟨bx, ox, none⟩ ∧ ∀ j u, (names.flatMap AM)[j]? = some u → w.cell? ⟨bx, ox + j, none⟩ = some u := fun hne => by
 obtain ⟨nb, no, e, hc⟩ := hT.at_ (fun e => hne (by rw [e]; rfl))
 refine ⟨nb, no, e, fun j u hj => AF ho ?_⟩
 have e2 : names.flatMap AM = names.map fun x => .string (tx x) := by
  clear hc hne hT hj
  induction names with
  | nil => rfl
  | cons x l ih => rw [List.flatMap_cons, ih]; rfl
 rw [e2, List.getElem?_map, Option.map_eq_some_iff] at hj
 obtain ⟨x, hx, rfl⟩ := hj
 exact hc j x hx
end
def bK (W0 : World) (n : Nat) : Prop := ∀ (v : JV) (cs : List Value) (w0 : World), DZ n v cs W0 → Fy n v → AQ W0 w0 →
 Bb Tryz.prog 155 [.agg cs.toArray] w0 (fun x : { x : JX // x.v = v } => .agg x.1.cs.toArray) (fun x => Be n x.1)
theorem T6 (W0 : World) (n : Nat) (IH : bK W0 n) : bK W0 (n + 1) := by
 intro v cs w0 hj hsm hold
 cases v with
 | mk kd t ns l =>
 obtain ⟨lv, nv, rows, rfl, hn1, hn2, hn3, hn4⟩ := hj
 obtain ⟨na, nc, rfl, hT⟩ := FM hn1
 obtain ⟨la, lc, rfl⟩ := hn2.shape
 obtain ⟨hs1, hs2, hs3, hs4, hs5⟩ := hsm
 have hfl : (ns.flatMap AM).length = ns.length := by simpa using Cc AM 1 (fun _ => rfl) ns
 refine Ew Ai Tryz.func155 Tryz.ntmps155 hold ?_
 intro a hS
 refine Wh 2 hS ?_
 refine Lo (Bx ?_); intro b1
 refine Lo (Al ?_); intro b2
 refine Wn 2 ?_
 intro a w hS
 refine C1 (fun a w => ∃ (b3 : Nat) (q : Option Addr) (c : Nat), St 34 Ai w0 a w [(3, .pointer (some ⟨b3, 0, none⟩)), (1, .pointer (some ⟨b1, 0, none⟩)), (2, .pointer (some ⟨b2, 0, none⟩))] [.blk b3 [.int .i64 (kd : Int), .string (tx t), .slice none 0 0, .slice q ns.length c] 37, oR 9 1 q ns c AM, .blk b1 [.int .i64 (kd : Int), .string (tx t), .slice la rows.length lc, .slice na ns.length nc] 37, .blk b2 BM 37, AG W0]) ?_ ?_
 ·
  refine Un hS (Dr 14 [] [.blk b1 [.int .i64 (kd : Int), .string (tx t), .slice la rows.length lc, .slice na ns.length nc] 37] ?_)
  refine ZR 7 ?_
  refine Zv 8 _ rfl ExA.go ?_
  refine Zu 9 _ rfl ExA.go ?_
  intro a w hS
  refine Ek (j := 7) (js := [12]) (by kernel_rfl) ⟨?_, ?_, trivial⟩
  ·
   refine Ey (i := 7) rfl (Ab a hS.sl) (listed' := (tf 10 4)) rfl (O7 hS rfl rfl Ar.1 A8.1 EG.1 Ec.1 rfl (by omega) ?_); intro x13 a w hS
   refine Bc hS (AP (by repeat constructor) Ay) ?_
   refine Ek (j := 10) (js := [12]) (by kernel_rfl) ⟨?_, ?_, trivial⟩
   ·
    refine Ey (i := 10) rfl (Ab a hS.sl) (listed' := (tf 11 3)) rfl (Hj hS rfl rfl Ar.1 A8.1 EG.1 Ec.1 rfl rfl rfl (by repeat constructor) (ys := ns.flatMap AM) (by rw [hfl, Nat.mul_one]) (JJ hT hS.od) (fun u hu => by obtain ⟨x, _, hx⟩ := List.mem_flatMap.1 hu; obtain rfl := List.mem_singleton.1 hx; rfl) (by omega) (fun _ => (by repeat constructor)) ?_); intro v16 a w hv16 hS
    obtain ⟨q16, c16, rfl⟩ := AN (hS.gg (X := AJ 9 1 v16 (0 + ns.length) ([] ++ ns.flatMap AM)))
    rw [Nat.zero_add, List.nil_append] at hS
    refine Bc hS (AP (by repeat constructor) Ay) ?_
    refine Un hS (ZR 1 ?_)
    refine Z0 rfl (Al ?_); intro b3
    refine Za ?_
    refine Z0 rfl (Sa ?_)
    refine Za ?_
    refine Wn 1 ?_
    intro a w hS
    exact ⟨b3, q16, c16, hS.sp⟩
   refine Ey (i := 12) rfl (Ab a hS.sl) (listed' := [true, true, true, true, true, true, true, true, true, true, false, false, true, false]) rfl (Fp hS GM.1 rfl ?_); intro a w b3 hS
   refine Bc hS (AP (by repeat constructor) Ay) ?_
   refine Zo 10 [true, true, true, true, true, true, true, true, true, true, true, false, true, false] hS rfl wN rfl (Hj hS rfl rfl Ar.1 A8.1 EG.1 Ec.1 rfl rfl rfl (by repeat constructor) (ys := ns.flatMap AM) (by rw [hfl, Nat.mul_one]) (JJ hT hS.od) (fun u hu => by obtain ⟨x, _, hx⟩ := List.mem_flatMap.1 hu; obtain rfl := List.mem_singleton.1 hx; rfl) (by omega) (fun _ => (by repeat constructor)) ?_); intro v16 a w hv16 hS
   obtain ⟨q16, c16, rfl⟩ := AN (hS.gg (X := AJ 9 1 v16 (0 + ns.length) ([] ++ ns.flatMap AM)))
   rw [Nat.zero_add, List.nil_append] at hS
   refine Bc hS (AP (by repeat constructor) Ay) ?_
   refine Un hS (Zv 11 (tf 13 1) rfl ExA.go ?_)
   refine Z0 rfl (Sa ?_)
   refine Za ?_
   refine Wn 1 ?_
   intro a w hS
   exact ⟨b3, q16, c16, hS.sp⟩
  refine Ey (i := 12) rfl (Ab a hS.sl) (listed' := [true, true, true, true, true, true, true, false, true, true, false, false, true, false]) rfl (Fp hS GM.1 rfl ?_); intro a w b3 hS
  refine Bc hS (AP (by repeat constructor) Ay) ?_
  refine Zo 7 [true, true, true, true, true, true, true, true, true, true, false, false, true, false] hS rfl wN rfl (O7 hS rfl rfl Ar.1 A8.1 EG.1 Ec.1 rfl (by omega) ?_); intro x13 a w hS
  refine Bc hS (AP (by repeat constructor) Ay) ?_
  refine Zo 10 [true, true, true, true, true, true, true, true, true, true, true, false, true, false] hS rfl wN rfl (Hj hS rfl rfl Ar.1 A8.1 EG.1 Ec.1 rfl rfl rfl (by repeat constructor) (ys := ns.flatMap AM) (by rw [hfl, Nat.mul_one]) (JJ hT hS.od) (fun u hu => by obtain ⟨x, _, hx⟩ := List.mem_flatMap.1 hu; obtain rfl := List.mem_singleton.1 hx; rfl) (by omega) (fun _ => (by repeat constructor)) ?_); intro v16 a w hv16 hS
  obtain ⟨q16, c16, rfl⟩ := AN (hS.gg (X := AJ 9 1 v16 (0 + ns.length) ([] ++ ns.flatMap AM)))
  rw [Nat.zero_add, List.nil_append] at hS
  refine Bc hS (AP (by repeat constructor) Ay) ?_
  refine Un hS (Zv 11 (tf 13 1) rfl ExA.go ?_)
  refine Z0 rfl (Sa ?_)
  refine Za ?_
  refine Wn 1 ?_
  intro a w hS
  exact ⟨b3, q16, c16, hS.sp⟩
 intro a w hS
 obtain ⟨b3, q, c, hS⟩ := hS
 refine Wq 10 hS ?_; intro a hS
 refine AW (γ := List JX × Value) (fun G a w => St 34 Ai w0 a w [(21, .int .i64 (G.1.length : Int)), (20, .int .i64 (rows.length : Int)), (19, .slice la rows.length lc), (3, .pointer (some ⟨b3, 0, none⟩)), (2, .pointer (some ⟨b2, 0, none⟩))] [AJ 37 4 G.2 G.1.length (G.1.flatMap JX.cs), As n G.1, .blk b3 [.int .i64 (kd : Int), .string (tx t), G.2, .slice q ns.length c] 37, oR 9 1 q ns c AM, .blk b2 BM 37, AG W0] ∧ G.1.length ≤ rows.length ∧ G.1.map JX.v = l.take G.1.length) (fun G => rows.length - G.1.length) ([], .slice none 0 0) ⟨(((hS.own_nil 37 4).more (Y := As n []) (D5 (fun x hx => by cases hx)) (fun b ⟨x, hx, _⟩ => by cases hx)).sq).pk, Nat.zero_le _, rfl⟩ ?_
 intro G a w hI
 obtain ⟨kids, gv⟩ := G
 obtain ⟨hS, hk, hkm⟩ := hI
 simp only at hS hk hkm
 obtain ⟨ql, cl, rfl⟩ := AN (hS.gg (X := AJ 37 4 gv kids.length (kids.flatMap JX.cs)))
 refine Wh 6 hS ?_
 refine iD (fun hc22 => ?_) fun hc22 => ?_
 ·
  have hkn : kids.length < rows.length := by omega
  obtain ⟨lb, lo, lc', e3, hlb, hcl⟩ := FL hn2 (fun e => by rw [e] at hkn; exact absurd hkn (Nat.not_lt_zero _))
  injection e3 with e3 _ _
  subst e3
  obtain ⟨v, hv⟩ : ∃ x, l[kids.length]? = some x := ⟨_, List.getElem?_eq_getElem (by omega)⟩
  obtain ⟨r, hr⟩ : ∃ x, rows[kids.length]? = some x := ⟨_, List.getElem?_eq_getElem hkn⟩
  have hjv := hn4 _ v r hv hr
  obtain ⟨lv2, nv2, ⟨a1, a2, a3, rfl⟩, ⟨a4, a5, a6, rfl⟩, hrc⟩ := hjv.four
  subst hrc
  refine Wn 7 ?_
  refine Xp (BV (l := [.int .i64 (v.k : Int), .string (tx v.t), .slice a1 a2 a3, .slice a4 a5 a6]) rfl Ea.1 Cb.1 (fun w hh j x hx => AF (hh (AG W0) (by repeat constructor)) (hcl _ _ hr j x hx))) ?_
  refine Lo (Al ?_); intro b5
  refine Lo (Sa ?_)
  refine Wn 2 ?_
  refine Dr 8 [7] [.blk b3 [.int .i64 (kd : Int), .string (tx t), .slice ql kids.length cl, .slice q ns.length c] 37, .blk b5 [.int .i64 (v.k : Int), .string (tx v.t), .slice a1 a2 a3, .slice a4 a5 a6] 37] ?_
  refine ZR 3 ?_
  refine Z0 rfl (cN YU (fun hS => IH v _ _ hjv (hs5 v (List.mem_of_getElem? hv)) hS.od) ?_); intro x28
  obtain ⟨x, hxv⟩ := x28
  intro a w hS
  simp only at hS
  obtain ⟨lv3, nv3, ⟨c1, c2, c3, rfl⟩, ⟨c4, c5, c6, rfl⟩, hcs⟩ := DZ.four (hS.get (X := Be n x) (.head _))
  rw [hcs] at hS
  refine Un hS (Za ?_)
  refine Z0 rfl (Bz ?_); intro b29
  refine Za ?_
  refine Z0 rfl (A1 ?_); intro v30 hv30
  intro a w hS
  obtain ⟨q30, c30, rfl⟩ := AN (hS.gg (X := AJ 37 4 v30 (kids.length + 1) _))
  refine Un hS (Za ?_)
  refine ZR 1 ?_
  refine Z0 rfl (Sb ?_)
  refine Zl ?_
  refine Wn 3 ?_
  have hfl2 : (kids ++ [x]).flatMap JX.cs = kids.flatMap JX.cs ++ ([.int .i64 (x.v.k : Int), .string (tx x.v.t), .slice c1 c2 c3, .slice c4 c5 c6] ++ []) := by rw [List.flatMap_append, ← hcs]; simp
  have hkl1 : (kids ++ [x]).length = kids.length + 1 := by simp
  intro a w hS
  replace hS := hS.pk (Γ' := [Be n x, As n kids, .blk b3 [.int .i64 (kd : Int), .string (tx t), .slice q30 (kids.length + 1) c30, .slice q ns.length c] 37, AJ 37 4 (.slice q30 (kids.length + 1) c30) (kids.length + 1) (kids.flatMap JX.cs ++ ([.int .i64 (x.v.k : Int), .string (tx x.v.t), .slice c1 c2 c3, .slice c4 c5 c6] ++ [])), oR 9 1 q ns c AM, .blk b2 BM 37, AG W0])
  replace hS := CA hS
  rw [← hfl2] at hS
  refine Wq 4 hS ?_; intro a hS
  refine ⟨(kids ++ [x], .slice q30 (kids.length + 1) c30), by show rows.length - (kids ++ [x]).length < rows.length - kids.length; omega, ?_, by show (kids ++ [x]).length ≤ rows.length; omega, ?_⟩
  ·
   show St _ _ _ _ _ [(21, .int .i64 ((kids ++ [x]).length : Int)), _, _, _, _] [AJ _ _ _ (kids ++ [x]).length _, _, _, _, _, _]
   rw [hkl1]
   exact hS.sp
  ·
   show (kids ++ [x]).map JX.v = l.take (kids ++ [x]).length
   rw [hkl1, BG hv, List.map_append, hkm, ← hxv]; rfl
 have hk2 : kids.length = rows.length := by omega
 rw [hk2, hn3, List.take_length] at hkm
 refine Wn 1 ?_
 intro a w hS
 refine AH (AH (Aj ?_))
 refine Wh 4 hS ?_
 refine Lo (Sa ?_)
 refine Wn 3 ?_
 intro a w hS
 refine Ro hS Tryz.results155 ?_
 have hS1 := hS.pk (Γ' := [oR 37 4 ql kids cl JX.cs, oR 9 1 q ns c AM, As n kids])
 have hS2 := Eg (d := n) (k := kd) (t := t) (ns := ns) (kids := kids) hS1
 obtain ⟨F, hF⟩ : ∃ F : Nat → Prop, F = fun b => (Value.slice ql kids.length cl).ownBlock = some b ∨ (Value.slice q ns.length c).ownBlock = some b ∨ LR kids b := ⟨_, rfl⟩
 rw [← hF, hkm] at hS2
 exact ⟨⟨⟨.mk kd t ns l, [.int .i64 (kd : Int), .string (tx t), .slice ql kids.length cl, .slice q ns.length c], F, rfl, rfl⟩, rfl⟩, rfl, hS.chg, hS2.ok _ (.head _), fun b hb => (hS2.mine _ (.head _) rfl b hb).resolve_right (fun h => h)⟩
theorem Ps (W0 : World) : ∀ n, bK W0 n
 | 0 => fun _ _ _ hj => absurd hj (fun h => h)
 | n + 1 => T6 W0 n (Ps W0 n)
def Pt (w : World) (q : Option Addr) (k : Nat) (ys : List Value) : Prop := (k = 0 ∧ ys = []) ∨ ∃ bx ox, q = some ⟨bx, ox, none⟩ ∧ ∀ j u, ys[j]? = some u → w.cell? ⟨bx, ox + j, none⟩ = some u
theorem DV {α : Type} {enc : α → List Value} {s E m c : Nat} {q : Option Addr} {xs : List α} {W : World} (h : W.ownsRow 0 E s (.slice q m c) m (xs.flatMap enc)) (hl : ∀ x, (enc x).length = s) (hm : xs.length = m) : Pt W q m (xs.flatMap enc) := by
 have := Ma h hl (Nat.le_refl m)
 rw [List.take_of_length_le (by omega)] at this
 rcases this with ⟨_, h1, _, h2⟩ | h1
 · exact .inl ⟨h1, h2⟩
 · exact .inr h1
theorem IV {W w : World} (ho : AQ W w) {q : Option Addr} {k : Nat} {ys : List Value} (h : Pt W q k ys) : Pt w q k ys := by
 rcases h with h | ⟨bx, ox, e, h⟩
 · exact .inl h
 · exact .inr ⟨bx, ox, e, fun j u hj => AF ho (h j u hj)⟩
theorem T7 (ks : List JX) : ∀ u ∈ ks.flatMap JX.cs, Bl u = true := fun u hu => by
 obtain ⟨x, _, hx⟩ := List.mem_flatMap.1 hu
 exact List.all_eq_true.1 x.one u hx
theorem OP (ns : List (List UInt8)) : ∀ u ∈ ns.flatMap AM, Bl u = true := fun u hu => by
 obtain ⟨x, _, hx⟩ := List.mem_flatMap.1 hu
 obtain rfl := List.mem_singleton.1 hx; rfl
theorem Kb (s : ByteArray) (w0 : World) : Ae Tryz.prog 53 [.string s] w0 (.agg [.int .i64 4, .string s, .slice none 0 0, .slice none 0 0].toArray) := by
 refine Eo Ai Tryz.func53 Tryz.ntmps53 ?_
 intro a hS
 refine Wh 2 hS ?_
 refine Lo (Al ?_); intro b2
 refine Wn 6 ?_
 refine Lo (Sa ?_)
 refine Wn 3 ?_
 intro a w hS
 refine Ro hS Tryz.results53 ?_
 exact ⟨rfl, hS.chg⟩
theorem E7 (W0 : World) (k : Nat) (t : List UInt8) (ql qn : Option Addr) (cl cn : Nat) (ns : List (List UInt8)) (kids : List JX) (m : List UInt8) (x : JX) (xk : Int) (xs : ByteArray) (a1 a4 : Option Addr) (a2 a3 a5 a6 : Nat) (hxc : x.cs = [.int .i64 xk, .string xs, .slice a1 a2 a3, .slice a4 a5 a6]) (hk : kids.length ≤ 1000000) (hn : ns.length ≤ 1000000)
 (h1 : Pt W0 ql kids.length (kids.flatMap JX.cs)) (h2 : Pt W0 qn ns.length (ns.flatMap AM)) (w0 : World) (ho : AQ W0 w0) :
 Bb Tryz.prog 52 [.agg [.int .i64 (k : Int), .string (tx t), .slice ql kids.length cl, .slice qn ns.length cn].toArray, .string (tx m), .agg x.cs.toArray] w0
  (fun y : (Option Addr × Nat) × Option Addr × Nat => .agg [.int .i64 6, .string (tx t), .slice y.1.1 (kids ++ [x]).length y.1.2, .slice y.2.1 (ns ++ [m]).length y.2.2].toArray)
  (fun y => C5 (oR 132 4 y.1.1 (kids ++ [x]) y.1.2 JX.cs) (oR 9 1 y.2.1 (ns ++ [m]) y.2.2 AM)) := by
 rw [hxc]
 refine Ew Ai Tryz.func52 Tryz.ntmps52 ho ?_
 intro a hS
 refine Wh 2 hS ?_
 refine Lo (Bx ?_); intro b3
 refine Lo (Bx ?_); intro b5
 refine Lo (Al ?_); intro b6
 refine Wn 5 ?_
 refine Lo (Sb ?_)
 refine Wn 4 ?_
 refine Lo (Bz ?_); intro b8
 intro a w hS
 replace hS := hS.swap (X := .blk b8 [] 9) (Y := AJ 9 1 (.slice (some ⟨b8, 0, none⟩) 0 0) 0 []) (by repeat constructor) (Cg (hS.gg (X := .blk b8 [] 9))) (fun b hb => by simpa [AJ, AT.F, Value.ownBlock, eq_comm] using hb) rfl
 refine Wq 2 hS ?_; intro a hS
 refine Aa (Cx hS rfl rfl Ar.1 A8.1 EG.1 Ec.1 rfl rfl rfl (by repeat constructor) (ys := ns.flatMap AM) (Cc AM 1 (fun _ => rfl) ns) (IV hS.od h2) (OP ns) (by omega) (fun _ => (by repeat constructor)) ?_); intro v11 a w hv11 hS
 obtain ⟨q11, c11, rfl⟩ := AN (hS.gg (X := AJ 9 1 v11 (0 + ns.length) ([] ++ ns.flatMap AM)))
 rw [Nat.zero_add, List.nil_append] at hS
 refine Wh 1 hS ?_
 refine Lo (Bz ?_); intro b13
 refine Lo (A1 ?_); intro v14 hv14
 intro a w hS
 obtain ⟨q14, c14, rfl⟩ := AN (hS.gg (X := AJ 9 1 v14 (ns.length + 1) (ns.flatMap AM ++ [.string (tx m)])))
 refine Wh 1 hS ?_
 refine Lo (Sb ?_)
 refine Wn 3 ?_
 intro a w hS
 refine K8 [8] (by kernel_rfl) hS ?_; intro w hS
 simp only [List.length_cons, List.length_nil, Nat.zero_add, Nat.reduceAdd, List.replicate]
 refine Un hS (Zv 1 _ rfl ExA.go ?_)
 intro a w hS
 refine Zt 2 [false, true, true, false, false, false, false, false, false] hS rfl Ab (No rfl (by repeat constructor) S2.1 (by rfl)) rfl (by kernel_rfl) (by intro X hX; repeat (first | exact hX | apply List.Mem.tail)) rfl ?_; intro a hS
 refine Zt 4 [false, true, true, false, true, false, false, false, false] hS rfl Ab (K2 rfl (by repeat constructor) Gl.1 Bs.1 (by rfl)) rfl (by kernel_rfl) (by intro X hX; repeat (first | exact hX | apply List.Mem.tail)) rfl ?_; intro a hS
 refine Ek (j := 0) (js := [5]) (by kernel_rfl) ⟨?_, ?_, trivial⟩
 ·
  refine Ey (i := 0) rfl (Ab a hS.sl) (listed' := [true, true, true, false, true, false, false, false, false]) rfl (B4 hS CY.1 Bs.1 DE.1 rfl rfl rfl rfl .nil rfl ?_); intro a w b16 hS
  replace hS := hS.swap (X := .blk b16 [] 132) (Y := AJ 132 4 (.slice (some ⟨b16, 0, none⟩) 0 0) 0 []) (by repeat constructor) (Cg (hS.gg (X := .blk b16 [] 132))) (fun b hb => by simpa [AJ, AT.F, Value.ownBlock, eq_comm] using hb) rfl
  refine Bc hS (by intro X hX; repeat (first | exact hX | apply List.Mem.tail)) ?_
  refine Ek (j := 3) (js := [5]) (by kernel_rfl) ⟨?_, ?_, trivial⟩
  ·
   refine Ey (i := 3) rfl (Ab a hS.sl) (listed' := (tf 5 4)) rfl (Cx hS rfl rfl CY.1 Bs.1 Ez.1 DE.1 rfl rfl rfl (by repeat constructor) (ys := kids.flatMap JX.cs) (Cc JX.cs 4 JX.len kids) (IV hS.od h1) (T7 kids) (by omega) (fun _ => (by repeat constructor)) ?_); intro v19 a w hv19 hS
   obtain ⟨q19, c19, rfl⟩ := AN (hS.gg (X := AJ 132 4 v19 (0 + kids.length) ([] ++ kids.flatMap JX.cs)))
   rw [Nat.zero_add, List.nil_append] at hS
   refine Bc hS (by intro X hX; repeat (first | exact hX | apply List.Mem.tail)) ?_
   refine Zo 5 (tf 6 3) hS rfl wN rfl (B4 hS CY.1 Bs.1 DE.1 rfl rfl rfl rfl (.agg rfl rfl .nil) rfl ?_); intro a w b21 hS
   refine Bc hS (by intro X hX; repeat (first | exact hX | apply List.Mem.tail)) ?_
   refine Zo 6 (tf 7 2) hS rfl wN rfl (Dd hS rfl rfl CY.1 Bs.1 Ez.1 DE.1 rfl rfl rfl (by repeat constructor) (by repeat constructor) (by rfl) (by rfl) (fun _ => (by repeat constructor)) (by omega) ?_); intro v22 a w hv22 hS
   obtain ⟨q22, c22, rfl⟩ := AN (hS.gg (X := AJ 132 4 v22 (kids.length + 1) _))
   refine Bc hS (by intro X hX; repeat (first | exact hX | apply List.Mem.tail)) ?_
   refine Un hS (ZR 1 ?_)
   refine Z0 rfl (Sb ?_)
   refine Zl ?_
   refine Wn 5 ?_
   refine Lo (Sa ?_)
   refine Wn 3 ?_
   intro a w hS
   refine Ro hS Tryz.results52 ?_
   have m1 : (kids ++ [x]).flatMap JX.cs = kids.flatMap JX.cs ++ ([.int .i64 xk, .string xs, .slice a1 a2 a3, .slice a4 a5 a6] ++ []) := by rw [List.flatMap_append, ← hxc]; simp
   have m2 : ns.flatMap AM ++ [.string (tx m)] = (ns ++ [m]).flatMap AM := by rw [List.flatMap_append]; rfl
   have l1 : kids.length + 1 = (kids ++ [x]).length := by simp
   have l2 : ns.length + 1 = (ns ++ [m]).length := by simp
   rw [← m1, m2, l1, l2] at hS
   replace hS := hS.pk (Γ' := [oR 132 4 q22 (kids ++ [x]) c22 JX.cs, oR 9 1 q14 (ns ++ [m]) c14 AM])
   have hd := (List.pairwise_cons.1 hS.dis).1 _ (.head _)
   exact ⟨((q22, c22), q14, c14), by rw [l1, l2], hS.chg, By (hS.ok _ (.head _)) (hS.ok _ (.tail _ (.head _))) hd, fun b hb => hb.elim (fun hb => (hS.mine _ (.head _) rfl b hb).resolve_right id) (fun hb => (hS.mine _ (.tail _ (.head _)) rfl b hb).resolve_right id)⟩
  refine Ey (i := 5) rfl (Ab a hS.sl) (listed' := [true, true, true, false, true, true, false, false, false]) rfl (B4 hS CY.1 Bs.1 DE.1 rfl rfl rfl rfl (.agg rfl rfl .nil) rfl ?_); intro a w b21 hS
  refine Bc hS (by intro X hX; repeat (first | exact hX | apply List.Mem.tail)) ?_
  refine Zo 3 (tf 6 3) hS rfl wN rfl (Cx hS rfl rfl CY.1 Bs.1 Ez.1 DE.1 rfl rfl rfl (by repeat constructor) (ys := kids.flatMap JX.cs) (Cc JX.cs 4 JX.len kids) (IV hS.od h1) (T7 kids) (by omega) (fun _ => (by repeat constructor)) ?_); intro v19 a w hv19 hS
  obtain ⟨q19, c19, rfl⟩ := AN (hS.gg (X := AJ 132 4 v19 (0 + kids.length) ([] ++ kids.flatMap JX.cs)))
  rw [Nat.zero_add, List.nil_append] at hS
  refine Bc hS (by intro X hX; repeat (first | exact hX | apply List.Mem.tail)) ?_
  refine Zo 6 (tf 7 2) hS rfl wN rfl (Dd hS rfl rfl CY.1 Bs.1 Ez.1 DE.1 rfl rfl rfl (by repeat constructor) (by repeat constructor) (by rfl) (by rfl) (fun _ => (by repeat constructor)) (by omega) ?_); intro v22 a w hv22 hS
  obtain ⟨q22, c22, rfl⟩ := AN (hS.gg (X := AJ 132 4 v22 (kids.length + 1) _))
  refine Bc hS (by intro X hX; repeat (first | exact hX | apply List.Mem.tail)) ?_
  refine Un hS (ZR 1 ?_)
  refine Z0 rfl (Sb ?_)
  refine Zl ?_
  refine Wn 5 ?_
  refine Lo (Sa ?_)
  refine Wn 3 ?_
  intro a w hS
  refine Ro hS Tryz.results52 ?_
  have m1 : (kids ++ [x]).flatMap JX.cs = kids.flatMap JX.cs ++ ([.int .i64 xk, .string xs, .slice a1 a2 a3, .slice a4 a5 a6] ++ []) := by rw [List.flatMap_append, ← hxc]; simp
  have m2 : ns.flatMap AM ++ [.string (tx m)] = (ns ++ [m]).flatMap AM := by rw [List.flatMap_append]; rfl
  have l1 : kids.length + 1 = (kids ++ [x]).length := by simp
  have l2 : ns.length + 1 = (ns ++ [m]).length := by simp
  rw [← m1, m2, l1, l2] at hS
  replace hS := hS.pk (Γ' := [oR 132 4 q22 (kids ++ [x]) c22 JX.cs, oR 9 1 q14 (ns ++ [m]) c14 AM])
  have hd := (List.pairwise_cons.1 hS.dis).1 _ (.head _)
  exact ⟨((q22, c22), q14, c14), by rw [l1, l2], hS.chg, By (hS.ok _ (.head _)) (hS.ok _ (.tail _ (.head _))) hd, fun b hb => hb.elim (fun hb => (hS.mine _ (.head _) rfl b hb).resolve_right id) (fun hb => (hS.mine _ (.tail _ (.head _)) rfl b hb).resolve_right id)⟩
 refine Ey (i := 5) rfl (Ab a hS.sl) (listed' := [false, true, true, false, true, true, false, false, false]) rfl (B4 hS CY.1 Bs.1 DE.1 rfl rfl rfl rfl (.agg rfl rfl .nil) rfl ?_); intro a w b21 hS
 refine Bc hS (by intro X hX; repeat (first | exact hX | apply List.Mem.tail)) ?_
 refine Zo 0 [true, true, true, false, true, true, false, false, false] hS rfl wN rfl (B4 hS CY.1 Bs.1 DE.1 rfl rfl rfl rfl .nil rfl ?_); intro a w b16 hS
 replace hS := hS.swap (X := .blk b16 [] 132) (Y := AJ 132 4 (.slice (some ⟨b16, 0, none⟩) 0 0) 0 []) (by repeat constructor) (Cg (hS.gg (X := .blk b16 [] 132))) (fun b hb => by simpa [AJ, AT.F, Value.ownBlock, eq_comm] using hb) rfl
 refine Bc hS (by intro X hX; repeat (first | exact hX | apply List.Mem.tail)) ?_
 refine Zo 3 (tf 6 3) hS rfl wN rfl (Cx hS rfl rfl CY.1 Bs.1 Ez.1 DE.1 rfl rfl rfl (by repeat constructor) (ys := kids.flatMap JX.cs) (Cc JX.cs 4 JX.len kids) (IV hS.od h1) (T7 kids) (by omega) (fun _ => (by repeat constructor)) ?_); intro v19 a w hv19 hS
 obtain ⟨q19, c19, rfl⟩ := AN (hS.gg (X := AJ 132 4 v19 (0 + kids.length) ([] ++ kids.flatMap JX.cs)))
 rw [Nat.zero_add, List.nil_append] at hS
 refine Bc hS (by intro X hX; repeat (first | exact hX | apply List.Mem.tail)) ?_
 refine Zo 6 (tf 7 2) hS rfl wN rfl (Dd hS rfl rfl CY.1 Bs.1 Ez.1 DE.1 rfl rfl rfl (by repeat constructor) (by repeat constructor) (by rfl) (by rfl) (fun _ => (by repeat constructor)) (by omega) ?_); intro v22 a w hv22 hS
 obtain ⟨q22, c22, rfl⟩ := AN (hS.gg (X := AJ 132 4 v22 (kids.length + 1) _))
 refine Bc hS (by intro X hX; repeat (first | exact hX | apply List.Mem.tail)) ?_
 refine Un hS (ZR 1 ?_)
 refine Z0 rfl (Sb ?_)
 refine Zl ?_
 refine Wn 5 ?_
 refine Lo (Sa ?_)
 refine Wn 3 ?_
 intro a w hS
 refine Ro hS Tryz.results52 ?_
 have m1 : (kids ++ [x]).flatMap JX.cs = kids.flatMap JX.cs ++ ([.int .i64 xk, .string xs, .slice a1 a2 a3, .slice a4 a5 a6] ++ []) := by rw [List.flatMap_append, ← hxc]; simp
 have m2 : ns.flatMap AM ++ [.string (tx m)] = (ns ++ [m]).flatMap AM := by rw [List.flatMap_append]; rfl
 have l1 : kids.length + 1 = (kids ++ [x]).length := by simp
 have l2 : ns.length + 1 = (ns ++ [m]).length := by simp
 rw [← m1, m2, l1, l2] at hS
 replace hS := hS.pk (Γ' := [oR 132 4 q22 (kids ++ [x]) c22 JX.cs, oR 9 1 q14 (ns ++ [m]) c14 AM])
 have hd := (List.pairwise_cons.1 hS.dis).1 _ (.head _)
 exact ⟨((q22, c22), q14, c14), by rw [l1, l2], hS.chg, By (hS.ok _ (.head _)) (hS.ok _ (.tail _ (.head _))) hd, fun b hb => hb.elim (fun hb => (hS.mine _ (.head _) rfl b hb).resolve_right id) (fun hb => (hS.mine _ (.tail _ (.head _)) rfl b hb).resolve_right id)⟩
theorem T8 : ∀ u : Nat, u ≠ 0 → Wd.dg u = Lib.decDigits u := by
 intro u
 induction u using Nat.strongRecOn with
 | ind u ih =>
   intro h
   rw [Wd.dg_pos u h]
   by_cases h2 : u < 10
   ·
    rw [B8 h2, show u / 10 = 0 by omega, Wd.dg_zero]
    show [UInt8.ofNat (48 + u % 10)] = _
    rw [Nat.mod_eq_of_lt h2]
   ·
    rw [FK h2, ih (u / 10) (by omega) (by omega)]
    rfl
theorem RM (z : Int) : Wd.text z = Lib.itoa z := by
 unfold Wd.text Lib.itoa Wd.ab
 by_cases h0 : z = 0
 · subst h0; rw [if_pos rfl, if_neg (by decide), show (0 : Int).toNat = 0 from rfl, B8 (by decide)]; rfl
 ·
  rw [if_neg h0]
  by_cases h1 : z < 0
  · rw [if_pos h1, if_pos h1, if_pos h1, T8 _ (by omega), show (-z).toNat = z.natAbs by omega]
  · rw [if_neg h1, if_neg h1, if_neg h1, T8 _ (by omega)]
theorem FN (z : Int) (hz : -9223372036854775808 ≤ z ∧ z ≤ 9223372036854775807) (b c : Nat) (w0 : World) (h : (J1 z b).ok w0) : Ae Tryz.prog 48 [Gq z (some (b, 0)) c] w0 (.string (tx (Lib.itoa z))) := by
 have := Q4 (some (b, 0)) c z (Nat.le_trans (GC (k := 5) (by omega)) (by decide)) w0 (Vq h.now (fun q e => by cases e; exact h.lt b rfl))
 rw [RM] at this
 exact this
theorem JK (z : Int) (hz : -9223372036854775808 ≤ z ∧ z ≤ 9223372036854775807) (w0 : World) : Ae Tryz.prog 55 [.int .i64 z] w0 (.agg [.int .i64 3, .string (tx (Lib.itoa z)), .slice none 0 0, .slice none 0 0].toArray) := by
 refine Eo Ai Tryz.func55 Tryz.ntmps55 ?_
 intro a hS
 refine Wh 2 hS ?_
 refine Lo (Al ?_); intro b2
 refine Wn 5 ?_
 refine Lo (cN ZY (fun _ => LH z hz _) ?_); intro x4
 refine Lo (cP ZZ (fun hS => FN z hz x4.1.1 x4.1.2 _ (hS.ok (J1 z x4.1.1) (by repeat constructor))) ?_)
 refine Wn 1 ?_
 refine Lo (Sa ?_)
 refine Wn 3 ?_
 intro a w hS
 refine Ro hS Tryz.results55 ?_
 exact ⟨rfl, hS.chg⟩
theorem RN (W0 : World) (br : Nat) (q : Option Addr) (c : Nat) (l : List UInt8) (ht : EB W0 q c l) (hb : W0.heap.size ≤ br) (p m : Nat) (hm : 0 < m) (hpm : p + m ≤ l.length) (hd : ∀ j, j < m → 48 ≤ bt l (p + j) ∧ bt l (p + j) ≤ 57) (hno : ¬ (48 ≤ bt l (p + m) ∧ bt l (p + m) ≤ 57)) (w0 : World) (h : (BQ br q c l p).φ w0) (ho : AQ W0 w0) :
 CV Tryz.prog 239 [.pointer (some ⟨br, 0, none⟩)] w0 (BQ br q c l p) (fun _ : Unit => .tuple [].toArray) (fun _ => BQ br q c l (p + m)) := by
 have hn := ht.n
 refine En [BQ br q c l p, AG W0] (fun k => k = br) Tryz.func239 Tryz.ntmps239 (B3 (BE h) (B3 (BB ho) DN)) (CT (CK (fun k h1 h2 => by have h1 : k = br := h1; have h2 : k < W0.heap.size := h2; omega) CU) Bi) (A9 (fun _ hb => hb) (BP rfl Aw)) ?_
 intro a hS
 refine Wh 4 hS ?_
 refine Lo (cM Gn (fun hS => FI W0 br q c l ht hb p (by omega) _ (hS.gg (X := BQ br q c l p)) hS.od) ?_); intro x3
 refine Lo (cP PH (fun _ => G2 (bt l p) _) ?_)
 refine Wn 3 ?_
 refine Ie 5 false rfl (by rw [decide_eq_true (show 48 ≤ bt l p ∧ bt l p ≤ 57 from hd 0 hm)]; rfl) ?_
 refine Wn 4 ?_
 intro a w hS
 refine AW (γ := Nat) (fun k a w => St 23 (fun k => k = br) w0 a w [(0, .pointer (some ⟨br, 0, none⟩))] [BQ br q c l (p + k), AG W0] ∧ k ≤ m) (fun k => m - k) 0 ⟨hS.sq, Nat.zero_le _⟩ ?_
 intro k a w hI
 obtain ⟨hS, hk⟩ := hI
 refine Wh 4 hS ?_
 refine Lo (cM Gn (fun hS => FI W0 br q c l ht hb (p + k) (by omega) _ (hS.gg (X := BQ br q c l (p + k))) hS.od) ?_); intro x13
 refine Lo (cP PH (fun _ => G2 (bt l (p + k)) _) ?_)
 refine Wn 2 ?_
 refine iD (fun hc14 => ?_) fun hc14 => ?_
 ·
  have hkm : k < m := by
   rcases Nat.lt_or_ge k m with h1 | h1
   · exact h1
   ·
    obtain rfl : k = m := by omega
    exact absurd hc14 hno
  refine Wn 4 ?_
  intro a w hS
  unfold BQ GS at hS
  refine Wh 8 hS ?_
  refine Lo (Sb ?_)
  refine Wn 2 ?_
  intro a w hS
  rw [show ((p + k : Nat) : Int) + 1 = ((p + (k + 1) : Nat) : Int) by omega] at hS
  refine ⟨k + 1, by omega, ?_, by omega⟩
  unfold BQ GS
  exact hS.sp
 refine Wn 1 ?_
 intro a w hS
 refine AH (AH (Aj ?_))
 refine CS ?_
 refine Rm hS Tryz.results239 ?_
 obtain rfl : k = m := by
  rcases Nat.lt_or_ge k m with h1 | h1
  · exact absurd (hd k h1) hc14
  · omega
 exact ⟨(), rfl, hS.chg, hS.ok (BQ br q c l (p + k)) (by repeat constructor), fun b hb => .inl hb⟩
theorem kB {l t rest : List UInt8} {p : Nat} (h : l.drop p = t ++ rest) {j : Nat} {x : UInt8} (hx : t[j]? = some x) : bt l (p + j) = (x.toNat : Int) := by
 have hj := (List.getElem?_eq_some_iff.1 hx).1
 refine Hz ?_
 rw [← List.getElem?_drop, h, List.getElem?_append_left hj, hx]
theorem bL {l t rest : List UInt8} {p : Nat} (h : l.drop p = t ++ rest) : bt l (p + t.length) = bt rest 0 := by
 unfold bt
 rw [List.getD_eq_getElem?_getD, List.getD_eq_getElem?_getD, ← List.getElem?_drop, h, List.getElem?_append_right (Nat.le_refl _), Nat.sub_self]
theorem OQ {l t rest : List UInt8} {p : Nat} (h : l.drop p = t ++ rest) (hp : p ≤ l.length) : p + t.length ≤ l.length := by
 have := congrArg List.length h
 rw [List.length_drop, List.length_append] at this
 omega
theorem Lc {l rest : List UInt8} {p : Nat} {n : Int} (h : l.drop p = Lib.itoa n ++ rest) : ∃ s m : Nat, (Lib.itoa n).length = s + m ∧ 0 < m ∧ (s = if bt l p = 45 then 1 else 0) ∧ (∀ j, j < m → 48 ≤ bt l (p + s + j) ∧ bt l (p + s + j) ≤ 57) ∧ (bt l (p + s) = 48 → m = 1) := by
 have key : ∀ (u s : Nat), (∀ j, bt l (p + s + j) = bt (Lib.decDigits u ++ rest) j) → (∀ j, j < (Lib.decDigits u).length → 48 ≤ bt l (p + s + j) ∧ bt l (p + s + j) ≤ 57) ∧ (bt l (p + s) = 48 → (Lib.decDigits u).length = 1) := fun u s hb => by
  have hat : ∀ j x, (Lib.decDigits u)[j]? = some x → bt l (p + s + j) = (x.toNat : Int) := fun j x hx => by
   rw [hb j]
   exact Hz (by rw [List.getElem?_append_left (List.getElem?_eq_some_iff.1 hx).1, hx])
  refine ⟨fun j hj => ?_, fun h48 => ?_⟩
  ·
   obtain ⟨x, hx⟩ : ∃ x, (Lib.decDigits u)[j]? = some x := ⟨_, List.getElem?_eq_getElem hj⟩
   have hd := of_decide_eq_true (Em u x (List.mem_of_getElem? hx))
   rw [hat j x hx]
   omega
  ·
   cases hu : Lib.decDigits u with
   | nil => exact absurd hu (Dk u)
   | cons x r =>
     have h0 := hat 0 x (by rw [hu]; rfl)
     rw [Nat.add_zero, h48] at h0
     have hx48 : x = 48 := by
      apply UInt8.toNat_inj.1
      show x.toNat = 48
      omega
     have := Fh u (by rw [hu, hx48]; rfl)
     subst this
     rw [B8 (by decide)] at hu
     rw [← hu]; rfl
 have hbt : ∀ s (d : List UInt8), l.drop (p + s) = d → ∀ j, bt l (p + s + j) = bt d j := fun s d hd j => by
  unfold bt
  rw [← hd, List.getD_eq_getElem?_getD, List.getD_eq_getElem?_getD, List.getElem?_drop]
 by_cases hn : n < 0
 ·
  have e : Lib.itoa n = 45 :: Lib.decDigits n.natAbs := if_pos hn
  rw [e] at h ⊢
  have h45 : bt l p = 45 := by
   have := kB h (j := 0) (x := 45) rfl
   rw [Nat.add_zero] at this
   exact this
  have h1 : l.drop (p + 1) = Lib.decDigits n.natAbs ++ rest := by rw [← List.drop_drop, h]; rfl
  obtain ⟨k1, k2⟩ := key n.natAbs 1 (hbt 1 _ h1)
  exact ⟨1, (Lib.decDigits n.natAbs).length, by rw [List.length_cons]; omega, List.length_pos_iff.2 (Dk _), by rw [if_pos h45], k1, k2⟩
 ·
  have e : Lib.itoa n = Lib.decDigits n.toNat := if_neg hn
  rw [e] at h ⊢
  obtain ⟨k1, k2⟩ := key n.toNat 0 (hbt 0 _ h)
  have hpos := List.length_pos_iff.2 (Dk n.toNat)
  have hd := k1 0 hpos
  refine ⟨0, (Lib.decDigits n.toNat).length, by omega, hpos, ?_, k1, k2⟩
  rw [if_neg]
  simp only [Nat.add_zero] at hd
  omega
section
section
variable {P : Program} {n : NN} {F0 : Nat → Prop} {w0 : World} {a : Act} {w : World} {L : List (Nat × Value)} {Γ : List AT}
variable {Q : Exit → Act → World → Prop}
def OR (L1 L : List (Nat × Value)) : Prop := ∀ t v, lk L t = some v → lk L1 t = some v
def HC (L : List (Nat × Value)) (t : Nat) : Bool := L.all fun p => !Nat.beq p.1 t
theorem OS {L : List (Nat × Value)} {t : Nat} (h : HC L t = true) : lk L t = none := by
 induction L with
 | nil => rfl
 | cons p L ih =>
   obtain ⟨s, v⟩ := p
   simp only [HC, List.all_cons, Bool.and_eq_true, Bool.not_eq_true'] at h
   simp only [lk, h.1, cond_false]
   exact ih h.2
theorem T9 {a b : Nat} (h : a ≠ b) : Nat.beq a b = false := by
 cases hb : Nat.beq a b with
 | false => rfl
 | true => exact absurd (Nat.eq_of_beq_eq_true hb) h
theorem OR.put {L1 L : List (Nat × Value)} (h : OR L1 L) {t : Nat} (v : Value) (hk : HC L t = true) : OR ((t, v) :: L1) L := by
 intro s u hs
 by_cases e : t = s
 · subst e; rw [OS hk] at hs; cases hs
 ·
  simp only [lk, T9 e, cond_false]
  exact h s u hs
structure UA (P : Program) (n : NN) (l : List Oper) (R : List Nat) (D : Nat → Nat) (Φ : Nat → Value → World → Prop) (Q : Exit → Act → World → Prop) (w : World) (L : List (Nat × Value)) (i : Nat) : Prop where
 h : ∃ dst op ty pos af, l[i]? = some ⟨dst, op, ty, pos, af, none⟩ ∧
  ∀ a1 w1 L1, Bd Ai w w1 → OR L1 L → (∀ j ∈ R, (af.any fun e => Region.binds .any e && Nat.beq e.on j) = true → ∃ v, lk L1 (D j) = some v ∧ Φ j v w1) → St n Ai w1 a1 w1 L1 [] →
   OW P ⟨dst, op, ty, pos, af, none⟩ a1 w1 (fun a2 w2 => ∃ v, Bd Ai w1 w2 ∧ Sl n a2 ((D i, v) :: L1) ∧ Φ i v w2) Q
def Ld (l : List Oper) : Bool := (List.range l.length).all fun i => match l[i]? with
 | some o => o.after.all fun e => Nat.blt e.on i
 | none => true
theorem JL {l : List Oper} (h : Ld l = true) {i : Nat} {o : Oper} (ho : l[i]? = some o) : ∀ e ∈ o.after, e.on < i := by
 have hi : i < l.length := (List.getElem?_eq_some_iff.1 ho).1
 have := List.all_eq_true.1 h i (List.mem_range.2 hi)
 rw [ho] at this
 intro e he
 have := (Array.all_eq_true'.1 this) e he
 simpa using this
def Yq (R : List Nat) (N : Nat) (listed : List Bool) : Bool := Nat.beq listed.length N && (List.range N).all fun i => R.contains i || listed.getD i true
def kC (n : NN) (l : List Oper) (R : List Nat) (D : Nat → Nat) (Φ : Nat → Value → World → Prop) (w : World) (L : List (Nat × Value)) (listed : Array Bool) (a1 : Act) (w1 : World) : Prop :=
 ∃ L1, listed.size = l.length ∧ (∀ i, i ∉ R → listed.getD i true = true) ∧ Bd Ai w w1 ∧ OR L1 L ∧ Sl n a1 L1 ∧ ∀ i ∈ R, listed.getD i false = true → ∃ v, lk L1 (D i) = some v ∧ Φ i v w1
theorem W6 {A : Array Bool} {i : Nat} (hi : i < A.size) (x y : Bool) : A.getD i x = A.getD i y := by
 simp [Array.getD, hi]
theorem Kc {A : Array Bool} {j : Nat} (h : A.getD j true = false) : 0 < A.toList.count false := by
 have hj : j < A.size := by
  rcases Nat.lt_or_ge j A.size with h' | h'
  · exact h'
  · simp [Array.getD, Nat.not_lt.2 h'] at h
 refine List.count_pos_iff.2 ?_
 have : A[j] = false := by simpa [Array.getD, hj] using h
 exact this ▸ (by simp)
theorem RO {A : Array Bool} {j : Nat} (h : A.getD j true = false) : (A.setIfInBounds j true).toList.count false + 1 = A.toList.count false := by
 have hj : j < A.size := by
  rcases Nat.lt_or_ge j A.size with h' | h'
  · exact h'
  · simp [Array.getD, Nat.not_lt.2 h'] at h
 have e : A[j] = false := by simpa [Array.getD, hj] using h
 have hp := Kc h
 rw [Array.toList_setIfInBounds, List.count_set (by simpa using hj)]
 have e2 : A.toList[j]'(by simpa using hj) = false := by simpa using e
 simp only [e2]
 have e3 : ((false == false) = true) := rfl
 have e4 : ¬ ((true == false) = true) := by decide
 rw [if_pos e3, if_neg e4]
 omega
theorem kD {l : List Oper} {Γs : List AT} {Z : List Nat} (R : List Nat) (D : Nat → Nat) (Φ : Nat → Value → World → Prop)
 (hok : ∀ X ∈ Γs, X.ok w)
 (hmono : ∀ i v w1 w2, Bd Ai w1 w2 → Φ i v w1 → Φ i v w2) (hord : Ld l = true) (hkey : ∀ i ∈ R, HC L (D i) = true) (hinj : ∀ i ∈ R, ∀ j ∈ R, D i = D j → i = j)
 (hstep : ∀ i ∈ R, UA P n l R D Φ Q w L i)
 (hend : ∀ a1 w1 L1, Bd Ai w w1 → OR L1 L → Sl n a1 L1 → (∀ i ∈ R, ∃ v, lk L1 (D i) = some v ∧ Φ i v w1) → Q .normal a1 w1) :
 ∀ (fuel : Nat) (listed : Array Bool) (a1 : Act) (w1 : World), listed.toList.count false ≤ fuel → kC n l R D Φ w L listed a1 w1 → DB P l.toArray Q (Hd Γs) Z fuel listed a1 w1 := by
 have hfin : ∀ (listed : Array Bool) (a1 : Act) (w1 : World), kC n l R D Φ w L listed a1 w1 → Region.ready .any l.toArray listed = [] → Q .normal a1 w1 := by
  intro listed a1 w1 hI hr
  obtain ⟨L1, hsz, hdone, hc, hsup, hsl, hk⟩ := hI
  have hall : ∀ N i, i < N → i < l.length → listed.getD i false = true := by
   intro N
   induction N with
   | zero => exact fun i hi => absurd hi (Nat.not_lt_zero _)
   | succ N ih =>
     intro i hi hil
     rcases Nat.lt_succ_iff_lt_or_eq.1 hi with h | rfl
     · exact ih i h hil
     ·
      by_cases hlt : listed.getD i false = true
      · exact hlt
      ·
       exfalso
       have : i ∈ Region.ready .any l.toArray listed := by
        refine mem_ready.2 ⟨?_, l[i], by simp [hil], fun e he _ => ?_⟩
        · rw [W6 (by omega) true false]; simpa using hlt
        · exact ih e.on (JL hord (List.getElem?_eq_getElem hil) e he) (Nat.lt_trans (JL hord (List.getElem?_eq_getElem hil) e he) hil)
       rw [hr] at this; cases this
  refine hend a1 w1 L1 hc hsup hsl fun i hi => ?_
  obtain ⟨dst, op, ty, pos, af, hl, -⟩ := (hstep i hi).h
  exact hk i hi (hall (i + 1) i (Nat.lt_succ_self _) (List.getElem?_eq_some_iff.1 hl).1)
 intro fuel
 induction fuel with
 | zero =>
   intro listed a1 w1 hf hI
   have hr : Region.ready .any l.toArray listed = [] := by
    refine List.eq_nil_iff_forall_not_mem.2 fun j hj => ?_
    have := Kc (mem_ready.1 hj).1
    omega
   exact ⟨hr, hfin listed a1 w1 hI hr⟩
 | succ fuel ih =>
   intro listed a1 w1 hf hI
   refine ⟨hfin listed a1 w1 hI, fun i hi => ?_⟩
   obtain ⟨hun, o, ho, hall⟩ := mem_ready.1 hi
   obtain ⟨L1, hsz, hdone, hc, hsup, hsl, hk⟩ := hI
   have hiR : i ∈ R := by
    by_cases h : i ∈ R
    · exact h
    · rw [hdone i h] at hun; cases hun
   obtain ⟨dst, op, ty, pos, af, hl, hgo⟩ := (hstep i hiR).h
   have hl' : l.toArray[i]? = some ⟨dst, op, ty, pos, af, none⟩ := by simpa using hl
   rw [hl'] at ho
   injection ho with ho
   subst ho
   have hil : i < listed.size := by rw [hsz]; exact (List.getElem?_eq_some_iff.1 hl).1
   have hpre : ∀ j ∈ R, (af.any fun e => Region.binds .any e && Nat.beq e.on j) = true → ∃ v, lk L1 (D j) = some v ∧ Φ j v w1 := by
    intro j hj he
    obtain ⟨e, hem, h2⟩ := Array.any_eq_true'.1 he
    simp only [Bool.and_eq_true] at h2
    have := hall e hem h2.1
    rw [Nat.eq_of_beq_eq_true h2.2] at this
    exact hk j hj this
   have hS1 : St n Ai w1 a1 w1 L1 [] := ⟨hsl, Bd.refl _ _, (fun X hX => by cases hX), List.Pairwise.nil, (fun X hX => by cases hX)⟩
   have hw := hgo a1 w1 L1 hc hsup hpre hS1
   unfold wpOp
   simp only [hl']
   rw [if_pos (by rfl)]
   refine .inl (Oper.wp_mono (fun a2 w2 h2 => ?_) hw.h)
   obtain ⟨v, hc2, hsl2, hΦ⟩ := h2
   refine ⟨fun _ => .inr fun X hX => ((hok X hX).keep (hc.ext hc2) (fun _ _ hf => hf)).now, ih _ a2 w2 (by have := RO hun; omega) ⟨_, by simpa using hsz, ?_, hc.ext hc2, hsup.put v (hkey i hiR), hsl2, ?_⟩⟩
   ·
    intro j hj
    rw [getD_set_ne (i := i) (j := j) true (fun e => hj (e ▸ hiR))]
    exact hdone j hj
   ·
    intro j hj hjl
    by_cases e : i = j
    ·
     subst e
     exact ⟨v, by simp [lk], hΦ⟩
    ·
     rw [getD_set_ne false e] at hjl
     obtain ⟨u, hu1, hu2⟩ := hk j hj hjl
     refine ⟨u, ?_, hmono j u w1 w2 hc2 hu2⟩
     have : Nat.beq (D i) (D j) = false := T9 fun h => e (hinj i hiR j hj h)
     simp only [lk, this, cond_false]
     exact hu1
theorem bM {l : List Oper} {Γs : List AT} {Z : List Nat} {fuel : Nat} {listed : List Bool} (hS : St n F0 w0 a w L Γ) (hsub : ∀ X ∈ Γs, X ∈ Γ) (R : List Nat) (D : Nat → Nat) (Φ : Nat → Value → World → Prop)
 (hmono : ∀ i v w1 w2, Bd Ai w1 w2 → Φ i v w1 → Φ i v w2) (hord : Ld l = true) (hkey : (R.all fun i => HC L (D i)) = true) (hinj : ∀ i ∈ R, ∀ j ∈ R, D i = D j → i = j)
 (hdone : Yq R l.length listed = true) (hcnt : Nat.ble (listed.count false) fuel = true) (hnone : ∀ i ∈ R, listed.getD i false = false)
 (hstep : ∀ i ∈ R, UA P n l R D Φ Q w L i)
 (hend : ∀ a1 w1 L1, Bd Ai w w1 → OR L1 L → Sl n a1 L1 → (∀ i ∈ R, ∃ v, lk L1 (D i) = some v ∧ Φ i v w1) → Q .normal a1 w1) :
 DB P l.toArray Q (Hd Γs) Z fuel listed.toArray a w := by
 simp only [Yq, Bool.and_eq_true] at hdone
 have hlen := Nat.eq_of_beq_eq_true hdone.1
 refine kD R D Φ (fun X hX => hS.ok X (hsub X hX)) hmono hord (fun i hi => List.all_eq_true.1 hkey i hi) hinj hstep hend fuel _ a w (by simpa using Nat.le_of_ble_eq_true hcnt) ⟨L, by simpa using hlen, ?_, Bd.refl _ _, fun _ _ h => h, hS.sl, ?_⟩
 ·
  intro i hi
  rcases Nat.lt_or_ge i l.length with h | h
  ·
   have := List.all_eq_true.1 hdone.2 i (List.mem_range.2 h)
   simp only [Bool.or_eq_true, List.contains_iff_mem] at this
   rcases this with h' | h'
   · exact absurd h' hi
   · simpa using h'
  · simp [Array.getD, hlen, Nat.not_lt.2 h]
 ·
  intro i hi hl
  have := hnone i hi
  have : listed.toArray.getD i false = false := by simpa using this
  rw [this] at hl; cases hl
end
end
theorem Bn {a b : List UInt8} (h : tx a = tx b) : a = b := congrArg (fun x : ByteArray => x.data.toList) h
theorem Mx (nm : List UInt8) : ∀ (ns : List (List UInt8)) (k : Nat), (nm ∉ ns ∧ Lib.idxFromS (ns.map tx) (tx nm) k = -1) ∨ ∃ i, ns[i]? = some nm ∧ (∀ j, j < i → ns[j]? ≠ some nm) ∧ Lib.idxFromS (ns.map tx) (tx nm) k = ((k + i : Nat) : Int)
 | [], k => .inl ⟨by simp, rfl⟩
 | x :: l, k => by
   by_cases h : x = nm
   ·
    subst h
    exact .inr ⟨0, rfl, fun j hj => by omega, by simp [Lib.idxFromS]⟩
   ·
    have h2 : tx x ≠ tx nm := fun e => h (Bn e)
    have e : Lib.idxFromS ((x :: l).map tx) (tx nm) k = Lib.idxFromS (l.map tx) (tx nm) (k + 1) := by
     rw [List.map_cons]; simp [Lib.idxFromS, h2]
    rcases Mx nm l (k + 1) with ⟨h3, h4⟩ | ⟨i, h3, h4, h5⟩
    · exact .inl ⟨by simp [h3]; exact fun e => h e.symm, by rw [e, h4]⟩
    ·
     refine .inr ⟨i + 1, h3, fun j hj => ?_, by rw [e, h5]; omega⟩
     cases j with
     | zero => intro h6; exact h (by simpa using h6)
     | succ j => exact h4 j (by omega)
theorem My (nm : List UInt8) (ns : List (List UInt8)) : (nm ∉ ns ∧ Lib.idxOfS (ns.map tx) (tx nm) = -1) ∨ ∃ i : Nat, ns[i]? = some nm ∧ (∀ j : Nat, j < i → ns[j]? ≠ some nm) ∧ Lib.idxOfS (ns.map tx) (tx nm) = (i : Int) := by
 rcases Mx nm ns 0 with h | ⟨i, h1, h2, h3⟩
 · exact .inl h
 · exact .inr ⟨i, h1, h2, by unfold Lib.idxOfS; rw [h3, Nat.zero_add]⟩
theorem IW {nm : List UInt8} : ∀ {ns : List (List UInt8)} {l : List JV} {i : Nat}, ns[i]? = some nm → (∀ j, j < i → ns[j]? ≠ some nm) → ((ns.zip l).find? fun p => p.1 == nm).map (·.2) = l[i]?
 | [], _, i, h, _ => by simp at h
 | x :: ns, [], i, h, _ => by simp
 | x :: ns, v :: l, 0, h, _ => by
   obtain rfl : x = nm := by simpa using h
   simp
 | x :: ns, v :: l, i + 1, h, h2 => by
   have hx : x ≠ nm := fun e => h2 0 (by omega) (by rw [e]; rfl)
   have := IW (ns := ns) (l := l) (i := i) h (fun j hj => h2 (j + 1) (by omega))
   simp [hx, this]
theorem Pu {nm : List UInt8} {ns : List (List UInt8)} {l : List JV} (h : nm ∉ ns) : ((ns.zip l).find? fun p => p.1 == nm).map (·.2) = none := by
 rw [List.find?_eq_none.2]
 · rfl
 ·
  intro p hp
  have := (List.of_mem_zip hp).1
  simp
  intro e
  exact h (e ▸ this)
theorem UB (W0 : World) (sa : Option Addr) (sc : Nat) (names : List (List UInt8)) (hT : Ff W0 sa names) (hn : names.length ≤ 1000000) (nm : List UInt8) (w0 : World) (ho : AQ W0 w0) : Ae Tryz.prog 154 [.slice sa names.length sc, .string (tx nm)] w0 (.int .i64 (Lib.idxOfS (names.map tx) (tx nm))) := by
 by_cases hne : names = []
 ·
  subst hne
  exact (Tryz.slices_Index_string_empty sa sc (tx nm) w0).mono fun e w' ⟨he, hw⟩ => ⟨he, by rw [hw]; exact Bd.refl _ _⟩
 ·
  obtain ⟨nb, no, rfl, hc⟩ := hT.at_ hne
  have := Tryz.slices_Index_string nb no names.length sc (names.map tx) (tx nm) w0 (by simp) (by omega) (fun j hj => by
    have hj' : j < names.length := by simpa using hj
    rw [AF ho (hc j _ (List.getElem?_eq_getElem hj'))]
    simp [hj'])
  refine this.mono fun e w' ⟨he, hw⟩ => ⟨?_, by rw [hw]; exact Bd.refl _ _⟩
  rw [he, List.take_of_length_le (by simp)]
def bN (v : JV) (nm : List UInt8) : Type := { x : JX // CI v nm = some x.v } ⊕ { _u : Unit // CI v nm = none }
def qX (v : JV) (nm : List UInt8) : bN v nm → Value
 | .inl x => .tuple [.agg x.1.cs.toArray, .bool true].toArray
 | .inr _ => .tuple [.agg BM.toArray, .bool false].toArray
def kE (n : Nat) (v : JV) (nm : List UInt8) : bN v nm → AT
 | .inl x => Be n x.1
 | .inr _ => A7
theorem UC (W0 : World) (n : Nat) (v : JV) (cs : List Value) (nm : List UInt8) (w0 : World) (hj : DZ (n + 1) v cs W0) (hsm : Fy (n + 1) v) (hold : AQ W0 w0) :
 Bb Tryz.prog 112 [.agg cs.toArray, .string (tx nm)] w0 (qX v nm) (kE n v nm) := by
 cases v with
 | mk kd t ns l =>
 obtain ⟨lv, nv, rows, rfl, hn1, hn2, hn3, hn4⟩ := hj
 obtain ⟨na, nc, rfl, hT⟩ := FM hn1
 obtain ⟨la, lc, rfl⟩ := hn2.shape
 obtain ⟨hs1, hs2, hs3, hs4, hs5⟩ := hsm
 obtain ⟨ix, hix⟩ : ∃ i, Lib.idxOfS (ns.map tx) (tx nm) = i := ⟨_, rfl⟩
 have hsp := My nm ns
 rw [hix] at hsp
 refine Ew Ai Tryz.func112 Tryz.ntmps112 hold ?_
 intro a hS
 refine Wh 2 hS ?_
 refine Lo (Bx ?_); intro b2
 refine Lo (Al ?_); intro b4
 refine Wn 8 ?_
 refine Lo (cP iO (fun hS => UB W0 na nc ns hT hs2 nm _ hS.od) ?_)
 intro a w hS
 rw [hix] at hS
 refine Wh 10 hS ?_
 refine Lm 3 17 (.bool (decide (kd ≠ 6 ∨ ix < 0))) ?_ ?_
 ·
  intro hcM17
  refine Gd 14 ?_ ?_ <;> intro hg14
  ·
   refine Wn 3 ?_
   exact Et 4 17 14 hcM17 rfl ((decide_eq_true (.inl (by omega))).symm) hg14
  refine Wn 3 ?_
  exact Ef 4 17 14 hcM17 rfl (decide_eq_decide.2 (by omega)) hg14
 ·
  refine Wn 1 ?_
  refine Lm 6 24 (.bool (decide ((kd ≠ 6 ∨ ix < 0) ∨ (rows.length : Int) ≤ ix))) ?_ ?_
  ·
   intro hcM24
   refine Gd 18 ?_ ?_ <;> intro hg18
   ·
    refine Wn 6 ?_
    exact Et 7 24 18 hcM24 rfl ((decide_eq_true (.inl (by assumption))).symm) hg18
   refine Wn 6 ?_
   exact Ef 7 24 18 hcM24 rfl (decide_eq_decide.2 (by omega)) hg18
  ·
   refine Wn 2 ?_
   refine iD (fun hc24 => ?_) fun hc24 => ?_
   ·
    have hno : CI (.mk kd t ns l) nm = none := by
     unfold CI
     split
     ·
      rename_i hk6
      have hk6 : kd = 6 := hk6
      rcases hsp with ⟨h1, _⟩ | ⟨i, h1, h2, h3⟩
      · exact Pu h1
      ·
       show ((ns.zip l).find? fun p => p.1 == nm).map (·.2) = none
       rw [IW h1 h2, List.getElem?_eq_none (by omega)]
     · rfl
    refine Wn 3 ?_
    refine Lo (Sa ?_)
    refine Wn 5 ?_
    intro a w hS
    refine Rm hS Tryz.results112 ?_
    exact ⟨.inr ⟨(), hno⟩, rfl, hS.chg, AL _, fun b h => h.elim⟩
   have hk6 : kd = 6 := by omega
   obtain ⟨i, h1, h2, h3⟩ : ∃ i : Nat, ns[i]? = some nm ∧ (∀ j : Nat, j < i → ns[j]? ≠ some nm) ∧ ix = (i : Int) := by
    rcases hsp with ⟨_, h⟩ | h
    · omega
    · exact h
   have hil : i < rows.length := by omega
   subst h3
   obtain ⟨lb, lo, lc', e3, hlb, hcl⟩ := FL hn2 (fun e => by rw [e] at hil; exact absurd hil (Nat.not_lt_zero _))
   injection e3 with e3 _ _
   subst e3
   obtain ⟨v, hv⟩ : ∃ x, l[i]? = some x := ⟨_, List.getElem?_eq_getElem (by omega)⟩
   obtain ⟨r, hr⟩ : ∃ x, rows[i]? = some x := ⟨_, List.getElem?_eq_getElem hil⟩
   have hjv := hn4 _ v r hv hr
   obtain ⟨lv2, nv2, ⟨a1, a2, a3, rfl⟩, ⟨a4, a5, a6, rfl⟩, hrc⟩ := hjv.four
   subst hrc
   have hyes : CI (.mk kd t ns l) nm = some v := by
    unfold CI
    rw [if_pos (show (JV.mk kd t ns l).k = 6 from hk6)]
    show ((ns.zip l).find? fun p => p.1 == nm).map (·.2) = some v
    rw [IW h1 h2, hv]
   refine Wn 7 ?_
   refine Xp (BI rfl rfl Gg.1 Cb.1 hil) ?_
   refine Xp (BV (l := [.int .i64 (v.k : Int), .string (tx v.t), .slice a1 a2 a3, .slice a4 a5 a6]) rfl Ea.1 Cb.1 (fun w hh j x hx => AF (hh (AG W0) (by repeat constructor)) (hcl _ _ hr j x hx))) ?_
   refine Lo (cN YU (fun hS => Ps W0 n v _ _ hjv (hs5 v (List.mem_of_getElem? hv)) hS.od) ?_); intro x31
   obtain ⟨x, hxv⟩ := x31
   intro a w hS
   simp only at hS
   obtain ⟨lv3, nv3, ⟨c1, c2, c3, rfl⟩, ⟨c4, c5, c6, rfl⟩, hcs⟩ := DZ.four (hS.get (X := Be n x) (.head _))
   rw [hcs] at hS
   refine Un hS (Lo (Sa ?_))
   refine Wn 4 ?_
   intro a w hS
   refine Rm hS Tryz.results112 ?_
   exact ⟨.inl ⟨x, by rw [hxv]; exact hyes⟩, by show _ = Ending.returned (Value.tuple [.agg x.cs.toArray, .bool true].toArray); rw [hcs], hS.chg, hS.ok (Be n x) (by repeat constructor), fun b hb => (hS.mine (Be n x) (by repeat constructor) rfl b hb).resolve_right (fun h => h)⟩
section
theorem Pv (p : Nat → Bool) (hp : ∀ r, 128 ≤ r → p r = true) (s : ByteArray) : ∀ (f pos : Nat), s.size ≤ f + pos → decide (0 ≤ Lib.idxFuncFrom p true s f pos) = (s.data.toList.drop pos).any (fun b => p b.toNat)
 | 0, pos, h => by
   rw [List.drop_eq_nil_of_le (by simp at h ⊢; omega)]; rfl
 | f + 1, pos, h => by
   unfold Lib.idxFuncFrom
   by_cases hpos : pos < s.size
   ·
    rw [if_pos hpos]
    have hd : s.data.toList.drop pos = s[pos] :: s.data.toList.drop (pos + 1) := by
     have hl : pos < s.data.toList.length := by simpa using hpos
     rw [List.drop_eq_getElem_cons hl]; rfl
    rw [hd, List.any_cons]
    by_cases ha : (s[pos]'hpos).toNat < 128
    ·
     rw [Go.decode_ascii s pos hpos ha]
     simp only
     by_cases hb : p (s[pos]'hpos).toNat = true
     · rw [if_pos hb, hb, Bool.true_or]; exact decide_eq_true (by omega)
     ·
      rw [if_neg hb, Pv p hp s f (pos + 1) (by omega)]
      simp only [Bool.not_eq_true] at hb
      rw [hb, Bool.false_or]
    ·
     have hh := (Go.decode_high s pos hpos (by omega)).1
     rw [if_pos (hp _ hh), hp _ (show 128 ≤ (s[pos]'hpos).toNat by omega), Bool.true_or]; exact decide_eq_true (by omega)
   · rw [if_neg hpos, List.drop_eq_nil_of_le (by simp; omega)]; rfl
theorem W7 (p : Nat → Bool) (hp : ∀ r, 128 ≤ r → p r = true) (s : ByteArray) : decide (0 ≤ Lib.idxFunc p true s) = s.data.toList.any (fun b => p b.toNat) := by
 have := Pv p hp s s.size 0 (by omega)
 rw [List.drop_zero] at this; exact this
theorem JM (g : Nat) (p : Nat → Bool) (cfg : AA Tryz.prog g) (hg : ∀ (r : Nat) w, r ≤ 1114111 → Ae Tryz.prog g [.int .i32 (r : Int)] w (.bool (p r))) (hp : ∀ r, 128 ≤ r → p r = true) (s : ByteArray) (w : World) :
 Ae Tryz.prog 133 [.string s, .func (.func g) #[] #[]] w (.bool (s.data.toList.any fun b => p b.toNat)) := by
 have h := Tryz.strings_ContainsFunc_grows g #[] cfg p s w (fun W x hx _ => (hg x W hx).mono fun _ _ ⟨he, hc⟩ => ⟨he, hc.below⟩)
 rw [W7 p hp s] at h
 exact h.mono fun _ _ ⟨he, hb⟩ => ⟨he, Bd.of_below hb⟩
structure Gj (W : World) : Prop where
 u8 : Lib.Utf8Tabs 0 1 W
 er : ∃ ev, W.cell? ⟨5, 0, none⟩ = some ev ∧ (ev = .nilIface ∨ ∃ te pe, ev = .iface te pe)
 tab : ∀ w, AQ W w → Lib.TabIs Tryz.prog w "internal/strconv.uint64pow10" .u64 Lib.pow10Tab
 m : ∃ m, W.cell? ⟨2, 0, none⟩ = some (.int .i64 m)
theorem RP {W w w' : World} (h : AQ W w) (h2 : AQ w w') : AQ W w' := ⟨Nat.le_trans h.1 h2.1, fun k hk => (h2.2 k (Nat.lt_of_lt_of_le hk h.1)).trans (h.2 k hk)⟩
theorem Gj.keep {W w : World} (hG : Gj W) (h : AQ W w) : Gj w := by
 obtain ⟨m, hm⟩ := hG.m
 obtain ⟨ev, he, he2⟩ := hG.er
 exact ⟨⟨fun c hc => AF h (hG.u8.1 c hc), fun i hi => ⟨AF h (hG.u8.2 i hi).1, AF h (hG.u8.2 i hi).2⟩⟩, ⟨ev, AF h he, he2⟩, fun w' h' => hG.tab w' (RP h h'), ⟨m, AF h hm⟩⟩
theorem JN (W0 : World) (hG : Gj W0) (n : Int) (h0 : -9223372036854775808 ≤ n) (h1 : n ≤ 9223372036854775807) (w0 : World) (ho : AQ W0 w0) : Ae Tryz.prog 69 [.int .i64 n] w0 (.string (tx (Lib.itoa n))) :=
 (Tryz.strconv_Itoa n h0 h1 w0 (hG.tab w0 ho)).mono fun e w' ⟨he, k, os, hw⟩ => ⟨he, by
   rw [hw]
   have c1 := Bd.of_below (Go.Proofs.below_drewNg w0 k)
   refine ⟨c1.os, c1.tape, c1.output, Nat.le_trans c1.size (by simp [Go.Sort.grow]), fun i hi h => ?_⟩
   rw [Go.Sort.heap_grow_old _ _ (Nat.lt_of_lt_of_le hi c1.size)]
   exact c1.block i hi h⟩
section
variable {P : Program} {n : NN} {a : Act} {L : List (Nat × Value)} {Γ : List AT} {dst : Option Nat} {ty : Nat} {pos : String} {af : Array Edge} {g : Option (Nat × Bool)}
theorem bO {t t' : TypeId} {x : Operand} {v : Value} {c : Bool} (hx : ev L x = some v) (hu : P.underlying t = some (.interface (P.methodsAt t))) (hv : (v = .nilIface ∧ c = false) ∨ ((∃ u p, v = .iface u p) ∧ c = true)) : Ex P n a L Γ ⟨dst, .binOp .neq t x (.const .nilIface) t', ty, pos, af, g⟩ (.bool c) := fun hs w hh => by
 rcases hv with ⟨rfl, rfl⟩ | ⟨⟨u, p, rfl⟩, rfl⟩
 ·
  have := run_neq_nil_nil (P := P) w t hu
  have he : a.eval (.const .nilIface) = .nilIface := rfl
  simp [execOp, hs.ev hx, he, eqGuard_nil_constR, this]
 ·
  have := run_neq_held_nil (P := P) w t u p hu
  have he : a.eval (.const .nilIface) = .nilIface := rfl
  simp [execOp, hs.ev hx, he, eqGuard, this]
end
end
def W8 (r : Nat) : Bool := decide (r < 48 ∨ 57 < r)
theorem W9 (r : Nat) (hr : r ≤ 1114111) (w0 : World) : Ae Tryz.prog 238 [.int .i32 (r : Int)] w0 (.bool (W8 r)) := by
 refine Eo Ai Tryz.func238 Tryz.ntmps238 ?_
 intro a hS
 refine Wh 10 hS ?_
 refine Lm 3 8 (.bool (decide (r < 48 ∨ 57 < r))) ?_ ?_
 ·
  intro hcM8
  refine Gd 5 ?_ ?_ <;> intro hg5
  ·
   refine Wn 3 ?_
   exact Et 4 8 5 hcM8 rfl ((decide_eq_true (.inl (by omega))).symm) hg5
  refine Wn 3 ?_
  exact Ef 4 8 5 hcM8 rfl (decide_eq_decide.2 (by omega)) hg5
 ·
  refine Wn 4 ?_
  intro a w hS
  refine Ro hS Tryz.results238 ?_
  exact ⟨rfl, hS.chg⟩
theorem Mz (t : List UInt8) : Lib.trimPrefix t [45] = Bt t ∧ Lib.hasPrefix t [45] = decide (t.head? = some 45) := by
 cases t with
 | nil => exact ⟨rfl, rfl⟩
 | cons c r =>
   by_cases h : c = 45
   · subst h; exact ⟨rfl, rfl⟩
   ·
    have h2 : ¬ c.toNat = 45 := fun e => h (UInt8.toNat_inj.1 e)
    constructor
    · simp [Lib.trimPrefix, Lib.hasPrefix, Bt, h2]; exact fun e => h e.symm
    · simp [Lib.hasPrefix, List.isPrefixOf, h]; exact fun e => h e.symm
theorem XA (l : List UInt8) : (l.any fun b => W8 b.toNat) = decide (¬ ∀ x ∈ l, MS x = true) := by
 rw [Bool.eq_iff_iff, decide_eq_true_iff, List.any_eq_true]
 constructor
 ·
  rintro ⟨x, hx, h⟩ h2
  have h3 := of_decide_eq_true (h2 x hx)
  have h4 := of_decide_eq_true h
  omega
 ·
  intro h
  apply Classical.byContradiction
  intro h2
  refine h fun x hx => decide_eq_true ?_
  have : ¬ W8 x.toNat = true := fun h3 => h2 ⟨x, hx, h3⟩
  have h4 : ¬ (x.toNat < 48 ∨ 57 < x.toNat) := fun h5 => this (decide_eq_true h5)
  omega
def pN {α : Type} (r : Lib.NumEnd α) : Prop := (∃ v, r = .ok v) ∨ r = .range
theorem OT {l : List UInt8} (h : ∀ x ∈ l, MS x = true) (k : Nat) : pN (Lib.parseUint10 k l) := by
 induction l generalizing k with
 | nil => exact .inl ⟨_, rfl⟩
 | cons c r ih =>
   rw [GT, if_pos (of_decide_eq_true (h c (.head _)))]
   split
   · exact .inr rfl
   ·
    split
    · exact .inr rfl
    · exact ih (fun x hx => h x (.tail _ hx)) _
theorem UD {t : List UInt8} (h : Eh t) : pN (Lib.atoiAll t) := by
 have hm : pN (Lib.parseMag (Bt t)) := by unfold Lib.parseMag; rw [if_neg h.1]; exact OT h.2.1 0
 cases t with
 | nil => exact absurd rfl h.1
 | cons c r =>
   by_cases hc : c = 45
   ·
    subst hc
    rw [Lib.atoiAll_minus]
    have e : Bt (45 :: r) = r := rfl
    rw [e] at hm
    rcases hm with ⟨u, hp⟩ | hp
    · rw [hp]; unfold Lib.signed; simp only; split <;> first | exact .inl ⟨_, rfl⟩ | exact .inr rfl
    · rw [hp]; exact .inr rfl
   ·
    have h2 : ¬ c.toNat = 45 := fun e => hc (UInt8.toNat_inj.1 e)
    have e : Bt (c :: r) = c :: r := if_neg h2
    have hd := of_decide_eq_true (h.2.1 c (by rw [e]; exact .head _))
    rw [Lib.atoiAll_plain c r (by omega) h2]
    rw [e] at hm
    rcases hm with ⟨u, hp⟩ | hp
    · rw [hp]; unfold Lib.signless; simp only; split <;> first | exact .inl ⟨_, rfl⟩ | exact .inr rfl
    · rw [hp]; exact .inr rfl
def Kd (t : List UInt8) : Bool := !decide (Eh t)
theorem Lf {t : List UInt8} : Kd t = true ↔ ¬ Eh t := by unfold Kd; simp
theorem Pw {t : List UInt8} : Kd t = false ↔ Eh t := by unfold Kd; simp
theorem EN {l : List UInt8} : tx l = ⟨#[]⟩ ↔ l = [] := ⟨fun h => Bn (b := []) h, fun h => by rw [h]; rfl⟩
theorem OU (t : List UInt8) (w : World) : Ae Tryz.prog 110 [.string (tx t), .string ⟨#[45]⟩] w (.tuple [.string (tx (Bt t)), .bool (decide (t.head? = some 45))].toArray) :=
 (Tryz.strings_CutPrefix (tx t) ⟨#[45]⟩ w).mono fun e w' ⟨he, hw⟩ => ⟨by rw [he]; show Ending.returned (Value.tuple #[.string (tx (Lib.trimPrefix t [45])), .bool (Lib.hasPrefix t [45])]) = _; rw [(Mz t).1, (Mz t).2], by rw [hw]; exact Bd.refl _ _⟩
def XB (t : List UInt8) (x : Int × Value) : Prop := (Lib.atoiAll t = .ok x.1 ∧ x.2 = .nilIface) ∨ (Lib.atoiAll t = .range ∧ ∃ u p, x.2 = .iface u p)
theorem XC (W0 : World) (hG : Gj W0) (t : List UInt8) (hc : Eh t) (hl : t.length ≤ 10000000) (w0 : World) (ho : AQ W0 w0) : Bb Tryz.prog 153 [.string (tx t)] w0 (fun x : { x : Int × Value // XB t x } => .tuple [.int .i64 x.1.1, x.1.2].toArray) (fun _ => A7) := by
 have hs := BA t
 rcases UD hc with ⟨v, h⟩ | h
 rotate_left
 ·
  obtain ⟨ev, he, he2⟩ := (hG.keep ho).er
  exact (Tryz.strconv_Atoi_range (tx t) (by omega) h ev w0 he he2).mono fun e w' ⟨N, he, _, _, hb⟩ => ⟨⟨(_, _), .inr ⟨h, _, _, rfl⟩⟩, he, Bd.of_below hb, AL _, fun b hb => hb.elim⟩
 ·
  refine (Tryz.strconv_Atoi_ok (tx t) (by omega) v h w0).mono fun e w' ⟨he, hw⟩ => ⟨⟨(v, .nilIface), .inl ⟨h, rfl⟩⟩, he, ?_, AL _, fun b hb => hb.elim⟩
  rcases hw with rfl | ⟨s, rfl⟩
  · exact Bd.refl _ _
  · exact Bd.of_below (Lib.bytesWorld_below _ _ _)
theorem bP (W0 : World) (hG : Gj W0) (v : JV) (a1 a4 : Option Addr) (a2 a3 a5 a6 : Nat) (hl : v.t.length ≤ 10000000) (w0 : World) (ho : AQ W0 w0) : Ae Tryz.prog 194 [.agg [.int .i64 (v.k : Int), .string (tx v.t), .slice a1 a2 a3, .slice a4 a5 a6].toArray] w0 (.tuple [.int .i64 (D1 v).1, .int .i64 (D1 v).2].toArray) := by
 obtain ⟨k, t, ns, l⟩ := v
 simp only [JV.k, JV.t] at hl ⊢
 have hsz := BA (Bt t)
 refine Ew Ai Tryz.func194 Tryz.ntmps194 ho ?_
 intro a hS
 refine Wh 2 hS ?_
 refine Lo (Bx ?_); intro b1
 refine Wn 12 ?_
 refine iD (fun hc11 => ?_) fun hc11 => ?_
 ·
  refine Wn 8 ?_
  intro a w hS
  refine Rm hS Tryz.results194 ?_
  exact ⟨by unfold D1; rw [if_pos (show (JV.mk k t ns l).k ≠ 3 from fun e => hc11 (by have e : k = 3 := e; omega))], hS.chg⟩
 refine Wn 6 ?_
 refine Lo (cP PD (fun _ => OU t _) ?_)
 refine Wn 18 ?_
 refine Lm 4 24 (.bool (decide (Bt t = [] ∨ ¬ ∀ x ∈ Bt t, MS x = true))) ?_ ?_
 ·
  intro hcM24
  refine Gd 20 ?_ ?_ <;> intro hg20
  ·
   refine Wn 4 ?_
   exact Et 5 24 20 hcM24 rfl ((decide_eq_true (.inl (EN.1 hg20))).symm) hg20
  refine Wn 2 ?_
  refine Lg (cP YR (@fun a w hS => JM 238 W8 jC (fun r w hr => W9 r hr w) (fun r hr => decide_eq_true (by omega)) (tx (Bt t)) _) ?_)
  intro a w hS
  rw [show (tx (Bt t)).data.toList = Bt t from rfl, XA] at hS
  refine Wh 1 hS ?_
  exact Ef 5 24 20 hcM24 rfl (decide_eq_decide.2 ⟨.inr, fun h => h.resolve_left fun e => hg20 (EN.2 e)⟩) hg20
 ·
  refine Wn 1 ?_
  refine Lm 12 37 (.bool (Kd t)) ?_ ?_
  ·
   intro hcM37
   refine Gd 25 ?_ ?_ <;> intro hg25
   ·
    refine Wn 12 ?_
    exact Et 13 37 25 hcM37 rfl (by symm; rw [Lf]; exact fun h => hg25.elim h.1 fun h2 => h2 h.2.1) hg25
   have hne : Bt t ≠ [] := fun e => hg25 (.inl e)
   have hdg : ∀ x ∈ Bt t, MS x = true := Classical.not_not.1 (fun e => hg25 (.inr e))
   obtain ⟨c, r, hcr⟩ : ∃ c r, Bt t = c :: r := by
    cases h : Bt t with
    | nil => exact absurd h hne
    | cons c r => exact ⟨c, r, rfl⟩
   have h27 : (tx (Bt t)).data.toList.getD (Int.toNat 0) 0 = c := by rw [hcr]; rfl
   have hhd : (Bt t).head? = some 48 ↔ c.toNat = 48 := by
    rw [hcr]
    constructor
    ·
     intro h; have : c = 48 := by simpa using h
     rw [this]; rfl
    ·
     intro h; have : c = 48 := UInt8.toNat_inj.1 h
     rw [this]; rfl
   have hcan : ¬ Eh t ↔ (c.toNat = 48 ∧ (1 < (Bt t).length ∨ t.head? = some 45)) := by
    unfold Eh
    rw [hhd]
    constructor
    · intro h; exact Classical.byContradiction fun h2 => h ⟨hne, hdg, h2⟩
    · intro h h2; exact h2.2.2 h
   refine Wn 1 ?_
   refine Xg (O5 rfl rfl Dp.1 (by rw [hsz, hcr]; simp)) ?_
   intro a w hS
   rw [h27] at hS
   refine Wh 2 hS ?_
   refine Lm 7 36 (.bool (Kd t)) ?_ ?_
   ·
    intro hcM36
    refine Gd 29 ?_ ?_ <;> intro hg29
    ·
     refine Wn 4 ?_
     refine Lm 2 35 (.bool (decide (1 < (Bt t).length ∨ t.head? = some 45))) ?_ ?_
     ·
      intro hcM35
      refine Gd 33 ?_ ?_ <;> intro hg33
      ·
       refine Wn 2 ?_
       exact Et 3 35 33 hcM35 rfl ((decide_eq_true (.inl (by omega))).symm) hg33
      refine Wn 2 ?_
      exact Ef 3 35 33 hcM35 rfl (decide_eq_decide.2 ⟨.inr, fun h => h.resolve_left fun e => hg33 (by omega)⟩) hg33
     ·
      refine Wn 1 ?_
      exact Et 7 36 29 hcM36 rfl (by rw [Bool.eq_iff_iff, decide_eq_true_iff, Lf, hcan]; exact ⟨fun h => ⟨by omega, h⟩, fun h => h.2⟩) hg29
    refine Wn 7 ?_
    exact Ef 8 36 29 hcM36 rfl (by symm; rw [Pw]; exact Classical.not_not.1 (fun h => hg29 (by have := (hcan.1 h).1; omega))) hg29
   ·
    refine Wn 1 ?_
    exact Ef 7 37 25 hcM37 rfl (by rfl) hg25
  ·
   refine Wn 2 ?_
   refine iB (fun hc37 => ?_) fun hc37 => ?_
   ·
    have hc : ¬ Eh t := Lf.1 hc37
    refine Wn 8 ?_
    intro a w hS
    refine Rm hS Tryz.results194 ?_
    exact ⟨by unfold D1; rw [if_neg (fun e => e (show k = 3 by omega)), if_pos (show ¬ Eh (JV.mk k t ns l).t from hc)], hS.chg⟩
   have hc : Eh t := Pw.1 hc37
   refine Wn 6 ?_
   refine Lo (cN YT (fun hS => XC W0 hG t hc hl _ hS.od) ?_); intro x41
   obtain ⟨⟨z, ev⟩, hz⟩ := x41
   intro a w hS
   simp only at hS
   refine Wh 11 hS ?_
   refine Xp (bO (c := decide (Lib.atoiAll t = .range)) rfl S8.1 (by rcases hz with ⟨h1, h2⟩ | ⟨h1, h2⟩; exact .inl ⟨h2, decide_eq_false (by rw [h1]; intro e; cases e)⟩; exact .inr ⟨h2, decide_eq_true h1⟩)) ?_
   refine Wn 2 ?_
   refine iD (fun hc45 => ?_) fun hc45 => ?_
   ·
    refine Wn 8 ?_
    intro a w hS
    refine Rm hS Tryz.results194 ?_
    exact ⟨by unfold D1; rw [if_neg (fun e => e (show k = 3 by omega)), if_neg (fun e => e hc), show (JV.mk k t ns l).t = t from rfl, hc45], hS.chg⟩
   refine Wn 10 ?_
   intro a w hS
   refine Rm hS Tryz.results194 ?_
   exact ⟨by
      rcases hz with ⟨h1, h2⟩ | ⟨h1, h2⟩
      · unfold D1; rw [if_neg (fun e => e (show k = 3 by omega)), if_neg (fun e => e hc), show (JV.mk k t ns l).t = t from rfl, h1]
      · exact absurd h1 hc45, hS.chg⟩
theorem JO (W0 : World) (hG : Gj W0) (n : Int) (h0 : -9223372036854775808 ≤ n) (h1 : n ≤ 9223372036854775807) (w0 : World) (ho : AQ W0 w0) : Ae Tryz.prog 87 [.int .i64 n] w0 (.agg (Ca 3 (tx (Lib.itoa n)) none 0 0 none 0 0).toArray) := by
 refine Ew Ai Tryz.func87 Tryz.ntmps87 ho ?_
 intro a hS
 refine Wh 2 hS ?_
 refine Lo (Al ?_); intro b2
 refine Wn 5 ?_
 refine Lo (cP S1 (fun hS => JN W0 hG n h0 h1 _ hS.od) ?_)
 refine Wn 1 ?_
 refine Lo (Sa ?_)
 refine Wn 3 ?_
 intro a w hS
 refine Ro hS Tryz.results87 ?_
 exact ⟨rfl, hS.chg⟩
theorem Ke (s : ByteArray) (w0 : World) : Ae Tryz.prog 85 [.string s] w0 (.agg (Ca 4 s none 0 0 none 0 0).toArray) := by
 refine Eo Ai Tryz.func85 Tryz.ntmps85 ?_
 intro a hS
 refine Wh 2 hS ?_
 refine Lo (Al ?_); intro b2
 refine Wn 6 ?_
 refine Lo (Sa ?_)
 refine Wn 3 ?_
 intro a w hS
 refine Ro hS Tryz.results85 ?_
 exact ⟨rfl, hS.chg⟩
theorem M0 (W0 : World) (hG : Gj W0) (v : JV) (a1 a4 : Option Addr) (a2 a3 a5 a6 : Nat) (hl : v.t.length ≤ 10000000) (w0 : World) (ho : AQ W0 w0) : Ae Tryz.prog 156 [.agg [.int .i64 (v.k : Int), .string (tx v.t), .slice a1 a2 a3, .slice a4 a5 a6].toArray] w0 (.tuple [.int .i64 (BR v).1, .int .i64 (BR v).2].toArray) := by
 refine Ew Ai Tryz.func156 Tryz.ntmps156 ho ?_
 intro a hS
 refine Wh 2 hS ?_
 refine Lo (Bx ?_); intro b1
 refine Wn 7 ?_
 refine Lo (cP iY (fun hS => bP W0 hG v a1 a4 a2 a3 a5 a6 hl _ hS.od) ?_)
 refine Wn 14 ?_
 refine iD (fun hc12 => ?_) fun hc12 => ?_
 ·
  refine Wn 13 ?_
  intro a w hS
  refine Rm hS Tryz.results156 ?_
  exact ⟨by unfold BR; rw [if_pos hc12], hS.chg⟩
 refine Wn 11 ?_
 intro a w hS
 refine Rm hS Tryz.results156 ?_
 exact ⟨by unfold BR; rw [if_neg hc12], hS.chg⟩
theorem XD (s : ByteArray) (n : Int) (w0 : World) : Ae Tryz.prog 157 [.string s, .int .i64 n] w0 (.agg [.string s, .int .i64 1, .int .i64 n, .string ⟨#[]⟩].toArray) := by
 refine Eo Ai Tryz.func157 Tryz.ntmps157 ?_
 intro a hS
 refine Wh 2 hS ?_
 refine Lo (Al ?_); intro b4
 refine Wn 7 ?_
 refine Lo (Sa ?_)
 refine Wn 3 ?_
 intro a w hS
 refine Ro hS Tryz.results157 ?_
 exact ⟨rfl, hS.chg⟩
theorem UE (s t : ByteArray) (w0 : World) : Ae Tryz.prog 158 [.string s, .string t] w0 (.agg [.string s, .int .i64 3, .int .i64 0, .string t].toArray) := by
 refine Eo Ai Tryz.func158 Tryz.ntmps158 ?_
 intro a hS
 refine Wh 2 hS ?_
 refine Lo (Al ?_); intro b4
 refine Wn 7 ?_
 refine Lo (Sa ?_)
 refine Wn 3 ?_
 intro a w hS
 refine Ro hS Tryz.results158 ?_
 exact ⟨rfl, hS.chg⟩
theorem RQ (b : Bool) (w0 : World) : Ae Tryz.prog 195 [.bool b] w0 (.int .i64 (if b then 1 else 0)) := by
 refine Eo Ai Tryz.func195 Tryz.ntmps195 ?_
 intro a hS
 refine Wh 11 hS ?_
 refine iB (fun hc3 => ?_) fun hc3 => ?_
 ·
  refine Wn 7 ?_
  intro a w hS
  refine Ro hS Tryz.results195 ?_
  exact ⟨by rw [hc3]; rfl, hS.chg⟩
 refine Wn 8 ?_
 intro a w hS
 refine Ro hS Tryz.results195 ?_
 exact ⟨by rw [hc3]; rfl, hS.chg⟩
theorem M1 (s : ByteArray) (b : Bool) (w0 : World) : Ae Tryz.prog 159 [.string s, .bool b] w0 (.agg [.string s, .int .i64 2, .int .i64 (if b then 1 else 0), .string ⟨#[]⟩].toArray) := by
 refine Eo Ai Tryz.func159 Tryz.ntmps159 ?_
 intro a hS
 refine Wh 2 hS ?_
 refine Lo (Al ?_); intro b4
 refine Wn 6 ?_
 refine Lo (cP iZ (fun _ => RQ b _) ?_)
 refine Wn 1 ?_
 refine Lo (Sa ?_)
 refine Wn 3 ?_
 intro a w hS
 refine Ro hS Tryz.results159 ?_
 exact ⟨rfl, hS.chg⟩
theorem M2 {v y : JV} {nm : List UInt8} (h : CI v nm = some y) : v.k = 6 ∧ y ∈ v.l := by
 unfold CI at h
 split at h
 ·
  rename_i hk
  refine ⟨hk, ?_⟩
  rw [Option.map_eq_some_iff] at h
  obtain ⟨p, hp, rfl⟩ := h
  exact (List.of_mem_zip (List.mem_of_find?_eq_some hp)).2
 · cases h
theorem Px {n : Nat} {v y : JV} (h : Fy (n + 1) v) (hy : y ∈ v.l) : Fy n y := by
 cases v with
 | mk k t ns l => exact h.2.2.2.2 y hy
theorem kF {n : Nat} {v : JV} (h : Fy n v) : v.t.length ≤ 1100000 := by
 cases n with
 | zero => exact absurd h (fun h => h)
 | succ n => cases v with
   | mk k t ns l => exact h.1
theorem Py {n : Nat} {v : JV} {nm : List UInt8} (x : bN v nm) {w : World} (hsm : Fy (n + 1) v) (h : (kE n v nm x).ok w) : ∃ (y : JV) (a1 : Option Addr) (a2 a3 : Nat) (a4 : Option Addr) (a5 a6 : Nat) (b : Bool),
 qX v nm x = .tuple [.agg [.int .i64 (y.k : Int), .string (tx y.t), .slice a1 a2 a3, .slice a4 a5 a6].toArray, .bool b].toArray ∧ (CI v nm).getD jz = y ∧ y.t.length ≤ 10000000 ∧ ((b = true ∧ ∃ x', x = .inl x' ∧ x'.1.v = y ∧ x'.1.cs = [.int .i64 (y.k : Int), .string (tx y.t), .slice a1 a2 a3, .slice a4 a5 a6]) ∨ (b = false ∧ CI v nm = none)) := by
 rcases x with x | x
 ·
  have hj : DZ n x.1.v x.1.cs w := h.now
  obtain ⟨lv, nv, ⟨a1, a2, a3, rfl⟩, ⟨a4, a5, a6, rfl⟩, hcs⟩ := hj.four
  have := kF (Px hsm (M2 x.2).2)
  refine ⟨x.1.v, a1, a2, a3, a4, a5, a6, true, by show Value.tuple [.agg x.1.cs.toArray, .bool true].toArray = _; rw [hcs], congrArg (·.getD jz) x.2, by omega, .inl ⟨rfl, x, rfl, rfl, hcs⟩⟩
 · exact ⟨jz, none, 0, 0, none, 0, 0, false, rfl, congrArg (·.getD jz) x.2, Nat.zero_le _, .inr ⟨rfl, x.2⟩⟩
theorem Kf {v y : JV} {nm : List UInt8} {k : Nat} {ns : List (List UInt8)} {acc : List B5} (h : ns[k]? = some nm) (hy : (CI v nm).getD jz = y) : CC v (ns.drop k) acc = if (BJ nm y).1 ≠ 0 then ((BJ nm y).1, []) else CC v (ns.drop (k + 1)) (acc ++ [(BJ nm y).2]) := by
 rw [List.drop_eq_getElem_cons (List.getElem?_eq_some_iff.1 h).1, (List.getElem?_eq_some_iff.1 h).2]
 conv => lhs; unfold CC
 rw [hy]
def pO (v : JV) : Type := { _x : Value // (AU v).1 = 0 } ⊕ { _u : Unit // (AU v).1 ≠ 0 }
def qY (v : JV) : pO v → Value
 | .inl x => .tuple [x.1, .int .i64 0].toArray
 | .inr _ => .tuple [.slice none 0 0, .int .i64 (AU v).1].toArray
def mQ (v : JV) : pO v → AT
 | .inl x => AJ 160 4 x.1 (AU v).2.length ((AU v).2.flatMap Az)
 | .inr _ => A7
theorem OV (W0 : World) (hG : Gj W0) (n : Nat) (v : JV) (cs : List Value) (w0 : World) (hj : DZ (n + 1) v cs W0) (hsm : Fy (n + 1) v) (hold : AQ W0 w0) :
  Bb Tryz.prog 114 [.agg cs.toArray] w0 (qY v) (mQ v) := by
  have hj0 := hj
  have hsm0 := hsm
  obtain ⟨na, nc, lv, hcs, hT⟩ : ∃ na nc lv, cs = [.int .i64 (v.k : Int), .string (tx v.t), lv, .slice na v.ns.length nc] ∧ Ff W0 na v.ns := by
   cases v with
   | mk kd t ns l =>
     obtain ⟨lv, nv, rows, rfl, hn1, hn2, hn3, hn4⟩ := hj
     obtain ⟨na, nc, rfl, hT⟩ := FM hn1
     exact ⟨na, nc, lv, rfl, hT⟩
  obtain ⟨la, lm, lc, rfl⟩ : ∃ a m c, lv = .slice a m c := by
   obtain ⟨lv2, nv2, h1, h2, h3⟩ := hj0.four
   rw [hcs] at h3
   injection h3 with _ h3; injection h3 with _ h3; injection h3 with h3 _
   rw [h3]; exact h1
  subst hcs
  have hs2 : v.ns.length ≤ 1000000 := by cases v with | mk k t ns l => exact hsm.2.1
  refine Ew Ai Tryz.func114 Tryz.ntmps114 hold ?_
  intro a hS
  refine Wh 2 hS ?_
  refine Lo (Bx ?_); intro b1
  refine Wn 14 ?_
  refine Lo (cN YH (fun _ => Mf na v.ns.length nc _) ?_); intro x13
  refine Lo (cN YI (fun hS => KX W0 x13 na nc v.ns hT hs2 _ ⟨hS.gg (X := .blk x13 [.slice na v.ns.length nc] 35), hS.gg (X := AG W0)⟩) ?_); intro x14
  intro a w hS
  obtain ⟨q14, c14, rfl⟩ := AN (hS.gg (X := AJ 9 1 x14 (Ao v.ns).length ((Ao v.ns).map encStr)))
  have hsl := Hh v.ns
  refine Wq 5 hS ?_; intro a hS
  refine AW (γ := List B5 × Value) (fun G a w => St 66 Ai w0 a w [(16, .int .i64 (G.1.length : Int)), (15, .int .i64 ((Ao v.ns).length : Int)), (14, .slice q14 (Ao v.ns).length c14), (4, G.2), (1, .pointer (some ⟨b1, 0, none⟩))] [AJ 160 4 G.2 G.1.length (G.1.flatMap Az), AJ 9 1 (.slice q14 (Ao v.ns).length c14) (Ao v.ns).length ((Ao v.ns).map encStr), .blk b1 [.int .i64 (v.k : Int), .string (tx v.t), .slice la lm lc, .slice na v.ns.length nc] 37, AG W0] ∧ G.1.length ≤ (Ao v.ns).length ∧ CC v ((Ao v.ns).drop G.1.length) G.1 = AU v) (fun G => (Ao v.ns).length - G.1.length) ([], .slice none 0 0) ⟨((hS.own_nil 160 4).sq).pk, Nat.zero_le _, rfl⟩ ?_
  intro G a w hI
  obtain ⟨acc, sv⟩ := G
  obtain ⟨hS, hk, hgo⟩ := hI
  simp only at hS hk hgo
  refine Wh 6 hS ?_
  refine iD (fun hc17 => ?_) fun hc17 => ?_
  ·
   have hkn : acc.length < (Ao v.ns).length := by omega
   obtain ⟨nm, hnm⟩ : ∃ x, (Ao v.ns)[acc.length]? = some x := ⟨_, List.getElem?_eq_getElem hkn⟩
   intro a w hS
   obtain ⟨q, rfl⟩ := Dv (hS.gg (X := AJ 9 1 (.slice q14 (Ao v.ns).length c14) (Ao v.ns).length ((Ao v.ns).map encStr))) (by omega)
   refine Wq 7 hS ?_; intro a hS
   refine Aa (FU hS (AI rfl Af.1 (fun w hh => by
 have h1 := (World.ownsRow.cells (g := q) (show w.ownsRow 0 9 1 (.slice (some ⟨q, 0, none⟩) (Ao v.ns).length c14) (Ao v.ns).length ((Ao v.ns).map encStr) from hh (AJ 9 1 (.slice (some ⟨q, 0, none⟩) (Ao v.ns).length c14) (Ao v.ns).length ((Ao v.ns).map encStr)) (by repeat constructor)) rfl) acc.length (.string (tx nm)) (by rw [List.getElem?_map, hnm]; rfl)
 simpa [BH] using h1)) rfl ?_); intro a hS
   refine Wh 7 hS ?_
   refine Lo (cN YK (fun hS => UC W0 n v _ nm _ hj0 hsm0 hS.od) ?_); intro x23
   intro a w hS
   obtain ⟨y, a1, a2, a3, a4, a5, a6, bb, hgt, hy, hyt, _⟩ := Py (n := n) x23 hsm0 (hS.ok (kE n v nm x23) (by repeat constructor))
   rw [hgt] at hS
   have hst := Kf (acc := acc) hnm hy
   rw [hgo] at hst
   refine Wh 3 hS ?_
   refine Lo (Al ?_); intro b7
   refine Lo (Sa ?_)
   refine Wn 16 ?_
   refine iD (fun hc28 => ?_) fun hc28 => ?_
   ·
    have hk3 : y.k = 3 := by omega
    have hf : BJ nm y = ((BR y).2, ⟨nm, 1, (BR y).1, []⟩) := if_pos hk3
    refine Wn 3 ?_
    refine Lo (cP YV (fun hS => M0 W0 hG y a1 a4 a2 a3 a5 a6 hyt _ hS.od) ?_)
    refine Wn 14 ?_
    refine iD (fun hc36 => ?_) fun hc36 => ?_
    ·
     refine Wn 8 ?_
     intro a w hS
     refine AC (AD (AD (AC (AC (AD (AC ?_))))))
     refine Rm hS Tryz.results114 ?_
     rw [hf, if_pos hc36] at hst
     exact ⟨.inr ⟨(), by rw [hst]; exact hc36⟩, by show _ = Ending.returned (Value.tuple [.slice none 0 0, .int .i64 (AU v).1].toArray); rw [hst], hS.chg, AL _, fun b h => h.elim⟩
    rw [if_neg (by rw [hf]; exact hc36)] at hst
    refine Wn 6 ?_
    refine Lo (cP iP (fun _ => XD (tx nm) (BR y).1 _) ?_)
    refine Lo (Bz ?_); intro b42
    refine Lo (A1 ?_); intro v43 hv43
    obtain ⟨s2, rfl⟩ : ∃ s2, s2 = v43 := ⟨_, rfl⟩
    intro a w hS
    rw [show acc.flatMap Az ++ ([.string (tx nm), .int .i64 1, .int .i64 (BR y).1, .string ⟨#[]⟩] ++ []) = (acc ++ [(BJ nm y).2]).flatMap Az from by rw [List.flatMap_append, hf]; simp [Az, tx]] at hS
    refine Wq 9 hS ?_; intro a hS
    refine ⟨(acc ++ [(BJ nm y).2], s2), by show (Ao v.ns).length - (acc ++ [_]).length < (Ao v.ns).length - acc.length; rw [List.length_append, List.length_singleton]; omega, ?_, by show (acc ++ [_]).length ≤ (Ao v.ns).length; rw [List.length_append, List.length_singleton]; omega, by show CC v ((Ao v.ns).drop (acc ++ [_]).length) (acc ++ [_]) = _; rw [List.length_append, List.length_singleton]; exact hst.symm⟩
    show St _ _ _ _ _ [(16, .int .i64 ((acc ++ [(BJ nm y).2]).length : Int)), _, _, _, _] [AJ _ _ _ (acc ++ [(BJ nm y).2]).length _, _, _, _]
    rw [List.length_append, List.length_singleton]
    exact hS.sp
   refine Wn 6 ?_
   refine iD (fun hc44 => ?_) fun hc44 => ?_
   ·
    have hf : BJ nm y = (0, ⟨nm, 3, 0, y.t⟩) := by unfold BJ; rw [if_neg (by omega), if_pos (by omega)]
    rw [if_neg (by rw [hf]; exact fun h => h rfl)] at hst
    refine Wn 5 ?_
    refine Lo (cP iQ (fun _ => UE (tx nm) (tx y.t) _) ?_)
    refine Lo (Bz ?_); intro b51
    refine Lo (A1 ?_); intro v52 hv52
    obtain ⟨s2, rfl⟩ : ∃ s2, s2 = v52 := ⟨_, rfl⟩
    intro a w hS
    rw [show acc.flatMap Az ++ ([.string (tx nm), .int .i64 3, .int .i64 0, .string (tx y.t)] ++ []) = (acc ++ [(BJ nm y).2]).flatMap Az from by rw [List.flatMap_append, hf]; simp [Az, tx]] at hS
    refine Wq 9 hS ?_; intro a hS
    refine ⟨(acc ++ [(BJ nm y).2], s2), by show (Ao v.ns).length - (acc ++ [_]).length < (Ao v.ns).length - acc.length; rw [List.length_append, List.length_singleton]; omega, ?_, by show (acc ++ [_]).length ≤ (Ao v.ns).length; rw [List.length_append, List.length_singleton]; omega, by show CC v ((Ao v.ns).drop (acc ++ [_]).length) (acc ++ [_]) = _; rw [List.length_append, List.length_singleton]; exact hst.symm⟩
    show St _ _ _ _ _ [(16, .int .i64 ((acc ++ [(BJ nm y).2]).length : Int)), _, _, _, _] [AJ _ _ _ (acc ++ [(BJ nm y).2]).length _, _, _, _]
    rw [List.length_append, List.length_singleton]
    exact hS.sp
   refine Wn 7 ?_
   refine iD (fun hc53 => ?_) fun hc53 => ?_
   ·
    refine Wn 2 ?_
    refine iD (fun hc53 => ?_) fun hc53 => ?_
    ·
     refine Wn 6 ?_
     refine Lo (cP YW (fun _ => M1 (tx nm) (decide ((y.k : Int) = 2)) _) ?_)
     have hf : BJ nm y = (0, ⟨nm, 2, if decide ((y.k : Int) = 2) = true then 1 else 0, []⟩) := by
      unfold BJ
      rw [if_neg (by omega), if_neg (by omega), if_pos (by omega)]
      by_cases h2 : y.k = 2
      · rw [if_pos h2, if_pos (decide_eq_true (by omega))]
      · rw [if_neg h2, if_neg (by rw [decide_eq_false (by omega)]; decide)]
     rw [if_neg (by rw [hf]; exact fun h => h rfl)] at hst
     refine Lo (Bz ?_); intro b62
     refine Lo (A1 ?_); intro v63 hv63
     obtain ⟨s2, rfl⟩ : ∃ s2, s2 = v63 := ⟨_, rfl⟩
     intro a w hS
     rw [show acc.flatMap Az ++ ([.string (tx nm), .int .i64 2, .int .i64 (if decide ((y.k : Int) = 2) = true then 1 else 0), .string ⟨#[]⟩] ++ []) = (acc ++ [(BJ nm y).2]).flatMap Az from by rw [List.flatMap_append, hf]; simp [Az, tx]] at hS
     refine Wq 9 hS ?_; intro a hS
     refine ⟨(acc ++ [(BJ nm y).2], s2), by show (Ao v.ns).length - (acc ++ [_]).length < (Ao v.ns).length - acc.length; rw [List.length_append, List.length_singleton]; omega, ?_, by show (acc ++ [_]).length ≤ (Ao v.ns).length; rw [List.length_append, List.length_singleton]; omega, by show CC v ((Ao v.ns).drop (acc ++ [_]).length) (acc ++ [_]) = _; rw [List.length_append, List.length_singleton]; exact hst.symm⟩
     show St _ _ _ _ _ [(16, .int .i64 ((acc ++ [(BJ nm y).2]).length : Int)), _, _, _, _] [AJ _ _ _ (acc ++ [(BJ nm y).2]).length _, _, _, _]
     rw [List.length_append, List.length_singleton]
     exact hS.sp
    refine Wn 7 ?_
    intro a w hS
    refine AD (AD (AC (AC (AD (AC ?_)))))
    refine Rm hS Tryz.results114 ?_
    exfalso; omega
   refine Wn 5 ?_
   refine iD (fun hc53 => ?_) fun hc53 => ?_
   ·
    refine Wn 6 ?_
    refine Lo (cP YW (fun _ => M1 (tx nm) (decide ((y.k : Int) = 2)) _) ?_)
    have hf : BJ nm y = (0, ⟨nm, 2, if decide ((y.k : Int) = 2) = true then 1 else 0, []⟩) := by
     unfold BJ
     rw [if_neg (by omega), if_neg (by omega), if_pos (by omega)]
     by_cases h2 : y.k = 2
     · rw [if_pos h2, if_pos (decide_eq_true (by omega))]
     · rw [if_neg h2, if_neg (by rw [decide_eq_false (by omega)]; decide)]
    rw [if_neg (by rw [hf]; exact fun h => h rfl)] at hst
    refine Lo (Bz ?_); intro b62
    refine Lo (A1 ?_); intro v63 hv63
    obtain ⟨s2, rfl⟩ : ∃ s2, s2 = v63 := ⟨_, rfl⟩
    intro a w hS
    rw [show acc.flatMap Az ++ ([.string (tx nm), .int .i64 2, .int .i64 (if decide ((y.k : Int) = 2) = true then 1 else 0), .string ⟨#[]⟩] ++ []) = (acc ++ [(BJ nm y).2]).flatMap Az from by rw [List.flatMap_append, hf]; simp [Az, tx]] at hS
    refine Wq 9 hS ?_; intro a hS
    refine ⟨(acc ++ [(BJ nm y).2], s2), by show (Ao v.ns).length - (acc ++ [_]).length < (Ao v.ns).length - acc.length; rw [List.length_append, List.length_singleton]; omega, ?_, by show (acc ++ [_]).length ≤ (Ao v.ns).length; rw [List.length_append, List.length_singleton]; omega, by show CC v ((Ao v.ns).drop (acc ++ [_]).length) (acc ++ [_]) = _; rw [List.length_append, List.length_singleton]; exact hst.symm⟩
    show St _ _ _ _ _ [(16, .int .i64 ((acc ++ [(BJ nm y).2]).length : Int)), _, _, _, _] [AJ _ _ _ (acc ++ [(BJ nm y).2]).length _, _, _, _]
    rw [List.length_append, List.length_singleton]
    exact hS.sp
   refine Wn 7 ?_
   intro a w hS
   refine AD (AD (AC (AC (AD (AC ?_)))))
   refine Rm hS Tryz.results114 ?_
   have hf : BJ nm y = (13, ⟨[], 0, 0, []⟩) := by unfold BJ; rw [if_neg (by omega), if_neg (by omega), if_neg (by omega)]
   rw [hf, if_pos (by decide)] at hst
   exact ⟨.inr ⟨(), by rw [hst]; decide⟩, by show _ = Ending.returned (Value.tuple [.slice none 0 0, .int .i64 (AU v).1].toArray); rw [hst], hS.chg, AL _, fun b h => h.elim⟩
  have hk2 : acc.length = (Ao v.ns).length := by omega
  rw [hk2, List.drop_length] at hgo
  have hgo' : AU v = (0, acc) := hgo.symm
  refine Wn 1 ?_
  intro a w hS
  refine AH (AH (Aj ?_))
  refine Wh 9 hS ?_
  intro a w hS
  refine Rm hS Tryz.results114 ?_
  exact ⟨.inl ⟨sv, by rw [hgo']⟩, rfl, hS.chg, by show (AJ _ _ sv (AU v).2.length ((AU v).2.flatMap Az)).ok w; rw [hgo']; exact hS.ok (AJ 160 4 sv acc.length (acc.flatMap Az)) (by repeat constructor), fun b hb => (hS.mine (AJ 160 4 sv acc.length (acc.flatMap Az)) (by repeat constructor) rfl b hb).resolve_right (fun h => h)⟩
section
section
variable {P : Program} {n : NN} {a : Act} {L : List (Nat × Value)} {Γ : List AT} {dst : Option Nat} {ty : Nat} {pos : String} {af : Array Edge} {g : Option (Nat × Bool)}
def pP (P : Program) (t : TypeId) : Bool := match P.underlying t with | some (.func _ _ _) => true | _ => false
theorem bQ {t : TypeId} (h : pP P t = true) : ∃ x y z, P.underlying t = some (.func x y z) := by
 unfold pP at h; cases hi : P.underlying t with
 | none => simp [hi] at h
 | some D => cases D <;> simp_all
theorem Ep {t t' : TypeId} {x : Operand} {v : Value} {c : Bool} (hx : ev L x = some v) (hu : pP P t = true) (hv : (v = .nilFunc ∧ c = false) ∨ ((∃ f b d, v = .func f b d) ∧ c = true)) : Ex P n a L Γ ⟨dst, .binOp .neq t x (.const .nilFunc) t', ty, pos, af, g⟩ (.bool c) := fun hs w hh => by
 obtain ⟨p1, p2, p3, hp⟩ := bQ hu
 have he : a.eval (.const .nilFunc) = .nilFunc := rfl
 rcases hv with ⟨rfl, rfl⟩ | ⟨⟨f, b, d, rfl⟩, rfl⟩
 ·
  have h : ∀ d : Nat, (Op.equalIn (d + 1) t .nilFunc .nilFunc).run P w = .ok true w := fun d => by simp [Op.equalIn, run_underlying hp]
  have h2 : (binOp .neq t .nilFunc .nilFunc).run P w = .ok (.bool false) w := by
   simp only [binOp]
   simp [Op.equal, Op.maxDepth, h 9999]
  simp [execOp, hs.ev hx, he, eqGuard, h2]
 ·
  have h : ∀ k : Nat, (Op.equalIn (k + 1) t (.func f b d) .nilFunc).run P w = .ok false w := fun k => by simp [Op.equalIn, run_underlying hp]
  have h2 : (binOp .neq t (.func f b d) .nilFunc).run P w = .ok (.bool true) w := by
   simp only [binOp]
   simp [Op.equal, Op.maxDepth, h 9999]
  simp [execOp, hs.ev hx, he, eqGuard, h2]
end
theorem Pz {cs : List Value} {k : Nat} (v : Value) (h : k < cs.length) : QR cs k v (cs.set k v) := by
 induction cs generalizing k with
 | nil => exact absurd h (Nat.not_lt_zero _)
 | cons x l ih =>
   cases k with
   | zero => exact .z
   | succ k => exact .s (ih (by simpa using h))
theorem JP (c : Cd) (fv : Value) {i : Nat} (x : List UInt8) (h : 1 ≤ i ∧ i ≤ 6) : QR (AB c fv) i (.string (tx x)) (AB (c.putT i x) fv) := by
 rw [← OG c fv x h]; exact Pz _ (by show i < 15; omega)
theorem HD (c : Cd) (fv : Value) {i : Nat} (x : Int) (h : 7 ≤ i ∧ i ≤ 13) : QR (AB c fv) i (.int .i64 x) (AB (c.putN i x) fv) := by
 rw [← OH c fv x h]; exact Pz _ (by show i < 15; omega)
structure Ck (g off : Nat) : Prop where
 c : AA Tryz.prog g
 p : ∀ (b : Nat) (w0 : World), Ae Tryz.prog g [.pointer (some ⟨b, 0, none⟩)] w0 (.pointer (some ⟨b, off, none⟩))
structure Fg where
 f : Fd
 g : Nat
def A0 (x : Fg) : List Value := [.string (tx x.f.nm), if x.f.kd = 0 then .func (.func x.g) #[] #[] else .nilFunc, if x.f.kd = 1 then .func (.func x.g) #[] #[] else .nilFunc]
structure Fg.ok (x : Fg) : Prop where
 fd : x.f.ok
 p : x.f.kd ≠ 2 → Ck x.g x.f.off
theorem RR : Ck 71 2 := ⟨oI, fun b w0 => by
  refine Bq [(0, .pointer (some ⟨b, 0, none⟩))] [] Ai Tryz.func71 rfl Tryz.ntmps71 ⟨rfl, trivial⟩ rfl (by simp) (by simp) (by simp) ?_
  intro a hS
  refine cS ?_
  refine cR ?_
  refine Co hS (Ak rfl) rfl ?_; intro a hS
  refine nL ?_
  refine nT ?_
  refine cS ?_
  refine cR ?_
  refine Co hS (CJ rfl) rfl ?_; intro a hS
  refine Co hS (Bh rfl) rfl ?_; intro a hS
  refine Co hS (C6 rfl Qe.1) rfl ?_; intro a hS
  refine Co hS (Ak rfl) rfl ?_; intro a hS
  refine nL ?_
  refine nT ?_
  refine wp_ret ?_
  refine DG hS Tryz.results71 (.tmp rfl) ?_
  exact ⟨rfl, hS.chg⟩
  ⟩
theorem OX : Ck 72 1 := ⟨oJ, fun b w0 => by
  refine Bq [(0, .pointer (some ⟨b, 0, none⟩))] [] Ai Tryz.func72 rfl Tryz.ntmps72 ⟨rfl, trivial⟩ rfl (by simp) (by simp) (by simp) ?_
  intro a hS
  refine cS ?_
  refine cR ?_
  refine Co hS (Ak rfl) rfl ?_; intro a hS
  refine nL ?_
  refine nT ?_
  refine cS ?_
  refine cR ?_
  refine Co hS (CJ rfl) rfl ?_; intro a hS
  refine Co hS (Bh rfl) rfl ?_; intro a hS
  refine Co hS (C6 rfl Qd.1) rfl ?_; intro a hS
  refine Co hS (Ak rfl) rfl ?_; intro a hS
  refine nL ?_
  refine nT ?_
  refine wp_ret ?_
  refine DG hS Tryz.results72 (.tmp rfl) ?_
  exact ⟨rfl, hS.chg⟩
  ⟩
theorem RS : Ck 73 3 := ⟨oK, fun b w0 => by
  refine Bq [(0, .pointer (some ⟨b, 0, none⟩))] [] Ai Tryz.func73 rfl Tryz.ntmps73 ⟨rfl, trivial⟩ rfl (by simp) (by simp) (by simp) ?_
  intro a hS
  refine cS ?_
  refine cR ?_
  refine Co hS (Ak rfl) rfl ?_; intro a hS
  refine nL ?_
  refine nT ?_
  refine cS ?_
  refine cR ?_
  refine Co hS (CJ rfl) rfl ?_; intro a hS
  refine Co hS (Bh rfl) rfl ?_; intro a hS
  refine Co hS (C6 rfl Qf.1) rfl ?_; intro a hS
  refine Co hS (Ak rfl) rfl ?_; intro a hS
  refine nL ?_
  refine nT ?_
  refine wp_ret ?_
  refine DG hS Tryz.results73 (.tmp rfl) ?_
  exact ⟨rfl, hS.chg⟩
  ⟩
theorem RT : Ck 74 4 := ⟨oL, fun b w0 => by
  refine Bq [(0, .pointer (some ⟨b, 0, none⟩))] [] Ai Tryz.func74 rfl Tryz.ntmps74 ⟨rfl, trivial⟩ rfl (by simp) (by simp) (by simp) ?_
  intro a hS
  refine cS ?_
  refine cR ?_
  refine Co hS (Ak rfl) rfl ?_; intro a hS
  refine nL ?_
  refine nT ?_
  refine cS ?_
  refine cR ?_
  refine Co hS (CJ rfl) rfl ?_; intro a hS
  refine Co hS (Bh rfl) rfl ?_; intro a hS
  refine Co hS (C6 rfl Qg.1) rfl ?_; intro a hS
  refine Co hS (Ak rfl) rfl ?_; intro a hS
  refine nL ?_
  refine nT ?_
  refine wp_ret ?_
  refine DG hS Tryz.results74 (.tmp rfl) ?_
  exact ⟨rfl, hS.chg⟩
  ⟩
theorem M3 : Ck 75 5 := ⟨oM, fun b w0 => by
  refine Bq [(0, .pointer (some ⟨b, 0, none⟩))] [] Ai Tryz.func75 rfl Tryz.ntmps75 ⟨rfl, trivial⟩ rfl (by simp) (by simp) (by simp) ?_
  intro a hS
  refine cS ?_
  refine cR ?_
  refine Co hS (Ak rfl) rfl ?_; intro a hS
  refine nL ?_
  refine nT ?_
  refine cS ?_
  refine cR ?_
  refine Co hS (CJ rfl) rfl ?_; intro a hS
  refine Co hS (Bh rfl) rfl ?_; intro a hS
  refine Co hS (C6 rfl Qh.1) rfl ?_; intro a hS
  refine Co hS (Ak rfl) rfl ?_; intro a hS
  refine nL ?_
  refine nT ?_
  refine wp_ret ?_
  refine DG hS Tryz.results75 (.tmp rfl) ?_
  exact ⟨rfl, hS.chg⟩
  ⟩
theorem JQ : Ck 77 6 := ⟨pA, fun b w0 => by
  refine Bq [(0, .pointer (some ⟨b, 0, none⟩))] [] Ai Tryz.func77 rfl Tryz.ntmps77 ⟨rfl, trivial⟩ rfl (by simp) (by simp) (by simp) ?_
  intro a hS
  refine cS ?_
  refine cR ?_
  refine Co hS (Ak rfl) rfl ?_; intro a hS
  refine nL ?_
  refine nT ?_
  refine cS ?_
  refine cR ?_
  refine Co hS (CJ rfl) rfl ?_; intro a hS
  refine Co hS (Bh rfl) rfl ?_; intro a hS
  refine Co hS (C6 rfl Qc.1) rfl ?_; intro a hS
  refine Co hS (Ak rfl) rfl ?_; intro a hS
  refine nL ?_
  refine nT ?_
  refine wp_ret ?_
  refine DG hS Tryz.results77 (.tmp rfl) ?_
  exact ⟨rfl, hS.chg⟩
  ⟩
theorem UF : Ck 78 8 := ⟨oN, fun b w0 => by
  refine Bq [(0, .pointer (some ⟨b, 0, none⟩))] [] Ai Tryz.func78 rfl Tryz.ntmps78 ⟨rfl, trivial⟩ rfl (by simp) (by simp) (by simp) ?_
  intro a hS
  refine cS ?_
  refine cR ?_
  refine Co hS (Ak rfl) rfl ?_; intro a hS
  refine nL ?_
  refine nT ?_
  refine cS ?_
  refine cR ?_
  refine Co hS (CJ rfl) rfl ?_; intro a hS
  refine Co hS (Bh rfl) rfl ?_; intro a hS
  refine Co hS (C6 rfl Qb.1) rfl ?_; intro a hS
  refine Co hS (Ak rfl) rfl ?_; intro a hS
  refine nL ?_
  refine nT ?_
  refine wp_ret ?_
  refine DG hS Tryz.results78 (.tmp rfl) ?_
  exact ⟨rfl, hS.chg⟩
  ⟩
theorem OY : Ck 79 9 := ⟨oO, fun b w0 => by
  refine Bq [(0, .pointer (some ⟨b, 0, none⟩))] [] Ai Tryz.func79 rfl Tryz.ntmps79 ⟨rfl, trivial⟩ rfl (by simp) (by simp) (by simp) ?_
  intro a hS
  refine cS ?_
  refine cR ?_
  refine Co hS (Ak rfl) rfl ?_; intro a hS
  refine nL ?_
  refine nT ?_
  refine cS ?_
  refine cR ?_
  refine Co hS (CJ rfl) rfl ?_; intro a hS
  refine Co hS (Bh rfl) rfl ?_; intro a hS
  refine Co hS (C6 rfl Qj.1) rfl ?_; intro a hS
  refine Co hS (Ak rfl) rfl ?_; intro a hS
  refine nL ?_
  refine nT ?_
  refine wp_ret ?_
  refine DG hS Tryz.results79 (.tmp rfl) ?_
  exact ⟨rfl, hS.chg⟩
  ⟩
theorem UG : Ck 80 10 := ⟨oP, fun b w0 => by
  refine Bq [(0, .pointer (some ⟨b, 0, none⟩))] [] Ai Tryz.func80 rfl Tryz.ntmps80 ⟨rfl, trivial⟩ rfl (by simp) (by simp) (by simp) ?_
  intro a hS
  refine cS ?_
  refine cR ?_
  refine Co hS (Ak rfl) rfl ?_; intro a hS
  refine nL ?_
  refine nT ?_
  refine cS ?_
  refine cR ?_
  refine Co hS (CJ rfl) rfl ?_; intro a hS
  refine Co hS (Bh rfl) rfl ?_; intro a hS
  refine Co hS (C6 rfl Nx.1) rfl ?_; intro a hS
  refine Co hS (Ak rfl) rfl ?_; intro a hS
  refine nL ?_
  refine nT ?_
  refine wp_ret ?_
  refine DG hS Tryz.results80 (.tmp rfl) ?_
  exact ⟨rfl, hS.chg⟩
  ⟩
theorem RU : Ck 81 7 := ⟨oQ, fun b w0 => by
  refine Bq [(0, .pointer (some ⟨b, 0, none⟩))] [] Ai Tryz.func81 rfl Tryz.ntmps81 ⟨rfl, trivial⟩ rfl (by simp) (by simp) (by simp) ?_
  intro a hS
  refine cS ?_
  refine cR ?_
  refine Co hS (Ak rfl) rfl ?_; intro a hS
  refine nL ?_
  refine nT ?_
  refine cS ?_
  refine cR ?_
  refine Co hS (CJ rfl) rfl ?_; intro a hS
  refine Co hS (Bh rfl) rfl ?_; intro a hS
  refine Co hS (C6 rfl Qi.1) rfl ?_; intro a hS
  refine Co hS (Ak rfl) rfl ?_; intro a hS
  refine nL ?_
  refine nT ?_
  refine wp_ret ?_
  refine DG hS Tryz.results81 (.tmp rfl) ?_
  exact ⟨rfl, hS.chg⟩
  ⟩
theorem Lh : Ck 82 11 := ⟨oS, fun b w0 => by
  refine Bq [(0, .pointer (some ⟨b, 0, none⟩))] [] Ai Tryz.func82 rfl Tryz.ntmps82 ⟨rfl, trivial⟩ rfl (by simp) (by simp) (by simp) ?_
  intro a hS
  refine cS ?_
  refine cR ?_
  refine Co hS (Ak rfl) rfl ?_; intro a hS
  refine nL ?_
  refine nT ?_
  refine cS ?_
  refine cR ?_
  refine Co hS (CJ rfl) rfl ?_; intro a hS
  refine Co hS (Bh rfl) rfl ?_; intro a hS
  refine Co hS (C6 rfl Nw.1) rfl ?_; intro a hS
  refine Co hS (Ak rfl) rfl ?_; intro a hS
  refine nL ?_
  refine nT ?_
  refine wp_ret ?_
  refine DG hS Tryz.results82 (.tmp rfl) ?_
  exact ⟨rfl, hS.chg⟩
  ⟩
theorem M4 : Ck 83 12 := ⟨oT, fun b w0 => by
  refine Bq [(0, .pointer (some ⟨b, 0, none⟩))] [] Ai Tryz.func83 rfl Tryz.ntmps83 ⟨rfl, trivial⟩ rfl (by simp) (by simp) (by simp) ?_
  intro a hS
  refine cS ?_
  refine cR ?_
  refine Co hS (Ak rfl) rfl ?_; intro a hS
  refine nL ?_
  refine nT ?_
  refine cS ?_
  refine cR ?_
  refine Co hS (CJ rfl) rfl ?_; intro a hS
  refine Co hS (Bh rfl) rfl ?_; intro a hS
  refine Co hS (C6 rfl Nv.1) rfl ?_; intro a hS
  refine Co hS (Ak rfl) rfl ?_; intro a hS
  refine nL ?_
  refine nT ?_
  refine wp_ret ?_
  refine DG hS Tryz.results83 (.tmp rfl) ?_
  exact ⟨rfl, hS.chg⟩
  ⟩
theorem OZ : Ck 84 13 := ⟨oU, fun b w0 => by
  refine Bq [(0, .pointer (some ⟨b, 0, none⟩))] [] Ai Tryz.func84 rfl Tryz.ntmps84 ⟨rfl, trivial⟩ rfl (by simp) (by simp) (by simp) ?_
  intro a hS
  refine cS ?_
  refine cR ?_
  refine Co hS (Ak rfl) rfl ?_; intro a hS
  refine nL ?_
  refine nT ?_
  refine cS ?_
  refine cR ?_
  refine Co hS (CJ rfl) rfl ?_; intro a hS
  refine Co hS (Bh rfl) rfl ?_; intro a hS
  refine Co hS (C6 rfl Ny.1) rfl ?_; intro a hS
  refine Co hS (Ak rfl) rfl ?_; intro a hS
  refine nL ?_
  refine nT ?_
  refine wp_ret ?_
  refine DG hS Tryz.results84 (.tmp rfl) ?_
  exact ⟨rfl, hS.chg⟩
  ⟩
end
theorem UH (g off : Nat) (hp : Ck g off) (ho : 1 ≤ off ∧ off ≤ 6) (nm : List UInt8) (c : Cd) (fv : Value) (y : JV) (a1 a4 : Option Addr) (a2 a3 a5 a6 : Nat) (cb : Nat) (w0 : World) (h : (AT.blk cb (AB c fv) 24).ok w0) :
 CV Tryz.prog 113 [.agg [.string (tx nm), .func (.func g) #[] #[], .nilFunc].toArray, .pointer (some ⟨cb, 0, none⟩), .agg [.int .i64 (y.k : Int), .string (tx y.t), .slice a1 a2 a3, .slice a4 a5 a6].toArray] w0 (.blk cb (AB c fv) 24) (fun _ : Unit => .int .i64 (if y.k = 4 then 0 else 13)) (fun _ => .blk cb (AB (if y.k = 4 then c.putT off y.t else c) fv) 24) := by
 refine En [.blk cb (AB c fv) 24] (fun k => k = cb) Tryz.func113 Tryz.ntmps113 (B3 h DN) Bi (A9 (fun _ hb => hb) Aw) ?_
 intro a hS
 refine Wh 2 hS ?_
 refine Lo (Bx ?_); intro b3
 refine Lo (Bx ?_); intro b5
 refine Wn 9 ?_
 refine Xp (Ep (c := true) rfl (by kernel_rfl) (.inr ⟨⟨_, _, _, rfl⟩, rfl⟩)) ?_
 refine Wn 3 ?_
 refine Ie 9 true rfl rfl ?_
 refine Wn 9 ?_
 refine iD (fun hc15 => ?_) fun hc15 => ?_
 ·
  refine Wn 6 ?_
  intro a w hS
  refine AC (AD (AC ?_))
  refine Ro hS Tryz.results113 ?_
  exact ⟨(), by rw [if_neg (by omega)], hS.chg, by rw [if_neg (by omega)]; exact hS.ok (.blk cb (AB c fv) 24) (by repeat constructor), fun k hk => .inl hk⟩
 refine Wn 2 ?_
 refine Dr 8 [7] [.blk b3 [.string (tx nm), .func (.func g) #[] #[], .nilFunc] 88, .blk b5 [.int .i64 (y.k : Int), .string (tx y.t), .slice a1 a2 a3, .slice a4 a5 a6] 37] ?_
 refine ZR 3 ?_
 refine Zv 4 _ rfl ExA.go ?_
 refine Zu 5 _ rfl ExA.go ?_
 intro a w hS
 refine Zo 3 (tf 6 2) hS rfl wN rfl (Cq (cs := []) hS rfl (.cons rfl .nil) hp.c rfl (hp.p cb _) ?_); intro a w hS
 refine Bc hS (AP (by repeat constructor) (AP (by repeat constructor) Ay)) ?_
 refine Un hS (ZR 1 ?_)
 intro a w hS
 refine Zo 7 (tf 8 0) hS rfl wN rfl (DS hS rfl rfl rfl A8.1 (by repeat constructor) (JP c fv y.t ho) ?_); intro w hS
 refine GJ (by simp) ?_
 refine Wh 9 hS ?_
 intro a w hS
 refine Ro hS Tryz.results113 ?_
 exact ⟨(), by rw [if_pos (by omega)], hS.chg, by rw [if_pos (by omega)]; exact hS.ok (.blk cb (AB (c.putT off y.t) fv) 24) (by repeat constructor), fun k hk => .inl hk⟩
theorem UI (W0 : World) (hG : Gj W0) (g off : Nat) (hp : Ck g off) (ho : 7 ≤ off ∧ off ≤ 13) (nm : List UInt8) (c : Cd) (fv : Value) (y : JV) (a1 a4 : Option Addr) (a2 a3 a5 a6 : Nat) (hyt : y.t.length ≤ 10000000) (cb : Nat) (hcb : W0.heap.size ≤ cb) (w0 : World) (hold : AQ W0 w0) (h : (AT.blk cb (AB c fv) 24).ok w0) :
 CV Tryz.prog 113 [.agg [.string (tx nm), .nilFunc, .func (.func g) #[] #[]].toArray, .pointer (some ⟨cb, 0, none⟩), .agg [.int .i64 (y.k : Int), .string (tx y.t), .slice a1 a2 a3, .slice a4 a5 a6].toArray] w0 (.blk cb (AB c fv) 24) (fun _ : Unit => .int .i64 (BR y).2) (fun _ => .blk cb (AB (if (BR y).2 = 0 then c.putN off (BR y).1 else c) fv) 24) := by
 refine En [.blk cb (AB c fv) 24, AG W0] (fun k => k = cb) Tryz.func113 Tryz.ntmps113 (B3 h (B3 (BB hold) DN)) (CT (CK (fun k h1 h2 => by have h1 : k = cb := h1; have h2 : k < W0.heap.size := h2; omega) CU) Bi) (A9 (fun _ hb => hb) (BP rfl Aw)) ?_
 intro a hS
 refine Wh 2 hS ?_
 refine Lo (Bx ?_); intro b3
 refine Lo (Bx ?_); intro b5
 refine Wn 9 ?_
 refine Xp (Ep (c := false) rfl (by kernel_rfl) (.inl ⟨rfl, rfl⟩)) ?_
 refine Wn 3 ?_
 refine Ie 9 false rfl rfl ?_
 refine Wn 5 ?_
 refine Xp (Ep (c := true) rfl (by kernel_rfl) (.inr ⟨⟨_, _, _, rfl⟩, rfl⟩)) ?_
 refine Wn 3 ?_
 refine Ie 23 true rfl rfl ?_
 refine Wn 4 ?_
 refine Lo (cP YV (fun hS => M0 W0 hG y a1 a4 a2 a3 a5 a6 hyt _ hS.od) ?_)
 refine Wn 14 ?_
 refine iD (fun hc33 => ?_) fun hc33 => ?_
 ·
  refine Wn 7 ?_
  intro a w hS
  refine AC (AD (AC ?_))
  refine Ro hS Tryz.results113 ?_
  exact ⟨(), rfl, hS.chg, by rw [if_neg hc33]; exact hS.ok (.blk cb (AB c fv) 24) (by repeat constructor), fun k hk => .inl hk⟩
 have hc : (BR y).2 = 0 := Classical.not_not.1 hc33
 refine Wn 6 ?_
 intro a w hS
 refine Aa (Cq (cs := []) hS rfl (.cons rfl .nil) hp.c rfl (hp.p cb _) ?_); intro a w hS
 refine Wq 2 hS ?_; intro a hS
 refine Aa (DS hS rfl rfl rfl Cj.1 (by repeat constructor) (HD c fv (BR y).1 ho) ?_); intro w hS
 refine Wh 9 hS ?_
 intro a w hS
 refine Ro hS Tryz.results113 ?_
 exact ⟨(), by rw [hc], hS.chg, by rw [if_pos hc]; exact hS.ok (.blk cb (AB (c.putN off (BR y).1) fv) 24) (by repeat constructor), fun k hk => .inl hk⟩
theorem UJ (nm : List UInt8) (c : Cd) (fv : Value) (y : JV) (a1 a4 : Option Addr) (a2 a3 a5 a6 : Nat) (cb : Nat) (w0 : World) (h : (AT.blk cb (AB c fv) 24).ok w0) :
 CV Tryz.prog 113 [.agg [.string (tx nm), .nilFunc, .nilFunc].toArray, .pointer (some ⟨cb, 0, none⟩), .agg [.int .i64 (y.k : Int), .string (tx y.t), .slice a1 a2 a3, .slice a4 a5 a6].toArray] w0 (.blk cb (AB c fv) 24) (fun _ : Unit => .int .i64 (if y.k = 6 then 0 else 13)) (fun _ => .blk cb (AB c fv) 24) := by
 refine En [.blk cb (AB c fv) 24] (fun k => k = cb) Tryz.func113 Tryz.ntmps113 (B3 h DN) Bi (A9 (fun _ hb => hb) Aw) ?_
 intro a hS
 refine Wh 2 hS ?_
 refine Lo (Bx ?_); intro b3
 refine Lo (Bx ?_); intro b5
 refine Wn 9 ?_
 refine Xp (Ep (c := false) rfl (by kernel_rfl) (.inl ⟨rfl, rfl⟩)) ?_
 refine Wn 3 ?_
 refine Ie 9 false rfl rfl ?_
 refine Wn 5 ?_
 refine Xp (Ep (c := false) rfl (by kernel_rfl) (.inl ⟨rfl, rfl⟩)) ?_
 refine Wn 3 ?_
 refine Ie 23 false rfl rfl ?_
 refine Wn 9 ?_
 refine iD (fun hc41 => ?_) fun hc41 => ?_
 ·
  refine Wn 6 ?_
  intro a w hS
  refine AD (AC ?_)
  refine Ro hS Tryz.results113 ?_
  exact ⟨(), by rw [if_neg (by omega)], hS.chg, hS.ok (.blk cb (AB c fv) 24) (by repeat constructor), fun k hk => .inl hk⟩
 refine Wn 9 ?_
 intro a w hS
 refine Ro hS Tryz.results113 ?_
 exact ⟨(), by rw [if_pos (by omega)], hS.chg, hS.ok (.blk cb (AB c fv) 24) (by repeat constructor), fun k hk => .inl hk⟩
theorem XE (W0 : World) (hG : Gj W0) (x : Fg) (hx : x.ok) (c : Cd) (fv : Value) (y : JV) (a1 a4 : Option Addr) (a2 a3 a5 a6 : Nat) (hyt : y.t.length ≤ 10000000) (cb : Nat) (hcb : W0.heap.size ≤ cb) (w0 : World) (hold : AQ W0 w0) (h : (AT.blk cb (AB c fv) 24).ok w0) :
 CV Tryz.prog 113 [.agg (A0 x).toArray, .pointer (some ⟨cb, 0, none⟩), .agg [.int .i64 (y.k : Int), .string (tx y.t), .slice a1 a2 a3, .slice a4 a5 a6].toArray] w0 (.blk cb (AB c fv) 24) (fun _ : Unit => .int .i64 (JG x.f y)) (fun _ => .blk cb (AB (if JG x.f y = 0 then G7 x.f y c else c) fv) 24) := by
 rcases hx.fd.kd with hk | hk | hk
 ·
  have e1 : A0 x = [.string (tx x.f.nm), .func (.func x.g) #[] #[], .nilFunc] := by unfold A0; rw [if_pos hk, if_neg (by omega)]
  have e2 : JG x.f y = if y.k = 4 then 0 else 13 := by unfold JG; rw [if_pos hk]
  have e3 : G7 x.f y c = c.putT x.f.off y.t := by unfold G7; rw [if_pos hk]
  rw [e1, e2, e3]
  have := UH x.g x.f.off (hx.p (by omega)) (hx.fd.t hk) x.f.nm c fv y a1 a4 a2 a3 a5 a6 cb w0 h
  by_cases h4 : y.k = 4
  · rw [if_pos h4] at this ⊢; rw [if_pos h4] at this; rw [if_pos rfl]; exact this
  · rw [if_neg h4] at this ⊢; rw [if_neg h4] at this; rw [if_neg (by decide)]; exact this
 ·
  have e1 : A0 x = [.string (tx x.f.nm), .nilFunc, .func (.func x.g) #[] #[]] := by unfold A0; rw [if_neg (by omega), if_pos hk]
  have e2 : JG x.f y = (BR y).2 := by unfold JG; rw [if_neg (by omega), if_pos hk]
  have e3 : G7 x.f y c = c.putN x.f.off (BR y).1 := by unfold G7; rw [if_neg (by omega), if_pos hk]
  rw [e1, e2, e3]
  exact UI W0 hG x.g x.f.off (hx.p (by omega)) (hx.fd.n hk) x.f.nm c fv y a1 a4 a2 a3 a5 a6 hyt cb hcb w0 hold h
 ·
  have e1 : A0 x = [.string (tx x.f.nm), .nilFunc, .nilFunc] := by unfold A0; rw [if_neg (by omega), if_neg (by omega)]
  have e2 : JG x.f y = if y.k = 6 then 0 else 13 := by unfold JG; rw [if_neg (by omega), if_neg (by omega)]
  have e3 : G7 x.f y c = c := by unfold G7; rw [if_neg (by omega), if_neg (by omega)]
  rw [e1, e2, e3, ite_self]
  exact UJ x.f.nm c fv y a1 a4 a2 a3 a5 a6 cb w0 h
def UK : List UInt8 := [102, 97, 99, 116, 115]
structure Yr (W0 : World) (fb fo : Nat) (fl : List Fg) : Prop where
 c : ∀ (i : Nat) (x : Fg), fl[i]? = some x → ∀ (j : Nat) (u : Value), (A0 x)[j]? = some u → W0.cell? ⟨fb, fo + i * 3 + j, none⟩ = some u
 ok : ∀ x ∈ fl, x.ok
 nm : ∀ x ∈ fl, x.f.nm = UK ↔ x.f.kd = 2
 n : fl.length ≤ 1000
def AE (fl : List Fg) : List Fd := fl.map Fg.f
theorem M5 (x : Fg) : ∃ u1 u2, A0 x = [.string (tx x.f.nm), u1, u2] ∧ Bl u1 = true ∧ Bl u2 = true := by
 refine ⟨_, _, rfl, ?_, ?_⟩ <;> (split <;> rfl)
theorem Hk {fl : List Fg} {k : Nat} {x : Fg} {v y : JV} {c : Cd} {fx : JV} (h : fl[k]? = some x) (hy : CI v x.f.nm = some y) : CB (AE (fl.drop k)) v c fx = if JG x.f y ≠ 0 then (JG x.f y, c, fx) else CB (AE (fl.drop (k + 1))) v (G7 x.f y c) (if x.f.kd = 2 then y else fx) := by
 unfold AE
 rw [List.drop_eq_getElem_cons (List.getElem?_eq_some_iff.1 h).1, (List.getElem?_eq_some_iff.1 h).2, List.map_cons]
 conv => lhs; unfold CB
 rw [hy]
theorem RV {fl : List Fg} {k : Nat} {x : Fg} {v : JV} {c : Cd} {fx : JV} (h : fl[k]? = some x) (hy : CI v x.f.nm = none) : CB (AE (fl.drop k)) v c fx = (32, c, fx) := by
 unfold AE
 rw [List.drop_eq_getElem_cons (List.getElem?_eq_some_iff.1 h).1, (List.getElem?_eq_some_iff.1 h).2, List.map_cons]
 conv => lhs; unfold CB
 rw [hy]
theorem P0 {fs : List Fd} {kd : Int} {v : JV} (h : (CB fs v (CQ kd) jz).1 ≠ 0) : (Bj fs kd v).1 = (CB fs v (CQ kd) jz).1 := by unfold Bj; rw [if_pos h]
def pQ (fs : List Fd) (kd : Int) (v : JV) : Type := { _x : Value // (Bj fs kd v).1 = 0 } ⊕ { _u : Unit // (Bj fs kd v).1 ≠ 0 }
def qZ (fs : List Fd) (kd : Int) (v : JV) : pQ fs kd v → Value
 | .inl x => .tuple [.agg (AB (Bj fs kd v).2 x.1).toArray, .int .i64 0].toArray
 | .inr _ => .tuple [.agg (AB (CQ 0) (.slice none 0 0)).toArray, .int .i64 (Bj fs kd v).1].toArray
def Ys (fs : List Fd) (kd : Int) (v : JV) : pQ fs kd v → AT
 | .inl x => AJ 160 4 x.1 (Bj fs kd v).2.fx.length ((Bj fs kd v).2.fx.flatMap Az)
 | .inr _ => A7
theorem XF {v : JV} (x : pO v) {w : World} (h : (mQ v x).ok w) : ∃ (q : Option Addr) (m c : Nat), qY v x = .tuple [.slice q m c, .int .i64 (AU v).1].toArray ∧ (((AU v).1 = 0 ∧ ∃ x', x = .inl x' ∧ x'.1 = .slice q m c) ∨ (AU v).1 ≠ 0) := by
 rcases x with x | x
 ·
  obtain ⟨xv, h0⟩ := x
  obtain ⟨q, c, e⟩ := AN (show w.ownsRow 0 _ 4 xv (AU v).2.length _ from h.now)
  exact ⟨q, _, c, by show Value.tuple [xv, .int .i64 0].toArray = _; rw [h0, e], .inl ⟨h0, ⟨xv, h0⟩, rfl, e⟩⟩
 · exact ⟨none, 0, 0, rfl, .inr x.2⟩
theorem Kg (c : Cd) (fv fv' : Value) : QR (AB c fv) 14 fv' (AB c fv') := .s (.s (.s (.s (.s (.s (.s (.s (.s (.s (.s (.s (.s (.s .z)))))))))))))
theorem HE (W0 : World) (hG : Gj W0) (n : Nat) (path : ByteArray) (kd : Int) (fb fo fc : Nat) (fl : List Fg) (hF : Yr W0 fb fo fl) (v : JV) (cs : List Value) (w0 : World) (hj : DZ (n + 2) v cs W0) (hsm : Fy (n + 2) v) (hold : AQ W0 w0) :
 Bb Tryz.prog 45 [.agg [.string path, .int .i64 kd, .slice (some ⟨fb, fo, none⟩) fl.length fc].toArray, .agg cs.toArray] w0 (qZ (AE fl) kd v) (Ys (AE fl) kd v) := by
 have hj0 := hj
 have hsm0 := hsm
 obtain ⟨na, nc, lv, hcs⟩ : ∃ na nc lv, cs = [.int .i64 (v.k : Int), .string (tx v.t), lv, .slice na v.ns.length nc] := by
  cases v with
  | mk kd t ns l =>
    obtain ⟨lv, nv, rows, rfl, hn1, hn2, hn3, hn4⟩ := hj
    obtain ⟨na, nc, rfl, hT⟩ := FM hn1
    exact ⟨na, nc, lv, rfl⟩
 obtain ⟨la, lm, lc, rfl⟩ : ∃ a m c, lv = .slice a m c := by
  obtain ⟨lv2, nv2, h1, h2, h3⟩ := hj0.four
  rw [hcs] at h3
  injection h3 with _ h3; injection h3 with _ h3; injection h3 with h3 _
  rw [h3]; exact h1
 subst hcs
 have hfn := hF.n
 refine Ew Ai Tryz.func45 Tryz.ntmps45 hold ?_
 intro a hS
 refine Wh 2 hS ?_
 refine Lo (Bx ?_); intro b2
 refine Lo (Bx ?_); intro b3
 refine Lo (Al ?_); intro b4
 refine Wn 8 ?_
 refine Lo (Al ?_); intro b6
 refine Lo (Sa ?_)
 refine Wn 4 ?_
 refine Lo (Al ?_); intro b7
 refine Wn 12 ?_
 intro a w hS
 refine AW (γ := Nat × Cd × JX) (fun G a w => St 67 Ai w0 a w [(21, .int .i64 (G.1 : Int)), (20, .int .i64 (fl.length : Int)), (19, .slice (some ⟨fb, fo, none⟩) fl.length fc), (2, .pointer (some ⟨b2, 0, none⟩)), (3, .pointer (some ⟨b3, 0, none⟩)), (4, .pointer (some ⟨b4, 0, none⟩)), (6, .pointer (some ⟨b6, 0, none⟩)), (7, .pointer (some ⟨b7, 0, none⟩))] [.blk b7 G.2.2.cs 37, Be (n + 1) G.2.2, .blk b6 (AB G.2.1 (.slice none 0 0)) 24, .blk b4 (AB (CQ 0) (.slice none 0 0)) 24, .blk b3 [.int .i64 (v.k : Int), .string (tx v.t), .slice la lm lc, .slice na v.ns.length nc] 37, .blk b2 [.string path, .int .i64 kd, .slice (some ⟨fb, fo, none⟩) fl.length fc] 83, AG W0] ∧ G.1 ≤ fl.length ∧ CB (AE (fl.drop G.1)) v G.2.1 G.2.2.v = CB (AE fl) v (CQ kd) jz ∧ Fy (n + 1) G.2.2.v) (fun G => fl.length - G.1) (0, CQ kd, ⟨jz, BM, fun _ => False, rfl, rfl⟩) ⟨((hS.more (Y := Be (n + 1) ⟨jz, BM, fun _ => False, rfl, rfl⟩) (CH n 0 [] _) (fun b h => h)).sq).pk, Nat.zero_le _, rfl, ⟨Nat.zero_le _, Nat.zero_le _, fun x h => (by cases h), Nat.zero_le _, fun x h => (by cases h)⟩⟩ ?_
 intro G a w hI
 obtain ⟨k, c, fx⟩ := G
 obtain ⟨hS, hk, hgo, hfs⟩ := hI
 simp only at hS hk hgo hfs
 obtain ⟨flv, fnv, ⟨d1, d2, d3, rfl⟩, ⟨d4, d5, d6, rfl⟩, hfc⟩ := DZ.four (hS.gg (X := Be (n + 1) fx))
 rw [hfc] at hS
 refine Wh 6 hS ?_
 refine iD (fun hc22 => ?_) fun hc22 => ?_
 ·
  have hkn : k < fl.length := by omega
  obtain ⟨x, hx⟩ : ∃ x, fl[k]? = some x := ⟨_, List.getElem?_eq_getElem hkn⟩
  have hxm := List.mem_of_getElem? hx
  obtain ⟨u1, u2, hfg, o1, o2⟩ := M5 x
  have hxc := hF.c k x hx
  rw [hfg] at hxc
  refine Wn 7 ?_
  refine Xp (BV (l := [.string (tx x.f.nm), u1, u2]) rfl PB.1 CW.1 (fun w hh j u hj => AF (hh (AG W0) (by repeat constructor)) (hxc j u hj))) ?_
  refine Lo (Al ?_); intro b9
  intro a w hS
  refine Aa (I3 hS rfl rfl CW.1 (cs' := [.string (tx x.f.nm), u1, u2]) (by repeat constructor) rfl (.cons .z (.cons (.s .z) (.cons (.s (.s .z)) .nil))) (by have h1 : Bl (Value.string (tx x.f.nm)) = true := rfl; simp [o1, o2, h1]) ?_); intro w hS
  refine Wh 7 hS ?_
  refine Lo (cN YK (fun hS => UC W0 (n + 1) v _ x.f.nm _ hj0 hsm0 hS.od) ?_); intro x29
  intro a w hS
  obtain ⟨y, a1, a2, a3, a4, a5, a6, bb, hgt, hy, hyt, hcase⟩ := Py (n := n + 1) x29 hsm0 (hS.ok (kE (n + 1) v x.f.nm x29) (by repeat constructor))
  rw [hgt] at hS
  refine Wh 3 hS ?_
  refine Lo (Al ?_); intro b10
  refine Lo (Sa ?_)
  refine Wn 10 ?_
  refine iB (fun hc33 => ?_) fun hc33 => ?_
  ·
   have hno : CI v x.f.nm = none := by
    rcases hcase with ⟨h1, _⟩ | ⟨_, h2⟩
    · rw [h1] at hc33; cases hc33
    · exact h2
   rw [RV hx hno] at hgo
   refine Wn 3 ?_
   refine Lo (Sa ?_)
   refine Wn 4 ?_
   intro a w hS
   refine AC (AD (AC (AC (AD (AC ?_)))))
   refine Rm hS Tryz.results45 ?_
   have he := P0 (fs := AE fl) (kd := kd) (v := v) (by rw [← hgo]; exact (by decide : (32 : Int) ≠ 0))
   rw [← hgo] at he
   exact ⟨.inr ⟨(), by rw [he]; exact (by decide : (32 : Int) ≠ 0)⟩, by show _ = Ending.returned (Value.tuple [.agg (AB (CQ 0) (.slice none 0 0)).toArray, .int .i64 (Bj (AE fl) kd v).1].toArray); rw [he]; rfl, hS.chg, AL _, fun b h => h.elim⟩
  obtain ⟨xj, rfl, hxv, hxcs⟩ : ∃ x' : { x' : JX // CI v x.f.nm = some x'.v }, x29 = .inl x' ∧ x'.1.v = y ∧ x'.1.cs = [.int .i64 (y.k : Int), .string (tx y.t), .slice a1 a2 a3, .slice a4 a5 a6] := by
   rcases hcase with ⟨_, h2⟩ | ⟨h1, _⟩
   · exact h2
   · rw [h1] at hc33; cases hc33
  intro a w hS
  rw [show kE (n + 1) v x.f.nm (.inl xj) = Be (n + 1) xj.1 from rfl] at hS
  have hgy : CI v x.f.nm = some y := by rw [← hxv]; exact xj.2
  rw [Hk hx hgy] at hgo
  have hm6 : W0.heap.size ≤ b6 := Nat.not_lt.1 fun h => hS.sep (X := .blk b6 (AB c (.slice none 0 0)) 24) (Y := AG W0) (by repeat constructor) (by repeat constructor) b6 rfl h
  refine Wh 7 hS ?_
  refine Lo (cM gU (fun hS => (by have := XE W0 hG x (hF.ok x hxm) c (.slice none 0 0) y a1 a4 a2 a3 a5 a6 hyt b6 hm6 _ hS.od (hS.ok (.blk b6 (AB c (.slice none 0 0)) 24) (by repeat constructor)); rw [hfg] at this; exact this)) ?_); intro x37
  refine Wn 9 ?_
  refine iD (fun hc39 => ?_) fun hc39 => ?_
  ·
   rw [if_pos hc39] at hgo
   refine Wn 4 ?_
   refine Lo (Sa ?_)
   refine Wn 4 ?_
   intro a w hS
   refine AC (AD (AC (AC (AD (AC ?_)))))
   refine Rm hS Tryz.results45 ?_
   have he := P0 (fs := AE fl) (kd := kd) (v := v) (by rw [← hgo]; exact hc39)
   rw [← hgo] at he
   exact ⟨.inr ⟨(), by rw [he]; exact hc39⟩, by show _ = Ending.returned (Value.tuple [.agg (AB (CQ 0) (.slice none 0 0)).toArray, .int .i64 (Bj (AE fl) kd v).1].toArray); rw [he]; rfl, hS.chg, AL _, fun b h => h.elim⟩
  rw [if_neg hc39] at hgo
  intro a w hS
  rw [if_pos (Classical.not_not.1 hc39)] at hS
  refine Wh 9 hS ?_
  refine iD (fun hc44 => ?_) fun hc44 => ?_
  ·
   have hkd : x.f.kd = 2 := (hF.nm x hxm).1 (Bn hc44)
   rw [if_pos hkd] at hgo
   refine Wn 2 ?_
   refine Lo (Sa ?_)
   refine Wn 7 ?_
   intro a w hS
   exact ⟨(k + 1, G7 x.f y c, xj.1), by show fl.length - (k + 1) < fl.length - k; omega, by
     show St _ _ _ _ _ _ [.blk b7 xj.1.cs _, Be (n + 1) xj.1, _, _, _, _, _]
     rw [hxcs]
     exact hS.sp, hkn, by show CB (AE (fl.drop (k + 1))) v (G7 x.f y c) xj.1.v = _; rw [hxv]; exact hgo, by show Fy (n + 1) xj.1.v; rw [hxv]; exact Px hsm0 (M2 hgy).2⟩
  have hkd : ¬ x.f.kd = 2 := fun e => hc44 (by rw [(hF.nm x hxm).2 e]; rfl)
  rw [if_neg hkd] at hgo
  refine Wn 7 ?_
  intro a w hS
  exact ⟨(k + 1, G7 x.f y c, fx), by show fl.length - (k + 1) < fl.length - k; omega, by
    show St _ _ _ _ _ _ [.blk b7 fx.cs _, Be (n + 1) fx, _, _, _, _, _]
    rw [hfc]
    exact hS.sp, hkn, hgo, hfs⟩
 have hk2 : k = fl.length := by omega
 subst hk2
 rw [List.drop_length] at hgo
 have hgo' : CB (AE fl) v (CQ kd) jz = (0, c, fx.v) := hgo.symm
 have hfl : (AE fl).length = fl.length := List.length_map ..
 have hno0 : ¬ (CB (AE fl) v (CQ kd) jz).1 ≠ 0 := by rw [hgo']; exact fun h => h rfl
 refine Wn 1 ?_
 intro a w hS
 refine AH (AH (Aj ?_))
 refine Wh 13 hS ?_
 refine iD (fun hc53 => ?_) fun hc53 => ?_
 ·
  refine Wn 3 ?_
  refine Lo (Sa ?_)
  refine Wn 5 ?_
  intro a w hS
  refine Rm hS Tryz.results45 ?_
  have he : (Bj (AE fl) kd v).1 = 32 := by unfold Bj; rw [if_neg hno0, if_pos (by omega)]
  exact ⟨.inr ⟨(), by rw [he]; decide⟩, by show _ = Ending.returned (Value.tuple [.agg (AB (CQ 0) (.slice none 0 0)).toArray, .int .i64 (Bj (AE fl) kd v).1].toArray); rw [he]; rfl, hS.chg, AL _, fun b h => h.elim⟩
 refine Wn 5 ?_
 intro a w hS
 refine Aa (EY hS (.cons rfl .nil) gV rfl (OV w (hG.keep hS.od) n fx.v _ w (by rw [← hfc]; exact hS.gg (X := Be (n + 1) fx)) hfs (Ax w)) ?_); intro x57 a w hS
 obtain ⟨fq, fm, fcc, hfa, hfc2⟩ := XF x57 (hS.ok (mQ fx.v x57) (by repeat constructor))
 rw [hfa] at hS
 refine Wh 14 hS ?_
 refine iD (fun hc61 => ?_) fun hc61 => ?_
 ·
  refine Wn 4 ?_
  refine Lo (Sa ?_)
  refine Wn 5 ?_
  intro a w hS
  refine Rm hS Tryz.results45 ?_
  have he : (Bj (AE fl) kd v).1 = (AU fx.v).1 := by unfold Bj; rw [if_neg hno0, if_neg (by omega), hgo', if_pos hc61]
  exact ⟨.inr ⟨(), by rw [he]; exact hc61⟩, by show _ = Ending.returned (Value.tuple [.agg (AB (CQ 0) (.slice none 0 0)).toArray, .int .i64 (Bj (AE fl) kd v).1].toArray); rw [he]; rfl, hS.chg, AL _, fun b h => h.elim⟩
 obtain ⟨x', rfl, hx'⟩ : ∃ x' : { _x : Value // (AU fx.v).1 = 0 }, x57 = .inl x' ∧ x'.1 = .slice fq fm fcc := by
  rcases hfc2 with ⟨_, h⟩ | h
  · exact h
  · exact absurd h hc61
 have he : Bj (AE fl) kd v = (0, { c with fx := (AU fx.v).2 }) := by unfold Bj; rw [if_neg hno0, if_neg (by omega), hgo', if_neg hc61]
 intro a w hS
 rw [show mQ fx.v (.inl x') = AJ 160 4 x'.1 (AU fx.v).2.length ((AU fx.v).2.flatMap Az) from rfl, hx'] at hS
 refine Wq 6 hS ?_; intro a hS
 refine Aa (DS hS rfl rfl rfl PC.1 (by repeat constructor) (Kg c (.slice none 0 0) (.slice fq fm fcc)) ?_); intro w hS
 refine Wq 5 hS ?_; intro a hS
 refine Aa (Dn (l := AB c (.slice fq fm fcc)) hS rfl rfl Gf.1 (by repeat constructor) rfl rfl rfl ?_); intro w hS
 refine Wh 4 hS ?_
 intro a w hS
 refine Rm hS Tryz.results45 ?_
 exact ⟨.inl ⟨.slice fq fm fcc, by rw [he]⟩, by show _ = Ending.returned (Value.tuple [.agg (AB (Bj (AE fl) kd v).2 (.slice fq fm fcc)).toArray, .int .i64 0].toArray); rw [he]; rfl, hS.chg, by show (AJ 160 4 (.slice fq fm fcc) (Bj (AE fl) kd v).2.fx.length ((Bj (AE fl) kd v).2.fx.flatMap Az)).ok w; rw [he]; exact hS.ok (AJ 160 4 (.slice fq fm fcc) (AU fx.v).2.length ((AU fx.v).2.flatMap Az)) (by repeat constructor), fun b hb => (hS.mine (AJ 160 4 (.slice fq fm fcc) (AU fx.v).2.length ((AU fx.v).2.flatMap Az)) (by repeat constructor) rfl b hb).resolve_right (fun h => h)⟩
section
def Cw : Fg := ⟨KW, 71⟩
def CF : Fg := ⟨Hg, 72⟩
def D2 : Fg := ⟨Mk, 73⟩
def HF : Fg := ⟨Pm, 74⟩
def D6 : Fg := ⟨IT, 75⟩
def DW : Fg := ⟨G5, 77⟩
def FO : Fg := ⟨La, 77⟩
def BT : Fg := ⟨IE, 78⟩
def C4 : Fg := ⟨JF, 79⟩
def Li : Fg := ⟨Wp, 80⟩
def HG : Fg := ⟨Pn, 81⟩
def BK : Fg := ⟨E5, 82⟩
def CO : Fg := ⟨G6, 83⟩
def FP : Fg := ⟨Lb, 84⟩
def D7 : Fg := ⟨IU, 0⟩
def DK : List (List UInt8 × List Fg) := [([47, 114, 117, 108, 101, 115], [Cw, C4, DW]), ([47, 114, 117, 108, 101, 115, 47, 114, 101, 116, 105, 114, 101], [Cw, BT]), ([47, 99, 117, 115, 116, 111, 109, 101, 114, 115], [CF, D2, Cw, D7]), ([47, 117, 115, 97, 103, 101], [HF, CF, D6, HG, BT]), ([47, 98, 105, 108, 108, 115], [CF, C4, Li, BT]), ([47, 112, 97, 121, 109, 101, 110, 116, 115], [BK, CO, BT]), ([47, 99, 114, 101, 100, 105, 116, 115], [BK, CO, BT]), ([47, 118, 111, 105, 100, 115], [BK, BT]), ([47, 114, 97, 116, 101, 115], [D2, BT, FP]), ([47, 114, 101, 118, 97, 108, 117, 97, 116, 105, 111, 110, 115], [BT]), ([47, 99, 108, 111, 115, 105, 110, 103, 115], [BT]), ([47, 113, 117, 101, 114, 121], [FO])]
theorem kG : DK.map (fun r => (r.1, AE r.2)) = pJ := rfl
structure RW (x : List UInt8 × List Fg) : Prop where
 ok : ∀ y ∈ x.2, y.ok
 nm : ∀ y ∈ x.2, y.f.nm = UK ↔ y.f.kd = 2
 n : x.2.length ≤ 1000
theorem JR : Cw.ok := ⟨⟨by decide, by decide, by decide⟩, fun _ => RR⟩
theorem Hl : CF.ok := ⟨⟨by decide, by decide, by decide⟩, fun _ => OX⟩
theorem M6 : D2.ok := ⟨⟨by decide, by decide, by decide⟩, fun _ => RS⟩
theorem UL : HF.ok := ⟨⟨by decide, by decide, by decide⟩, fun _ => RT⟩
theorem Oa : D6.ok := ⟨⟨by decide, by decide, by decide⟩, fun _ => M3⟩
theorem M7 : DW.ok := ⟨⟨by decide, by decide, by decide⟩, fun _ => JQ⟩
theorem RX : FO.ok := ⟨⟨by decide, by decide, by decide⟩, fun _ => JQ⟩
theorem D8 : BT.ok := ⟨⟨by decide, by decide, by decide⟩, fun _ => UF⟩
theorem Kh : C4.ok := ⟨⟨by decide, by decide, by decide⟩, fun _ => OY⟩
theorem XG : Li.ok := ⟨⟨by decide, by decide, by decide⟩, fun _ => UG⟩
theorem UM : HG.ok := ⟨⟨by decide, by decide, by decide⟩, fun _ => RU⟩
theorem Fk : BK.ok := ⟨⟨by decide, by decide, by decide⟩, fun _ => Lh⟩
theorem JS : CO.ok := ⟨⟨by decide, by decide, by decide⟩, fun _ => M4⟩
theorem RY : FP.ok := ⟨⟨by decide, by decide, by decide⟩, fun _ => OZ⟩
theorem Ob : D7.ok := ⟨⟨by decide, by decide, by decide⟩, fun h => absurd rfl h⟩
theorem AO {α : Type} {p : α → Prop} {x : α} {l : List α} (h : p x) (t : ∀ y ∈ l, p y) : ∀ y ∈ x :: l, p y := fun y hy => by
 rcases List.mem_cons.1 hy with rfl | hy
 · exact h
 · exact t y hy
theorem pS : RW ([47, 114, 117, 108, 101, 115], [Cw, C4, DW]) := ⟨AO JR (AO Kh (AO M7 (fun _ h => by cases h))), by decide, by decide⟩
theorem pT : RW ([47, 114, 117, 108, 101, 115, 47, 114, 101, 116, 105, 114, 101], [Cw, BT]) := ⟨AO JR (AO D8 (fun _ h => by cases h)), by decide, by decide⟩
theorem pU : RW ([47, 99, 117, 115, 116, 111, 109, 101, 114, 115], [CF, D2, Cw, D7]) := ⟨AO Hl (AO M6 (AO JR (AO Ob (fun _ h => by cases h)))), by decide, by decide⟩
theorem pV : RW ([47, 117, 115, 97, 103, 101], [HF, CF, D6, HG, BT]) := ⟨AO UL (AO Hl (AO Oa (AO UM (AO D8 (fun _ h => by cases h))))), by decide, by decide⟩
theorem pW : RW ([47, 98, 105, 108, 108, 115], [CF, C4, Li, BT]) := ⟨AO Hl (AO Kh (AO XG (AO D8 (fun _ h => by cases h)))), by decide, by decide⟩
theorem pX : RW ([47, 112, 97, 121, 109, 101, 110, 116, 115], [BK, CO, BT]) := ⟨AO Fk (AO JS (AO D8 (fun _ h => by cases h))), by decide, by decide⟩
theorem pY : RW ([47, 99, 114, 101, 100, 105, 116, 115], [BK, CO, BT]) := ⟨AO Fk (AO JS (AO D8 (fun _ h => by cases h))), by decide, by decide⟩
theorem pZ : RW ([47, 118, 111, 105, 100, 115], [BK, BT]) := ⟨AO Fk (AO D8 (fun _ h => by cases h)), by decide, by decide⟩
theorem qA : RW ([47, 114, 97, 116, 101, 115], [D2, BT, FP]) := ⟨AO M6 (AO D8 (AO RY (fun _ h => by cases h))), by decide, by decide⟩
theorem qC : RW ([47, 114, 101, 118, 97, 108, 117, 97, 116, 105, 111, 110, 115], [BT]) := ⟨AO D8 (fun _ h => by cases h), by decide, by decide⟩
theorem kH : RW ([47, 99, 108, 111, 115, 105, 110, 103, 115], [BT]) := ⟨AO D8 (fun _ h => by cases h), by decide, by decide⟩
theorem kI : RW ([47, 113, 117, 101, 114, 121], [FO]) := ⟨AO RX (fun _ h => by cases h), by decide, by decide⟩
theorem Hm : ∀ x ∈ DK, RW x := AO pS (AO pT (AO pU (AO pV (AO pW (AO pX (AO pY (AO pZ (AO qA (AO qC (AO kH (AO kI (fun _ h => by cases h))))))))))))
def P1 (f : Nat → Nat) : List Value := [.string (tx [47, 114, 117, 108, 101, 115]), .int .i64 1, .slice (some ⟨f 0, 0, none⟩) 3 3] ++ ([.string (tx [47, 114, 117, 108, 101, 115, 47, 114, 101, 116, 105, 114, 101]), .int .i64 2, .slice (some ⟨f 1, 0, none⟩) 2 2] ++ ([.string (tx [47, 99, 117, 115, 116, 111, 109, 101, 114, 115]), .int .i64 3, .slice (some ⟨f 2, 0, none⟩) 4 4] ++ ([.string (tx [47, 117, 115, 97, 103, 101]), .int .i64 4, .slice (some ⟨f 3, 0, none⟩) 5 5] ++ ([.string (tx [47, 98, 105, 108, 108, 115]), .int .i64 5, .slice (some ⟨f 4, 0, none⟩) 4 4] ++ ([.string (tx [47, 112, 97, 121, 109, 101, 110, 116, 115]), .int .i64 6, .slice (some ⟨f 5, 0, none⟩) 3 3] ++ ([.string (tx [47, 99, 114, 101, 100, 105, 116, 115]), .int .i64 7, .slice (some ⟨f 6, 0, none⟩) 3 3] ++ ([.string (tx [47, 118, 111, 105, 100, 115]), .int .i64 8, .slice (some ⟨f 7, 0, none⟩) 2 2] ++ ([.string (tx [47, 114, 97, 116, 101, 115]), .int .i64 9, .slice (some ⟨f 8, 0, none⟩) 3 3] ++ ([.string (tx [47, 114, 101, 118, 97, 108, 117, 97, 116, 105, 111, 110, 115]), .int .i64 10, .slice (some ⟨f 9, 0, none⟩) 1 1] ++ ([.string (tx [47, 99, 108, 111, 115, 105, 110, 103, 115]), .int .i64 11, .slice (some ⟨f 10, 0, none⟩) 1 1] ++ ([.string (tx [47, 113, 117, 101, 114, 121]), .int .i64 12, .slice (some ⟨f 11, 0, none⟩) 1 1] ++ [])))))))))))
structure DQ (lo b : Nat) (f : Nat → Nat) (w : World) : Prop where
 hb : lo ≤ b
 c : w.heap[b]? = some (.cells (P1 f).toArray 83 (0, 0))
 r : ∀ k x, DK[k]? = some x → lo ≤ f k ∧ w.heap[f k]? = some (.cells (x.2.flatMap A0).toArray 88 (0, 0))
inductive bR where
 | val (u : Value)
 | sl (q : Nat) (vs : List Value)
 | rt (p : List UInt8) (k : Int) (q : Nat) (vs : List Value)
 | all
def bR.den (lo : Nat) : bR → Value → World → Prop
 | .val u, v, _ => v = u
 | .sl q vs, v, w => ∃ b, lo ≤ b ∧ v = .slice (some ⟨b, 0, none⟩) q q ∧ w.heap[b]? = some (.cells vs.toArray 88 (0, 0))
 | .rt p k q vs, v, w => ∃ b, lo ≤ b ∧ v = .agg [.string (tx p), .int .i64 k, .slice (some ⟨b, 0, none⟩) q q].toArray ∧ w.heap[b]? = some (.cells vs.toArray 88 (0, 0))
 | .all, v, w => ∃ b f, v = .slice (some ⟨b, 0, none⟩) 12 12 ∧ DQ lo b f w
theorem Bk {w1 w2 : World} (hc : Bd Ai w1 w2) {b : Nat} {o : Obj} (h : w1.heap[b]? = some o) : w2.heap[b]? = some o :=
 (hc.block b (Array.getElem?_eq_some_iff.1 h).1 (fun h => h)).trans h
theorem DQ.keep {lo b : Nat} {f : Nat → Nat} {w1 w2 : World} (h : DQ lo b f w1) (hc : Bd Ai w1 w2) : DQ lo b f w2 :=
 ⟨h.hb, Bk hc h.c, fun k x hx => ⟨(h.r k x hx).1, Bk hc (h.r k x hx).2⟩⟩
theorem UN (lo : Nat) (k : bR) (v : Value) (w1 w2 : World) (hc : Bd Ai w1 w2) (h : k.den lo v w1) : k.den lo v w2 := by
 cases k with
 | val u => exact h
 | sl q vs => obtain ⟨b, h1, h2, h3⟩ := h; exact ⟨b, h1, h2, Bk hc h3⟩
 | rt p k q vs => obtain ⟨b, h1, h2, h3⟩ := h; exact ⟨b, h1, h2, Bk hc h3⟩
 | all => obtain ⟨b, f, h1, h2⟩ := h; exact ⟨b, f, h1, h2.keep hc⟩
def Yt : List (Nat × Nat × bR) := [(3, 29, .val (.agg (A0 DW).toArray)), (4, 30, .sl 3 (A0 Cw ++ (A0 C4 ++ (A0 DW ++ [])))), (5, 31, .rt [47, 114, 117, 108, 101, 115] 1 3 (A0 Cw ++ (A0 C4 ++ (A0 DW ++ [])))), (8, 34, .sl 2 (A0 Cw ++ (A0 BT ++ []))), (9, 35, .rt [47, 114, 117, 108, 101, 115, 47, 114, 101, 116, 105, 114, 101] 2 2 (A0 Cw ++ (A0 BT ++ []))), (14, 40, .sl 4 (A0 CF ++ (A0 D2 ++ (A0 Cw ++ (A0 D7 ++ []))))), (15, 41, .rt [47, 99, 117, 115, 116, 111, 109, 101, 114, 115] 3 4 (A0 CF ++ (A0 D2 ++ (A0 Cw ++ (A0 D7 ++ []))))), (21, 47, .sl 5 (A0 HF ++ (A0 CF ++ (A0 D6 ++ (A0 HG ++ (A0 BT ++ [])))))), (22, 48, .rt [47, 117, 115, 97, 103, 101] 4 5 (A0 HF ++ (A0 CF ++ (A0 D6 ++ (A0 HG ++ (A0 BT ++ [])))))), (27, 53, .sl 4 (A0 CF ++ (A0 C4 ++ (A0 Li ++ (A0 BT ++ []))))), (28, 54, .rt [47, 98, 105, 108, 108, 115] 5 4 (A0 CF ++ (A0 C4 ++ (A0 Li ++ (A0 BT ++ []))))), (32, 58, .sl 3 (A0 BK ++ (A0 CO ++ (A0 BT ++ [])))), (33, 59, .rt [47, 112, 97, 121, 109, 101, 110, 116, 115] 6 3 (A0 BK ++ (A0 CO ++ (A0 BT ++ [])))), (37, 63, .sl 3 (A0 BK ++ (A0 CO ++ (A0 BT ++ [])))), (38, 64, .rt [47, 99, 114, 101, 100, 105, 116, 115] 7 3 (A0 BK ++ (A0 CO ++ (A0 BT ++ [])))), (41, 67, .sl 2 (A0 BK ++ (A0 BT ++ []))), (42, 68, .rt [47, 118, 111, 105, 100, 115] 8 2 (A0 BK ++ (A0 BT ++ []))), (46, 72, .sl 3 (A0 D2 ++ (A0 BT ++ (A0 FP ++ [])))), (47, 73, .rt [47, 114, 97, 116, 101, 115] 9 3 (A0 D2 ++ (A0 BT ++ (A0 FP ++ [])))), (49, 75, .sl 1 (A0 BT ++ [])), (50, 76, .rt [47, 114, 101, 118, 97, 108, 117, 97, 116, 105, 111, 110, 115] 10 1 (A0 BT ++ [])), (52, 78, .sl 1 (A0 BT ++ [])), (53, 79, .rt [47, 99, 108, 111, 115, 105, 110, 103, 115] 11 1 (A0 BT ++ [])), (55, 81, .val (.agg (A0 FO).toArray)), (56, 82, .sl 1 (A0 FO ++ [])), (57, 83, .rt [47, 113, 117, 101, 114, 121] 12 1 (A0 FO ++ [])), (58, 84, .all), (59, 0, .all)]
def Oc : List (Nat × Nat × bR) → Nat → Nat × bR
 | [], _ => (0, .all)
 | (j, x) :: l, i => bif Nat.beq j i then x else Oc l i
def qD : List Nat := [3, 4, 5, 8, 9, 14, 15, 21, 22, 27, 28, 32, 33, 37, 38, 41, 42, 46, 47, 49, 50, 52, 53, 55, 56, 57, 58, 59]
def UO (i : Nat) : Nat := (Oc Yt i).1
def rA (i : Nat) : bR := (Oc Yt i).2
theorem bS : ∀ i ∈ qD, ∀ j ∈ qD, UO i = UO j → i = j := by decide +kernel
section
variable {P : Program} {n : NN} {w0 : World} {a : Act} {w : World} {L : List (Nat × Value)}
variable {Q : Exit → Act → World → Prop} {d ty : Nat} {pos : String} {af : Array Edge} {g : Option (Nat × Bool)}
theorem CM {lo T E m q : Nat} {zs vs : List Value} {r : List (Nat × Operand)} (hlo : lo ≤ w.heap.size) (hp : De L m 0 r vs) (hS : St n Ai w a w L []) (hT : BD P T = some E) (hs : BS P E = some m) (hz : A3 P E = some zs) (hzl : Nat.beq zs.length m = true) (hm : Nat.blt 0 m = true) (hm2 : Nat.ble (q * m) 16777216 = true) (hq : Nat.beq r.length q = true) (hn : Nat.blt d n.n = true) :
 OW P ⟨some d, .buildSlice T q r.toArray, ty, pos, af, g⟩ a w (fun a2 w2 => ∃ v, Bd Ai w w2 ∧ Sl n a2 ((d, v) :: L) ∧ ∃ b, lo ≤ b ∧ v = .slice (some ⟨b, 0, none⟩) q q ∧ w2.heap[b]? = some (.cells vs.toArray E (0, 0))) Q :=
 B4 hS hT hs hz hzl hm hm2 hq hp hn fun _ _ b hS' => ⟨_, hS'.chg, hS'.sl, b, Nat.le_trans hlo ((hS'.mine _ (.head _) rfl b rfl).resolve_right id), rfl, hS'.get (.head _)⟩
end
theorem H3 (nm : ByteArray) (w0 : World) : Ae Tryz.prog 76 [.string nm] w0 (.agg [.string nm, .func (.func 77) #[] #[], .nilFunc].toArray) := by
 refine Eo Ai Tryz.func76 Tryz.ntmps76 ?_
 intro a hS
 refine Wh 2 hS ?_
 refine Lo (Al ?_); intro b2
 refine Wn 6 ?_
 refine Lo (Sa ?_)
 refine Wn 3 ?_
 intro a w hS
 refine Ro hS Tryz.results76 ?_
 exact ⟨rfl, hS.chg⟩
end
def Er (lo N b : Nat) (f : Nat → Nat) : AT := .any (fun k => lo ≤ k ∧ k < N) (DQ lo b f) true
theorem bT {lo b : Nat} {f : Nat → Nat} {w : World} (h : DQ lo b f w) : (Er lo w.heap.size b f).ok w := by
 refine ⟨fun k hk => hk.2, fun w' hw => ⟨h.hb, ?_, fun k x hx => ⟨(h.r k x hx).1, ?_⟩⟩⟩
 · rw [hw b ⟨h.hb, (Array.getElem?_eq_some_iff.1 h.c).1⟩]; exact h.c
 · rw [hw (f k) ⟨(h.r k x hx).1, (Array.getElem?_eq_some_iff.1 (h.r k x hx).2).1⟩]; exact (h.r k x hx).2
theorem bU {lo : Nat} {f : Nat → Nat} {w : World} (h0 : lo ≤ f 0 ∧ w.heap[f 0]? = some (.cells (A0 Cw ++ (A0 C4 ++ (A0 DW ++ []))).toArray 88 (0, 0))) (h1 : lo ≤ f 1 ∧ w.heap[f 1]? = some (.cells (A0 Cw ++ (A0 BT ++ [])).toArray 88 (0, 0))) (h2 : lo ≤ f 2 ∧ w.heap[f 2]? = some (.cells (A0 CF ++ (A0 D2 ++ (A0 Cw ++ (A0 D7 ++ [])))).toArray 88 (0, 0))) (h3 : lo ≤ f 3 ∧ w.heap[f 3]? = some (.cells (A0 HF ++ (A0 CF ++ (A0 D6 ++ (A0 HG ++ (A0 BT ++ []))))).toArray 88 (0, 0))) (h4 : lo ≤ f 4 ∧ w.heap[f 4]? = some (.cells (A0 CF ++ (A0 C4 ++ (A0 Li ++ (A0 BT ++ [])))).toArray 88 (0, 0))) (h5 : lo ≤ f 5 ∧ w.heap[f 5]? = some (.cells (A0 BK ++ (A0 CO ++ (A0 BT ++ []))).toArray 88 (0, 0))) (h6 : lo ≤ f 6 ∧ w.heap[f 6]? = some (.cells (A0 BK ++ (A0 CO ++ (A0 BT ++ []))).toArray 88 (0, 0))) (h7 : lo ≤ f 7 ∧ w.heap[f 7]? = some (.cells (A0 BK ++ (A0 BT ++ [])).toArray 88 (0, 0))) (h8 : lo ≤ f 8 ∧ w.heap[f 8]? = some (.cells (A0 D2 ++ (A0 BT ++ (A0 FP ++ []))).toArray 88 (0, 0))) (h9 : lo ≤ f 9 ∧ w.heap[f 9]? = some (.cells (A0 BT ++ []).toArray 88 (0, 0))) (h10 : lo ≤ f 10 ∧ w.heap[f 10]? = some (.cells (A0 BT ++ []).toArray 88 (0, 0))) (h11 : lo ≤ f 11 ∧ w.heap[f 11]? = some (.cells (A0 FO ++ []).toArray 88 (0, 0))) : ∀ k x, DK[k]? = some x → lo ≤ f k ∧ w.heap[f k]? = some (.cells (x.2.flatMap A0).toArray 88 (0, 0)) := by
 intro k x hx
 rcases k with _ | _ | _ | _ | _ | _ | _ | _ | _ | _ | _ | _ | k
 ·
  obtain rfl : _ = x := by injection hx
  exact h0
 ·
  obtain rfl : _ = x := by injection hx
  exact h1
 ·
  obtain rfl : _ = x := by injection hx
  exact h2
 ·
  obtain rfl : _ = x := by injection hx
  exact h3
 ·
  obtain rfl : _ = x := by injection hx
  exact h4
 ·
  obtain rfl : _ = x := by injection hx
  exact h5
 ·
  obtain rfl : _ = x := by injection hx
  exact h6
 ·
  obtain rfl : _ = x := by injection hx
  exact h7
 ·
  obtain rfl : _ = x := by injection hx
  exact h8
 ·
  obtain rfl : _ = x := by injection hx
  exact h9
 ·
  obtain rfl : _ = x := by injection hx
  exact h10
 ·
  obtain rfl : _ = x := by injection hx
  exact h11
 · exact absurd (List.getElem?_eq_some_iff.1 hx).1 (by show ¬ k + 12 < 12; omega)
theorem RZ (w0 : World) : Bb Tryz.prog 26 [] w0 (fun x : Nat × Nat × (Nat → Nat) => .slice (some ⟨x.2.1, 0, none⟩) 12 12) (fun x => Er w0.heap.size x.1 x.2.1 x.2.2) := by
 refine Bq [] [] Ai Tryz.func26 rfl Tryz.ntmps26 trivial rfl (by simp) (by simp) (by simp) ?_
 intro a hS
 refine Wh 8 hS ?_
 refine Lo (Al ?_); intro b1
 refine Lo (Sa ?_)
 refine Wn 5 ?_
 refine Lo (Al ?_); intro b2
 refine Lo (Sa ?_)
 refine Wn 5 ?_
 refine Lo (Al ?_); intro b3
 refine Lo (Sa ?_)
 refine Wn 5 ?_
 refine Lo (Al ?_); intro b4
 refine Lo (Sa ?_)
 refine Wn 5 ?_
 refine Lo (Al ?_); intro b5
 refine Lo (Sa ?_)
 refine Wn 10 ?_
 refine Lo (Al ?_); intro b7
 refine Lo (Sa ?_)
 refine Wn 5 ?_
 refine Lo (Al ?_); intro b8
 refine Lo (Sa ?_)
 refine Wn 5 ?_
 refine Lo (Al ?_); intro b9
 refine Lo (Sa ?_)
 refine Wn 5 ?_
 refine Lo (Al ?_); intro b10
 refine Lo (Sa ?_)
 refine Wn 5 ?_
 refine Lo (Al ?_); intro b11
 refine Lo (Sa ?_)
 refine Wn 5 ?_
 refine Lo (Al ?_); intro b12
 refine Lo (Sa ?_)
 refine Wn 5 ?_
 refine Lo (Al ?_); intro b13
 refine Lo (Sa ?_)
 refine Wn 3 ?_
 refine Dr 60 [] [.blk b13 [.string ⟨#[110, 97, 110, 111]⟩, .nilFunc, .func (.func 84) #[] #[]] 88, .blk b12 [.string ⟨#[117, 110, 105, 116, 115]⟩, .nilFunc, .func (.func 83) #[] #[]] 88, .blk b11 [.string ⟨#[110, 117, 109, 98, 101, 114]⟩, .nilFunc, .func (.func 82) #[] #[]] 88, .blk b10 [.string ⟨#[113, 116, 121]⟩, .nilFunc, .func (.func 81) #[] #[]] 88, .blk b9 [.string ⟨#[116, 111]⟩, .nilFunc, .func (.func 80) #[] #[]] 88, .blk b8 [.string ⟨#[102, 114, 111, 109]⟩, .nilFunc, .func (.func 79) #[] #[]] 88, .blk b7 [.string ⟨#[97, 116]⟩, .nilFunc, .func (.func 78) #[] #[]] 88, .blk b5 [.string ⟨#[109, 101, 116, 101, 114]⟩, .func (.func 75) #[] #[], .nilFunc] 88, .blk b4 [.string ⟨#[107, 101, 121]⟩, .func (.func 74) #[] #[], .nilFunc] 88, .blk b3 [.string ⟨#[99, 117, 114]⟩, .func (.func 73) #[] #[], .nilFunc] 88, .blk b2 [.string ⟨#[110, 97, 109, 101]⟩, .func (.func 72) #[] #[], .nilFunc] 88, .blk b1 [.string ⟨#[115, 101, 116]⟩, .func (.func 71) #[] #[], .nilFunc] 88] ?_
 refine ZR 3 ?_
 refine Zu 6 _ rfl ExA.go ?_
 refine Zu 7 _ rfl ExA.go ?_
 refine Zu 10 _ rfl ExA.go ?_
 refine Zu 11 _ rfl ExA.go ?_
 refine Zu 12 _ rfl ExA.go ?_
 refine Zv 13 _ rfl ExA.go ?_
 refine Zu 16 _ rfl ExA.go ?_
 refine Zu 17 _ rfl ExA.go ?_
 refine Zu 18 _ rfl ExA.go ?_
 refine Zu 19 _ rfl ExA.go ?_
 refine Zu 20 _ rfl ExA.go ?_
 refine Zu 23 _ rfl ExA.go ?_
 refine Zu 24 _ rfl ExA.go ?_
 refine Zu 25 _ rfl ExA.go ?_
 refine Zu 26 _ rfl ExA.go ?_
 refine Zu 29 _ rfl ExA.go ?_
 refine Zu 30 _ rfl ExA.go ?_
 refine Zu 31 _ rfl ExA.go ?_
 refine Zu 34 _ rfl ExA.go ?_
 refine Zu 35 _ rfl ExA.go ?_
 refine Zu 36 _ rfl ExA.go ?_
 refine Zu 39 _ rfl ExA.go ?_
 refine Zu 40 _ rfl ExA.go ?_
 refine Zu 43 _ rfl ExA.go ?_
 refine Zu 44 _ rfl ExA.go ?_
 refine Zu 45 _ rfl ExA.go ?_
 refine Zu 48 _ rfl ExA.go ?_
 refine Zu 51 _ rfl ExA.go ?_
 refine Zv 54 _ rfl ExA.go ?_
 intro a w hS
 refine bM (hS.slots (L' := [(26, .agg (A0 Cw).toArray), (27, .agg (A0 C4).toArray), (28, .func (.func 76) #[] #[]), (32, .agg (A0 Cw).toArray), (33, .agg (A0 BT).toArray), (36, .agg (A0 CF).toArray), (37, .agg (A0 D2).toArray), (38, .agg (A0 Cw).toArray), (39, .agg (A0 D7).toArray), (42, .agg (A0 HF).toArray), (43, .agg (A0 CF).toArray), (44, .agg (A0 D6).toArray), (45, .agg (A0 HG).toArray), (46, .agg (A0 BT).toArray), (49, .agg (A0 CF).toArray), (50, .agg (A0 C4).toArray), (51, .agg (A0 Li).toArray), (52, .agg (A0 BT).toArray), (55, .agg (A0 BK).toArray), (56, .agg (A0 CO).toArray), (57, .agg (A0 BT).toArray), (60, .agg (A0 BK).toArray), (61, .agg (A0 CO).toArray), (62, .agg (A0 BT).toArray), (65, .agg (A0 BK).toArray), (66, .agg (A0 BT).toArray), (69, .agg (A0 D2).toArray), (70, .agg (A0 BT).toArray), (71, .agg (A0 FP).toArray), (74, .agg (A0 BT).toArray), (77, .agg (A0 BT).toArray), (80, .func (.func 76) #[] #[])]) (by repeat (first | exact trivial | refine ⟨rfl, ?_⟩))) (fun _ h => h) qD UO (fun i => (rA i).den w.heap.size) (fun i => UN _ (rA i)) (by kernel_rfl) (by kernel_rfl) bS (by kernel_rfl) (by kernel_rfl) (by decide +kernel) ?_ ?_
 ·
  refine AO ?_ (AO ?_ (AO ?_ (AO ?_ (AO ?_ (AO ?_ (AO ?_ (AO ?_ (AO ?_ (AO ?_ (AO ?_ (AO ?_ (AO ?_ (AO ?_ (AO ?_ (AO ?_ (AO ?_ (AO ?_ (AO ?_ (AO ?_ (AO ?_ (AO ?_ (AO ?_ (AO ?_ (AO ?_ (AO ?_ (AO ?_ (AO ?_ (fun _ h => by cases h))))))))))))))))))))))))))))
  ·
   refine ⟨⟨_, _, _, _, _, rfl, fun a1 w1 L1 hc hsup hpre hS1 => ?_⟩⟩
   exact Cq (cs := []) hS1 (hsup 28 _ rfl) (.cons rfl .nil) gE (by kernel_rfl) (H3 _ w1) fun a2 w2 hS2 => ⟨_, hS2.chg, hS2.sl, rfl⟩
  ·
   refine ⟨⟨_, _, _, _, _, rfl, fun a1 w1 L1 hc hsup hpre hS1 => ?_⟩⟩
   obtain ⟨v29, g29, rfl⟩ := hpre 3 (by decide) (by kernel_rfl)
   exact CM hc.size (.agg (l := A0 Cw) (hsup 26 _ rfl) rfl (.agg (l := A0 C4) (hsup 27 _ rfl) rfl (.agg (l := A0 DW) (g29) rfl .nil))) hS1 DD.1 CW.1 Dt.1 rfl rfl rfl rfl (by kernel_rfl)
  ·
   refine ⟨⟨_, _, _, _, _, rfl, fun a1 w1 L1 hc hsup hpre hS1 => ?_⟩⟩
   obtain ⟨_, g, b, h1, rfl, h2⟩ := hpre 4 (by decide) (by kernel_rfl)
   exact FU hS1 (Cl Dg.1 DC.1 (.one rfl rfl rfl .z (.one rfl rfl rfl (.s .z) (.one g rfl rfl (.s (.s .z)) .nil)))) (by kernel_rfl) fun a2 hS2 => ⟨_, hS2.chg, hS2.sl, b, h1, rfl, h2⟩
  ·
   refine ⟨⟨_, _, _, _, _, rfl, fun a1 w1 L1 hc hsup hpre hS1 => ?_⟩⟩
   exact CM hc.size (.agg (l := A0 Cw) (hsup 32 _ rfl) rfl (.agg (l := A0 BT) (hsup 33 _ rfl) rfl .nil)) hS1 DD.1 CW.1 Dt.1 rfl rfl rfl rfl (by kernel_rfl)
  ·
   refine ⟨⟨_, _, _, _, _, rfl, fun a1 w1 L1 hc hsup hpre hS1 => ?_⟩⟩
   obtain ⟨_, g, b, h1, rfl, h2⟩ := hpre 8 (by decide) (by kernel_rfl)
   exact FU hS1 (Cl Dg.1 DC.1 (.one rfl rfl rfl .z (.one rfl rfl rfl (.s .z) (.one g rfl rfl (.s (.s .z)) .nil)))) (by kernel_rfl) fun a2 hS2 => ⟨_, hS2.chg, hS2.sl, b, h1, rfl, h2⟩
  ·
   refine ⟨⟨_, _, _, _, _, rfl, fun a1 w1 L1 hc hsup hpre hS1 => ?_⟩⟩
   exact CM hc.size (.agg (l := A0 CF) (hsup 36 _ rfl) rfl (.agg (l := A0 D2) (hsup 37 _ rfl) rfl (.agg (l := A0 Cw) (hsup 38 _ rfl) rfl (.agg (l := A0 D7) (hsup 39 _ rfl) rfl .nil)))) hS1 DD.1 CW.1 Dt.1 rfl rfl rfl rfl (by kernel_rfl)
  ·
   refine ⟨⟨_, _, _, _, _, rfl, fun a1 w1 L1 hc hsup hpre hS1 => ?_⟩⟩
   obtain ⟨_, g, b, h1, rfl, h2⟩ := hpre 14 (by decide) (by kernel_rfl)
   exact FU hS1 (Cl Dg.1 DC.1 (.one rfl rfl rfl .z (.one rfl rfl rfl (.s .z) (.one g rfl rfl (.s (.s .z)) .nil)))) (by kernel_rfl) fun a2 hS2 => ⟨_, hS2.chg, hS2.sl, b, h1, rfl, h2⟩
  ·
   refine ⟨⟨_, _, _, _, _, rfl, fun a1 w1 L1 hc hsup hpre hS1 => ?_⟩⟩
   exact CM hc.size (.agg (l := A0 HF) (hsup 42 _ rfl) rfl (.agg (l := A0 CF) (hsup 43 _ rfl) rfl (.agg (l := A0 D6) (hsup 44 _ rfl) rfl (.agg (l := A0 HG) (hsup 45 _ rfl) rfl (.agg (l := A0 BT) (hsup 46 _ rfl) rfl .nil))))) hS1 DD.1 CW.1 Dt.1 rfl rfl rfl rfl (by kernel_rfl)
  ·
   refine ⟨⟨_, _, _, _, _, rfl, fun a1 w1 L1 hc hsup hpre hS1 => ?_⟩⟩
   obtain ⟨_, g, b, h1, rfl, h2⟩ := hpre 21 (by decide) (by kernel_rfl)
   exact FU hS1 (Cl Dg.1 DC.1 (.one rfl rfl rfl .z (.one rfl rfl rfl (.s .z) (.one g rfl rfl (.s (.s .z)) .nil)))) (by kernel_rfl) fun a2 hS2 => ⟨_, hS2.chg, hS2.sl, b, h1, rfl, h2⟩
  ·
   refine ⟨⟨_, _, _, _, _, rfl, fun a1 w1 L1 hc hsup hpre hS1 => ?_⟩⟩
   exact CM hc.size (.agg (l := A0 CF) (hsup 49 _ rfl) rfl (.agg (l := A0 C4) (hsup 50 _ rfl) rfl (.agg (l := A0 Li) (hsup 51 _ rfl) rfl (.agg (l := A0 BT) (hsup 52 _ rfl) rfl .nil)))) hS1 DD.1 CW.1 Dt.1 rfl rfl rfl rfl (by kernel_rfl)
  ·
   refine ⟨⟨_, _, _, _, _, rfl, fun a1 w1 L1 hc hsup hpre hS1 => ?_⟩⟩
   obtain ⟨_, g, b, h1, rfl, h2⟩ := hpre 27 (by decide) (by kernel_rfl)
   exact FU hS1 (Cl Dg.1 DC.1 (.one rfl rfl rfl .z (.one rfl rfl rfl (.s .z) (.one g rfl rfl (.s (.s .z)) .nil)))) (by kernel_rfl) fun a2 hS2 => ⟨_, hS2.chg, hS2.sl, b, h1, rfl, h2⟩
  ·
   refine ⟨⟨_, _, _, _, _, rfl, fun a1 w1 L1 hc hsup hpre hS1 => ?_⟩⟩
   exact CM hc.size (.agg (l := A0 BK) (hsup 55 _ rfl) rfl (.agg (l := A0 CO) (hsup 56 _ rfl) rfl (.agg (l := A0 BT) (hsup 57 _ rfl) rfl .nil))) hS1 DD.1 CW.1 Dt.1 rfl rfl rfl rfl (by kernel_rfl)
  ·
   refine ⟨⟨_, _, _, _, _, rfl, fun a1 w1 L1 hc hsup hpre hS1 => ?_⟩⟩
   obtain ⟨_, g, b, h1, rfl, h2⟩ := hpre 32 (by decide) (by kernel_rfl)
   exact FU hS1 (Cl Dg.1 DC.1 (.one rfl rfl rfl .z (.one rfl rfl rfl (.s .z) (.one g rfl rfl (.s (.s .z)) .nil)))) (by kernel_rfl) fun a2 hS2 => ⟨_, hS2.chg, hS2.sl, b, h1, rfl, h2⟩
  ·
   refine ⟨⟨_, _, _, _, _, rfl, fun a1 w1 L1 hc hsup hpre hS1 => ?_⟩⟩
   exact CM hc.size (.agg (l := A0 BK) (hsup 60 _ rfl) rfl (.agg (l := A0 CO) (hsup 61 _ rfl) rfl (.agg (l := A0 BT) (hsup 62 _ rfl) rfl .nil))) hS1 DD.1 CW.1 Dt.1 rfl rfl rfl rfl (by kernel_rfl)
  ·
   refine ⟨⟨_, _, _, _, _, rfl, fun a1 w1 L1 hc hsup hpre hS1 => ?_⟩⟩
   obtain ⟨_, g, b, h1, rfl, h2⟩ := hpre 37 (by decide) (by kernel_rfl)
   exact FU hS1 (Cl Dg.1 DC.1 (.one rfl rfl rfl .z (.one rfl rfl rfl (.s .z) (.one g rfl rfl (.s (.s .z)) .nil)))) (by kernel_rfl) fun a2 hS2 => ⟨_, hS2.chg, hS2.sl, b, h1, rfl, h2⟩
  ·
   refine ⟨⟨_, _, _, _, _, rfl, fun a1 w1 L1 hc hsup hpre hS1 => ?_⟩⟩
   exact CM hc.size (.agg (l := A0 BK) (hsup 65 _ rfl) rfl (.agg (l := A0 BT) (hsup 66 _ rfl) rfl .nil)) hS1 DD.1 CW.1 Dt.1 rfl rfl rfl rfl (by kernel_rfl)
  ·
   refine ⟨⟨_, _, _, _, _, rfl, fun a1 w1 L1 hc hsup hpre hS1 => ?_⟩⟩
   obtain ⟨_, g, b, h1, rfl, h2⟩ := hpre 41 (by decide) (by kernel_rfl)
   exact FU hS1 (Cl Dg.1 DC.1 (.one rfl rfl rfl .z (.one rfl rfl rfl (.s .z) (.one g rfl rfl (.s (.s .z)) .nil)))) (by kernel_rfl) fun a2 hS2 => ⟨_, hS2.chg, hS2.sl, b, h1, rfl, h2⟩
  ·
   refine ⟨⟨_, _, _, _, _, rfl, fun a1 w1 L1 hc hsup hpre hS1 => ?_⟩⟩
   exact CM hc.size (.agg (l := A0 D2) (hsup 69 _ rfl) rfl (.agg (l := A0 BT) (hsup 70 _ rfl) rfl (.agg (l := A0 FP) (hsup 71 _ rfl) rfl .nil))) hS1 DD.1 CW.1 Dt.1 rfl rfl rfl rfl (by kernel_rfl)
  ·
   refine ⟨⟨_, _, _, _, _, rfl, fun a1 w1 L1 hc hsup hpre hS1 => ?_⟩⟩
   obtain ⟨_, g, b, h1, rfl, h2⟩ := hpre 46 (by decide) (by kernel_rfl)
   exact FU hS1 (Cl Dg.1 DC.1 (.one rfl rfl rfl .z (.one rfl rfl rfl (.s .z) (.one g rfl rfl (.s (.s .z)) .nil)))) (by kernel_rfl) fun a2 hS2 => ⟨_, hS2.chg, hS2.sl, b, h1, rfl, h2⟩
  ·
   refine ⟨⟨_, _, _, _, _, rfl, fun a1 w1 L1 hc hsup hpre hS1 => ?_⟩⟩
   exact CM hc.size (.agg (l := A0 BT) (hsup 74 _ rfl) rfl .nil) hS1 DD.1 CW.1 Dt.1 rfl rfl rfl rfl (by kernel_rfl)
  ·
   refine ⟨⟨_, _, _, _, _, rfl, fun a1 w1 L1 hc hsup hpre hS1 => ?_⟩⟩
   obtain ⟨_, g, b, h1, rfl, h2⟩ := hpre 49 (by decide) (by kernel_rfl)
   exact FU hS1 (Cl Dg.1 DC.1 (.one rfl rfl rfl .z (.one rfl rfl rfl (.s .z) (.one g rfl rfl (.s (.s .z)) .nil)))) (by kernel_rfl) fun a2 hS2 => ⟨_, hS2.chg, hS2.sl, b, h1, rfl, h2⟩
  ·
   refine ⟨⟨_, _, _, _, _, rfl, fun a1 w1 L1 hc hsup hpre hS1 => ?_⟩⟩
   exact CM hc.size (.agg (l := A0 BT) (hsup 77 _ rfl) rfl .nil) hS1 DD.1 CW.1 Dt.1 rfl rfl rfl rfl (by kernel_rfl)
  ·
   refine ⟨⟨_, _, _, _, _, rfl, fun a1 w1 L1 hc hsup hpre hS1 => ?_⟩⟩
   obtain ⟨_, g, b, h1, rfl, h2⟩ := hpre 52 (by decide) (by kernel_rfl)
   exact FU hS1 (Cl Dg.1 DC.1 (.one rfl rfl rfl .z (.one rfl rfl rfl (.s .z) (.one g rfl rfl (.s (.s .z)) .nil)))) (by kernel_rfl) fun a2 hS2 => ⟨_, hS2.chg, hS2.sl, b, h1, rfl, h2⟩
  ·
   refine ⟨⟨_, _, _, _, _, rfl, fun a1 w1 L1 hc hsup hpre hS1 => ?_⟩⟩
   exact Cq (cs := []) hS1 (hsup 80 _ rfl) (.cons rfl .nil) gE (by kernel_rfl) (H3 _ w1) fun a2 w2 hS2 => ⟨_, hS2.chg, hS2.sl, rfl⟩
  ·
   refine ⟨⟨_, _, _, _, _, rfl, fun a1 w1 L1 hc hsup hpre hS1 => ?_⟩⟩
   obtain ⟨v81, g81, rfl⟩ := hpre 55 (by decide) (by kernel_rfl)
   exact CM hc.size (.agg (l := A0 FO) (g81) rfl .nil) hS1 DD.1 CW.1 Dt.1 rfl rfl rfl rfl (by kernel_rfl)
  ·
   refine ⟨⟨_, _, _, _, _, rfl, fun a1 w1 L1 hc hsup hpre hS1 => ?_⟩⟩
   obtain ⟨_, g, b, h1, rfl, h2⟩ := hpre 56 (by decide) (by kernel_rfl)
   exact FU hS1 (Cl Dg.1 DC.1 (.one rfl rfl rfl .z (.one rfl rfl rfl (.s .z) (.one g rfl rfl (.s (.s .z)) .nil)))) (by kernel_rfl) fun a2 hS2 => ⟨_, hS2.chg, hS2.sl, b, h1, rfl, h2⟩
  ·
   refine ⟨⟨_, _, _, _, _, rfl, fun a1 w1 L1 hc hsup hpre hS1 => ?_⟩⟩
   obtain ⟨_, g0, c0, m0, rfl, k0⟩ := hpre 5 (by decide) (by kernel_rfl)
   obtain ⟨_, g1, c1, m1, rfl, k1⟩ := hpre 9 (by decide) (by kernel_rfl)
   obtain ⟨_, g2, c2, m2, rfl, k2⟩ := hpre 15 (by decide) (by kernel_rfl)
   obtain ⟨_, g3, c3, m3, rfl, k3⟩ := hpre 22 (by decide) (by kernel_rfl)
   obtain ⟨_, g4, c4, m4, rfl, k4⟩ := hpre 28 (by decide) (by kernel_rfl)
   obtain ⟨_, g5, c5, m5, rfl, k5⟩ := hpre 33 (by decide) (by kernel_rfl)
   obtain ⟨_, g6, c6, m6, rfl, k6⟩ := hpre 38 (by decide) (by kernel_rfl)
   obtain ⟨_, g7, c7, m7, rfl, k7⟩ := hpre 42 (by decide) (by kernel_rfl)
   obtain ⟨_, g8, c8, m8, rfl, k8⟩ := hpre 47 (by decide) (by kernel_rfl)
   obtain ⟨_, g9, c9, m9, rfl, k9⟩ := hpre 50 (by decide) (by kernel_rfl)
   obtain ⟨_, g10, c10, m10, rfl, k10⟩ := hpre 53 (by decide) (by kernel_rfl)
   obtain ⟨_, g11, c11, m11, rfl, k11⟩ := hpre 57 (by decide) (by kernel_rfl)
   refine B4 hS1 V0.1 IM.1 Dg.1 rfl rfl rfl rfl (.agg g0 rfl (.agg g1 rfl (.agg g2 rfl (.agg g3 rfl (.agg g4 rfl (.agg g5 rfl (.agg g6 rfl (.agg g7 rfl (.agg g8 rfl (.agg g9 rfl (.agg g10 rfl (.agg g11 rfl .nil)))))))))))) (by kernel_rfl) ?_
   intro a2 w2 b hS2
   have hc2 := hS2.chg
   exact ⟨_, hc2, hS2.sl, b, fun k => [c0, c1, c2, c3, c4, c5, c6, c7, c8, c9, c10, c11].getD k 0, rfl, Nat.le_trans hc.size ((hS2.mine _ (.head _) rfl b rfl).resolve_right id), hS2.get (.head _), bU ⟨m0, Bk hc2 k0⟩ ⟨m1, Bk hc2 k1⟩ ⟨m2, Bk hc2 k2⟩ ⟨m3, Bk hc2 k3⟩ ⟨m4, Bk hc2 k4⟩ ⟨m5, Bk hc2 k5⟩ ⟨m6, Bk hc2 k6⟩ ⟨m7, Bk hc2 k7⟩ ⟨m8, Bk hc2 k8⟩ ⟨m9, Bk hc2 k9⟩ ⟨m10, Bk hc2 k10⟩ ⟨m11, Bk hc2 k11⟩⟩
  ·
   refine ⟨⟨_, _, _, _, _, rfl, fun a1 w1 L1 hc hsup hpre hS1 => ?_⟩⟩
   obtain ⟨v, g, b, f, rfl, h⟩ := hpre 58 (by decide) (by kernel_rfl)
   exact FU hS1 (Ak g) (by kernel_rfl) fun a2 hS2 => ⟨_, hS2.chg, hS2.sl, b, f, rfl, h⟩
 intro a1 w1 L1 hc hsup hsl hall
 obtain ⟨_, g, b, f, rfl, h⟩ := hall 59 (by decide)
 have hS2 : St _ Ai w0 a1 w1 [(0, .slice (some ⟨b, 0, none⟩) 12 12)] [] := ⟨hsl.sub ⟨g, trivial⟩, hS.chg.ext hc, (fun X hX => by cases hX), .nil, (fun X hX => by cases hX)⟩
 have hlo : DQ w0.heap.size b f w1 := ⟨Nat.le_trans hS.chg.size h.hb, h.c, fun k x hx => ⟨Nat.le_trans hS.chg.size (h.r k x hx).1, (h.r k x hx).2⟩⟩
 clear hS
 have hS := hS2
 refine Wq 2 hS ?_; intro a hS
 refine DG hS Tryz.results26 (.tmp rfl) ?_
 exact ⟨(w1.heap.size, b, f), rfl, hS.chg, bT hlo, fun k hk => hk.1⟩
def Vi (x : B5) : List Value := if x.ty = 1 then Ca 3 (tx (Lib.itoa x.n)) none 0 0 none 0 0 else if x.ty = 2 then [.int .i64 (IntKind.i64.wrap (1 + x.n)), .string ⟨#[]⟩, .slice none 0 0, .slice none 0 0] else Ca 4 (tx x.s) none 0 0 none 0 0
theorem XH {x : B5} {y : JV} (h : Bu x = some y) : Vi x = Ca (y.k : Int) (tx y.t) none 0 0 none 0 0 ∧ y.ns = [] ∧ y.l = [] := by
 unfold Bu at h
 unfold Vi
 split at h
 ·
  rename_i h1
  split at h
  · cases h; rw [if_pos h1]; exact ⟨rfl, rfl, rfl⟩
  · cases h
 ·
  rename_i h1
  rw [if_neg h1]
  split at h
  ·
   rename_i h2
   rw [if_pos h2]
   split at h
   ·
    rename_i h3
    cases h
    refine ⟨?_, rfl, rfl⟩
    rcases h3.2 with h4 | h4 <;> rw [h4] <;> rfl
   · cases h
  ·
   rename_i h2
   rw [if_neg h2]
   split at h
   · cases h; exact ⟨rfl, rfl, rfl⟩
   · cases h
theorem Lj (W0 : World) (hG : Gj W0) (x : B5) (h0 : -9223372036854775808 ≤ x.n) (h1 : x.n ≤ 9223372036854775807) (w0 : World) (ho : AQ W0 w0) : Ae Tryz.prog 88 [.agg [.string (tx x.nm), .int .i64 x.ty, .int .i64 x.n, .string (tx x.s)].toArray] w0 (.tuple [.agg (Vi x).toArray, .bool (Bu x).isSome].toArray) := by
 refine Ew Ai Tryz.func88 Tryz.ntmps88 ho ?_
 intro a hS
 refine Wh 2 hS ?_
 refine Lo (Bx ?_); intro b1
 refine Lo (Al ?_); intro b2
 refine Wn 17 ?_
 refine iD (fun hc6 => ?_) fun hc6 => ?_
 ·
  refine Wn 1 ?_
  refine Dr 8 [] [.blk b1 [.string (tx x.nm), .int .i64 x.ty, .int .i64 x.n, .string (tx x.s)] 160] ?_
  refine ZR 2 ?_
  refine Zv 3 _ rfl ExA.go ?_
  refine Zu 4 _ rfl ExA.go ?_
  refine Zv 5 _ rfl ExA.go ?_
  refine Zz 2 (tf 6 2) rfl (cP Zj (fun hS => JO W0 hG x.n h0 h1 _ hS.od) ?_)
  refine Za ?_
  refine Z0 rfl (Sa ?_)
  refine Za ?_
  refine ZR 1 ?_
  refine Wn 3 ?_
  intro a w hS
  refine AD (AC ?_)
  refine Rm hS Tryz.results88 ?_
  have e1 : Vi x = Ca 3 (tx (Lib.itoa x.n)) none 0 0 none 0 0 := if_pos hc6
  have e2 : (Bu x).isSome = decide (tx x.s = ⟨#[]⟩) := by
   unfold Bu; rw [if_pos hc6]
   by_cases h : x.s = []
   · rw [if_pos h, decide_eq_true (EN.2 h)]; rfl
   · rw [if_neg h, decide_eq_false (fun e => h (EN.1 e))]; rfl
  exact ⟨by rw [e1, e2], hS.chg⟩
 refine Wn 6 ?_
 refine iD (fun hc14 => ?_) fun hc14 => ?_
 ·
  refine Wn 1 ?_
  refine Dr 19 [] [.blk b1 [.string (tx x.nm), .int .i64 x.ty, .int .i64 x.n, .string (tx x.s)] 160] ?_
  refine ZR 8 ?_
  intro a w hS
  refine CG 2 (tf 17 2) 32 (.bool (decide (x.s = [] ∧ (x.n = 0 ∨ x.n = 1)))) hS ?_ ?_
  ·
   intro hcM32
   refine Un hS (Gd 23 ?_ ?_) <;> intro hg23
   ·
    refine ZR 4 ?_
    intro a w hS
    refine CG 3 (tf 16 3) 31 (.bool (decide (x.n = 0 ∨ x.n = 1))) hS ?_ ?_
    ·
     intro hcM31
     refine Un hS (Gd 27 ?_ ?_) <;> intro hg27
     ·
      refine ZR 4 ?_
      exact Et 5 31 27 hcM31 rfl ((decide_eq_true (.inl hg27)).symm) hg27
     refine ZR 4 ?_
     exact Ef 5 31 27 hcM31 rfl (decide_eq_decide.2 ⟨.inr, fun h => h.resolve_left hg27⟩) hg27
    ·
     intro a w hS
     refine Un hS (ZR 1 ?_)
     exact Et 7 32 23 hcM32 rfl (decide_eq_decide.2 ⟨fun h => ⟨EN.1 hg23, h⟩, fun h => h.2⟩) hg23
   refine ZR 9 ?_
   exact Ef 10 32 23 hcM32 rfl ((decide_eq_false (fun h => hg23 (EN.2 h.1))).symm) hg23
  ·
   intro a w hS
   refine Un hS (Z0 rfl (Sa ?_))
   refine Za ?_
   refine ZR 1 ?_
   refine Wn 3 ?_
   intro a w hS
   refine AD (AC ?_)
   refine Rm hS Tryz.results88 ?_
   have e1 : Vi x = [.int .i64 (IntKind.i64.wrap (1 + x.n)), .string ⟨#[]⟩, .slice none 0 0, .slice none 0 0] := by unfold Vi; rw [if_neg hc6, if_pos hc14]
   have e2 : (Bu x).isSome = decide (x.s = [] ∧ (x.n = 0 ∨ x.n = 1)) := by
    unfold Bu; rw [if_neg hc6, if_pos hc14]
    by_cases h : x.s = [] ∧ (x.n = 0 ∨ x.n = 1)
    · rw [if_pos h, decide_eq_true h]; rfl
    · rw [if_neg h, decide_eq_false h]; rfl
   exact ⟨by rw [e1, e2], hS.chg⟩
 refine Wn 4 ?_
 refine Dr 13 [] [.blk b1 [.string (tx x.nm), .int .i64 x.ty, .int .i64 x.n, .string (tx x.s)] 160] ?_
 refine ZR 2 ?_
 refine Zv 3 _ rfl ExA.go ?_
 refine Zu 4 _ rfl ExA.go ?_
 refine Zv 5 _ rfl ExA.go ?_
 refine Zz 2 (tf 6 7) rfl (cP gF (fun _ => Ke (tx x.s) _) ?_)
 refine Za ?_
 refine ZR 1 ?_
 intro a w hS
 refine CG 2 (tf 11 2) 43 (.bool (decide (x.ty = 3 ∧ x.n = 0))) hS ?_ ?_
 ·
  intro hcM43
  refine Un hS (Gd 39 ?_ ?_) <;> intro hg39
  ·
   refine ZR 4 ?_
   exact Et 5 43 39 hcM43 rfl (decide_eq_decide.2 ⟨fun h => ⟨hg39, h⟩, fun h => h.2⟩) hg39
  refine ZR 4 ?_
  exact Ef 5 43 39 hcM43 rfl ((decide_eq_false (fun h => hg39 h.1)).symm) hg39
 ·
  intro a w hS
  refine Un hS (Z0 rfl (Sa ?_))
  refine Za ?_
  refine ZR 1 ?_
  refine Wn 3 ?_
  intro a w hS
  refine Rm hS Tryz.results88 ?_
  have e1 : Vi x = Ca 4 (tx x.s) none 0 0 none 0 0 := by unfold Vi; rw [if_neg hc6, if_neg hc14]
  have e2 : (Bu x).isSome = decide (x.ty = 3 ∧ x.n = 0) := by
   unfold Bu; rw [if_neg hc6, if_neg hc14]
   by_cases h : x.ty = 3 ∧ x.n = 0
   · rw [if_pos h, decide_eq_true h]; rfl
   · rw [if_neg h, decide_eq_false h]; rfl
  exact ⟨by rw [e1, e2], hS.chg⟩
theorem Ra (W0 : World) (hG : Gj W0) (g off : Nat) (hp : Ck g off) (ho : 1 ≤ off ∧ off ≤ 6) (nm : List UInt8) (c : Cd) (fv : Value) (hct : (c.t off).length ≤ 10000000) (cb : Nat) (hcb : W0.heap.size ≤ cb) (w0 : World) (hold : AQ W0 w0) (h : (AT.blk cb (AB c fv) 24).ok w0) :
 CV Tryz.prog 29 [.agg [.string (tx nm), .func (.func g) #[] #[], .nilFunc].toArray, .pointer (some ⟨cb, 0, none⟩)] w0 (.blk cb (AB c fv) 24) (fun _ : Unit => .tuple [.agg (Ca 4 (tx (c.t off)) none 0 0 none 0 0).toArray, .bool (Lib.validD (c.t off))].toArray) (fun _ => .blk cb (AB (c.putT off []) fv) 24) := by
 refine En [.blk cb (AB c fv) 24, AG W0] (fun k => k = cb) Tryz.func29 Tryz.ntmps29 (B3 h (B3 (BB hold) DN)) (CT (CK (fun k h1 h2 => by have h1 : k = cb := h1; have h2 : k < W0.heap.size := h2; omega) CU) Bi) (A9 (fun _ hb => hb) (BP rfl Aw)) ?_
 intro a hS
 refine Wh 2 hS ?_
 refine Lo (Bx ?_); intro b2
 refine Lo (Al ?_); intro b4
 refine Wn 9 ?_
 refine Xp (Ep (c := true) rfl (by kernel_rfl) (.inr ⟨⟨_, _, _, rfl⟩, rfl⟩)) ?_
 refine Wn 3 ?_
 refine Ie 13 true rfl rfl ?_
 refine Wn 6 ?_
 intro a w hS
 refine Aa (Cq (cs := []) hS rfl (.cons rfl .nil) hp.c rfl (hp.p cb _) ?_); intro a w hS
 refine Wh 1 hS ?_
 refine Xp (AI rfl Af.1 (fun w hh => AR (cs := AB c fv) (hh (.blk cb (AB c fv) 24) (by repeat constructor)) (LY c fv ho))) ?_
 refine Lo (cP gF (fun _ => Ke (tx (c.t off)) _) ?_)
 refine Lo (Al ?_); intro b6
 refine Lo (Sa ?_)
 refine Wn 7 ?_
 intro a w hS
 refine Aa (Cq (cs := []) hS rfl (.cons rfl .nil) hp.c rfl (hp.p cb _) ?_); intro a w hS
 refine Wq 1 hS ?_; intro a hS
 refine Aa (DS hS rfl rfl rfl A8.1 (by repeat constructor) (JP c fv [] ho) ?_); intro w hS
 refine Wh 3 hS ?_
 refine Dr 6 [] [.blk b6 (Ca 4 (tx (c.t off)) none 0 0 none 0 0) 37, AG W0] ?_
 refine ZR 3 ?_
 refine Z0 rfl (cP Zi (fun hS => JH W0 hG.u8 (c.t off) hct _ hS.od) ?_)
 refine Za ?_
 refine Z0 rfl (Sa ?_)
 refine Za ?_
 refine ZR 1 ?_
 refine Wn 3 ?_
 intro a w hS
 refine AD (AC ?_)
 refine Rm hS Tryz.results29 ?_
 exact ⟨(), rfl, hS.chg, hS.ok (.blk cb (AB (c.putT off []) fv) 24) (by repeat constructor), fun b hb => .inl hb⟩
theorem Rb (W0 : World) (hG : Gj W0) (g off : Nat) (hp : Ck g off) (ho : 7 ≤ off ∧ off ≤ 13) (nm : List UInt8) (c : Cd) (fv : Value) (h0 : -9223372036854775808 ≤ c.n off) (h1 : c.n off ≤ 9223372036854775807) (cb : Nat) (hcb : W0.heap.size ≤ cb) (w0 : World) (hold : AQ W0 w0) (h : (AT.blk cb (AB c fv) 24).ok w0) :
 CV Tryz.prog 29 [.agg [.string (tx nm), .nilFunc, .func (.func g) #[] #[]].toArray, .pointer (some ⟨cb, 0, none⟩)] w0 (.blk cb (AB c fv) 24) (fun _ : Unit => .tuple [.agg (Ca 3 (tx (Lib.itoa (c.n off))) none 0 0 none 0 0).toArray, .bool true].toArray) (fun _ => .blk cb (AB (c.putN off 0) fv) 24) := by
 refine En [.blk cb (AB c fv) 24, AG W0] (fun k => k = cb) Tryz.func29 Tryz.ntmps29 (B3 h (B3 (BB hold) DN)) (CT (CK (fun k h1 h2 => by have h1 : k = cb := h1; have h2 : k < W0.heap.size := h2; omega) CU) Bi) (A9 (fun _ hb => hb) (BP rfl Aw)) ?_
 intro a hS
 refine Wh 2 hS ?_
 refine Lo (Bx ?_); intro b2
 refine Lo (Al ?_); intro b4
 refine Wn 9 ?_
 refine Xp (Ep (c := false) rfl (by kernel_rfl) (.inl ⟨rfl, rfl⟩)) ?_
 refine Wn 3 ?_
 refine Ie 13 false rfl rfl ?_
 refine Wn 5 ?_
 refine Xp (Ep (c := true) rfl (by kernel_rfl) (.inr ⟨⟨_, _, _, rfl⟩, rfl⟩)) ?_
 refine Wn 3 ?_
 refine Ie 33 true rfl rfl ?_
 refine Wn 6 ?_
 intro a w hS
 refine Aa (Cq (cs := []) hS rfl (.cons rfl .nil) hp.c rfl (hp.p cb _) ?_); intro a w hS
 refine Wh 1 hS ?_
 refine Xp (AI rfl El.1 (fun w hh => AR (cs := AB c fv) (hh (.blk cb (AB c fv) 24) (by repeat constructor)) (LZ c fv ho))) ?_
 refine Lo (cP Zj (fun hS => JO W0 hG (c.n off) h0 h1 _ hS.od) ?_)
 refine Lo (Al ?_); intro b7
 refine Lo (Sa ?_)
 refine Wn 7 ?_
 intro a w hS
 refine Aa (Cq (cs := []) hS rfl (.cons rfl .nil) hp.c rfl (hp.p cb _) ?_); intro a w hS
 refine Wq 1 hS ?_; intro a hS
 refine Aa (DS hS rfl rfl rfl Cj.1 (by repeat constructor) (HD c fv 0 ho) ?_); intro w hS
 refine Wh 5 hS ?_
 refine Lo (Sa ?_)
 refine Wn 4 ?_
 intro a w hS
 refine AD (AC ?_)
 refine Rm hS Tryz.results29 ?_
 exact ⟨(), rfl, hS.chg, hS.ok (.blk cb (AB (c.putN off 0) fv) 24) (by repeat constructor), fun b hb => .inl hb⟩
end Go.Proofs.YtlccmgeclhdegaaGreatDoor
