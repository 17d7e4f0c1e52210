/- FrontRequests: for every argument the law returns true, and each argument reads afterwards as it read before. No conditions. (text 4 of 6) -/
import Derived.Test.YtlccmgeclhdegaaGreatDoorLFqC3
set_option maxRecDepth 100000
set_option maxHeartbeats 16000000
namespace Go.Proofs.YtlccmgeclhdegaaGreatDoor
open Go.RowKit
theorem HH : ∀ a b : List UInt8, Op.bytesLess a b = decide (a < b)
 | [], [] => by simp [Op.bytesLess]
 | [], _ :: _ => by simp [Op.bytesLess]
 | _ :: _, [] => by simp [Op.bytesLess]
 | a :: as1, b :: bs => by
   unfold Op.bytesLess
   rw [HH as1 bs, Bool.eq_iff_iff]
   simp [List.cons_lt_cons_iff]
theorem bV (a b : List UInt8) : pD (tx a) (tx b) = !decide (b < a) := by
 unfold pD
 rw [ByteArray.toList_eq, ByteArray.toList_eq, FH, FH, HH, Bool.eq_iff_iff]
 simp only [Bool.or_eq_true, decide_eq_true_eq, beq_iff_eq, Bool.not_eq_true', decide_eq_false_iff_not]
 constructor
 ·
  rintro (h | rfl)
  · exact List.lt_asymm h
  · exact List.lt_irrefl _
 ·
  intro h
  by_cases h2 : a < b
  · exact .inl h2
  · exact .inr (List.le_antisymm (List.not_lt.1 h) (List.not_lt.1 h2))
theorem XI (x : B5) : ∃ (k : Int) (s : ByteArray), Vi x = Ca k s none 0 0 none 0 0 := by
 unfold Vi
 split
 · exact ⟨_, _, rfl⟩
 ·
  split
  · exact ⟨_, _, rfl⟩
  · exact ⟨_, _, rfl⟩
structure H4 (W0 : World) (fa : Option Addr) (fs : List B5) : Prop where
 c : fs ≠ [] → ∃ nb no, fa = some ⟨nb, no, none⟩ ∧ ∀ (i : Nat) (x : B5), fs[i]? = some x → ∀ (j : Nat) (u : Value), (Az x)[j]? = some u → W0.cell? ⟨nb, no + i * 4 + j, none⟩ = some u
 n : fs.length ≤ 1000
 b : ∀ x ∈ fs, -9223372036854775808 ≤ x.n ∧ x.n ≤ 9223372036854775807
def Cy (ns : List (List UInt8)) (nm : List UInt8) : Bool := match ns.getLast? with | none => false | some p => !decide (p < nm)
theorem H5 {fs : List B5} {k : Nat} {x : B5} {ns : List (List UInt8)} {l : List JV} (h : fs[k]? = some x) : BN (fs.drop k) ns l = match Bu x with | none => none | some y => if Cy ns x.nm then none else BN (fs.drop (k + 1)) (ns ++ [x.nm]) (l ++ [y]) := by
 rw [List.drop_eq_getElem_cons (List.getElem?_eq_some_iff.1 h).1, (List.getElem?_eq_some_iff.1 h).2]
 conv => lhs; unfold BN
 cases Bu x with
 | none => rfl
 | some y =>
   simp only
   unfold Cy
   cases ns.getLast? with
   | none => rfl
   | some p => by_cases hp : p < x.nm <;> simp [hp]
def rC (fs : List B5) : Type := { x : JX // BN fs [] [] = some x.v } ⊕ { _u : Unit // BN fs [] [] = none }
def rR (fs : List B5) : rC fs → Value
 | .inl x => .tuple [.agg x.1.cs.toArray, .bool true].toArray
 | .inr _ => .tuple [.agg BM.toArray, .bool false].toArray
def rS (c : Cd) (cb : Nat) (fv : Value) : rC c.fx → AT
 | .inl x => C5 (.blk cb (AB c (.slice none 0 0)) 24) (Be 2 x.1)
 | .inr _ => .blk cb (AB c fv) 24
def A4 (fs : List B5) (k : Nat) : List (List UInt8) := (fs.take k).map B5.nm
theorem Rc (W0 : World) (hG : Gj W0) (nm : List UInt8) (c : Cd) (fa : Option Addr) (fc : Nat) (hF : H4 W0 fa c.fx) (cb : Nat) (hcb : W0.heap.size ≤ cb) (w0 : World) (hold : AQ W0 w0) (h : (AT.blk cb (AB c (.slice fa c.fx.length fc)) 24).ok w0) :
 CV Tryz.prog 29 [.agg [.string (tx nm), .nilFunc, .nilFunc].toArray, .pointer (some ⟨cb, 0, none⟩)] w0 (.blk cb (AB c (.slice fa c.fx.length fc)) 24) (rR c.fx) (rS c cb (.slice fa c.fx.length fc)) := by
 have hfn := hF.n
 refine En [.blk cb (AB c (.slice fa c.fx.length fc)) 24, AG W0] (fun k => k = cb) Tryz.func29 Tryz.ntmps29 (B3 h (B3 (BB hold) DN)) (CT (CK (fun k h1 h2 => by have h1 : k = cb := h1; have h2 : k < W0.heap.size := h2; omega) CU) Bi) (A9 (fun _ hb => hb) (BP rfl Aw)) ?_
 intro a hS
 refine Wh 2 hS ?_
 refine Lo (Bx ?_); intro b2
 refine Lo (Al ?_); intro b4
 refine Wn 9 ?_
 refine Xp (Ep (c := false) rfl (by kernel_rfl) (.inl ⟨rfl, rfl⟩)) ?_
 refine Wn 3 ?_
 refine Ie 13 false rfl rfl ?_
 refine Wn 5 ?_
 refine Xp (Ep (c := false) rfl (by kernel_rfl) (.inl ⟨rfl, rfl⟩)) ?_
 refine Wn 3 ?_
 refine Ie 33 false rfl rfl ?_
 refine Wn 7 ?_
 refine Lo (Al ?_); intro b8
 refine Lo (Sa ?_)
 refine Wn 14 ?_
 intro a w hS
 refine AW (γ := List JX × Value × Value) (fun G a w => St 105 (fun k => k = cb) w0 a w [(56, .int .i64 (G.1.length : Int)), (55, .int .i64 (c.fx.length : Int)), (54, .slice fa c.fx.length fc), (1, .pointer (some ⟨cb, 0, none⟩)), (4, .pointer (some ⟨b4, 0, none⟩)), (8, .pointer (some ⟨b8, 0, none⟩)), (5, .bool false)] [AJ 37 4 G.2.1 G.1.length (G.1.flatMap JX.cs), AJ 9 1 G.2.2 G.1.length ((A4 c.fx G.1.length).flatMap AM), As 1 G.1, .blk b8 [.int .i64 6, .string ⟨#[]⟩, G.2.1, G.2.2] 37, .blk b4 BM 37, .blk cb (AB c (.slice fa c.fx.length fc)) 24, AG W0] ∧ G.1.length ≤ c.fx.length ∧ BN (c.fx.drop G.1.length) (A4 c.fx G.1.length) (G.1.map JX.v) = BN c.fx [] []) (fun G => c.fx.length - G.1.length) ([], .slice none 0 0, .slice none 0 0) ⟨((((hS.own_nil 9 1).own_nil 37 4).more (Y := As 1 []) (D5 (fun x hx => by cases hx)) (fun b ⟨x, hx, _⟩ => by cases hx)).sq).pk, Nat.zero_le _, rfl⟩ ?_
 intro G a w hI
 obtain ⟨kids, lv, nv⟩ := G
 obtain ⟨hS, hk, hgo⟩ := hI
 simp only at hS hk hgo
 obtain ⟨ql, cl, rfl⟩ := AN (hS.gg (X := AJ 37 4 lv kids.length (kids.flatMap JX.cs)))
 obtain ⟨qn, cn, rfl⟩ := AN (hS.gg (X := AJ 9 1 nv kids.length ((A4 c.fx kids.length).flatMap AM)))
 refine Wh 6 hS ?_
 refine iD (fun hc57 => ?_) fun hc57 => ?_
 ·
  have hkn : kids.length < c.fx.length := by omega
  obtain ⟨x, hx⟩ : ∃ x, c.fx[kids.length]? = some x := ⟨_, List.getElem?_eq_getElem hkn⟩
  have hxm := List.mem_of_getElem? hx
  obtain ⟨nb, no, rfl, hcell⟩ := hF.c (fun e => by rw [e] at hkn; exact absurd hkn (Nat.not_lt_zero _))
  obtain ⟨jk, js, hfv⟩ := XI x
  rw [H5 hx] at hgo
  refine Wn 8 ?_
  refine Xp (BV (l := Az x) rfl Sx.1 ML.1 (fun w hh j u hj => AF (hh (AG W0) (by repeat constructor)) (hcell _ x hx j u hj))) ?_
  intro a w hS
  unfold Az at hS
  refine Un hS (Lo (Al ?_)); intro b10
  refine Wn 1 ?_
  refine Lo (Sa ?_)
  refine Wn 5 ?_
  refine Lo (cP oV (fun hS => Lj W0 hG x (hF.b x hxm).1 (hF.b x hxm).2 _ hS.od) ?_)
  intro a w hS
  rw [hfv] at hS
  unfold Ca at hS
  refine Wh 3 hS ?_
  refine Lo (Al ?_); intro b11
  refine Lo (Sa ?_)
  refine Wn 5 ?_
  refine Dr 20 [] [.blk b10 [.string (tx x.nm), .int .i64 x.ty, .int .i64 x.n, .string (tx x.s)] 160, .blk cb (AB c (.slice (some ⟨nb, no, none⟩) c.fx.length fc)) 24, AG W0] ?_
  refine ZR 3 ?_
  intro a w hS
  refine CG 0 (tf 20 0) 85 (.bool ((!(Bu x).isSome || Cy (A4 c.fx kids.length) x.nm))) hS ?_ ?_
  ·
   intro hcM85
   refine Un hS (Gs 68 ?_ ?_) <;> intro hg68
   ·
    refine ZR 17 ?_
    exact Eb 18 85 68 hcM85 rfl (by rw [hg68, Bool.true_or]) hg68
   refine ZR 3 ?_
   intro a w hS
   refine CG 1 (tf 19 1) 84 (.bool (Cy (A4 c.fx kids.length) x.nm)) hS ?_ ?_
   ·
    intro hcM84
    refine Un hS (Gd 71 ?_ ?_) <;> intro hg71
    ·
     have hpos : 0 < kids.length := by omega
     obtain ⟨p, hp⟩ : ∃ p, c.fx[kids.length - 1]? = some p := ⟨_, List.getElem?_eq_getElem (by omega)⟩
     have hpc := hcell _ p hp 0 (.string (tx p.nm)) rfl
     have hidx : no + ((kids.length : Int) - 1).toNat * 4 + 0 = no + (kids.length - 1) * 4 + 0 := by rw [show ((kids.length : Int) - 1).toNat = kids.length - 1 by omega]
     have hlast : (A4 c.fx kids.length).getLast? = some p.nm := by
      unfold A4
      rw [List.getLast?_map, List.getLast?_take, if_neg (by omega), hp]; rfl
     refine ZR 8 ?_
     refine Zx rfl (Vo rfl rfl V2.1 ML.1 (by omega)) ?_
     refine ZR 1 ?_
     refine Zy rfl (AI rfl Af.1 (fun w hh => by rw [hidx]; exact AF (hh (AG W0) (by repeat constructor)) hpc)) ?_
     refine Zx rfl (jN rfl rfl) ?_
     intro a w hS
     rw [bV] at hS
     refine Un hS (ZR 1 ?_)
     exact Et 14 84 71 hcM84 rfl (by unfold Cy; rw [hlast]) hg71
    refine ZR 13 ?_
    exact Ef 14 84 71 hcM84 rfl (by symm; unfold Cy; rw [show kids.length = 0 by omega]; rfl) hg71
   ·
    intro a w hS
    refine Un hS (ZR 1 ?_)
    exact Eb 6 85 68 hcM85 rfl (by rw [hg68, Bool.false_or]) hg68
  ·
   intro a w hS
   refine Wh 2 hS ?_
   refine iB (fun hc85 => ?_) fun hc85 => ?_
   ·
    have hno : BN c.fx [] [] = none := by
     rw [← hgo]
     cases hy : Bu x with
     | none => rfl
     | some y =>
       rw [hy] at hc85
       have hlb : Cy (A4 c.fx kids.length) x.nm = true := by simpa using hc85
       simp only
       rw [if_pos hlb]
    refine Wn 3 ?_
    refine Lo (Sa ?_)
    refine Wn 4 ?_
    intro a w hS
    refine AC (AD (AC (AC (AD (AC ?_)))))
    refine Rm hS Tryz.results29 ?_
    exact ⟨.inr ⟨(), hno⟩, rfl, hS.chg, hS.ok (.blk cb (AB c (.slice (some ⟨nb, no, none⟩) c.fx.length fc)) 24) (by repeat constructor), fun k hk => .inl hk⟩
   obtain ⟨y, hy⟩ : ∃ y, Bu x = some y := by
    cases hy : Bu x with
    | none => rw [hy] at hc85; simp at hc85
    | some y => exact ⟨y, rfl⟩
   have hlb : Cy (A4 c.fx kids.length) x.nm = false := by rw [hy] at hc85; simpa using hc85
   rw [hy] at hgo
   simp only at hgo
   rw [if_neg (by rw [hlb]; decide)] at hgo
   obtain ⟨hfc1, hfc2, hfc3⟩ := XH hy
   obtain ⟨rfl, rfl⟩ : jk = (y.k : Int) ∧ js = tx y.t := by
    have e := hfv.symm.trans hfc1
    simp [Ca] at e
    exact e
   refine Wn 2 ?_
   refine Dr 15 [12, 14] [.blk b8 [.int .i64 6, .string ⟨#[]⟩, .slice ql kids.length cl, .slice qn kids.length cn] 37, .blk b10 [.string (tx x.nm), .int .i64 x.ty, .int .i64 x.n, .string (tx x.s)] 160, .blk b11 [.int .i64 (y.k : Int), .string (tx y.t), .slice none 0 0, .slice none 0 0] 37] ?_
   refine ZR 4 ?_
   refine Zv 6 _ rfl ExA.go ?_
   refine Zu 7 _ rfl ExA.go ?_
   refine Zu 8 _ rfl ExA.go ?_
   intro a w hS
   refine Ek (j := 4) (js := [9]) (by kernel_rfl) ⟨?_, ?_, trivial⟩
   ·
    refine Ey (i := 4) rfl (Ab a hS.sl) (listed' := [true, true, true, true, true, false, true, true, true, false, false, false, false, false, false]) rfl (B4 hS Ar.1 A8.1 Ec.1 rfl rfl rfl rfl (.one rfl rfl rfl .nil) rfl ?_); intro a w b91 hS
    refine Bc hS (AP (by repeat constructor) (AP (by repeat constructor) (AP (by repeat constructor) Ay))) ?_
    refine Ek (j := 5) (js := [9]) (by kernel_rfl) ⟨?_, ?_, trivial⟩
    ·
     refine Ey (i := 5) rfl (Ab a hS.sl) (listed' := (tf 9 6)) rfl (Dd hS rfl rfl Ar.1 A8.1 EG.1 Ec.1 rfl rfl rfl (by repeat constructor) (by repeat constructor) (by rfl) (by rfl) (fun _ => (by repeat constructor)) (by omega) ?_); intro v92 a w hv92 hS
     obtain ⟨q92, c92, rfl⟩ := AN (hS.gg (X := AJ 9 1 v92 (kids.length + 1) ((A4 c.fx kids.length).flatMap AM ++ [.string (tx x.nm)])))
     refine Bc hS (AP (by repeat constructor) (AP (by repeat constructor) (AP (by repeat constructor) Ay))) ?_
     refine Un hS (Zv 11 _ rfl ExA.go ?_)
     refine Zz 9 _ rfl (Bz ?_); intro b96
     refine Za ?_
     refine Zz 10 (tf 12 3) rfl (A1 ?_); intro v97 hv97
     intro a w hS
     obtain ⟨q97, c97, rfl⟩ := AN (hS.gg (X := AJ 37 4 v97 (kids.length + 1) _))
     refine Un hS (Za ?_)
     refine Z0 rfl (Sb ?_)
     refine Zl ?_
     refine Zx rfl (C6 rfl Df.1) ?_
     refine Z0 rfl (Sb ?_)
     refine Zl ?_
     refine Wn 7 ?_
     obtain ⟨xk, hxk⟩ : ∃ xk : JX, xk = ⟨y, [.int .i64 (y.k : Int), .string (tx y.t), .slice none 0 0, .slice none 0 0], fun _ => False, rfl, rfl⟩ := ⟨_, rfl⟩
     have hxv : xk.v = y := by rw [hxk]
     have hxc : xk.cs = [.int .i64 (y.k : Int), .string (tx y.t), .slice none 0 0, .slice none 0 0] := by rw [hxk]
     intro a w hS
     have hxA : (Be 1 xk).ok w := by
      rw [hxk]
      cases y with
      | mk yk yt yn yl =>
        have e1 : yn = [] := hfc2
        have e2 : yl = [] := hfc3
        subst e1 e2
        exact CH 0 yk yt w
     have hfl2 : (kids ++ [xk]).flatMap JX.cs = kids.flatMap JX.cs ++ ([.int .i64 (y.k : Int), .string (tx y.t), .slice none 0 0, .slice none 0 0] ++ []) := by rw [List.flatMap_append, ← hxc]; simp
     have hkl1 : (kids ++ [xk]).length = kids.length + 1 := by simp
     have hns : A4 c.fx (kids.length + 1) = A4 c.fx kids.length ++ [x.nm] := by unfold A4; rw [BG hx, List.map_append]; rfl
     have hnf : (A4 c.fx (kids.length + 1)).flatMap AM = (A4 c.fx kids.length).flatMap AM ++ [.string (tx x.nm)] := by rw [hns, List.flatMap_append]; rfl
     have hxF : ∀ b, (Be 1 xk).F b → False := fun b hb => by rw [hxk] at hb; exact hb
     replace hS := CA ((hS.more hxA hxF).pk (Γ' := [Be 1 xk, As 1 kids, AJ 37 4 (.slice q97 (kids.length + 1) c97) (kids.length + 1) (kids.flatMap JX.cs ++ ([.int .i64 (y.k : Int), .string (tx y.t), .slice none 0 0, .slice none 0 0] ++ [])), AJ 9 1 (.slice q92 (kids.length + 1) c92) (kids.length + 1) ((A4 c.fx kids.length).flatMap AM ++ [.string (tx x.nm)]), .blk b8 [.int .i64 6, .string ⟨#[]⟩, .slice q97 (kids.length + 1) c97, .slice q92 (kids.length + 1) c92] 37, .blk b4 BM 37, .blk cb (AB c (.slice (some ⟨nb, no, none⟩) c.fx.length fc)) 24, AG W0]))
     rw [← hfl2, ← hnf] at hS
     refine ⟨(kids ++ [xk], .slice q97 (kids.length + 1) c97, .slice q92 (kids.length + 1) c92), by show c.fx.length - (kids ++ [xk]).length < c.fx.length - kids.length; omega, ?_, by show (kids ++ [xk]).length ≤ c.fx.length; omega, by show BN (c.fx.drop (kids ++ [xk]).length) (A4 c.fx (kids ++ [xk]).length) ((kids ++ [xk]).map JX.v) = _; rw [hkl1, hns, List.map_append, List.map_singleton, hxv]; exact hgo⟩
     show St _ _ _ _ _ [(56, .int .i64 ((kids ++ [xk]).length : Int)), _, _, _, _, _, _] [AJ _ _ _ (kids ++ [xk]).length _, AJ _ _ _ (kids ++ [xk]).length ((A4 c.fx (kids ++ [xk]).length).flatMap AM), _, _, _, _, _]
     rw [hkl1]
     exact hS.sp
    refine Ey (i := 9) rfl (Ab a hS.sl) (listed' := [true, true, true, true, true, false, true, true, true, true, false, false, false, false, false]) rfl (B4 hS Gg.1 Cb.1 GM.1 rfl rfl rfl rfl (.agg rfl rfl .nil) rfl ?_); intro a w b96 hS
    refine Bc hS (AP (by repeat constructor) (AP (by repeat constructor) (AP (by repeat constructor) Ay))) ?_
    refine Un hS (Zz 5 (tf 10 5) rfl (A1 ?_)); intro v92 hv92
    intro a w hS
    obtain ⟨q92, c92, rfl⟩ := AN (hS.gg (X := AJ 9 1 v92 (kids.length + 1) ((A4 c.fx kids.length).flatMap AM ++ [.string (tx x.nm)])))
    refine Un hS (Za ?_)
    refine Zv 11 _ rfl ExA.go ?_
    refine Zz 10 (tf 12 3) rfl (A1 ?_); intro v97 hv97
    intro a w hS
    obtain ⟨q97, c97, rfl⟩ := AN (hS.gg (X := AJ 37 4 v97 (kids.length + 1) _))
    refine Un hS (Za ?_)
    refine Z0 rfl (Sb ?_)
    refine Zl ?_
    refine Zx rfl (C6 rfl Df.1) ?_
    refine Z0 rfl (Sb ?_)
    refine Zl ?_
    refine Wn 7 ?_
    obtain ⟨xk, hxk⟩ : ∃ xk : JX, xk = ⟨y, [.int .i64 (y.k : Int), .string (tx y.t), .slice none 0 0, .slice none 0 0], fun _ => False, rfl, rfl⟩ := ⟨_, rfl⟩
    have hxv : xk.v = y := by rw [hxk]
    have hxc : xk.cs = [.int .i64 (y.k : Int), .string (tx y.t), .slice none 0 0, .slice none 0 0] := by rw [hxk]
    intro a w hS
    have hxA : (Be 1 xk).ok w := by
     rw [hxk]
     cases y with
     | mk yk yt yn yl =>
       have e1 : yn = [] := hfc2
       have e2 : yl = [] := hfc3
       subst e1 e2
       exact CH 0 yk yt w
    have hfl2 : (kids ++ [xk]).flatMap JX.cs = kids.flatMap JX.cs ++ ([.int .i64 (y.k : Int), .string (tx y.t), .slice none 0 0, .slice none 0 0] ++ []) := by rw [List.flatMap_append, ← hxc]; simp
    have hkl1 : (kids ++ [xk]).length = kids.length + 1 := by simp
    have hns : A4 c.fx (kids.length + 1) = A4 c.fx kids.length ++ [x.nm] := by unfold A4; rw [BG hx, List.map_append]; rfl
    have hnf : (A4 c.fx (kids.length + 1)).flatMap AM = (A4 c.fx kids.length).flatMap AM ++ [.string (tx x.nm)] := by rw [hns, List.flatMap_append]; rfl
    have hxF : ∀ b, (Be 1 xk).F b → False := fun b hb => by rw [hxk] at hb; exact hb
    replace hS := CA ((hS.more hxA hxF).pk (Γ' := [Be 1 xk, As 1 kids, AJ 37 4 (.slice q97 (kids.length + 1) c97) (kids.length + 1) (kids.flatMap JX.cs ++ ([.int .i64 (y.k : Int), .string (tx y.t), .slice none 0 0, .slice none 0 0] ++ [])), AJ 9 1 (.slice q92 (kids.length + 1) c92) (kids.length + 1) ((A4 c.fx kids.length).flatMap AM ++ [.string (tx x.nm)]), .blk b8 [.int .i64 6, .string ⟨#[]⟩, .slice q97 (kids.length + 1) c97, .slice q92 (kids.length + 1) c92] 37, .blk b4 BM 37, .blk cb (AB c (.slice (some ⟨nb, no, none⟩) c.fx.length fc)) 24, AG W0]))
    rw [← hfl2, ← hnf] at hS
    refine ⟨(kids ++ [xk], .slice q97 (kids.length + 1) c97, .slice q92 (kids.length + 1) c92), by show c.fx.length - (kids ++ [xk]).length < c.fx.length - kids.length; omega, ?_, by show (kids ++ [xk]).length ≤ c.fx.length; omega, by show BN (c.fx.drop (kids ++ [xk]).length) (A4 c.fx (kids ++ [xk]).length) ((kids ++ [xk]).map JX.v) = _; rw [hkl1, hns, List.map_append, List.map_singleton, hxv]; exact hgo⟩
    show St _ _ _ _ _ [(56, .int .i64 ((kids ++ [xk]).length : Int)), _, _, _, _, _, _] [AJ _ _ _ (kids ++ [xk]).length _, AJ _ _ _ (kids ++ [xk]).length ((A4 c.fx (kids ++ [xk]).length).flatMap AM), _, _, _, _, _]
    rw [hkl1]
    exact hS.sp
   refine Ey (i := 9) rfl (Ab a hS.sl) (listed' := [true, true, true, true, false, false, true, true, true, true, false, false, false, false, false]) rfl (B4 hS Gg.1 Cb.1 GM.1 rfl rfl rfl rfl (.agg rfl rfl .nil) rfl ?_); intro a w b96 hS
   refine Bc hS (AP (by repeat constructor) (AP (by repeat constructor) (AP (by repeat constructor) Ay))) ?_
   refine Un hS (Zz 4 _ rfl (Bz ?_)); intro b91
   refine Za ?_
   refine Zz 5 (tf 10 5) rfl (A1 ?_); intro v92 hv92
   intro a w hS
   obtain ⟨q92, c92, rfl⟩ := AN (hS.gg (X := AJ 9 1 v92 (kids.length + 1) ((A4 c.fx kids.length).flatMap AM ++ [.string (tx x.nm)])))
   refine Un hS (Za ?_)
   refine Zv 11 _ rfl ExA.go ?_
   refine Zz 10 (tf 12 3) rfl (A1 ?_); intro v97 hv97
   intro a w hS
   obtain ⟨q97, c97, rfl⟩ := AN (hS.gg (X := AJ 37 4 v97 (kids.length + 1) _))
   refine Un hS (Za ?_)
   refine Z0 rfl (Sb ?_)
   refine Zl ?_
   refine Zx rfl (C6 rfl Df.1) ?_
   refine Z0 rfl (Sb ?_)
   refine Zl ?_
   refine Wn 7 ?_
   obtain ⟨xk, hxk⟩ : ∃ xk : JX, xk = ⟨y, [.int .i64 (y.k : Int), .string (tx y.t), .slice none 0 0, .slice none 0 0], fun _ => False, rfl, rfl⟩ := ⟨_, rfl⟩
   have hxv : xk.v = y := by rw [hxk]
   have hxc : xk.cs = [.int .i64 (y.k : Int), .string (tx y.t), .slice none 0 0, .slice none 0 0] := by rw [hxk]
   intro a w hS
   have hxA : (Be 1 xk).ok w := by
    rw [hxk]
    cases y with
    | mk yk yt yn yl =>
      have e1 : yn = [] := hfc2
      have e2 : yl = [] := hfc3
      subst e1 e2
      exact CH 0 yk yt w
   have hfl2 : (kids ++ [xk]).flatMap JX.cs = kids.flatMap JX.cs ++ ([.int .i64 (y.k : Int), .string (tx y.t), .slice none 0 0, .slice none 0 0] ++ []) := by rw [List.flatMap_append, ← hxc]; simp
   have hkl1 : (kids ++ [xk]).length = kids.length + 1 := by simp
   have hns : A4 c.fx (kids.length + 1) = A4 c.fx kids.length ++ [x.nm] := by unfold A4; rw [BG hx, List.map_append]; rfl
   have hnf : (A4 c.fx (kids.length + 1)).flatMap AM = (A4 c.fx kids.length).flatMap AM ++ [.string (tx x.nm)] := by rw [hns, List.flatMap_append]; rfl
   have hxF : ∀ b, (Be 1 xk).F b → False := fun b hb => by rw [hxk] at hb; exact hb
   replace hS := CA ((hS.more hxA hxF).pk (Γ' := [Be 1 xk, As 1 kids, AJ 37 4 (.slice q97 (kids.length + 1) c97) (kids.length + 1) (kids.flatMap JX.cs ++ ([.int .i64 (y.k : Int), .string (tx y.t), .slice none 0 0, .slice none 0 0] ++ [])), AJ 9 1 (.slice q92 (kids.length + 1) c92) (kids.length + 1) ((A4 c.fx kids.length).flatMap AM ++ [.string (tx x.nm)]), .blk b8 [.int .i64 6, .string ⟨#[]⟩, .slice q97 (kids.length + 1) c97, .slice q92 (kids.length + 1) c92] 37, .blk b4 BM 37, .blk cb (AB c (.slice (some ⟨nb, no, none⟩) c.fx.length fc)) 24, AG W0]))
   rw [← hfl2, ← hnf] at hS
   refine ⟨(kids ++ [xk], .slice q97 (kids.length + 1) c97, .slice q92 (kids.length + 1) c92), by show c.fx.length - (kids ++ [xk]).length < c.fx.length - kids.length; omega, ?_, by show (kids ++ [xk]).length ≤ c.fx.length; omega, by show BN (c.fx.drop (kids ++ [xk]).length) (A4 c.fx (kids ++ [xk]).length) ((kids ++ [xk]).map JX.v) = _; rw [hkl1, hns, List.map_append, List.map_singleton, hxv]; exact hgo⟩
   show St _ _ _ _ _ [(56, .int .i64 ((kids ++ [xk]).length : Int)), _, _, _, _, _, _] [AJ _ _ _ (kids ++ [xk]).length _, AJ _ _ _ (kids ++ [xk]).length ((A4 c.fx (kids ++ [xk]).length).flatMap AM), _, _, _, _, _]
   rw [hkl1]
   exact hS.sp
 have hk2 : kids.length = c.fx.length := by omega
 rw [hk2, List.drop_length] at hgo
 have hgo' : BN c.fx [] [] = some (.mk 6 [] (A4 c.fx kids.length) (kids.map JX.v)) := by rw [← hgo, hk2]; rfl
 have hnl : (A4 c.fx kids.length).length = kids.length := by unfold A4; rw [List.length_map, List.length_take, hk2, Nat.min_self]
 refine Wn 1 ?_
 intro a w hS
 refine AH (AH (Aj ?_))
 refine Wq 6 hS ?_; intro a hS
 refine Aa (DS hS rfl rfl rfl PC.1 (by repeat constructor) (Kg c (.slice fa c.fx.length fc) (.slice none 0 0)) ?_); intro w hS
 refine Wh 5 hS ?_
 refine Lo (Sa ?_)
 refine Wn 4 ?_
 intro a w hS
 refine Rm hS Tryz.results29 ?_
 have hS1 := hS.pk (Γ' := [oR 37 4 ql kids cl JX.cs, AJ 9 1 (.slice qn kids.length cn) kids.length ((A4 c.fx kids.length).flatMap AM), As 1 kids, .blk cb (AB c (.slice none 0 0)) 24])
 have hS2 := Eg (d := 1) (k := 6) (t := []) (ns := A4 c.fx kids.length) (kids := kids) (by rw [hnl]; exact hS1)
 obtain ⟨F, hF2⟩ : ∃ F : Nat → Prop, F = fun b => (Value.slice ql kids.length cl).ownBlock = some b ∨ (Value.slice qn kids.length cn).ownBlock = some b ∨ LR kids b := ⟨_, rfl⟩
 rw [← hF2] at hS2
 refine ⟨.inl ⟨⟨.mk 6 [] (A4 c.fx kids.length) (kids.map JX.v), [.int .i64 6, .string ⟨#[]⟩, .slice ql kids.length cl, .slice qn kids.length cn], F, rfl, rfl⟩, hgo'⟩, rfl, hS.chg, ?_, ?_⟩
 · exact By (hS2.ok (.blk cb (AB c (.slice none 0 0)) 24) (.tail _ (.head _))) (hS2.ok _ (.head _)) (fun b h1 h2 => (List.pairwise_cons.1 hS2.dis).1 _ (.head _) b h2 h1)
 ·
  rintro b (hb | hb)
  · exact .inl hb
  · exact (hS2.mine _ (.head _) rfl b hb).symm
def mR (f : Fd) (c : Cd) : Type := { x : JX // (Av f c).1 = some x.v } ⊕ { p : List Value // (Av f c).1 = none ∧ ∃ k s a1 a2 a3 a4 a5 a6, p = Ca k s a1 a2 a3 a4 a5 a6 }
def rD (f : Fd) (c : Cd) : mR f c → Value
 | .inl x => .tuple [.agg x.1.cs.toArray, .bool true].toArray
 | .inr p => .tuple [.agg p.1.toArray, .bool false].toArray
def eQ (f : Fd) (c : Cd) (cb : Nat) (fv : Value) : mR f c → AT
 | .inl x => C5 (.blk cb (AB (Av f c).2 (if f.kd = 2 then .slice none 0 0 else fv)) 24) (Be 2 x.1)
 | .inr _ => .blk cb (AB (Av f c).2 fv) 24
structure Cd.ok (c : Cd) : Prop where
 t : ∀ i, 1 ≤ i → i ≤ 6 → (c.t i).length ≤ 1100000
 n : ∀ i, 7 ≤ i → i ≤ 13 → -9223372036854775808 ≤ c.n i ∧ c.n i ≤ 9223372036854775807
theorem UP (W0 : World) (hG : Gj W0) (x : Fg) (hx : x.ok) (c : Cd) (hc : c.ok) (fa : Option Addr) (fc : Nat) (hF : H4 W0 fa c.fx) (cb : Nat) (hcb : W0.heap.size ≤ cb) (w0 : World) (hold : AQ W0 w0) (h : (AT.blk cb (AB c (.slice fa c.fx.length fc)) 24).ok w0) :
 CV Tryz.prog 29 [.agg (A0 x).toArray, .pointer (some ⟨cb, 0, none⟩)] w0 (.blk cb (AB c (.slice fa c.fx.length fc)) 24) (rD x.f c) (eQ x.f c cb (.slice fa c.fx.length fc)) := by
 rcases hx.fd.kd with hk | hk | hk
 ·
  have e1 : A0 x = [.string (tx x.f.nm), .func (.func x.g) #[] #[], .nilFunc] := by unfold A0; rw [if_pos hk, if_neg (by omega)]
  have e2 : Av x.f c = (if Lib.validD (c.t x.f.off) then some (Fb (c.t x.f.off)) else none, c.putT x.f.off []) := by unfold Av; rw [if_pos hk]
  have ho := hx.fd.t hk
  have hm := Ra W0 hG x.g x.f.off (hx.p (by omega)) ho x.f.nm c (.slice fa c.fx.length fc) (by have := hc.t x.f.off ho.1 ho.2; omega) cb hcb w0 hold h
  rw [e1]
  refine hm.mono ?_
  rintro e w' ⟨_, he, h1, h2, h3⟩
  cases hv : Lib.validD (c.t x.f.off) with
  | true =>
    have e3 : (Av x.f c).1 = some (Fb (c.t x.f.off)) := by rw [e2, hv]; rfl
    have h4 : (AT.blk cb (AB (Av x.f c).2 (if x.f.kd = 2 then .slice none 0 0 else .slice fa c.fx.length fc)) 24).ok w' := by rw [e2, if_neg (show ¬ x.f.kd = 2 by omega)]; exact h2
    exact ⟨.inl ⟨⟨Fb (c.t x.f.off), Ca 4 (tx (c.t x.f.off)) none 0 0 none 0 0, fun _ => False, rfl, rfl⟩, e3⟩, by rw [he, hv]; rfl, h1, By h4 (CH 1 4 _ w') (fun k _ hk => hk), fun b hb => hb.elim .inl (fun h => h.elim)⟩
  | false =>
    have e3 : (Av x.f c).1 = none := by rw [e2, hv]; rfl
    have h4 : (AT.blk cb (AB (Av x.f c).2 (.slice fa c.fx.length fc)) 24).ok w' := by rw [e2]; exact h2
    exact ⟨.inr ⟨Ca 4 (tx (c.t x.f.off)) none 0 0 none 0 0, e3, _, _, _, _, _, _, _, _, rfl⟩, by rw [he, hv]; rfl, h1, h4, fun b hb => .inl hb⟩
 ·
  have e1 : A0 x = [.string (tx x.f.nm), .nilFunc, .func (.func x.g) #[] #[]] := by unfold A0; rw [if_neg (by omega), if_pos hk]
  have e2 : Av x.f c = (some (DI (Lib.itoa (c.n x.f.off))), c.putN x.f.off 0) := by unfold Av; rw [if_neg (by omega), if_pos hk]
  have ho := hx.fd.n hk
  have hm := Rb W0 hG x.g x.f.off (hx.p (by omega)) ho x.f.nm c (.slice fa c.fx.length fc) (hc.n _ ho.1 ho.2).1 (hc.n _ ho.1 ho.2).2 cb hcb w0 hold h
  rw [e1]
  refine hm.mono ?_
  rintro e w' ⟨_, he, h1, h2, h3⟩
  have h4 : (AT.blk cb (AB (Av x.f c).2 (if x.f.kd = 2 then .slice none 0 0 else .slice fa c.fx.length fc)) 24).ok w' := by rw [e2, if_neg (show ¬ x.f.kd = 2 by omega)]; exact h2
  exact ⟨.inl ⟨⟨DI (Lib.itoa (c.n x.f.off)), Ca 3 (tx (Lib.itoa (c.n x.f.off))) none 0 0 none 0 0, fun _ => False, rfl, rfl⟩, by rw [e2]⟩, he, h1, By h4 (CH 1 3 _ w') (fun k _ hk => hk), fun b hb => hb.elim .inl (fun h => h.elim)⟩
 ·
  have e1 : A0 x = [.string (tx x.f.nm), .nilFunc, .nilFunc] := by unfold A0; rw [if_neg (by omega), if_neg (by omega)]
  have e2 : Av x.f c = (BN c.fx [] [], { c with fx := [] }) := by unfold Av; rw [if_neg (by omega), if_neg (by omega)]
  rw [e1]
  refine (Rc W0 hG x.f.nm c fa fc hF cb hcb w0 hold h).mono ?_
  rintro e w' ⟨r, he, h1, h2, h3⟩
  rcases r with r | r
  ·
   have e4 : AB (Av x.f c).2 (if x.f.kd = 2 then .slice none 0 0 else .slice fa c.fx.length fc) = AB c (.slice none 0 0) := by rw [e2, if_pos hk]; rfl
   exact ⟨.inl ⟨r.1, by rw [e2]; exact r.2⟩, he, h1, by unfold eQ; rw [e4]; exact h2, fun b hb => h3 b hb⟩
  ·
   have e4 : AB (Av x.f c).2 (.slice fa c.fx.length fc) = AB c (.slice fa c.fx.length fc) := by rw [e2]; rfl
   exact ⟨.inr ⟨BM, by rw [e2]; exact r.2, 0, ⟨#[]⟩, none, 0, 0, none, 0, 0, rfl⟩, he, h1, by unfold eQ; rw [e4]; exact h2, fun b hb => .inl hb⟩
theorem Re (x : Int) (w0 : World) : Ae Tryz.prog 90 [.int .i64 x] w0 (.bool (!decide (x = 0))) := by
 refine Eo Ai Tryz.func90 Tryz.ntmps90 ?_
 intro a hS
 refine Wh 13 hS ?_
 intro a w hS
 refine Ro hS Tryz.results90 ?_
 exact ⟨by simp, hS.chg⟩
theorem Rf (W0 : World) (b c : Nat) (xs : List Int) (hlen : xs.length ≤ 1000) (hx : ∀ (i : Nat) (x : Int), xs[i]? = some x → W0.cell? ⟨b, i, none⟩ = some (.int .i64 x)) (w0 : World) (ho : AQ W0 w0) :
 Bb Tryz.prog 135 [.slice (some ⟨b, 0, none⟩) xs.length c, .func (.func 90) #[] [].toArray] w0 (fun i : { i : Int // i < 0 ↔ ∀ x ∈ xs, x = 0 } => .int .i64 i.1) (fun _ => A7) := by
 refine Ew Ai Tryz.func135 Tryz.ntmps135 ho ?_
 intro a hS
 refine Wq 14 hS ?_; intro a hS
 refine AW (γ := Nat) (fun k a w => St 19 Ai w0 a w [(8, .int .i64 (k : Int)), (7, .int .i64 (xs.length : Int)), (0, .slice (some ⟨b, 0, none⟩) xs.length c), (1, .func (.func 90) #[] [].toArray)] [AG W0] ∧ k ≤ xs.length ∧ ∀ (j : Nat) (x : Int), j < k → xs[j]? = some x → x = 0) (fun k => xs.length - k) 0 ⟨hS.sq, Nat.zero_le _, fun j _ hj => by omega⟩ ?_
 intro k a w hI
 obtain ⟨hS, hk, hno⟩ := hI
 refine Wh 6 hS ?_
 refine iD (fun hc9 => ?_) fun hc9 => ?_
 ·
  have hkn : k < xs.length := by omega
  obtain ⟨y, hy⟩ : ∃ x, xs[k]? = some x := ⟨_, List.getElem?_eq_getElem hkn⟩
  refine Wn 16 ?_
  refine Xp (AI rfl El.1 (fun w hh => by rw [Nat.mul_one, Nat.zero_add]; exact AF (hh (AG W0) (by repeat constructor)) (hx k y hy))) ?_
  intro a w hS
  refine Aa (Cq hS rfl (.cons rfl .nil) oX rfl (Re y _) ?_); intro a w hS
  refine Wh 2 hS ?_
  refine iB (fun hc16 => ?_) fun hc16 => ?_
  ·
   refine Wn 7 ?_
   intro a w hS
   refine AD (AC (AC (AD (AC ?_))))
   refine Ro hS Tryz.results135 ?_
   exact ⟨⟨(k : Int), fun h => absurd h (by omega), fun h => by rw [h y (List.mem_of_getElem? hy)] at hc16; simp at hc16⟩, rfl, hS.chg, AL _, fun b hb => hb.elim⟩
  refine Wn 7 ?_
  intro a w hS
  refine ⟨k + 1, by omega, hS.sq, hkn, fun j x hj hx => ?_⟩
  by_cases e : j = k
  · subst e; rw [hy] at hx; cases hx; simpa using hc16
  · exact hno j x (by omega) hx
 refine Wn 1 ?_
 intro a w hS
 refine AH (AH (Aj ?_))
 refine Wh 7 hS ?_
 intro a w hS
 refine Ro hS Tryz.results135 ?_
 refine ⟨⟨-1, fun _ x hx => ?_, fun _ => by decide⟩, rfl, hS.chg, AL _, fun b hb => hb.elim⟩
 obtain ⟨j, hj⟩ := List.getElem?_of_mem hx
 exact hno j x (by have := (List.getElem?_eq_some_iff.1 hj).1; omega) hj
theorem UQ (W0 : World) (b c : Nat) (xs : List Int) (hlen : xs.length ≤ 1000) (hx : ∀ (i : Nat) (x : Int), xs[i]? = some x → W0.cell? ⟨b, i, none⟩ = some (.int .i64 x)) (w0 : World) (ho : AQ W0 w0) :
 Bb Tryz.prog 89 [.slice (some ⟨b, 0, none⟩) xs.length c, .func (.func 90) #[] [].toArray] w0 (fun b : { b : Bool // b = false ↔ ∀ x ∈ xs, x = 0 } => .bool b.1) (fun _ => A7) := by
 refine Ew Ai Tryz.func89 Tryz.ntmps89 ho ?_
 intro a hS
 refine Wh 9 hS ?_
 refine Lo (cN iA (fun hS => Rf W0 b c xs hlen hx _ hS.od) ?_); intro x7
 refine Wn 5 ?_
 intro a w hS
 refine Ro hS Tryz.results89 ?_
 obtain ⟨i, hi⟩ := x7
 exact ⟨⟨decide (0 ≤ i), by rw [← hi, decide_eq_false_iff_not]; omega⟩, rfl, hS.chg, AL _, fun b hb => hb.elim⟩
def P2 (c : Cd) : ByteArray := tx (c.t 1) ++ tx (c.t 2) ++ tx (c.t 3) ++ tx (c.t 4) ++ tx (c.t 5) ++ tx (c.t 6)
theorem P3 (c : Cd) : P2 c = ⟨#[]⟩ ↔ c.t 1 = [] ∧ c.t 2 = [] ∧ c.t 3 = [] ∧ c.t 4 = [] ∧ c.t 5 = [] ∧ c.t 6 = [] := by
 unfold P2
 simp only [GU]
 rw [show (⟨#[]⟩ : ByteArray) = tx [] from rfl]
 constructor
 ·
  intro h
  have := congrArg (fun x : ByteArray => x.data.toList) h
  simpa [and_assoc, tx] using this
 ·
  rintro ⟨h1, h2, h3, h4, h5, h6⟩
  rw [h1, h2, h3, h4, h5, h6]; rfl
theorem M8 (l : List UInt8) : (tx l).size = l.length := by simp [tx, ByteArray.size]
theorem Fz (a b : ByteArray) : (a ++ b).size = a.size + b.size := ByteArray.size_append
def GV (c : Cd) : List Int := [c.n 7, c.n 8, c.n 9, c.n 10, c.n 11, c.n 12, c.n 13]
theorem UR (c : Cd) : (∀ x ∈ GV c, x = 0) ↔ c.n 7 = 0 ∧ c.n 8 = 0 ∧ c.n 9 = 0 ∧ c.n 10 = 0 ∧ c.n 11 = 0 ∧ c.n 12 = 0 ∧ c.n 13 = 0 := by
 simp [GV]
theorem XJ (c : Cd) (x : { b : Bool // b = false ↔ ∀ x ∈ GV c, x = 0 }) (h : P2 c = ⟨#[]⟩) (hf : c.fx.length = 0) : (!x.1) = true ↔ CD c := by
 have h1 := (P3 c).1 h
 have h2 : c.fx = [] := List.length_eq_zero_iff.1 hf
 rw [Bool.not_eq_true', x.2, UR]
 unfold CD
 exact ⟨fun h3 => ⟨h1.1, h1.2.1, h1.2.2.1, h1.2.2.2.1, h1.2.2.2.2.1, h1.2.2.2.2.2, h2, h3⟩, fun h3 => h3.2.2.2.2.2.2.2⟩
theorem US (c : Cd) (h : ¬ P2 c = ⟨#[]⟩) : ¬ CD c := fun he => h ((P3 c).2 ⟨he.1, he.2.1, he.2.2.1, he.2.2.2.1, he.2.2.2.2.1, he.2.2.2.2.2.1⟩)
theorem UT (c : Cd) (h : ¬ (c.fx.length : Int) = 0) : ¬ CD c := fun he => h (by rw [he.2.2.2.2.2.2.1]; rfl)
theorem UU (c : Cd) (hc : c.ok) (fa : Option Addr) (fc : Nat) (hfl : c.fx.length ≤ 1000000) (w0 : World) : Bb Tryz.prog 30 [.agg (AB c (.slice fa c.fx.length fc)).toArray] w0 (fun b : { b : Bool // b = true ↔ CD c } => .bool b.1) (fun _ => A7) := by
 have z1 := hc.t 1 (by omega) (by omega)
 have z2 := hc.t 2 (by omega) (by omega)
 have z3 := hc.t 3 (by omega) (by omega)
 have z4 := hc.t 4 (by omega) (by omega)
 have z5 := hc.t 5 (by omega) (by omega)
 have z6 := hc.t 6 (by omega) (by omega)
 refine Eo Ai Tryz.func30 Tryz.ntmps30 ?_
 intro a hS
 refine Wh 2 hS ?_
 refine Lo (Bx ?_); intro b1
 refine Wn 9 ?_
 refine Xp (Do rfl rfl (by simp only [M8]; omega)) ?_
 refine Wn 2 ?_
 refine Xp (Do rfl rfl (by simp only [M8, Fz]; omega)) ?_
 refine Wn 2 ?_
 refine Xp (Do rfl rfl (by simp only [M8, Fz]; omega)) ?_
 refine Wn 2 ?_
 refine Xp (Do rfl rfl (by simp only [M8, Fz]; omega)) ?_
 refine Wn 2 ?_
 refine Xp (Do rfl rfl (by simp only [M8, Fz]; omega)) ?_
 refine Wn 19 ?_
 refine Lo (Bz ?_); intro b36
 refine Wn 8 ?_
 refine Gd 39 ?_ ?_ <;> intro hg39
 ·
  refine Wn 6 ?_
  refine Gd 45 ?_ ?_ <;> intro hg45
  ·
   refine Wn 1 ?_
   intro a w hS
   have hb36 := hS.gg (X := .blk b36 ((GV c).map (Value.int .i64)) 3)
   refine Vm hS rfl rfl (PA hS oW (UQ w b36 7 (GV c) (by show 7 ≤ 1000; omega) (fun i x hx => AR hb36 (by rw [List.getElem?_map, hx]; rfl)) _ (Ax w)) ?_); intro x47
   refine Wn 6 ?_
   intro a w hS
   refine Ro hS Tryz.results30 ?_
   exact ⟨⟨!x47.1, XJ c x47 hg39 (by omega)⟩, rfl, hS.chg, AL _, fun b hb => hb.elim⟩
  refine Wn 1 ?_
  intro a w hS
  have hb36 := hS.gg (X := .blk b36 ((GV c).map (Value.int .i64)) 3)
  refine Wh 7 hS ?_
  intro a w hS
  refine Ro hS Tryz.results30 ?_
  exact ⟨⟨false, iff_of_false Bool.false_ne_true (UT c hg45)⟩, rfl, hS.chg, AL _, fun b hb => hb.elim⟩
 refine Wn 7 ?_
 intro a w hS
 have hb36 := hS.gg (X := .blk b36 ((GV c).map (Value.int .i64)) 3)
 refine Wh 7 hS ?_
 intro a w hS
 refine Ro hS Tryz.results30 ?_
 exact ⟨⟨false, iff_of_false Bool.false_ne_true (US c hg39)⟩, rfl, hS.chg, AL _, fun b hb => hb.elim⟩
def Ki (f : Nat → Nat) (k : Nat) (x : List UInt8 × List Fg) : List Value := [.string (tx x.1), .int .i64 ((k : Int) + 1), .slice (some ⟨f k, 0, none⟩) x.2.length x.2.length]
theorem XK (f : Nat → Nat) : ∀ (k : Nat) (x : List UInt8 × List Fg), DK[k]? = some x → ∀ (j : Nat) (v : Value), (Ki f k x)[j]? = some v → (P1 f)[k * 3 + j]? = some v := by
 intro k x hx j v hv
 rcases k with _ | _ | _ | _ | _ | _ | _ | _ | _ | _ | _ | _ | k
 case succ.succ.succ.succ.succ.succ.succ.succ.succ.succ.succ.succ => exact absurd (List.getElem?_eq_some_iff.1 hx).1 (by show ¬ k + 12 < 12; omega)
 all_goals
  obtain rfl : _ = x := by injection hx
  rcases j with _ | _ | _ | j
  · exact hv
  · exact hv
  · exact hv
  · cases hv
theorem HI {lo b : Nat} {f : Nat → Nat} {W : World} (h : DQ lo b f W) {k : Nat} {x : List UInt8 × List Fg} (hx : DK[k]? = some x) : ∀ (j : Nat) (v : Value), (Ki f k x)[j]? = some v → W.cell? ⟨b, 0 + k * 3 + j, none⟩ = some v := fun j v hv => by
 rw [Nat.zero_add]
 exact AR h.c (XK f k x hx j v hv)
theorem Lk {lo b : Nat} {f : Nat → Nat} {W : World} (h : DQ lo b f W) {k : Nat} {x : List UInt8 × List Fg} (hx : DK[k]? = some x) : Yr W (f k) 0 x.2 := by
 have hg := Hm x (List.mem_of_getElem? hx)
 refine ⟨fun i y hy j u hu => ?_, hg.ok, hg.nm, hg.n⟩
 rw [Nat.zero_add]
 refine AR (h.r k x hx).2 ?_
 clear h hg hx
 generalize x.2 = l at *
 induction l generalizing i with
 | nil => cases hy
 | cons z l ih =>
   have hz : (A0 z).length = 3 := rfl
   rw [List.flatMap_cons]
   cases i with
   | zero =>
     obtain rfl : z = y := by simpa using hy
     have hj : j < 3 := by have := (List.getElem?_eq_some_iff.1 hu).1; omega
     rw [List.getElem?_append_left (by omega)]
     simpa using hu
   | succ i =>
     rw [List.getElem?_append_right (by omega), hz, show (i + 1) * 3 + j - 3 = i * 3 + j by omega]
     exact ih i (by simpa using hy)
theorem Hn {k : Nat} (h : k < 12) : ∃ x, DK[k]? = some x := ⟨_, List.getElem?_eq_getElem (show k < DK.length from h)⟩
def Yu (p : Nat → Bool) (i : Int) : Prop := (∃ k : Nat, i = k ∧ k < 12 ∧ p k = true ∧ ∀ j, j < k → p j = false) ∨ (i = -1 ∧ ∀ j, j < 12 → p j = false)
theorem GW (W0 : World) (lo b : Nat) (f : Nat → Nat) (hR : DQ lo b f W0) (cl : Nat) (caps : List Value) (p : Nat → Bool) (hcl : AA Tryz.prog cl)
 (hp : ∀ (k : Nat) (x : List UInt8 × List Fg) (w : World), DK[k]? = some x → AQ W0 w → Ae Tryz.prog cl ([.agg (Ki f k x).toArray] ++ caps) w (.bool (p k))) (w0 : World) (ho : AQ W0 w0) :
 Bb Tryz.prog 27 [.slice (some ⟨b, 0, none⟩) 12 12, .func (.func cl) #[] caps.toArray] w0 (fun i : { i : Int // Yu p i } => .int .i64 i.1) (fun _ => A7) := by
 refine Ew Ai Tryz.func27 Tryz.ntmps27 ho ?_
 intro a hS
 refine Wq 14 hS ?_; intro a hS
 refine AW (γ := Nat) (fun k a w => St 19 Ai w0 a w [(8, .int .i64 (k : Int)), (7, .int .i64 ((12 : Nat) : Int)), (0, .slice (some ⟨b, 0, none⟩) 12 12), (1, .func (.func cl) #[] caps.toArray)] [AG W0] ∧ k ≤ 12 ∧ ∀ j, j < k → p j = false) (fun k => 12 - k) 0 ⟨hS.sq, Nat.zero_le _, fun j hj => by omega⟩ ?_
 intro k a w hI
 obtain ⟨hS, hk, hno⟩ := hI
 refine Wh 6 hS ?_
 refine iD (fun hc9 => ?_) fun hc9 => ?_
 ·
  have hkn : k < 12 := by omega
  obtain ⟨x, hx⟩ := Hn hkn
  refine Wn 16 ?_
  refine Xp (BV (l := Ki f k x) rfl LD.1 IM.1 (fun w hh j u hj => AF (hh (AG W0) (by repeat constructor)) (HI hR hx j u hj))) ?_
  intro a w hS
  refine Aa (Cq hS rfl (.cons rfl .nil) hcl rfl (hp k x _ hx hS.od) ?_); intro a w hS
  refine Wh 2 hS ?_
  refine iB (fun hc16 => ?_) fun hc16 => ?_
  ·
   refine Wn 7 ?_
   intro a w hS
   refine AD (AC (AC (AD (AC ?_))))
   refine Ro hS Tryz.results27 ?_
   exact ⟨⟨(k : Int), .inl ⟨k, rfl, hkn, hc16, hno⟩⟩, rfl, hS.chg, AL _, fun b hb => hb.elim⟩
  refine Wn 7 ?_
  intro a w hS
  refine ⟨k + 1, by omega, hS.sq, hkn, fun j hj => ?_⟩
  by_cases e : j = k
  · subst e; exact hc16
  · exact hno j (by omega)
 refine Wn 1 ?_
 intro a w hS
 refine AH (AH (Aj ?_))
 refine Wh 7 hS ?_
 intro a w hS
 refine Ro hS Tryz.results27 ?_
 exact ⟨⟨-1, .inr ⟨rfl, fun j hj => hno j (by omega)⟩⟩, rfl, hS.chg, AL _, fun b hb => hb.elim⟩
theorem M9 (f : Nat → Nat) (k : Nat) (x : List UInt8 × List Fg) (cb : Nat) (kd : Int) (W0 : World) (hc : W0.cell? ⟨cb, 0, none⟩ = some (.int .i64 kd)) (w0 : World) (ho : AQ W0 w0) :
 Ae Tryz.prog 28 [.agg (Ki f k x).toArray, .pointer (some ⟨cb, 0, none⟩)] w0 (.bool (decide ((k : Int) + 1 = kd))) := by
 refine Ew Ai Tryz.func28 Tryz.ntmps28 ho ?_
 intro a hS
 refine Wh 2 hS ?_
 refine Lo (Bx ?_); intro b2
 refine Wn 8 ?_
 refine Xp (AI rfl El.1 (fun w hh => AF (hh (AG W0) (by repeat constructor)) hc)) ?_
 refine Wn 5 ?_
 intro a w hS
 refine Ro hS Tryz.results28 ?_
 exact ⟨rfl, hS.chg⟩
theorem NA (f : Nat → Nat) (k : Nat) (x : List UInt8 × List Fg) (rb : Nat) (path : ByteArray) (W0 : World) (hc : W0.cell? ⟨rb, 1, none⟩ = some (.string path)) (w0 : World) (ho : AQ W0 w0) :
 Ae Tryz.prog 43 [.agg (Ki f k x).toArray, .pointer (some ⟨rb, 0, none⟩)] w0 (.bool (decide (tx x.1 = path))) := by
 refine Ew Ai Tryz.func43 Tryz.ntmps43 ho ?_
 intro a hS
 refine Wh 2 hS ?_
 refine Lo (Bx ?_); intro b2
 refine Wn 8 ?_
 refine Xp (AI rfl Af.1 (fun w hh => AF (hh (AG W0) (by repeat constructor)) hc)) ?_
 refine Wn 5 ?_
 intro a w hS
 refine Ro hS Tryz.results43 ?_
 exact ⟨rfl, hS.chg⟩
def NB (r : Nat) : Bool := decide ((r < 33 ∨ 126 < r) ∨ r = 47)
theorem Od (r : Nat) (hr : r ≤ 1114111) (w0 : World) : Ae Tryz.prog 132 [.int .i32 (r : Int)] w0 (.bool (NB r)) := by
 refine Eo Ai Tryz.func132 Tryz.ntmps132 ?_
 intro a hS
 refine Wh 10 hS ?_
 refine Lm 3 8 (.bool (decide (r < 33 ∨ 126 < r))) ?_ ?_
 ·
  intro hcM8
  refine Gd 5 ?_ ?_ <;> intro hg5
  ·
   refine Wn 3 ?_
   exact Et 4 8 5 hcM8 rfl ((decide_eq_true (.inl (by omega))).symm) hg5
  refine Wn 3 ?_
  exact Ef 4 8 5 hcM8 rfl (decide_eq_decide.2 (by omega)) hg5
 ·
  refine Wn 1 ?_
  refine Lm 3 12 (.bool (decide ((r < 33 ∨ 126 < r) ∨ r = 47))) ?_ ?_
  ·
   intro hcM12
   refine Gd 9 ?_ ?_ <;> intro hg9
   ·
    refine Wn 3 ?_
    exact Et 4 12 9 hcM12 rfl ((decide_eq_true (.inl (by omega))).symm) hg9
   refine Wn 3 ?_
   exact Ef 4 12 9 hcM12 rfl (decide_eq_decide.2 (by omega)) hg9
  ·
   refine Wn 4 ?_
   intro a w hS
   refine Ro hS Tryz.results132 ?_
   exact ⟨rfl, hS.chg⟩
def Ba (s : List UInt8) : Bool := decide (s ≠ []) && decide (s.length ≤ 100) && !(s.any fun b => NB b.toNat)
theorem bW {s : List UInt8} {p : Prop} [Decidable p] (h : tx s ≠ ⟨#[]⟩) (hp : p ↔ s.length ≤ 100) : decide p = (decide (s ≠ []) && decide (s.length ≤ 100)) := by
 rw [decide_eq_true (show s ≠ [] from fun e => h (EN.2 e)), Bool.true_and]
 exact decide_eq_decide.2 hp
theorem bX {s : List UInt8} (h : ¬ tx s ≠ ⟨#[]⟩) : false = (decide (s ≠ []) && decide (s.length ≤ 100)) := by
 rw [EN.1 (Classical.not_not.1 h)]; rfl
theorem XL {s : List UInt8} (h : (decide (s ≠ []) && decide (s.length ≤ 100)) = true) : (!(s.any fun b => NB b.toNat)) = Ba s := by
 unfold Ba; rw [h, Bool.true_and]
theorem XM {s : List UInt8} (h : (decide (s ≠ []) && decide (s.length ≤ 100)) = false) : false = Ba s := by
 unfold Ba; rw [h, Bool.false_and]
theorem Rg (s : List UInt8) (hs : s.length ≤ 10000000) (w0 : World) : Ae Tryz.prog 70 [.string (tx s)] w0 (.bool (Ba s)) := by
 have hsz := BA s
 refine Eo Ai Tryz.func70 Tryz.ntmps70 ?_
 intro a hS
 refine Wh 15 hS ?_
 refine Lm 4 10 (.bool (decide (s ≠ []) && decide (s.length ≤ 100))) ?_ ?_
 ·
  intro hcM10
  refine Gd 6 ?_ ?_ <;> intro hg6
  ·
   refine Wn 4 ?_
   exact Et 5 10 6 hcM10 rfl (bW hg6 (by omega)) hg6
  refine Wn 4 ?_
  exact Ef 5 10 6 hcM10 rfl (bX hg6) hg6
 ·
  refine Wn 1 ?_
  refine Lm 5 16 (.bool (Ba s)) ?_ ?_
  ·
   intro hcM16
   refine Gs 11 ?_ ?_ <;> intro hg11
   ·
    refine Wn 2 ?_
    refine Lg (cP YR (@fun a w hS => JM 132 NB hP (fun r w hr => Od r hr w) (fun r hr => decide_eq_true (by omega)) (tx s) _) ?_)
    refine Wn 2 ?_
    exact Eb 6 16 11 hcM16 rfl (XL hg11) hg11
   refine Wn 5 ?_
   exact Eb 6 16 11 hcM16 rfl (XM hg11) hg11
  ·
   refine Wn 4 ?_
   intro a w hS
   refine Ro hS Tryz.results70 ?_
   exact ⟨rfl, hS.chg⟩
theorem UV (t : List UInt8) (v : Int) (h : Lib.atoiAll t = .ok v) (hl : t.length ≤ 10000000) (w0 : World) : Ae Tryz.prog 153 [.string (tx t)] w0 (.tuple [.int .i64 v, .nilIface].toArray) := by
 have hs := BA t
 refine (Tryz.strconv_Atoi_ok (tx t) (by omega) v h w0).mono fun e w' ⟨he, hw⟩ => ⟨he, ?_⟩
 rcases hw with rfl | ⟨s, rfl⟩
 · exact Bd.refl _ _
 · exact Bd.of_below (Lib.bytesWorld_below _ _ _)
theorem Rh (W0 : World) (hG : Gj W0) (t : List UInt8) (v : Int) (h : Lib.atoiAll t = .ok v) (h0 : -9223372036854775808 ≤ v) (h1 : v ≤ 9223372036854775807) (hl : t.length ≤ 10000000) (w0 : World) (ho : AQ W0 w0) : Ae Tryz.prog 111 [.string (tx t)] w0 (.tuple [.int .i64 v, .bool (decide (tx (Lib.itoa v) = tx t))].toArray) := by
 refine Ew Ai Tryz.func111 Tryz.ntmps111 ho ?_
 intro a hS
 refine Wh 9 hS ?_
 refine Lo (cP YT (fun _ => UV t v h hl _) ?_)
 refine Wn 11 ?_
 refine Xp (Pg rfl (by kernel_rfl)) ?_
 refine Wn 1 ?_
 refine Ie 14 true rfl rfl ?_
 refine Wn 1 ?_
 refine Lg (cP S1 (fun hS => JN W0 hG v h0 h1 _ hS.od) ?_)
 refine Wn 8 ?_
 intro a w hS
 refine Rm hS Tryz.results111 ?_
 exact ⟨rfl, hS.chg⟩
open Classical in
noncomputable def Es (c : Cd) : Bool := decide (CD c)
open Classical in
theorem Fl {c : Cd} : Es c = true ↔ CD c := by unfold Es; exact decide_eq_true_iff
theorem JT (c : Cd) (hc : c.ok) (fa : Option Addr) (fc : Nat) (hfl : c.fx.length ≤ 1000000) (w0 : World) : Ae Tryz.prog 30 [.agg (AB c (.slice fa c.fx.length fc)).toArray] w0 (.bool (Es c)) := by
 refine (UU c hc fa fc hfl w0).mono ?_
 rintro e w' ⟨⟨b, hb⟩, he, h1, h2, h3⟩
 refine ⟨?_, h1⟩
 have : b = Es c := by
  rw [Bool.eq_iff_iff, hb, Fl]
 rw [he]
 exact congrArg (fun x => Ending.returned (Value.bool x)) this
def Db (c : Cd) : Cd := if c.kind = 14 then (c.putT 1 []).putN 8 0 else c.putN 11 0
noncomputable def Au (c : Cd) : List UInt8 × Bool :=
 if c.kind = 14 then ([47, 98, 97, 108, 97, 110, 99, 101, 115, 47] ++ c.t 1 ++ [47] ++ Lib.itoa (c.n 8), Ba (c.t 1) && Es (Db c))
 else ([47, 105, 110, 118, 111, 105, 99, 101, 115, 47] ++ Lib.itoa (c.n 11), Es (Db c))
theorem UW {c : Cd} (h : c.kind = 14) {b : Bool} (hb : b = (Ba (c.t 1) && Es ((c.putT 1 []).putN 8 0))) : Value.tuple #[.string ((⟨#[47, 98, 97, 108, 97, 110, 99, 101, 115, 47]⟩ : ByteArray) ++ tx (c.t 1) ++ ⟨#[47]⟩ ++ tx (Lib.itoa (c.n 8))), .bool b] = .tuple [.string (tx (Au c).1), .bool (Au c).2].toArray := by
 unfold Au Db
 rw [if_pos h, if_pos h, hb]
 simp only [← GU]
 rfl
theorem bY {c : Cd} (h : ¬ c.kind = 14) : Value.tuple #[.string ((⟨#[47, 105, 110, 118, 111, 105, 99, 101, 115, 47]⟩ : ByteArray) ++ tx (Lib.itoa (c.n 11))), .bool (Es (c.putN 11 0))] = .tuple [.string (tx (Au c).1), .bool (Au c).2].toArray := by
 unfold Au Db
 rw [if_neg h, if_neg h]
 simp only [← GU]
 rfl
theorem Cd.ok.putT {c : Cd} (h : c.ok) (i : Nat) : (c.putT i []).ok := ⟨fun k h1 h2 => by
  show (if k = i then [] else c.t k).length ≤ 1100000
  split
  · exact Nat.zero_le _
  · exact h.t k h1 h2, h.n⟩
theorem Cd.ok.putN {c : Cd} (h : c.ok) (i : Nat) : (c.putN i 0).ok := ⟨h.t, fun k h1 h2 => by
  show -9223372036854775808 ≤ (if k = i then 0 else c.n k) ∧ (if k = i then 0 else c.n k) ≤ 9223372036854775807
  split
  · omega
  · exact h.n k h1 h2⟩
theorem Bp {n : Int} (h0 : -9223372036854775808 ≤ n) (h1 : n ≤ 9223372036854775807) : (Lib.itoa n).length ≤ 20 := by
 unfold Lib.itoa
 split
 ·
  rename_i h
  simp only [List.length_cons]
  have := IS (u := n.natAbs) (k := 18) (by omega)
  omega
 ·
  have := IS (u := n.toNat) (k := 18) (by omega)
  omega
theorem Ri (W0 : World) (hG : Gj W0) (c : Cd) (hc : c.ok) (fa : Option Addr) (fc : Nat) (hfl : c.fx.length ≤ 1000000) (hk : c.kind = 14) (cb : Nat) (hcb : W0.heap.size ≤ cb) (w0 : World) (hold : AQ W0 w0) (h : (AT.blk cb (AB c (.slice fa c.fx.length fc)) 24).ok w0) :
 CV Tryz.prog 25 [.pointer (some ⟨cb, 0, none⟩)] w0 (.blk cb (AB c (.slice fa c.fx.length fc)) 24) (fun _ : Unit => .tuple [.string (tx (Au c).1), .bool (Au c).2].toArray) (fun _ => .blk cb (AB (Db c) (.slice fa c.fx.length fc)) 24) := by
 have hn8 := hc.n 8 (by omega) (by omega)
 have hn11 := hc.n 11 (by omega) (by omega)
 have hz8 := Bp hn8.1 hn8.2
 have hz11 := Bp hn11.1 hn11.2
 have hz1 := hc.t 1 (by omega) (by omega)
 refine En [.blk cb (AB c (.slice fa c.fx.length fc)) 24, AG W0] (fun k => k = cb) Tryz.func25 Tryz.ntmps25 (B3 h (B3 (BB hold) DN)) (CT (CK (fun k h1 h2 => by have h1 : k = cb := h1; have h2 : k < W0.heap.size := h2; omega) CU) Bi) (A9 (fun _ hb => hb) (BP rfl Aw)) ?_
 intro a hS
 refine Wh 12 hS ?_
 refine Lo (cP S1 (fun hS => JN W0 hG (c.n 11) hn11.1 hn11.2 _ hS.od) ?_)
 refine Xp (Do rfl rfl (by simp only [BA]; show 10 + _ ≤ _; omega)) ?_
 refine Wn 14 ?_
 refine Ie 16 true rfl (decide_eq_true hk) ?_
 refine Wn 2 ?_
 refine Dr 19 [] [.blk cb (AB c (.slice fa c.fx.length fc)) 24, AG W0] ?_
 refine ZR 4 ?_
 refine Zx rfl (Do rfl rfl (by simp only [BA]; show 10 + _ ≤ _; omega)) ?_
 refine Zx rfl (Do rfl rfl (by simp only [Fz, BA]; show 10 + _ + 1 ≤ _; omega)) ?_
 refine ZR 4 ?_
 refine Zv 12 _ rfl ExA.go ?_
 refine Zv 13 _ rfl ExA.go ?_
 refine Zv 14 _ rfl ExA.go ?_
 refine Zu 15 _ rfl ExA.go ?_
 refine Zz 10 _ rfl (cP S1 (fun hS => JN W0 hG (c.n 8) hn8.1 hn8.2 _ hS.od) ?_)
 refine Za ?_
 refine Zv 11 (tf 16 3) rfl (Do rfl rfl (by simp only [Fz, BA]; show 10 + _ + 1 + _ ≤ _; omega)) ?_
 refine Z0 rfl (cP oH (fun _ => Rg (c.t 1) (by omega) _) ?_)
 refine Za ?_
 refine ZR 2 ?_
 refine Wn 7 ?_
 intro a w hS
 refine Aa (DS hS rfl rfl rfl A8.1 (by repeat constructor) (JP c (.slice fa c.fx.length fc) (i := 1) [] (by omega)) ?_); intro w hS
 refine Wq 2 hS ?_; intro a hS
 refine Aa (DS hS rfl rfl rfl Cj.1 (by repeat constructor) (HD (c.putT 1 []) (.slice fa c.fx.length fc) (i := 8) 0 (by omega)) ?_); intro w hS
 refine Wh 7 hS ?_
 refine Gs 45 ?_ ?_ <;> intro hg45
 ·
  refine Wn 3 ?_
  refine Lg (cP ZN (fun _ => JT ((c.putT 1 []).putN 8 0) ((hc.putT 1).putN 8) fa fc hfl _) ?_)
  refine Wn 6 ?_
  intro a w hS
  refine Rm hS Tryz.results25 ?_
  have e1 : Db c = (c.putT 1 []).putN 8 0 := by unfold Db; rw [if_pos hk]
  rw [e1]
  exact ⟨(), congrArg Ending.returned (UW hk (by simp [hg45])), hS.chg, hS.ok (.blk cb (AB ((c.putT 1 []).putN 8 0) (.slice fa c.fx.length fc)) 24) (by repeat constructor), fun b hb => .inl hb⟩
 refine Wn 10 ?_
 intro a w hS
 refine Rm hS Tryz.results25 ?_
 have e1 : Db c = (c.putT 1 []).putN 8 0 := by unfold Db; rw [if_pos hk]
 rw [e1]
 exact ⟨(), congrArg Ending.returned (UW hk (by simp [hg45])), hS.chg, hS.ok (.blk cb (AB ((c.putT 1 []).putN 8 0) (.slice fa c.fx.length fc)) 24) (by repeat constructor), fun b hb => .inl hb⟩
theorem Rj (W0 : World) (hG : Gj W0) (c : Cd) (hc : c.ok) (fa : Option Addr) (fc : Nat) (hfl : c.fx.length ≤ 1000000) (hk : ¬ c.kind = 14) (cb : Nat) (hcb : W0.heap.size ≤ cb) (w0 : World) (hold : AQ W0 w0) (h : (AT.blk cb (AB c (.slice fa c.fx.length fc)) 24).ok w0) :
 CV Tryz.prog 25 [.pointer (some ⟨cb, 0, none⟩)] w0 (.blk cb (AB c (.slice fa c.fx.length fc)) 24) (fun _ : Unit => .tuple [.string (tx (Au c).1), .bool (Au c).2].toArray) (fun _ => .blk cb (AB (Db c) (.slice fa c.fx.length fc)) 24) := by
 have hn8 := hc.n 8 (by omega) (by omega)
 have hn11 := hc.n 11 (by omega) (by omega)
 have hz8 := Bp hn8.1 hn8.2
 have hz11 := Bp hn11.1 hn11.2
 have hz1 := hc.t 1 (by omega) (by omega)
 refine En [.blk cb (AB c (.slice fa c.fx.length fc)) 24, AG W0] (fun k => k = cb) Tryz.func25 Tryz.ntmps25 (B3 h (B3 (BB hold) DN)) (CT (CK (fun k h1 h2 => by have h1 : k = cb := h1; have h2 : k < W0.heap.size := h2; omega) CU) Bi) (A9 (fun _ hb => hb) (BP rfl Aw)) ?_
 intro a hS
 refine Wh 12 hS ?_
 refine Lo (cP S1 (fun hS => JN W0 hG (c.n 11) hn11.1 hn11.2 _ hS.od) ?_)
 refine Xp (Do rfl rfl (by simp only [BA]; show 10 + _ ≤ _; omega)) ?_
 refine Wn 14 ?_
 refine Ie 16 false rfl (decide_eq_false hk) ?_
 refine Wn 5 ?_
 intro a w hS
 refine Aa (DS hS rfl rfl rfl Cj.1 (by repeat constructor) (HD c (.slice fa c.fx.length fc) (i := 11) 0 (by omega)) ?_); intro w hS
 refine Wh 7 hS ?_
 refine Ie 45 true rfl rfl ?_
 refine Wn 3 ?_
 refine Lg (cP ZN (fun _ => JT (c.putN 11 0) (hc.putN 11) fa fc hfl _) ?_)
 refine Wn 6 ?_
 intro a w hS
 refine Rm hS Tryz.results25 ?_
 have e1 : Db c = c.putN 11 0 := by unfold Db; rw [if_neg hk]
 rw [e1]
 exact ⟨(), congrArg Ending.returned (bY hk), hS.chg, hS.ok (.blk cb (AB (c.putN 11 0) (.slice fa c.fx.length fc)) 24) (by repeat constructor), fun b hb => .inl hb⟩
theorem XN (W0 : World) (hG : Gj W0) (c : Cd) (hc : c.ok) (fa : Option Addr) (fc : Nat) (hfl : c.fx.length ≤ 1000000) (cb : Nat) (hcb : W0.heap.size ≤ cb) (w0 : World) (hold : AQ W0 w0) (h : (AT.blk cb (AB c (.slice fa c.fx.length fc)) 24).ok w0) :
 CV Tryz.prog 25 [.pointer (some ⟨cb, 0, none⟩)] w0 (.blk cb (AB c (.slice fa c.fx.length fc)) 24) (fun _ : Unit => .tuple [.string (tx (Au c).1), .bool (Au c).2].toArray) (fun _ => .blk cb (AB (Db c) (.slice fa c.fx.length fc)) 24) := by
 by_cases hk : c.kind = 14
 · exact Ri W0 hG c hc fa fc hfl hk cb hcb w0 hold h
 · exact Rj W0 hG c hc fa fc hfl hk cb hcb w0 hold h
def XO (x : Int) : Prop := x = 0 ∨ x = 44 ∨ x = 125
theorem NC : XO (bt [] 0) := .inl rfl
theorem Kj (W0 : World) (br : Nat) (q : Option Addr) (c : Nat) (l : List UInt8) (ht : EB W0 q c l) (hb : W0.heap.size ≤ br) (p : Nat) (rest : List UInt8) (n : Int) (hn0 : -9223372036854775808 ≤ n) (hn1 : n ≤ 9223372036854775807) (hl : l.drop p = Lib.itoa n ++ rest) (hp : p ≤ l.length) (he : XO (bt rest 0)) (w0 : World) (h : (BQ br q c l p).φ w0) (ho : AQ W0 w0) :
 CV Tryz.prog 196 [.pointer (some ⟨br, 0, none⟩)] w0 (BQ br q c l p) (fun _ : Unit => .string (tx (Lib.itoa n))) (fun _ => BQ br q c l (p + (Lib.itoa n).length)) := by
 have hn := ht.n
 obtain ⟨s, m, hsm, hm, hs, hdg, h0⟩ := Lc hl
 have hlen := OQ hl hp
 have hend := bL hl
 have h20 := Bp hn0 hn1
 rw [hsm] at hend hlen h20
 rw [← Nat.add_assoc] at hend
 have hs1 : s ≤ 1 := by rw [hs]; split <;> omega
 have hno : ¬ (48 ≤ bt l (p + s + m) ∧ bt l (p + s + m) ≤ 57) := by rw [hend]; rcases he with h | h | h <;> omega
 have hne46 : bt l (p + s + m) ≠ 46 := by rw [hend]; rcases he with h | h | h <;> omega
 have hne101 : bt l (p + s + m) ≠ 101 := by rw [hend]; rcases he with h | h | h <;> omega
 have hne69 : bt l (p + s + m) ≠ 69 := by rw [hend]; rcases he with h | h | h <;> omega
 refine En [BQ br q c l p, AG W0] (fun k => k = br) Tryz.func196 Tryz.ntmps196 (B3 (BE h) (B3 (BB ho) DN)) (CT (CK (fun k h1 h2 => by have h1 : k = br := h1; have h2 : k < W0.heap.size := h2; omega) CU) Bi) (A9 (fun _ hb => hb) (BP rfl Aw)) ?_
 intro a hS
 refine Wq 7 hS ?_; intro a hS
 unfold BQ GS at hS
 refine Wq 7 hS ?_; intro a hS
 refine C1 (fun a w => St 121 (fun k => k = br) w0 a w [(3, .int .i64 (p : Int)), (0, .pointer (some ⟨br, 0, none⟩))] [BQ br q c l (p + s), AG W0]) ?_ ?_
 ·
  refine Wh 3 hS ?_
  refine Lo (cM Gn (fun hS => FI W0 br q c l ht hb p hp _ (hS.gg (X := BQ br q c l p)) hS.od) ?_); intro x9
  refine Wn 3 ?_
  refine iD (fun hc10 => ?_) fun hc10 => ?_
  ·
   have hs2 : s = 1 := by rw [hs, if_pos hc10]
   refine Wn 1 ?_
   intro a w hS
   unfold BQ GS at hS
   refine Wh 8 hS ?_
   refine Lo (Sb ?_)
   refine Wn 1 ?_
   intro a w hS
   rw [show (p : Int) + 1 = ((p + s : Nat) : Int) by omega] at hS
   unfold BQ GS
   exact hS.sp
  have hs2 : s = 0 := by rw [hs, if_neg hc10]
  refine Wn 1 ?_
  subst hs2
  intro a w hS
  exact hS.sp
 intro a w hS
 refine C1 (fun a w => St 121 (fun k => k = br) w0 a w [(3, .int .i64 (p : Int)), (0, .pointer (some ⟨br, 0, none⟩))] [BQ br q c l (p + s + m), AG W0]) ?_ ?_
 ·
  refine Wh 3 hS ?_
  refine Lo (cM Gn (fun hS => FI W0 br q c l ht hb (p + s) (by omega) _ (hS.gg (X := BQ br q c l (p + s))) hS.od) ?_); intro x20
  refine Wn 3 ?_
  refine iD (fun hc21 => ?_) fun hc21 => ?_
  ·
   have hm2 : m = 1 := h0 hc21
   refine Wn 1 ?_
   intro a w hS
   unfold BQ GS at hS
   refine Wh 8 hS ?_
   refine Lo (Sb ?_)
   refine Wn 1 ?_
   intro a w hS
   rw [show ((p + s : Nat) : Int) + 1 = ((p + s + m : Nat) : Int) by omega] at hS
   unfold BQ GS
   exact hS.sp
  refine Wn 2 ?_
  refine Lo (cM jD (fun hS => RN W0 br q c l ht hb (p + s) m hm (by omega) hdg hno _ (hS.gg (X := BQ br q c l (p + s))) hS.od) ?_); intro x31
  refine Wn 1 ?_
  intro a w hS
  exact hS.sp
 intro a w hS
 refine Wq 3 hS ?_; intro a hS
 unfold BQ GS at hS
 refine Wh 6 hS ?_
 refine Ie 37 true rfl rfl ?_
 refine Wn 1 ?_
 refine Lg (cM Gn (fun hS => FI W0 br q c l ht hb (p + s + m) (by omega) _ (hS.gg (X := BQ br q c l (p + s + m))) hS.od) ?_); intro x39
 refine Wn 4 ?_
 refine Ie 41 false rfl (decide_eq_false hne46) ?_
 refine Wn 6 ?_
 intro a w hS
 unfold BQ GS at hS
 refine Wh 6 hS ?_
 refine Ie 57 true rfl rfl ?_
 refine Wn 1 ?_
 refine Lg (cM Gn (fun hS => FI W0 br q c l ht hb (p + s + m) (by omega) _ (hS.gg (X := BQ br q c l (p + s + m))) hS.od) ?_); intro x59
 refine Wn 2 ?_
 refine Ie 61 false rfl (decide_eq_false hne101) ?_
 refine Wn 1 ?_
 refine Lg (cM Gn (fun hS => FI W0 br q c l ht hb (p + s + m) (by omega) _ (hS.gg (X := BQ br q c l (p + s + m))) hS.od) ?_); intro x63
 refine Wn 5 ?_
 refine Ie 66 false rfl (decide_eq_false hne69) ?_
 refine Wn 6 ?_
 intro a w hS
 unfold BQ GS at hS
 refine Wh 6 hS ?_
 refine Ie 98 true rfl rfl ?_
 refine Wn 10 ?_
 refine Ie 106 false rfl (decide_eq_false (by omega)) ?_
 refine Wn 4 ?_
 refine Dr 12 [] [.blk br [.slice q l.length c, .int .i64 ((p + s + m : Nat) : Int), .int .i64 0, .int .i64 0] 231, AG W0] ?_
 have hcap : l.length ≤ c ∨ l.length = 0 := by
  rcases Nat.eq_zero_or_pos l.length with h0 | h0
  · exact .inr h0
  ·
   obtain ⟨b, off, c', e, h1, _⟩ := ht.lies.some (fun e => by have := congrArg List.length e; rw [Ap] at this; simp only [List.length_nil] at this; omega)
   injection e with _ _ e3
   rw [Ap] at h1; exact .inl (by omega)
 refine ZR 9 ?_
 refine Zx rfl (PQ (i := p) (j := p + s + m) rfl rfl rfl AZ.1 BL.1 ⟨by omega, by omega⟩) ?_
 refine Zy rfl (KO (l := ((Br l).take (p + s + m)).drop p) rfl AZ.1 C7.1 Dp.1 (fun w hh => (Ha (hh (AG W0) (by repeat constructor)) ht.lies).piece (by omega) (by omega))) ?_
 refine ZR 1 ?_
 refine Wn 3 ?_
 intro a w hS
 refine Ro hS Tryz.results196 ?_
 rw [hsm, ← Nat.add_assoc]
 refine ⟨(), ?_, hS.chg, hS.ok (BQ br q c l (p + s + m)) (by repeat constructor), fun b hb => .inl hb⟩
 rw [Fu, Hc, List.drop_take, hl, show p + s + m - p = (Lib.itoa n).length by omega, List.take_left]
theorem Oe (n : Int) (hn0 : -9223372036854775808 ≤ n) (hn1 : n ≤ 9223372036854775807) (w0 : World) : Ae Tryz.prog 160 [.string (tx (Lib.itoa n))] w0 (.bool true) := by
 have h20 := Bp hn0 hn1
 obtain ⟨t, htt⟩ : ∃ t, Lib.itoa n = t := ⟨_, rfl⟩
 have hne : tx t ≠ ⟨#[]⟩ := fun e => by
  have e2 : t = [] := by have := congrArg (fun x : ByteArray => x.data.toList) e; simpa [tx] using this
  obtain ⟨s, m, hsm, hm, _⟩ := Lc (l := Lib.itoa n) (rest := []) (p := 0) (n := n) (by simp)
  rw [htt, e2] at hsm
  simp at hsm; omega
 rw [htt] at h20 ⊢
 refine Eo Ai Tryz.func160 Tryz.ntmps160 ?_
 intro a hS
 refine Wq 8 hS ?_; intro a hS
 refine Aa (E6 hS rfl Tryz.underlying9 AZ.1 C7.1 rfl ?_)
 intro b6 c6 a w hc6 hS
 obtain ⟨W1, rfl⟩ : ∃ W, W = w := ⟨_, rfl⟩
 have ht : EB W1 (some ⟨b6, 0, none⟩) c6 t := ⟨by have := Po (hS.gg (X := Gb 5 b6 (CE (tx t)))) hc6; rw [show CE (tx t) = Br t from rfl, Ap] at this; exact this, by omega⟩
 rw [show (CE (tx t)).length = t.length from Ap t] at hS
 replace hS := hS.toOld
 refine Wh 1 hS ?_
 refine Lo (Bx ?_); intro b8
 refine Wn 6 ?_
 intro a w hS
 have hm8 : W1.heap.size ≤ b8 := Nat.not_lt.1 fun h => hS.sep (X := .blk b8 [.slice (some ⟨b6, 0, none⟩) t.length c6, .int .i64 0, .int .i64 0, .int .i64 0] 231) (Y := AG W1) (by repeat constructor) (by repeat constructor) b8 rfl h
 refine Aa (dB hS Yd ((by have := Kj W1 b8 (some ⟨b6, 0, none⟩) c6 t ht hm8 0 [] n hn0 hn1 (by rw [htt]; simp) (Nat.zero_le _) NC _ (hS.gg (X := BQ b8 (some ⟨b6, 0, none⟩) c6 t 0)) (hS.gg (X := AG W1)); rw [htt] at this; exact this)) ?_); intro x10
 refine Wn 5 ?_
 intro a w hS
 unfold BQ GS at hS
 refine Wh 6 hS ?_
 refine Ie 16 true rfl rfl ?_
 refine Wn 5 ?_
 refine Ie 21 true rfl (decide_eq_true rfl) ?_
 refine Wn 7 ?_
 intro a w hS
 refine Ro hS Tryz.results160 ?_
 exact ⟨by rw [decide_eq_true hne], hS.chg⟩
theorem F1 (W0 : World) (br : Nat) (q : Option Addr) (c : Nat) (l : List UInt8) (ht : EB W0 q c l) (hb : W0.heap.size ≤ br) (p : Nat) (s rest : List UInt8) (hl : l.drop p = s ++ rest) (hp : p ≤ l.length) (w0 : World) (h : (BQ br q c l p).φ w0) (ho : AQ W0 w0) :
 CV Tryz.prog 199 [.pointer (some ⟨br, 0, none⟩), .string (tx s)] w0 (BQ br q c l p) (fun _ : Unit => .tuple [].toArray) (fun _ => BQ br q c l (p + s.length)) := by
 have hn := ht.n
 have hlen := OQ hl hp
 have hsz := BA s
 refine En [BQ br q c l p, AG W0] (fun k => k = br) Tryz.func199 Tryz.ntmps199 (B3 (BE h) (B3 (BB ho) DN)) (CT (CK (fun k h1 h2 => by have h1 : k = br := h1; have h2 : k < W0.heap.size := h2; omega) CU) Bi) (A9 (fun _ hb => hb) (BP rfl Aw)) ?_
 intro a hS
 refine Wq 6 hS ?_; intro a hS
 refine AW (γ := Nat) (fun k a w => St 64 (fun k => k = br) w0 a w [(4, .int .i64 (k : Int)), (0, .pointer (some ⟨br, 0, none⟩)), (1, .string (tx s))] [BQ br q c l (p + k), AG W0] ∧ k ≤ s.length) (fun k => s.length - k) 0 ⟨hS.sq, Nat.zero_le _⟩ ?_
 intro k a w hI
 obtain ⟨hS, hk⟩ := hI
 unfold BQ GS at hS
 refine Wh 8 hS ?_
 refine Lm 6 15 (.bool (decide (k < s.length))) ?_ ?_
 ·
  intro hcM15
  refine Gd 9 ?_ ?_ <;> intro hg9
  ·
   refine Wn 6 ?_
   exact Et 7 15 9 hcM15 rfl (by rw [decide_eq_true (show k < s.length by omega)]; rfl) hg9
  refine Wn 6 ?_
  exact Ef 7 15 9 hcM15 rfl ((decide_eq_false (by omega)).symm) hg9
 ·
  refine Wn 2 ?_
  refine iD (fun hc15 => ?_) fun hc15 => ?_
  ·
   obtain ⟨x, hx⟩ : ∃ x, s[k]? = some x := ⟨_, List.getElem?_eq_getElem hc15⟩
   have hxl : l[p + k]? = some x := by rw [← List.getElem?_drop, hl, List.getElem?_append_left hc15, hx]
   obtain ⟨b, off, y, hq, hy, hcx⟩ := ht.cell (show p + k < l.length by omega)
   obtain rfl : y = x := by rw [hxl] at hy; injection hy with hy; exact hy.symm
   subst hq
   have hx0 : (tx s).data.toList.getD (k : Int).toNat 0 = y := HB hx
   refine Wn 6 ?_
   refine Dr 26 [] [.blk br [.slice (some ⟨b, off, none⟩) l.length c, .int .i64 ((p + k : Nat) : Int), .int .i64 0, .int .i64 0] 231, AG W0] ?_
   refine ZR 11 ?_
   refine Ie 28 false rfl (decide_eq_false (by omega)) ?_
   refine ZR 9 ?_
   refine Zy rfl (AI rfl BX.1 (fun w hh => by rw [Nat.mul_one]; exact AF (hh (AG W0) (by repeat constructor)) hcx)) ?_
   refine ZR 3 ?_
   intro a w hS
   rw [hx0] at hS
   refine Un hS (ZR 2 ?_)
   refine Wn 2 ?_
   refine Ie 43 false rfl (decide_eq_false (fun h => h rfl)) ?_
   refine Wn 12 ?_
   refine Lo (Sb ?_)
   refine Wn 8 ?_
   intro a w hS
   rw [show ((p + k : Nat) : Int) + 1 = ((p + (k + 1) : Nat) : Int) by omega] at hS
   refine ⟨k + 1, by omega, ?_, by omega⟩
   unfold BQ GS
   exact hS.sp
  refine Wn 1 ?_
  intro a w hS
  refine AH (AH (Aj ?_))
  refine CS ?_
  refine Rm hS Tryz.results199 ?_
  obtain rfl : k = s.length := by omega
  exact ⟨(), rfl, hS.chg, hS.ok (BQ br q c l (p + s.length)) (by repeat constructor), fun b hb => .inl hb⟩
section
theorem Ll {b c : Nat} {l : List UInt8} {w : World} (h : (Gb 5 b (Br l)).φ w) (hc : l.length ≤ c) : CL (.slice (some ⟨b, 0, none⟩) l.length c) (Br l) w := by
 have h2 := Po h (c := c) (by rw [Ap]; exact hc)
 rwa [Ap] at h2
theorem P4 {q : Option Addr} {n c : Nat} {l : List UInt8} {j : Nat} {w : World} (h : CL (.slice q n c) (Br l) w) (hn : n = l.length) (hj : j ≤ n) : CL (.slice (Cu q j c 1) (n - j) (c - j)) (Br (l.drop j)) w := by
 have h2 := h.piece (j := j) (k := n) hj (Nat.le_refl n)
 rw [List.take_of_length_le (by rw [Ap]; omega)] at h2
 have e : (Br l).drop j = Br (l.drop j) := (List.map_drop ..).symm
 rwa [e] at h2
section
variable {P : Program} {n : NN} {a : Act} {L : List (Nat × Value)} {Γ : List AT} {dst : Option Tmp} {ty : Nat} {pos : String} {af : Array Edge} {g : Option (Nat × Bool)}
theorem DL {t t' : TypeId} {x y : Operand} {i j : List UInt8} (hx : ev L x = some (.string (tx i))) (hy : ev L y = some (.string (tx j))) (hb : i.length + j.length ≤ 9223372036854775807) :
 Ex P n a L Γ ⟨dst, .binOp .add t x y t', ty, pos, af, g⟩ (.string (tx (i ++ j))) := by
 rw [← GU]
 exact Do hx hy (by rw [BA, BA]; exact hb)
end
end
def F8 (l : List UInt8) : List Value := (Br l).map (Value.int .u8)
theorem F2 (a b : List UInt8) : F8 (a ++ b) = F8 a ++ F8 b := by unfold F8 Br; rw [List.map_append, List.map_append]
theorem XP (a : List UInt8) : (F8 a).length = a.length := by unfold F8; rw [List.length_map, Ap]
theorem UX {E : Nat} {v : Value} {l : List UInt8} {w : World} (h : w.ownsRow 0 E 1 v l.length (F8 l)) (hne : l ≠ []) : CL v (Br l) w := by
 rcases h.2 with ⟨_, h0⟩ | ⟨g, cap, cur, rfl, _, _, hc, _⟩
 · exact absurd (List.eq_nil_of_length_eq_zero h0) hne
 ·
  have hcell : ∀ j x, (Br l)[j]? = some x → w.cell? ⟨g, 0 + j, none⟩ = some (.int .u8 x) := fun j x hj => by
   have h2 := h.cells (g := g) rfl j (.int .u8 x) (by unfold F8; rw [List.getElem?_map, hj]; rfl)
   rw [BH] at h2
   exact h2
  have hn2 : Br l ≠ [] := fun e => hne (List.eq_nil_of_length_eq_zero (by rw [← Ap l, e]; rfl))
  obtain ⟨y, hy⟩ : ∃ y, (Br l)[0]? = some y := ⟨_, List.getElem?_eq_getElem (by rw [Ap]; exact Nat.pos_of_ne_zero fun e => hne (List.eq_nil_of_length_eq_zero e))⟩
  exact .inr ⟨g, 0, cap, hn2, by rw [Ap], by rw [Ap]; exact hc, hcell, World.block_lt_of_cell? w _ (hcell 0 y hy)⟩
theorem UY : ∀ n : Fin 16, (Mq.data.toList.getD n.val 0).toNat = (HU n.val).toNat := by decide +kernel
theorem UZ {w : World} {b E : Nat} {cs : List Value} (hc : cs.length ≤ maxLen) (h : w.heap[b]? = some (.cells cs.toArray E (0, 0))) : (AJ E 1 (.slice (some ⟨b, 0, none⟩) cs.length cs.length) cs.length cs).ok w :=
 C2 ⟨by simp, .inr ⟨b, cs.length, cs.toArray, rfl, Nat.zero_le _, h, Nat.le_refl _, hc, by simp, by simp⟩⟩
theorem ND (l : List UInt8) (hl : l.length ≤ 1100000) (w0 : World) : Ae Tryz.prog 162 [.string (tx l)] w0 (.string (tx (AV l))) := by
 have hsz := BA l
 refine Eo Ai Tryz.func162 Tryz.ntmps162 ?_
 intro a hS
 refine Wh 12 hS ?_
 refine Lo (Bz ?_); intro b7
 intro a w hS
 replace hS := hS.swap (X := .blk b7 [.int .u8 34] 5) (Y := AJ 5 1 (.slice (some ⟨b7, 0, none⟩) 1 1) 1 [.int .u8 34]) (by repeat constructor) (UZ (cs := [.int .u8 34]) (by decide) (hS.gg (X := .blk b7 [.int .u8 34] 5))) (fun b hb => by simpa [AJ, AT.F, Value.ownBlock, eq_comm] using hb) rfl
 refine Wq 10 hS ?_; intro a hS
 refine AW (γ := Nat × Value) (fun G a w => St 54 Ai w0 a w [(5, .int .i64 (G.1 : Int)), (4, G.2), (3, .string Mq), (0, .string (tx l))] [AJ 5 1 G.2 (34 :: (l.take G.1).flatMap qB).length (F8 (34 :: (l.take G.1).flatMap qB))] ∧ G.1 ≤ l.length) (fun G => l.length - G.1) (0, .slice (some ⟨b7, 0, none⟩) 1 1) ⟨hS.sp, Nat.zero_le _⟩ ?_
 intro G a w hI
 obtain ⟨k, v⟩ := G
 obtain ⟨hS, hk⟩ := hI
 simp only at hS hk
 obtain ⟨acc, hacc⟩ : ∃ acc, 34 :: (l.take k).flatMap qB = acc := ⟨_, rfl⟩
 have hal : acc.length ≤ 6 * l.length + 1 := by
  have := Ty (l.take k)
  rw [List.length_take, Nat.min_eq_left hk] at this
  rw [← hacc, List.length_cons]; omega
 rw [hacc] at hS
 refine Wh 9 hS ?_
 refine iD (fun hc11 => ?_) fun hc11 => ?_
 ·
  have hkl : k < l.length := by rw [← hsz]; omega
  obtain ⟨x, hx⟩ : ∃ x, l[k]? = some x := ⟨_, List.getElem?_eq_getElem hkl⟩
  have hx0 : (tx l).data.toList.getD (k : Int).toNat 0 = x := HB hx
  have hxl := x.toNat_lt
  have hnx : 34 :: (l.take (k + 1)).flatMap qB = acc ++ qB x := by rw [BG hx, List.flatMap_append, ← List.cons_append, hacc]; simp
  refine Wn 9 ?_
  intro a w hS
  rw [hx0] at hS
  refine Wh 9 hS ?_
  refine Lm 3 27 (.bool (decide (x.toNat = 34 ∨ x.toNat = 92))) ?_ ?_
  ·
   intro hcM27
   refine Gd 24 ?_ ?_ <;> intro hg24
   ·
    refine Wn 3 ?_
    exact Et 4 27 24 hcM27 rfl ((decide_eq_true (.inl (by omega))).symm) hg24
   refine Wn 3 ?_
   exact Ef 4 27 24 hcM27 rfl (decide_eq_decide.2 (by omega)) hg24
  ·
   refine Wn 3 ?_
   refine iD (fun hc21 => ?_) fun hc21 => ?_
   ·
    have hq : qB x = [92, x] := if_pos hc21
    refine Wn 3 ?_
    refine Lo (Bz ?_); intro b30
    refine Lo (A1 ?_); intro v31 hv31
    refine Wn 10 ?_
    have hv := hv31
    have hl2 : acc.length + 2 = (34 :: (l.take (k + 1)).flatMap qB).length := by rw [hnx, hq]; simp
    have hc2 : F8 acc ++ [.int .u8 92, .int .u8 (x.toNat : Int)] = F8 (34 :: (l.take (k + 1)).flatMap qB) := by rw [hnx, hq, F2]; rfl
    intro a w hS
    rw [hl2, hc2] at hS
    exact ⟨(k + 1, v31), by show l.length - (k + 1) < l.length - k; omega, hS.sp, by show k + 1 ≤ l.length; omega⟩
   refine Wn 5 ?_
   refine Lm 3 38 (.bool (decide (x.toNat < 32 ∨ x.toNat = 127))) ?_ ?_
   ·
    intro hcM38
    refine Gd 35 ?_ ?_ <;> intro hg35
    ·
     refine Wn 3 ?_
     exact Et 4 38 35 hcM38 rfl ((decide_eq_true (.inl (by omega))).symm) hg35
    refine Wn 3 ?_
    exact Ef 4 38 35 hcM38 rfl (decide_eq_decide.2 (by omega)) hg35
   ·
    refine Wn 3 ?_
    refine iD (fun hc32 => ?_) fun hc32 => ?_
    ·
     have e42 : IntKind.u8.wrap (Int.tdiv (x.toNat : Int) 16) = ((x.toNat / 16 : Nat) : Int) := by
      rw [Int.tdiv_eq_ediv_of_nonneg (by omega)]
      unfold IntKind.wrap IntKind.bits IntKind.signed; simp; omega
     have c1 : (Mq.data.toList.getD (x.toNat / 16) 0).toNat = (HU (x.toNat / 16)).toNat := UY ⟨x.toNat / 16, by omega⟩
     have c2 : (Mq.data.toList.getD (x.toNat % 16) 0).toNat = (HU (x.toNat % 16)).toNat := UY ⟨x.toNat % 16, by omega⟩
     have hh : ∀ n : Nat, (n : Int).toNat = n := fun n => Int.toNat_natCast n
     have h16 : Mq.size = 16 := rfl
     have hq : qB x = [92, 117, 48, 48, HU (x.toNat / 16), HU (x.toNat % 16)] := by unfold qB; rw [if_neg hc21, if_pos hc32]
     intro a w hS
     refine K8 [10] (by kernel_rfl) hS ?_; intro w hS
     simp only [List.length_cons, List.length_nil, Nat.zero_add, Nat.reduceAdd, List.replicate]
     refine dA 0 (tf 1 11) hS rfl Ab (CJ rfl) rfl (by kernel_rfl) rfl ?_; intro a hS
     refine Un hS (ZR 2 ?_)
     refine Zx rfl (KC rfl rfl (by omega)) ?_
     intro a w hS
     rw [e42] at hS
     refine Un hS (ZR 1 ?_)
     intro a w hS
     rw [hh, c1] at hS
     refine Un hS (ZR 2 ?_)
     refine Zx rfl (Ii rfl rfl (by omega)) ?_
     intro a w hS
     rw [show (x.toNat : Int) % 16 = ((x.toNat % 16 : Nat) : Int) by omega] at hS
     refine Un hS (ZR 1 ?_)
     intro a w hS
     rw [hh, c2] at hS
     refine Zo 9 (tf 10 2) hS rfl wN rfl (B4 hS AZ.1 BL.1 KI.1 rfl rfl rfl rfl (.one rfl rfl rfl (.one rfl rfl rfl (.one rfl rfl rfl (.one rfl rfl rfl (.one rfl rfl rfl (.one rfl rfl rfl .nil)))))) rfl ?_); intro a w b48 hS
     refine Bc hS (by intro X hX; repeat (first | exact hX | apply List.Mem.tail)) ?_
     refine Un hS (Z0 rfl (A1 ?_)); intro v49 hv49
     refine Zl ?_
     refine Zx rfl (Ak rfl) ?_
     refine Wn 9 ?_
     have hv := hv49
     have hl2 : acc.length + 6 = (34 :: (l.take (k + 1)).flatMap qB).length := by rw [hnx, hq]; simp
     have hc2 : F8 acc ++ [.int .u8 92, .int .u8 117, .int .u8 48, .int .u8 48, .int .u8 ((HU (x.toNat / 16)).toNat : Int), .int .u8 ((HU (x.toNat % 16)).toNat : Int)] = F8 (34 :: (l.take (k + 1)).flatMap qB) := by rw [hnx, hq, F2]; rfl
     intro a w hS
     rw [hl2, hc2] at hS
     exact ⟨(k + 1, v49), by show l.length - (k + 1) < l.length - k; omega, hS.sp, by show k + 1 ≤ l.length; omega⟩
    have hq : qB x = [x] := by unfold qB; rw [if_neg hc21, if_neg hc32]
    refine Wn 3 ?_
    refine Lo (Bz ?_); intro b19
    refine Lo (A1 ?_); intro v20 hv20
    refine Wn 10 ?_
    have hv := hv20
    have hl2 : acc.length + 1 = (34 :: (l.take (k + 1)).flatMap qB).length := by rw [hnx, hq]; simp
    have hc2 : F8 acc ++ [.int .u8 (x.toNat : Int)] = F8 (34 :: (l.take (k + 1)).flatMap qB) := by rw [hnx, hq, F2]; rfl
    intro a w hS
    rw [hl2, hc2] at hS
    exact ⟨(k + 1, v20), by show l.length - (k + 1) < l.length - k; omega, hS.sp, by show k + 1 ≤ l.length; omega⟩
 refine Wn 1 ?_
 intro a w hS
 refine AH (AH (Aj ?_))
 refine Wh 3 hS ?_
 have hkl : k = l.length := by omega
 have hq34 : acc ++ [34] = AV l := by rw [← hacc, hkl, List.take_length]; rfl
 refine Wn 1 ?_
 refine Lo (Bz ?_); intro b51
 refine Lo (A1 ?_); intro v52 hv52
 intro a w hS
 rw [show F8 acc ++ [Value.int .u8 34] = F8 (AV l) by rw [← hq34, F2]; rfl, show acc.length + 1 = (AV l).length by rw [← hq34]; simp] at hS
 obtain ⟨q52, c52, rfl⟩ := AN (hS.gg (X := AJ 5 1 v52 (AV l).length (F8 (AV l))))
 refine Un hS (Xp (KO (l := Br (AV l)) rfl AZ.1 C7.1 Dp.1 (fun w hh => UX (hh (AJ 5 1 (.slice q52 (AV l).length c52) (AV l).length (F8 (AV l))) (by repeat constructor)) (by unfold AV; simp))) ?_)
 intro a w hS
 rw [Hc] at hS
 refine Wh 4 hS ?_
 intro a w hS
 refine Ro hS Tryz.results162 ?_
 exact ⟨rfl, hS.chg⟩
theorem bZ : ∀ v : Fin 16, (v.val < 10 → (HU v.val).toNat = 48 + v.val) ∧ (¬ v.val < 10 → (HU v.val).toNat = 87 + v.val) := by decide
theorem cA (v : Nat) (hv : v < 16) (w0 : World) : Ae Tryz.prog 267 [.int .u8 ((HU v).toNat : Int)] w0 (.int .i64 (v : Int)) := by
 obtain ⟨h1, h2⟩ := bZ ⟨v, hv⟩
 simp only at h1 h2
 obtain ⟨x, hx⟩ : ∃ x : Int, ((HU v).toNat : Int) = x := ⟨_, rfl⟩
 rw [hx]
 have hc : (v < 10 ∧ x = 48 + v) ∨ (¬ v < 10 ∧ x = 87 + v) := by
  by_cases h : v < 10
  · have := h1 h; exact .inl ⟨h, by omega⟩
  · have := h2 h; exact .inr ⟨h, by omega⟩
 clear h1 h2 hx
 refine Eo Ai Tryz.func267 Tryz.ntmps267 ?_
 intro a hS
 refine Wh 10 hS ?_
 refine Lo (cP PH (fun _ => G2 x _) ?_)
 refine Wn 3 ?_
 refine iD (fun hc3 => ?_) fun hc3 => ?_
 ·
  refine Wn 4 ?_
  intro a w hS
  rw [show IntKind.u8.wrap (x - 48) = x - 48 from IntWalk.u8_in _ (by omega)] at hS
  refine Un hS (Xp (IL rfl C7.1 Is.1 (by omega)) ?_)
  refine Wn 4 ?_
  intro a w hS
  refine AD (AC ?_)
  refine Ro hS Tryz.results267 ?_
  exact ⟨by rw [show x - 48 = (v : Int) by omega], hS.chg⟩
 refine Wn 5 ?_
 refine Lm 3 15 (.bool (true)) ?_ ?_
 ·
  intro hcM15
  refine Gd 12 ?_ ?_ <;> intro hg12
  ·
   refine Wn 3 ?_
   exact Et 4 15 12 hcM15 rfl (decide_eq_true (by omega)) hg12
  refine Wn 3 ?_
  exact Ef 4 15 12 hcM15 rfl (absurd (show (97 : Int) ≤ x by omega) hg12) hg12
 ·
  refine Wn 3 ?_
  refine Ie 9 true rfl rfl ?_
  refine Wn 5 ?_
  intro a w hS
  rw [show IntKind.u8.wrap (x - 97) = x - 97 from IntWalk.u8_in _ (by omega)] at hS
  refine Un hS (Xp (IL rfl C7.1 Is.1 (by omega)) ?_)
  refine Wn 5 ?_
  intro a w hS
  refine AD (AC ?_)
  refine Ro hS Tryz.results267 ?_
  exact ⟨by rw [show x - 97 + 10 = (v : Int) by omega], hS.chg⟩
def Yv (a b k : Nat) : Nat := if k < 2 then 0 else if k = 2 then a else b
def Yw (a b k : Nat) : Nat := if k ≤ 2 then 0 else if k = 3 then a else 16 * a + b
theorem XQ {l rest : List UInt8} {p a b : Nat} (h : l.drop p = 48 :: 48 :: HU a :: HU b :: rest) {k : Nat} (hk : k < 4) : l[p + k]? = some (HU (Yv a b k)) := by
 rw [← List.getElem?_drop, h]
 obtain _ | _ | _ | _ | k := k <;> first | rfl | omega
theorem XR (W0 : World) (br : Nat) (q : Option Addr) (c : Nat) (l : List UInt8) (ht : EB W0 q c l) (hb : W0.heap.size ≤ br) (p pl u z : Nat) (ha : u < 16) (hb' : z < 16) (rest : List UInt8) (hl : l.drop pl = 48 :: 48 :: HU u :: HU z :: rest) (w0 : World) (h : (BQ br q c l p).φ w0) (ho : AQ W0 w0) :
 CV Tryz.prog 259 [.pointer (some ⟨br, 0, none⟩), .int .i64 (pl : Int)] w0 (BQ br q c l p) (fun _ : Unit => .int .i64 ((16 * u + z : Nat) : Int)) (fun _ => BQ br q c l p) := by
 have hn := ht.n
 have hlen : pl + 4 ≤ l.length := by
  have := congrArg List.length hl
  simp only [List.length_drop, List.length_cons] at this
  omega
 refine En [BQ br q c l p, AG W0] (fun k => k = br) Tryz.func259 Tryz.ntmps259 (B3 (BE h) (B3 (BB ho) DN)) (CT (CK (fun k h1 h2 => by have h1 : k = br := h1; have h2 : k < W0.heap.size := h2; omega) CU) Bi) (A9 (fun _ hb => hb) (BP rfl Aw)) ?_
 intro a hS
 refine Wq 17 hS ?_; intro a hS
 refine AW (γ := Nat) (fun k a w => St 38 (fun k => k = br) w0 a w [(6, .int .i64 (k : Int)), (5, .int .i64 (Yw u z k : Int)), (0, .pointer (some ⟨br, 0, none⟩)), (1, .int .i64 (pl : Int))] [BQ br q c l p, AG W0] ∧ k ≤ 4) (fun k => 4 - k) 0 ⟨hS.sq, by omega⟩ ?_
 intro k a w hI
 obtain ⟨hS, hk⟩ := hI
 unfold BQ GS at hS
 have hfv : Yw u z k ≤ 255 := by unfold Yw; split <;> (try split) <;> omega
 refine Wh 7 hS ?_
 refine iD (fun hc9 => ?_) fun hc9 => ?_
 ·
  have hk4 : k < 4 := by omega
  have hx := XQ hl hk4
  obtain ⟨bb, off, y, hq, hy, hcx⟩ := ht.cell (show pl + k < l.length by omega)
  obtain rfl : y = HU (Yv u z k) := by rw [hx] at hy; injection hy with hy; exact hy.symm
  subst hq
  have hd16 : Yv u z k < 16 := by unfold Yv; split <;> (try split) <;> omega
  have hnx : Yw u z (k + 1) = Yw u z k * 16 + Yv u z k := by unfold Yw Yv; obtain _ | _ | _ | _ | k := k <;> simp <;> omega
  refine Wn 18 ?_
  refine Ie 20 false rfl (decide_eq_false (by omega)) ?_
  refine Wn 12 ?_
  intro a w hS
  rw [show (pl : Int) + (k : Int) = ((pl + k : Nat) : Int) by omega] at hS
  refine Wh 1 hS ?_
  refine Xp (AI rfl BX.1 (fun w hh => by rw [Nat.mul_one]; exact AF (hh (AG W0) (by repeat constructor)) hcx)) ?_
  refine Lo (cP jI (fun _ => cA (Yv u z k) hd16 _) ?_)
  refine Wn 10 ?_
  refine Ie 32 false rfl (decide_eq_false (by omega)) ?_
  refine Wn 17 ?_
  intro a w hS
  rw [show (Yw u z k : Int) * 16 + (Yv u z k : Int) = (Yw u z (k + 1) : Int) by omega] at hS
  exact ⟨k + 1, by omega, hS.sp, by omega⟩
 refine Wn 1 ?_
 intro a w hS
 refine AH (AH (Aj ?_))
 refine Wh 8 hS ?_
 intro a w hS
 refine Ro hS Tryz.results259 ?_
 obtain rfl : k = 4 := by omega
 exact ⟨(), rfl, hS.chg, hS.ok (BQ br q c l p) (by repeat constructor), fun b hb => .inl hb⟩
theorem XS (x : Nat) (hx : x < 128) (w0 : World) : Bb Tryz.prog 260 [.int .i64 (x : Int)] w0 (fun b : Nat => .slice (some ⟨b, 0, none⟩) 1 1) (fun b => .blk b [.int .u8 (x : Int)] 5) := by
 refine Eo Ai Tryz.func260 Tryz.ntmps260 ?_
 intro a hS
 refine Wh 14 hS ?_
 refine Ie 3 true rfl (decide_eq_true (by omega)) ?_
 refine Wn 4 ?_
 refine Xp (GH rfl Is.1 C7.1) ?_
 intro a w hS
 rw [show IntKind.u8.wrap (x : Int) = (x : Int) from IntWalk.u8_in _ (by omega)] at hS
 refine Un hS (Lo (Bz ?_)); intro b8
 refine Wn 4 ?_
 intro a w hS
 refine AD (AC ?_)
 refine Ro hS Tryz.results260 ?_
 exact ⟨b8, rfl, hS.chg, hS.ok (.blk b8 [.int .u8 (x : Int)] 5) (by repeat constructor), fun b hb => (hS.mine (.blk b8 [.int .u8 (x : Int)] 5) (by repeat constructor) rfl b hb).resolve_right id⟩
def Ln : ByteArray := ⟨#[34, 92, 47, 98, 102, 110, 114, 116]⟩
def Ua : ByteArray := ⟨#[34, 92, 47, 8, 12, 10, 13, 9]⟩
theorem XT : ∀ k : Fin 8, ((Ln.data.toList.getD k.val 0).toNat = 34 → (Ua.data.toList.getD k.val 0).toNat = 34) ∧ ((Ln.data.toList.getD k.val 0).toNat = 92 → (Ua.data.toList.getD k.val 0).toNat = 92) ∧ (Ln.data.toList.getD k.val 0).toNat ≠ 117 := by decide +kernel
theorem Rk (W0 : World) (br : Nat) (q : Option Addr) (c : Nat) (l : List UInt8) (ht : EB W0 q c l) (hb : W0.heap.size ≤ br) (p : Nat) (x : UInt8) (rest : List UInt8) (hx : x.toNat = 34 ∨ x.toNat = 92 ∨ x.toNat < 32 ∨ x.toNat = 127) (hl : l.drop p = qB x ++ rest) (w0 : World) (h : (BQ br q c l p).φ w0) (ho : AQ W0 w0) :
 CV Tryz.prog 240 [.pointer (some ⟨br, 0, none⟩)] w0 (BQ br q c l p) (fun b : Nat => .slice (some ⟨b, 0, none⟩) 1 1) (fun b => C5 (BQ br q c l (p + (qB x).length)) (.blk b [.int .u8 (x.toNat : Int)] 5)) := by
 have hn := ht.n
 obtain ⟨y, hy, hlen, hyc⟩ : ∃ y : UInt8, l[p + 1]? = some y ∧ p + (qB x).length ≤ l.length ∧ ((y.toNat = x.toNat ∧ (x.toNat = 34 ∨ x.toNat = 92) ∧ (qB x).length = 2) ∨ (y.toNat = 117 ∧ (x.toNat < 32 ∨ x.toNat = 127) ∧ (qB x).length = 6 ∧ l.drop (p + 2) = 48 :: 48 :: HU (x.toNat / 16) :: HU (x.toNat % 16) :: rest)) := by
  have h3 := congrArg List.length hl
  rw [List.length_drop, List.length_append] at h3
  rw [← List.getElem?_drop, show l.drop (p + 2) = (l.drop p).drop 2 by rw [List.drop_drop], hl]
  unfold qB at h3 ⊢
  by_cases h1 : x.toNat = 34 ∨ x.toNat = 92
  ·
   rw [if_pos h1] at h3 ⊢
   exact ⟨x, rfl, by simp only [List.length_cons, List.length_nil] at *; omega, .inl ⟨rfl, h1, rfl⟩⟩
  ·
   rw [if_neg h1, if_pos (by omega)] at h3 ⊢
   exact ⟨117, rfl, by simp only [List.length_cons, List.length_nil] at *; omega, .inr ⟨rfl, by omega, rfl, rfl⟩⟩
 have hxl := x.toNat_lt
 have h2l : p + 1 < l.length := (List.getElem?_eq_some_iff.1 hy).1
 obtain ⟨bb, off, y', hq, hy', hcx⟩ := ht.cell h2l
 obtain rfl : y' = y := by rw [hy] at hy'; injection hy' with hy'; exact hy'.symm
 subst hq
 refine En [BQ br (some ⟨bb, off, none⟩) c l p, AG W0] (fun k => k = br) Tryz.func240 Tryz.ntmps240 (B3 (BE h) (B3 (BB ho) DN)) (CT (CK (fun k h1 h2 => by have h1 : k = br := h1; have h2 : k < W0.heap.size := h2; omega) CU) Bi) (A9 (fun _ hb => hb) (BP rfl Aw)) ?_
 intro a hS
 refine Wq 7 hS ?_; intro a hS
 unfold BQ GS at hS
 refine Wh 9 hS ?_
 refine Dr 11 [] [.blk br [.slice (some ⟨bb, off, none⟩) l.length c, .int .i64 (p : Int), .int .i64 0, .int .i64 0] 231, AG W0] ?_
 refine ZR 11 ?_
 refine Wn 2 ?_
 refine Ie 25 false rfl (decide_eq_false (by omega)) ?_
 refine Wn 4 ?_
 refine Dr 12 [] [.blk br [.slice (some ⟨bb, off, none⟩) l.length c, .int .i64 (p : Int), .int .i64 0, .int .i64 0] 231, AG W0] ?_
 refine ZR 9 ?_
 intro a w hS
 rw [show (p : Int) + 1 = ((p + 1 : Nat) : Int) by omega] at hS
 refine Un hS (Zx rfl (BI rfl rfl AZ.1 BL.1 h2l) ?_)
 refine Zy rfl (AI rfl BX.1 (fun w hh => by rw [Nat.mul_one]; exact AF (hh (AG W0) (by repeat constructor)) hcx)) ?_
 refine ZR 1 ?_
 refine Wn 19 ?_
 intro a w hS
 refine AW (γ := Nat) (fun k a w => St 199 (fun k => k = br) w0 a w [(7, .int .i64 (k : Int)), (6, .string Ua), (5, .string Ln), (4, .int .u8 (y'.toNat : Int)), (3, .int .i64 (p : Int)), (0, .pointer (some ⟨br, 0, none⟩))] [.blk br [.slice (some ⟨bb, off, none⟩) l.length c, .int .i64 (p : Int), .int .i64 0, .int .i64 0] 231, AG W0] ∧ k ≤ 8 ∧ ∀ j, j < k → (Ln.data.toList.getD j 0).toNat ≠ y'.toNat) (fun k => 8 - k) 0 ⟨hS.sp, by omega, fun j hj => by omega⟩ ?_
 intro k a w hI
 obtain ⟨hS, hk, hno⟩ := hI
 have h8 : Ln.size = 8 := rfl
 have h8' : Ua.size = 8 := rfl
 have hkn : (k : Int).toNat = k := Int.toNat_natCast k
 refine Wh 9 hS ?_
 refine iD (fun hc47 => ?_) fun hc47 => ?_
 ·
  have hk8 : k < 8 := by omega
  refine Wn 9 ?_
  intro a w hS
  rw [hkn] at hS
  refine Wh 4 hS ?_
  refine iD (fun hc54 => ?_) fun hc54 => ?_
  ·
   obtain ⟨e1, e2, e3⟩ := XT ⟨k, hk8⟩
   simp only at e1 e2 e3
   have hA : (x.toNat = 34 ∨ x.toNat = 92) ∧ (qB x).length = 2 ∧ (Ua.data.toList.getD k 0).toNat = x.toNat := by
    have hc54' : (Ln.data.toList.getD k 0).toNat = y'.toNat := by omega
    rcases hyc with ⟨f1, f2, f3⟩ | ⟨f1, _⟩
    ·
     refine ⟨f2, f3, ?_⟩
     rcases f2 with f2 | f2
     · rw [e1 (by omega), f2]
     · rw [e2 (by omega), f2]
    · exact absurd (hc54'.trans f1) e3
   refine Wn 10 ?_
   refine Lo (Sb ?_)
   refine Wn 7 ?_
   intro a w hS
   rw [hkn, hA.2.2] at hS
   refine Un hS (Lo (Bz ?_)); intro b66
   refine Wn 4 ?_
   intro a w hS
   refine AD (AC (AC (AD (AC ?_))))
   refine Ro hS Tryz.results240 ?_
   rw [show (p : Int) + 2 = ((p + (qB x).length : Nat) : Int) by rw [hA.2.1]; omega] at hS
   exact ⟨b66, rfl, hS.chg, By (hS.ok (BQ br (some ⟨bb, off, none⟩) c l (p + (qB x).length)) (by repeat constructor)) (hS.ok (.blk b66 [.int .u8 (x.toNat : Int)] 5) (by repeat constructor)) (fun b h1 h2 => hS.sep (X := BQ br (some ⟨bb, off, none⟩) c l (p + (qB x).length)) (Y := .blk b66 [.int .u8 (x.toNat : Int)] 5) (by repeat constructor) (by repeat constructor) b h1 h2), fun b hb => by
     rcases hb with hb | hb
     · exact .inl hb
     · exact ((hS.mine (.blk b66 [.int .u8 (x.toNat : Int)] 5) (by repeat constructor) rfl b hb).symm)⟩
  refine Wn 8 ?_
  intro a w hS
  exact ⟨k + 1, by omega, hS.sp, by omega, fun j hj => by
    rcases Nat.lt_or_ge j k with h1 | h1
    · exact hno j h1
    · obtain rfl : j = k := by omega
      exact fun e => hc54 (by omega)⟩
 have hk8 : k = 8 := by omega
 subst hk8
 obtain ⟨f1, f2, f3, f4⟩ : y'.toNat = 117 ∧ (x.toNat < 32 ∨ x.toNat = 127) ∧ (qB x).length = 6 ∧ l.drop (p + 2) = 48 :: 48 :: HU (x.toNat / 16) :: HU (x.toNat % 16) :: rest := by
  rcases hyc with ⟨f1, f2, _⟩ | h
  ·
   rcases f2 with f2 | f2
   · exact absurd (show (Ln.data.toList.getD 0 0).toNat = y'.toNat by rw [f1, f2]; decide +kernel) (hno 0 (by omega))
   · exact absurd (show (Ln.data.toList.getD 1 0).toNat = y'.toNat by rw [f1, f2]; decide +kernel) (hno 1 (by omega))
  · exact h
 have hval : 16 * (x.toNat / 16) + x.toNat % 16 = x.toNat := by omega
 refine Wn 1 ?_
 intro a w hS
 refine AH (AH (Aj ?_))
 refine Wh 8 hS ?_
 refine Ie 68 false rfl (decide_eq_false (fun h => h (by omega))) ?_
 refine Wn 11 ?_
 intro a w hS
 rw [show (p : Int) + 2 = ((p + 2 : Nat) : Int) by omega] at hS
 refine Aa (dB hS jG ((by have := XR W0 br (some ⟨bb, off, none⟩) c l ht hb p (p + 2) (x.toNat / 16) (x.toNat % 16) (by omega) (by omega) rest f4 _ (hS.gg (X := BQ br (some ⟨bb, off, none⟩) c l p)) hS.od; rw [hval] at this; exact this)) ?_); intro x78
 refine Wn 10 ?_
 refine Ie 80 false rfl (decide_eq_false (by omega)) ?_
 refine Wn 9 ?_
 refine Ie 90 false rfl (decide_eq_false (by omega)) ?_
 refine Wn 3 ?_
 refine Ie 93 false rfl (decide_eq_false (by omega)) ?_
 refine Wn 11 ?_
 intro a w hS
 unfold BQ GS at hS
 refine Wh 8 hS ?_
 refine Lo (Sb ?_)
 refine Wn 8 ?_
 refine Ie 111 true rfl (decide_eq_true (by omega)) ?_
 refine Wn 9 ?_
 refine Lo (cN jH (fun _ => XS x.toNat (by omega) _) ?_); intro x116
 refine Wn 5 ?_
 intro a w hS
 refine Ro hS Tryz.results240 ?_
 rw [show (p : Int) + 6 = ((p + (qB x).length : Nat) : Int) by rw [f3]; omega] at hS
 exact ⟨x116, rfl, hS.chg, By (hS.ok (BQ br (some ⟨bb, off, none⟩) c l (p + (qB x).length)) (by repeat constructor)) (hS.ok (.blk x116 [.int .u8 (x.toNat : Int)] 5) (by repeat constructor)) (fun b h1 h2 => hS.sep (X := BQ br (some ⟨bb, off, none⟩) c l (p + (qB x).length)) (Y := .blk x116 [.int .u8 (x.toNat : Int)] 5) (by repeat constructor) (by repeat constructor) b h1 h2), fun b hb => by
   rcases hb with hb | hb
   · exact .inl hb
   · exact ((hS.mine (.blk x116 [.int .u8 (x.toNat : Int)] 5) (by repeat constructor) rfl b hb).symm)⟩
theorem NE {l : List UInt8} (hne : l ≠ []) : 1 ≤ (Lib.decodeL l).2 ∧ (Q3 l → (Lib.decodeL l).2 ≤ l.length) := by
 cases l with
 | nil => exact absurd rfl hne
 | cons b t =>
   refine ⟨?_, fun h => (MV h).2.1⟩
   rw [Lib.decodeL_N]
   unfold Lib.decodeN
   repeat' split
   all_goals simp
theorem Fm (s : List UInt8) (hs : s.length ≤ 1100000) (w0 : World) : Ae Tryz.prog 118 [.string (tx s)] w0 (.bool (Lib.validD s)) := by
 refine Eo Ai Tryz.func118 Tryz.ntmps118 ?_
 intro a hS
 refine Wq 8 hS ?_; intro a hS
 refine Aa (E6 hS rfl Tryz.underlying9 AZ.1 C7.1 rfl ?_); intro b6 c6 a w hc6 hS; rw [show CE (tx s) = Br s from rfl, Ap] at hS hc6
 refine Wq 5 hS ?_; intro a hS
 refine AW (γ := List UInt8 × Option Addr × Nat) (fun G a w => St 17 Ai w0 a w [(3, .slice G.2.1 G.1.length G.2.2)] [Gb 5 b6 (Br s)] ∧ G.1.length ≤ s.length ∧ (∀ w, (Gb 5 b6 (Br s)).φ w → CL (.slice G.2.1 G.1.length G.2.2) (Br G.1) w) ∧ Lib.validD s = Lib.validD G.1) (fun G => G.1.length) (s, some ⟨b6, 0, none⟩, c6) ⟨hS.sp, Nat.le_refl _, fun w hw => Ll hw hc6, rfl⟩ ?_
 intro G a w hI
 obtain ⟨l, q, c⟩ := G
 obtain ⟨hS, hl, hby, hv⟩ := hI
 simp only at hS hl hby hv
 refine Wh 8 hS ?_
 refine iD (fun hc9 => ?_) fun hc9 => ?_
 ·
  have hpos : 0 < l.length := by omega
  have hne : l ≠ [] := fun e => by rw [e] at hpos; exact absurd hpos (by decide)
  refine Wn 6 ?_
  refine Lo (cN Ya (@fun a w hS => H0 w q c l ⟨hby _ (hS.gg (X := Gb 5 b6 (Br s))), by omega⟩ hpos _ (Ax w)) ?_); intro x11
  obtain ⟨z, hz1, hz2⟩ := x11
  intro a w hS
  simp only at hS hz1 hz2
  refine Wh 10 hS ?_
  refine iD (fun hc13 => ?_) fun hc13 => ?_
  ·
   refine Wn 6 ?_
   intro a w hS
   refine AC (AD (AC (AD (AC ?_))))
   refine Ro hS Tryz.results118 ?_
   have hng : ¬ Q3 l := fun h => by have := hz1 h; have := (NE hne).1; omega
   refine ⟨?_, hS.chg⟩
   rw [hv, Lib.validD_step _ hne, if_pos (Classical.not_not.1 hng)]
  have hg : Q3 l := Classical.byContradiction fun h => by have := hz2 h; omega
  obtain ⟨d1, d2⟩ := NE hne
  have d3 := d2 hg
  obtain ⟨k, hk⟩ : ∃ k, (Lib.decodeL l).2 = k := ⟨_, rfl⟩
  obtain rfl : z = (k : Int) := by rw [← hk]; exact hz1 hg
  refine Wn 5 ?_
  refine Xp (MZ (j := k) rfl rfl AZ.1 BL.1 (by omega)) ?_
  refine Wn 3 ?_
  have hd : (l.drop k).length = l.length - k := List.length_drop
  intro a w hS
  refine ⟨(l.drop k, Cu q k c 1, c - k), by show (l.drop k).length < l.length; omega, ?_, by show (l.drop k).length ≤ s.length; omega, fun w hw => ?_, ?_⟩
  ·
   show St _ _ _ _ _ [(3, .slice (Cu q k c 1) (l.drop k).length (c - k))] _
   rw [hd]; exact hS.sp
  ·
   show CL (.slice (Cu q k c 1) (l.drop k).length (c - k)) (Br (l.drop k)) w
   rw [hd]; exact P4 (hby w hw) rfl (by omega)
  · rw [hv, Lib.validD_step _ hne, if_neg hg, hk]
 refine Wn 1 ?_
 intro a w hS
 refine AH (AH (Aj ?_))
 refine Wh 7 hS ?_
 intro a w hS
 refine Ro hS Tryz.results118 ?_
 obtain rfl : l = [] := List.eq_nil_of_length_eq_zero (by omega)
 exact ⟨by rw [hv]; rfl, hS.chg⟩
theorem P5 {x : UInt8} {t : List UInt8} (hv : Lib.validD (x :: t) = true) :
 ((x.toNat = 34 ∨ x.toNat = 92 ∨ x.toNat < 32 ∨ x.toNat = 127) ∧ Lib.validD t = true) ∨
 ((x.toNat ≠ 34 ∧ x.toNat ≠ 92 ∧ 32 ≤ x.toNat) ∧ ∃ k, 1 ≤ k ∧ k ≤ (x :: t).length ∧ (∀ X, Q3 ((x :: t).take k ++ X) ∧ (Lib.decodeL ((x :: t).take k ++ X)).2 = k) ∧ ((x :: t).take k).flatMap qB = (x :: t).take k ∧ Lib.validD ((x :: t).drop k) = true) := by
 have hg : Q3 (x :: t) := fun h => by
  rw [Lib.validD_step _ (by simp), if_pos h] at hv; cases hv
 obtain ⟨d1, d2, d3⟩ := MV hg
 rw [Lib.validD_step _ (by simp), if_neg hg] at hv
 obtain ⟨k, hk⟩ : ∃ k, (Lib.decodeL (x :: t)).2 = k := ⟨_, rfl⟩
 rw [hk] at d1 d2 d3 hv
 by_cases hb : x.toNat < 128
 ·
  have hd := Lib.decodeL_ascii x t hb
  obtain rfl : k = 1 := by rw [← hk, hd]
  by_cases hs : x.toNat = 34 ∨ x.toNat = 92 ∨ x.toNat < 32 ∨ x.toNat = 127
  · exact .inl ⟨hs, hv⟩
  ·
   refine .inr ⟨by omega, 1, Nat.le_refl _, d2, fun X => ⟨?_, by rw [d3 X]; exact hk⟩, ?_, hv⟩
   ·
    show Q3 ((x :: t).take 1 ++ X)
    unfold Q3; rw [d3 X]; exact hg
   ·
    show [x].flatMap qB = [x]
    rw [List.flatMap_cons, Gx (by omega) (by omega)]; rfl
 ·
  have hb' : 128 ≤ x.toNat := by omega
  have hk2 : 2 ≤ (Lib.decodeL (x :: t)).2 := by
   rcases PN (t := t) hb' with h | h
   ·
    have h3 : (Lib.decodeL (x :: t)).2 ≠ 1 := fun e => hg ⟨h, e⟩
    omega
   · exact h
  obtain ⟨k1, k2, k3⟩ := MU hb' hk2
  rw [hk] at k1 k2 k3
  refine .inr ⟨by omega, k, d1, d2, fun X => ⟨?_, by rw [d3 X]; exact hk⟩, aG k2, hv⟩
  show Q3 ((x :: t).take k ++ X)
  unfold Q3; rw [d3 X]; exact hg
theorem Lp (x : UInt8) : ∃ y r, qB x = y :: r ∧ ((x.toNat = 34 ∨ x.toNat = 92 ∨ x.toNat < 32 ∨ x.toNat = 127) → y = 92) := by
 unfold qB
 split
 · exact ⟨_, _, rfl, fun _ => rfl⟩
 ·
  split
  · exact ⟨_, _, rfl, fun _ => rfl⟩
  · exact ⟨_, _, rfl, fun h => by omega⟩
theorem cB {W0 w : World} {q : Option Addr} {c : Nat} {l : List UInt8} (h : EB W0 q c l) (ho : AQ W0 w) {p k : Nat} (hk : 0 < k) (hpk : p + k ≤ l.length) : Pt w (Cu q p c 1) k (F8 ((l.drop p).take k)) := by
 obtain ⟨b, off, x, hq, hx, _⟩ := h.cell (show p < l.length by omega)
 have hc : l.length ≤ c := by
  obtain ⟨b, off, c', e, h1, _⟩ := h.lies.some (fun e => by have := congrArg List.length e; rw [Ap] at this; simp only [List.length_nil] at this; omega)
  injection e with _ _ e3
  rw [Ap] at h1; omega
 refine .inr ⟨b, off + p, ?_, fun j u hj => ?_⟩
 ·
  unfold Cu
  rw [if_neg (by omega), hq, Option.map_some, BH, Nat.mul_one]
 ·
  unfold F8 at hj
  rw [List.getElem?_map] at hj
  obtain ⟨z, hz, rfl⟩ := Option.map_eq_some_iff.1 hj
  unfold Br at hz
  rw [List.getElem?_map] at hz
  obtain ⟨y, hy, rfl⟩ := Option.map_eq_some_iff.1 hz
  rw [List.getElem?_take] at hy
  split at hy
  ·
   rw [List.getElem?_drop] at hy
   obtain ⟨b2, off2, y2, hq2, hy2, hc2⟩ := h.cell (List.getElem?_eq_some_iff.1 hy).1
   rw [hq] at hq2
   injection hq2 with hq2
   injection hq2 with e1 e2
   subst e1 e2
   rw [hy] at hy2
   injection hy2 with hy2
   subst hy2
   rw [show off + p + j = off + (p + j) by omega]
   exact AF ho hc2
  · cases hy
theorem XU (l : List UInt8) : ∀ u ∈ F8 l, Bl u = true := fun u hu => by
 obtain ⟨x, _, rfl⟩ := List.mem_map.1 hu; rfl
theorem Ub {W0 : World} {q : Option Addr} {c : Nat} {l : List UInt8} (h : EB W0 q c l) {p : Nat} (hp : p ≤ l.length) : EB W0 (Cu q p c 1) (c - p) (l.drop p) := by
 have h2 := P4 h.lies rfl hp
 rw [show l.length - p = (l.drop p).length from List.length_drop.symm] at h2
 exact ⟨h2, by rw [List.length_drop]; have := h.n; omega⟩
theorem XV {E c : Nat} {q : Option Addr} {l : List UInt8} {w : World} (h : w.ownsRow 0 E 1 (.slice q l.length c) l.length (F8 l)) : CL (.slice q l.length c) (Br l) w := by
 by_cases hl : l = []
 · subst hl; exact .inl ⟨rfl, _, _, rfl⟩
 · exact UX h hl
theorem Yx : ∀ s : List UInt8, s.length ≤ (s.flatMap qB).length
 | [] => Nat.le_refl _
 | x :: t => by
   obtain ⟨y, r, e, _⟩ := Lp x
   have := Yx t
   rw [List.flatMap_cons, List.length_append, e, List.length_cons, List.length_cons]; omega
theorem Kk (W0 : World) (br : Nat) (q : Option Addr) (c : Nat) (l : List UInt8) (ht : EB W0 q c l) (hb : W0.heap.size ≤ br) (p : Nat) (s rest : List UInt8) (hv : Lib.validD s = true) (hl : l.drop p = AV s ++ rest) (hp : p ≤ l.length) (w0 : World) (h : (BQ br q c l p).φ w0) (ho : AQ W0 w0) :
 CV Tryz.prog 201 [.pointer (some ⟨br, 0, none⟩)] w0 (BQ br q c l p) (fun _ : Unit => .string (tx s)) (fun _ => BQ br q c l (p + (AV s).length)) := by
 have hn := ht.n
 have hlen := OQ hl hp
 have hql := HZ s
 have hqg := Yx s
 have hl1 : l.drop (p + 1) = s.flatMap qB ++ 34 :: rest := by rw [← List.drop_drop, hl]; unfold AV; simp
 have hcap : l.length ≤ c := by
  obtain ⟨b, off, c', e, h1, _⟩ := ht.lies.some (fun e => by have := congrArg List.length e; rw [Ap] at this; simp only [List.length_nil] at this; omega)
  injection e with _ _ e3
  rw [Ap] at h1; omega
 obtain ⟨ps, hps⟩ : ∃ ps : Nat → Nat, ∀ u, p + 1 + ((s.take u).flatMap qB).length = ps u := ⟨_, fun _ => rfl⟩
 have hat : ∀ u, u ≤ s.length → l.drop (ps u) = (s.drop u).flatMap qB ++ 34 :: rest := fun u hu => by
  rw [← hps u, ← List.drop_drop, hl1]
  have e : s.flatMap qB = (s.take u).flatMap qB ++ (s.drop u).flatMap qB := by rw [← List.flatMap_append, List.take_append_drop]
  rw [e, List.append_assoc, Fc]
 have hps0 : ps 0 = p + 1 := by rw [← hps 0]; simp
 have hpsn : ps s.length + 1 = p + (AV s).length := by rw [← hps, List.take_length]; unfold AV; simp; omega
 have hin : ∀ u, u ≤ s.length → ps u < l.length := fun u hu => by
  have := congrArg List.length (hat u hu)
  rw [List.length_drop, List.length_append, List.length_cons] at this
  omega
 refine En [BQ br q c l p, AG W0] (fun k => k = br) Tryz.func201 Tryz.ntmps201 (B3 (BE h) (B3 (BB ho) DN)) (CT (CK (fun k h1 h2 => by have h1 : k = br := h1; have h2 : k < W0.heap.size := h2; omega) CU) Bi) (A9 (fun _ hb => hb) (BP rfl Aw)) ?_
 intro a hS
 refine Wh 8 hS ?_
 refine Lo (cM KJ (fun hS => F1 W0 br q c l ht hb p [34] (s.flatMap qB ++ 34 :: rest) (by rw [hl]; unfold AV; simp) hp _ (hS.gg (X := BQ br q c l p)) hS.od) ?_); intro x7
 intro a w hS
 rw [show p + [(34 : UInt8)].length = ps 0 from hps0.symm] at hS
 refine Wq 9 hS ?_; intro a hS
 refine AW (γ := Nat × Option Addr × Nat) (fun G a w => St 119 (fun k => k = br) w0 a w [(3, .slice G.2.1 G.1 G.2.2), (0, .pointer (some ⟨br, 0, none⟩))] [BQ br q c l (ps G.1), AJ 5 1 (.slice G.2.1 G.1 G.2.2) G.1 (F8 (s.take G.1)), AG W0] ∧ G.1 ≤ s.length ∧ Lib.validD (s.drop G.1) = true) (fun G => s.length - G.1) (0, none, 0) ⟨((hS.own_nil 5 1).sq).pk, Nat.zero_le _, hv⟩ ?_
 intro G a w hI
 obtain ⟨u, qo, co⟩ := G
 obtain ⟨hS, hu, hvu⟩ := hI
 simp only at hS hu hvu
 unfold BQ GS at hS
 have hpu := hin u hu
 have hau := hat u hu
 refine Wh 10 hS ?_
 refine Ie 12 true rfl rfl ?_
 refine Wn 6 ?_
 refine Dr 10 [] [.blk br [.slice q l.length c, .int .i64 (ps u : Int), .int .i64 0, .int .i64 0] 231, AG W0] ?_
 refine ZR 10 ?_
 refine Wn 2 ?_
 refine Ie 22 false rfl (decide_eq_false (by omega)) ?_
 refine Wn 4 ?_
 obtain ⟨bb, off, y, hq, hy, hcx⟩ := ht.cell hpu
 subst hq
 refine Dr 11 [] [.blk br [.slice (some ⟨bb, off, none⟩) l.length c, .int .i64 (ps u : Int), .int .i64 0, .int .i64 0] 231, AG W0] ?_
 refine ZR 8 ?_
 refine Zx rfl (BI rfl rfl AZ.1 BL.1 hpu) ?_
 refine Zy rfl (AI rfl BX.1 (fun w hh => by rw [Nat.mul_one]; exact AF (hh (AG W0) (by repeat constructor)) hcx)) ?_
 refine ZR 1 ?_
 refine Wn 5 ?_
 have hyd : (s.drop u).flatMap qB ++ 34 :: rest = y :: l.drop (ps u + 1) := by
  rw [← hau, List.drop_eq_getElem_cons hpu, (List.getElem?_eq_some_iff.1 hy).2]
 refine Wn 4 ?_
 refine iD (fun hc41 => ?_) fun hc41 => ?_
 ·
  have hun : u = s.length := by
   rcases Nat.lt_or_ge u s.length with h1 | h1
   ·
    obtain ⟨x, hx⟩ : ∃ x, s[u]? = some x := ⟨_, List.getElem?_eq_getElem h1⟩
    rw [List.drop_eq_getElem_cons h1, (List.getElem?_eq_some_iff.1 hx).2] at hvu hyd
    obtain ⟨z, r, e1, e2⟩ := Lp x
    rw [List.flatMap_cons, e1] at hyd
    injection hyd with hyd _
    rcases P5 hvu with ⟨h2, _⟩ | ⟨h2, _⟩
    · have := e2 h2; rw [← hyd, this] at hc41; exact absurd hc41 (by decide)
    ·
     rw [Gx (by omega) (by intro h; rcases h with h | h; omega; exact absurd h (fun h => by have := e2 (by omega); rw [← hyd, this] at hc41; exact absurd hc41 (by decide)))] at e1
     injection e1 with e1 _
     rw [← hyd, ← e1] at hc41
     omega
   · omega
  refine Wn 10 ?_
  refine Lo (Sb ?_)
  refine Wn 3 ?_
  intro a w hS
  refine AH (SN rfl (AH (Aj ?_)))
  refine Wh 3 hS ?_
  subst hun
  intro a w hS
  rw [List.take_length] at hS
  refine Wh 1 hS ?_
  refine Xp (KO (l := Br s) rfl AZ.1 C7.1 Dp.1 (fun w hh => XV (hh (AJ 5 1 (.slice qo s.length co) s.length (F8 s)) (by repeat constructor)))) ?_
  intro a w hS
  rw [Hc] at hS
  refine Wh 4 hS ?_
  intro a w hS
  refine Ro hS Tryz.results201 ?_
  rw [show (ps s.length : Int) + 1 = ((p + (AV s).length : Nat) : Int) by omega] at hS
  exact ⟨(), rfl, hS.chg, hS.ok (BQ br (some ⟨bb, off, none⟩) c l (p + (AV s).length)) (by repeat constructor), fun b hb => .inl hb⟩
 have hun : u < s.length := by
  rcases Nat.lt_or_ge u s.length with h1 | h1
  · exact h1
  ·
   rw [List.drop_of_length_le h1] at hyd
   injection hyd with hyd _
   exact absurd (show ((y.toNat : Nat) : Int) = 34 by rw [← hyd]; rfl) hc41
 obtain ⟨x, hx⟩ : ∃ x, s[u]? = some x := ⟨_, List.getElem?_eq_getElem hun⟩
 have hsu : s.drop u = x :: s.drop (u + 1) := by rw [List.drop_eq_getElem_cons hun, (List.getElem?_eq_some_iff.1 hx).2]
 rw [hsu] at hvu hyd
 have hnx : s.take (u + 1) = s.take u ++ [x] := BG hx
 have hst := P5 hvu
 obtain ⟨z, r, e1, e2⟩ := Lp x
 have hyz : y = z := by rw [List.flatMap_cons, e1] at hyd; injection hyd with hyd _; exact hyd.symm
 refine Wn 9 ?_
 refine Ie 51 false rfl (decide_eq_false (by rcases hst with ⟨h2, _⟩ | ⟨h2, _⟩; (rw [hyz, e2 h2]; decide); (by_cases h3 : x.toNat = 127; (rw [hyz, e2 (by omega)]; decide); (rw [Gx (by omega) (by omega)] at e1; injection e1 with e1 _; rw [hyz, ← e1]; omega)))) ?_
 refine Wn 10 ?_
 refine iD (fun hc59 => ?_) fun hc59 => ?_
 ·
  have hsp : (x.toNat = 34 ∨ x.toNat = 92 ∨ x.toNat < 32 ∨ x.toNat = 127) ∧ Lib.validD (s.drop (u + 1)) = true := by
   rcases hst with h2 | ⟨h2, k, k1, k2, k3, k4, k5⟩
   · exact h2
   ·
    by_cases h3 : x.toNat = 127
    ·
     obtain ⟨k', rfl⟩ : ∃ k', k = k' + 1 := ⟨k - 1, by omega⟩
     rw [List.take_succ_cons, List.flatMap_cons] at k4
     have := congrArg List.head? k4
     rw [e1, e2 (by omega)] at this
     simp at this
     rw [← this] at h3; exact absurd h3 (by decide)
    ·
     rw [Gx (by omega) (by omega)] at e1; injection e1 with e1 _
     rw [hyz, ← e1] at hc59; omega
  have hnp : ps (u + 1) = ps u + (qB x).length := by rw [← hps, ← hps, hnx, List.flatMap_append, List.length_append]; simp; omega
  refine Wn 4 ?_
  refine Lo (cM jF (fun hS => Rk W0 br (some ⟨bb, off, none⟩) c l ht hb (ps u) x ((s.drop (u + 1)).flatMap qB ++ 34 :: rest) hsp.1 (by rw [hau, hsu, List.flatMap_cons, List.append_assoc]) _ (hS.gg (X := BQ br (some ⟨bb, off, none⟩) c l (ps u))) hS.od) ?_); intro x62
  intro a w hS
  replace hS := (hS.pk (Γ' := [C5 (BQ br (some ⟨bb, off, none⟩) c l (ps u + (qB x).length)) (.blk x62 [.int .u8 (x.toNat : Int)] 5), AJ 5 1 (.slice qo u co) u (F8 (s.take u)), AG W0])).unduo
  refine Aa (Cx hS rfl rfl AZ.1 BL.1 HX.1 KI.1 rfl rfl rfl (by repeat constructor) (ys := [.int .u8 (x.toNat : Int)]) rfl (.inr ⟨_, _, rfl, fun j v hj => by rw [Nat.zero_add]; exact AR (hS.gg (X := .blk x62 [.int .u8 (x.toNat : Int)] 5)) hj⟩) (fun v hv => by rw [List.mem_singleton.1 hv]; rfl) (by omega) (fun _ => (by repeat constructor)) ?_); intro v63 a w hv63 hS
  obtain ⟨q63, c63, rfl⟩ := AN (hS.gg (X := AJ 5 1 v63 (u + 1) (F8 (s.take u) ++ [.int .u8 (x.toNat : Int)])))
  rw [← hnp, show F8 (s.take u) ++ [Value.int .u8 (x.toNat : Int)] = F8 (s.take (u + 1)) by rw [hnx, F2]; rfl] at hS
  refine Wq 4 hS ?_; intro a hS
  refine AH (Aj ?_)
  refine ⟨(u + 1, q63, c63), by show s.length - (u + 1) < s.length - u; omega, ?_, hun, hsp.2⟩
  unfold BQ GS at hS ⊢
  exact hS.sp
 obtain ⟨hx1, k, k1, k2, k3, k4, k5⟩ : (x.toNat ≠ 34 ∧ x.toNat ≠ 92 ∧ 32 ≤ x.toNat) ∧ ∃ k, 1 ≤ k ∧ k ≤ (x :: s.drop (u + 1)).length ∧ (∀ X, Q3 ((x :: s.drop (u + 1)).take k ++ X) ∧ (Lib.decodeL ((x :: s.drop (u + 1)).take k ++ X)).2 = k) ∧ ((x :: s.drop (u + 1)).take k).flatMap qB = (x :: s.drop (u + 1)).take k ∧ Lib.validD ((x :: s.drop (u + 1)).drop k) = true := by
  rcases hst with ⟨h2, _⟩ | h2
  · exact absurd (show ((y.toNat : Nat) : Int) = 92 by rw [hyz, e2 h2]; rfl) hc59
  · exact h2
 rw [← hsu] at k2 k3 k4 k5
 rw [List.length_drop] at k2
 have htk : s.take (u + k) = s.take u ++ (s.drop u).take k := List.take_add
 have htl : ((s.drop u).take k).length = k := by rw [List.length_take, List.length_drop]; omega
 have hnp : ps (u + k) = ps u + k := by rw [← hps, ← hps, htk, List.flatMap_append, List.length_append, k4, htl]; omega
 have hpk : ps u + k < l.length := by rw [← hnp]; exact hin _ (by omega)
 have hdr : l.drop (ps u) = (s.drop u).take k ++ ((s.drop (u + k)).flatMap qB ++ 34 :: rest) := by
  rw [hau]
  conv => lhs; rw [← List.take_append_drop k (s.drop u), List.flatMap_append, k4, List.append_assoc, List.drop_drop]
 have hlt : (l.drop (ps u)).take k = (s.drop u).take k := by rw [hdr, List.take_append_of_le_length (by omega), List.take_of_length_le (by omega)]
 obtain ⟨g1, g2⟩ := k3 ((s.drop (u + k)).flatMap qB ++ 34 :: rest)
 rw [← hdr] at g1 g2
 refine Wn 3 ?_
 refine Dr 11 [] [.blk br [.slice (some ⟨bb, off, none⟩) l.length c, .int .i64 (ps u : Int), .int .i64 0, .int .i64 0] 231, AG W0] ?_
 refine ZR 8 ?_
 refine Zx rfl (MZ (j := ps u) rfl rfl AZ.1 BL.1 (by omega)) ?_
 refine Z0 rfl (cN Ya (fun hS => (by have := H0 W0 (Cu (some ⟨bb, off, none⟩) (ps u) c 1) (c - ps u) (l.drop (ps u)) (Ub ht (by omega)) (by rw [List.length_drop]; omega) _ hS.od; rw [List.length_drop] at this; exact this)) ?_); intro x73
 obtain ⟨z73, hz1, hz2⟩ := x73
 obtain rfl : z73 = (k : Int) := by rw [hz1 g1, g2]
 intro a w hS
 simp only at hS
 refine Un hS (Za ?_)
 refine ZR 1 ?_
 refine Wn 9 ?_
 refine Ie 75 false rfl (decide_eq_false (by omega)) ?_
 refine Wn 10 ?_
 refine Ie 84 false rfl (decide_eq_false (by omega)) ?_
 refine Wn 4 ?_
 refine Dr 18 [16] [.blk br [.slice (some ⟨bb, off, none⟩) l.length c, .int .i64 (ps u : Int), .int .i64 0, .int .i64 0] 231, AJ 5 1 (.slice qo u co) u (F8 (s.take u)), AG W0] ?_
 refine ZR 15 ?_
 intro a w hS
 rw [show (ps u : Int) + (k : Int) = ((ps u + k : Nat) : Int) by omega] at hS
 refine Un hS (Zx rfl (PQ (i := ps u) (j := ps u + k) rfl rfl rfl AZ.1 BL.1 ⟨by omega, by omega⟩) ?_)
 intro a w hS
 rw [show ps u + k - ps u = k by omega] at hS
 refine Zo 16 (tf 17 1) hS rfl wN rfl (Cx hS rfl rfl AZ.1 BL.1 HX.1 KI.1 rfl rfl rfl (by repeat constructor) (ys := F8 ((l.drop (ps u)).take k)) (by rw [XP, List.length_take, List.length_drop]; omega) (cB ht hS.od (by omega) (by omega)) (XU _) (by omega) (fun _ => (by repeat constructor)) ?_); intro v107 a w hv107 hS
 obtain ⟨q107, c107, rfl⟩ := AN (hS.gg (X := AJ 5 1 v107 (u + k) (F8 (s.take u) ++ F8 ((l.drop (ps u)).take k))))
 rw [← F2, hlt, ← htk] at hS
 refine GJ (by simp) ?_
 refine Un hS (Zx rfl (Ak rfl) ?_)
 refine Wn 12 ?_
 refine Lo (Sb ?_)
 refine Wn 2 ?_
 intro a w hS
 refine ⟨(u + k, q107, c107), by show s.length - (u + k) < s.length - u; omega, ?_, by show u + k ≤ s.length; omega, by rw [List.drop_drop] at k5; exact k5⟩
 rw [show (ps u : Int) + (k : Int) = (ps (u + k) : Int) by omega] at hS
 unfold BQ GS
 exact hS.sp
theorem NF {ns : List (List UInt8)} {k : Nat} {y : List UInt8} (h : ns[k]? = some y) : (ns.flatMap AM)[k]? = some (.string (tx y)) := by
 have e : ∀ l : List (List UInt8), l.flatMap AM = l.map fun x => Value.string (tx x) := fun l => by
  induction l with
  | nil => rfl
  | cons a l ih => rw [List.flatMap_cons, List.map_cons, ih]; rfl
 rw [e ns, List.getElem?_map, h]; rfl
theorem Uc {W : World} {q : Option Addr} {m k : Nat} {ns : List (List UInt8)} {y : List UInt8} (h : Pt W q m (ns.flatMap AM)) (hy : ns[k]? = some y) : ∃ bx ox, q = some ⟨bx, ox, none⟩ ∧ W.cell? ⟨bx, ox + k, none⟩ = some (.string (tx y)) := by
 have hk := NF hy
 rcases h with ⟨_, h⟩ | ⟨bx, ox, e, h⟩
 · rw [h] at hk; cases hk
 · exact ⟨bx, ox, e, h k _ hk⟩
theorem Ud (W0 : World) (q : Option Addr) (c : Nat) (ns : List (List UInt8)) (h : Pt W0 q ns.length (ns.flatMap AM)) (hn : ns.length ≤ 1000000) (x : List UInt8) (w0 : World) (ho : AQ W0 w0) :
 Ae Tryz.prog 161 [.slice q ns.length c, .string (tx x)] w0 (.bool (decide (x ∈ ns))) := by
 refine Ew Ai Tryz.func161 Tryz.ntmps161 ho ?_
 intro a hS
 refine Wq 12 hS ?_; intro a hS
 refine AW (γ := Nat) (fun k a w => St 18 Ai w0 a w [(5, .int .i64 (k : Int)), (0, .slice q ns.length c), (1, .string (tx x))] [AG W0] ∧ k ≤ ns.length ∧ ∀ j, j < k → ns[j]? ≠ some x) (fun k => ns.length - k) 0 ⟨hS.sq, Nat.zero_le _, fun j hj => by omega⟩ ?_
 intro k a w hI
 obtain ⟨hS, hk, hno⟩ := hI
 refine Wh 9 hS ?_
 refine iD (fun hc9 => ?_) fun hc9 => ?_
 ·
  have hkl : k < ns.length := by omega
  obtain ⟨y, hy⟩ : ∃ y, ns[k]? = some y := ⟨_, List.getElem?_eq_getElem hkl⟩
  obtain ⟨bx, ox, rfl, hc⟩ := Uc h hy
  refine Wn 9 ?_
  refine Xp (AI rfl Af.1 (fun w hh => by rw [Nat.mul_one]; exact AF (hh (AG W0) (by repeat constructor)) hc)) ?_
  refine Wn 4 ?_
  refine iD (fun hc17 => ?_) fun hc17 => ?_
  ·
   refine Wn 6 ?_
   intro a w hS
   refine AD (AC (AC (AD (AC ?_))))
   refine Ro hS Tryz.results161 ?_
   exact ⟨by rw [decide_eq_true (List.mem_of_getElem? (by rw [hy, Bn hc17]))], hS.chg⟩
  refine Wn 8 ?_
  intro a w hS
  exact ⟨k + 1, by omega, hS.sq, by omega, fun j hj e => by
    rcases Nat.lt_or_ge j k with h1 | h1
    · exact hno j h1 e
    · obtain rfl : j = k := by omega
      rw [hy] at e; injection e with e
      exact hc17 (by rw [e])⟩
 refine Wn 1 ?_
 intro a w hS
 refine AH (AH (Aj ?_))
 refine Wh 7 hS ?_
 intro a w hS
 refine Ro hS Tryz.results161 ?_
 refine ⟨?_, hS.chg⟩
 rw [decide_eq_false (fun hm => by
   obtain ⟨j, hj⟩ := List.getElem?_of_mem hm
   exact hno j (by have := (List.getElem?_eq_some_iff.1 hj).1; omega) hj)]
def Lq : Nat → JV → Prop
 | 0, _ => False
 | n + 1, .mk k t ns l => k ≤ 6 ∧ k ≠ 5 ∧ (k = 3 → ∃ m : Int, -9223372036854775808 ≤ m ∧ m ≤ 9223372036854775807 ∧ t = Lib.itoa m) ∧ (k = 6 → ns.length = l.length ∧ ∀ x ∈ l, Lq n x)
def mS (W0 : World) (br : Nat) (q : Option Addr) (c : Nat) (l : List UInt8) (n : Nat) : Prop := ∀ (deep p : Nat) (v r : JV) (t rest : List UInt8) (w0 : World), PJ n v r t → Cp n deep v → Lq n v → deep ≤ 32 → l.drop p = t ++ rest → XO (bt rest 0) → (BQ br q c l p).φ w0 → AQ W0 w0 →
 CV Tryz.prog 168 [.pointer (some ⟨br, 0, none⟩), .int .i64 (deep : Int)] w0 (BQ br q c l p) (fun x : { x : JX // x.v = r } => .agg x.1.cs.toArray) (fun x => C5 (BQ br q c l (p + t.length)) (Be n x.1))
theorem E8 {l x y : List UInt8} {p : Nat} (h : l.drop p = x ++ y) : l.drop (p + x.length) = y := by rw [← List.drop_drop, h, Fc]
theorem Cz {l r : List UInt8} {p : Nat} {y : UInt8} (h : l.drop p = y :: r) : bt l p = (y.toNat : Int) ∧ p < l.length := by
 have hlt : p < l.length := by
  have := congrArg List.length h
  rw [List.length_drop, List.length_cons] at this; omega
 refine ⟨Hz ?_, hlt⟩
 have := congrArg List.head? h
 rw [List.head?_drop] at this
 exact this
theorem P6 {n : Nat} {v r : JV} {t : List UInt8} (h : PJ n v r t) (hg : Lq n v) : ∃ y rr, t = y :: rr ∧ y.toNat ≠ 32 ∧ y.toNat ≠ 9 ∧ y.toNat ≠ 10 ∧ y.toNat ≠ 13 := by
 cases n with
 | zero => exact h.elim
 | succ n =>
   cases v with
   | mk k s ns l =>
     rcases h with ⟨hk, _, rfl⟩ | ⟨hk, _, rfl⟩ | ⟨hk, _, rfl⟩ | ⟨hk, ms, _, _, _, _, rfl⟩
     ·
      obtain ⟨m, m0, m1, rfl⟩ := hg.2.2.1 hk
      obtain ⟨s, m', h1, h2, h3, h4, _⟩ := Lc (l := Lib.itoa m) (rest := []) (p := 0) (n := m) (by simp)
      cases hi : Lib.itoa m with
      | nil => rw [hi] at h1; simp at h1; omega
      | cons y rr =>
        rw [hi] at h3 h4
        have hb : bt (y :: rr) 0 = (y.toNat : Int) := rfl
        refine ⟨y, rr, rfl, ?_⟩
        by_cases h45 : bt (y :: rr) 0 = 45
        · omega
        ·
         rw [if_neg h45] at h3
         subst h3
         have := h4 0 h2
         rw [show 0 + 0 + 0 = 0 from rfl] at this
         omega
     · exact ⟨34, _, rfl, by decide⟩
     ·
      obtain _ | _ | _ | k := k
      · exact ⟨_, _, rfl, by decide⟩
      · exact ⟨_, _, rfl, by decide⟩
      · exact ⟨_, _, rfl, by decide⟩
      · omega
     · exact ⟨123, _, rfl, by decide⟩
theorem IX {m : Ee} {rm : List Ee} (X : List UInt8) : ∃ tl, A2 (m :: rm) ++ X = AV m.n ++ (58 :: (m.t ++ tl)) ∧ tl = (if rm.isEmpty then [] else 44 :: A2 rm) ++ X := ⟨_, by rw [Ft]; unfold GP; simp, rfl⟩
theorem Rl {l : List UInt8} {p : Nat} (h : bt l p ≠ 32 ∧ bt l p ≠ 9 ∧ bt l p ≠ 10 ∧ bt l p ≠ 13) : p < l.length → bt l p ≠ 32 ∧ bt l p ≠ 9 ∧ bt l p ≠ 10 ∧ bt l p ≠ 13 := fun _ => h
theorem XW (W0 : World) (br : Nat) (q : Option Addr) (c : Nat) (l : List UInt8) (ht : EB W0 q c l) (hb : W0.heap.size ≤ br) (n : Nat) (IH : mS W0 br q c l n) (deep p : Nat) (hdeep : deep < 32) (ms : List Ee) (rest : List UInt8) (hms : ∀ m ∈ ms, Lib.validD m.n = true ∧ PJ n m.v m.r m.t ∧ Cp n (deep + 1) m.v ∧ Lq n m.v) (hnd : (ms.map (·.n)).Nodup) (h1000 : ms.length ≤ 1000)
 (hl : l.drop p = 123 :: (A2 ms ++ 125 :: rest)) (w0 : World) (h : (BQ br q c l p).φ w0) (ho : AQ W0 w0) :
 CV Tryz.prog 202 [.pointer (some ⟨br, 0, none⟩), .int .i64 (deep : Int), .int .u8 125] w0 (BQ br q c l p) (fun x : { x : JX // x.v = .mk 6 [] (ms.map (·.n)) (ms.map (·.r)) } => .agg x.1.cs.toArray) (fun x => C5 (BQ br q c l (p + (A2 ms).length + 2)) (Be (n + 1) x.1)) := by
 have hn := ht.n
 obtain ⟨_, hpl⟩ := Cz hl
 have hl1 : l.drop (p + 1) = A2 ms ++ 125 :: rest := E8 (x := [123]) hl
 have hll := congrArg List.length hl
 rw [List.length_drop, List.length_cons, List.length_append, List.length_cons] at hll
 have hno1 : bt l (p + 1) ≠ 32 ∧ bt l (p + 1) ≠ 9 ∧ bt l (p + 1) ≠ 10 ∧ bt l (p + 1) ≠ 13 := by
  cases ms with
  | nil => rw [(Cz (show l.drop (p + 1) = 125 :: rest from hl1)).1]; decide
  | cons m rm =>
    obtain ⟨tl, e, _⟩ := IX (m := m) (rm := rm) (125 :: rest)
    rw [e] at hl1
    rw [(Cz (y := 34) hl1).1]; decide
 have hem : bt l (p + 1) = 125 ↔ ms = [] := by
  cases ms with
  | nil => rw [(Cz (show l.drop (p + 1) = 125 :: rest from hl1)).1]; simp
  | cons m rm =>
    obtain ⟨tl, e, _⟩ := IX (m := m) (rm := rm) (125 :: rest)
    rw [e] at hl1
    rw [(Cz (y := 34) hl1).1]; simp
 refine En [BQ br q c l p, AG W0] (fun k => k = br) Tryz.func202 Tryz.ntmps202 (B3 (BE h) (B3 (BB ho) DN)) (CT (CK (fun k h1 h2 => by have h1 : k = br := h1; have h2 : k < W0.heap.size := h2; omega) CU) Bi) (A9 (fun _ hb => hb) (BP rfl Aw)) ?_
 intro a hS
 refine Wh 2 hS ?_
 refine Lo (Al ?_); intro b6
 refine Wn 9 ?_
 refine Ie 11 false rfl (decide_eq_false (by omega)) ?_
 refine Wn 6 ?_
 refine Lo (Al ?_); intro b7
 refine Lo (Sa ?_)
 refine Wn 9 ?_
 refine Ie 21 true rfl rfl ?_
 refine Wn 3 ?_
 refine Lo (Sb ?_)
 refine Wn 4 ?_
 intro a w hS
 unfold BQ GS at hS
 refine Wh 8 hS ?_
 refine Lo (Sb ?_)
 refine Wn 4 ?_
 intro a w hS
 rw [show (p : Int) + 1 = ((p + 1 : Nat) : Int) by omega] at hS
 refine Wh 1 hS ?_
 refine Lo (cM Iu (fun hS => Dj W0 br q c l ht hb (p + 1) (by omega) (Rl hno1) _ (hS.gg (X := BQ br q c l (p + 1))) hS.od) ?_); intro x32
 refine Wn 4 ?_
 refine Dr 16 [] [.blk br [.slice q l.length c, .int .i64 ((p + 1 : Nat) : Int), .int .i64 0, .int .i64 0] 231, AG W0] ?_
 intro a w hS
 unfold BQ GS at hS
 refine Un hS (ZR 1 ?_)
 refine Zv 2 _ rfl ExA.go ?_
 refine Zz 1 (tf 3 13) rfl (cM Gn (fun hS => FI W0 br q c l ht hb (p + 1) (by omega) _ (hS.gg (X := BQ br q c l (p + 1))) hS.od) ?_); intro x34
 intro a w hS
 unfold BQ GS at hS
 refine Un hS (Za ?_)
 refine ZR 2 ?_
 intro a w hS
 refine CG 0 (tf 16 0) 48 (.bool (decide (ms = []))) hS ?_ ?_
 ·
  intro hcM48
  refine Un hS (Gd 37 ?_ ?_) <;> intro hg37
  ·
   refine ZR 11 ?_
   exact Et 12 48 37 hcM48 rfl (by rw [decide_eq_true (hem.1 hg37)]; exact decide_eq_true (by omega)) hg37
  refine ZR 11 ?_
  exact Ef 12 48 37 hcM48 rfl ((decide_eq_false (fun h => hg37 (hem.2 h))).symm) hg37
 ·
  intro a w hS
  refine Wh 2 hS ?_
  refine iD (fun hc48 => ?_) fun hc48 => ?_
  ·
   subst hc48
   refine Wn 10 ?_
   refine Lo (Sb ?_)
   refine Wn 5 ?_
   refine Lo (Sa ?_)
   refine Wn 4 ?_
   intro a w hS
   refine Ro hS Tryz.results202 ?_
   refine ⟨⟨⟨.mk 6 [] [] [], [.int .i64 6, .string ⟨#[]⟩, .slice none 0 0, .slice none 0 0], fun _ => False, rfl, rfl⟩, rfl⟩, rfl, hS.chg, ?_, ?_⟩
   ·
    show (C5 (BQ br q c l (p + 0 + 2)) (Be (n + 1) _)).ok w
    rw [show ((p + 1 : Nat) : Int) + 1 = ((p + 0 + 2 : Nat) : Int) by omega] at hS
    exact By (hS.ok (BQ br q c l (p + 0 + 2)) (by repeat constructor)) (CH n 6 [] w) (fun k _ hk => hk)
   ·
    rintro b (hb | hb)
    · exact .inl hb
    · exact hb.elim
  refine Wn 4 ?_
  intro a w hS
  refine AW (γ := (List Ee × List Ee × Nat × List JX × Value × Value)) (fun G a w => St 170 (fun k => k = br) w0 a w [(7, .pointer (some ⟨b7, 0, none⟩)), (6, .pointer (some ⟨b6, 0, none⟩)), (0, .pointer (some ⟨br, 0, none⟩)), (1, .int .i64 (deep : Int)), (2, .int .u8 125)] [BQ br q c l G.2.2.1, .blk b7 [.int .i64 6, .string ⟨#[]⟩, G.2.2.2.2.1, G.2.2.2.2.2] 132, AJ 132 4 G.2.2.2.2.1 G.2.2.2.1.length (G.2.2.2.1.flatMap JX.cs), AJ 9 1 G.2.2.2.2.2 (G.1.map Ee.n).length ((G.1.map Ee.n).flatMap AM), As n G.2.2.2.1, .blk b6 BM 132, AG W0] ∧ ms = G.1 ++ G.2.1 ∧ G.2.1 ≠ [] ∧ l.drop G.2.2.1 = A2 G.2.1 ++ 125 :: rest ∧ G.2.2.2.1.map JX.v = G.1.map Ee.r) (fun G => G.2.1.length) ([], ms, p + 1, [], .slice none 0 0, .slice none 0 0) ⟨((((hS.own_nil 132 4).own_nil 9 1).more (Y := As n []) (D5 (fun x hx => by cases hx)) (fun b ⟨x, hx, _⟩ => by cases hx)).sq).pk, rfl, hc48, hl1, rfl⟩ ?_
  intro G a w hI
  obtain ⟨dn, rm, pp, kids, lv, nv⟩ := G
  obtain ⟨hS, hsp, hrm, hat, hkv⟩ := hI
  simp only at hS hsp hrm hat hkv
  obtain ⟨m, rm', rfl⟩ : ∃ m rm', rm = m :: rm' := by
   cases rm with
   | nil => exact absurd rfl hrm
   | cons m r => exact ⟨m, r, rfl⟩
  obtain ⟨ns, hns⟩ : ∃ ns, dn.map Ee.n = ns := ⟨_, rfl⟩
  rw [hns] at hS
  have hnl : ns.length = dn.length := by rw [← hns, List.length_map]
  have hkl : kids.length = dn.length := by have := congrArg List.length hkv; rwa [List.length_map, List.length_map] at this
  have hml := congrArg List.length hsp
  rw [List.length_append, List.length_cons] at hml
  have hmm : m ∈ ms := by rw [hsp]; simp
  obtain ⟨hvn, hpj, hok, hgi⟩ := hms m hmm
  obtain ⟨ql, cl, rfl⟩ := AN (hS.gg (X := AJ 132 4 lv kids.length (kids.flatMap JX.cs)))
  obtain ⟨qn, cn, rfl⟩ := AN (hS.gg (X := AJ 9 1 nv ns.length (ns.flatMap AM)))
  obtain ⟨tl, e1, e2⟩ := IX (m := m) (rm := rm') (125 :: rest)
  rw [e1] at hat
  obtain ⟨p2, hp2⟩ : ∃ p2, pp + (AV m.n).length = p2 := ⟨_, rfl⟩
  obtain ⟨hbp, hppl⟩ := Cz (y := 34) hat
  have hat2 := E8 hat
  rw [hp2] at hat2
  obtain ⟨hb2, hp2l⟩ := Cz hat2
  have hat3 : l.drop (p2 + 1) = m.t ++ tl := E8 (x := [58]) hat2
  obtain ⟨y3, r3, e3, n1, n2, n3, n4⟩ := P6 hpj hgi
  obtain ⟨hb3, hp3l⟩ := Cz (show l.drop (p2 + 1) = y3 :: (r3 ++ tl) by rw [hat3, e3]; rfl)
  obtain ⟨p4, hp4⟩ : ∃ p4, p2 + 1 + m.t.length = p4 := ⟨_, rfl⟩
  have hat4 := E8 hat3
  rw [hp4] at hat4
  have hnin : m.n ∉ ns := fun hin => by
   rw [hsp, List.map_append, hns, List.map_cons] at hnd
   exact (List.nodup_append.1 hnd).2.2 _ hin _ (.head _) rfl
  have htl : (rm' = [] ∧ tl = 125 :: rest) ∨ (rm' ≠ [] ∧ tl = 44 :: (A2 rm' ++ 125 :: rest)) := by
   cases rm' with
   | nil => exact .inl ⟨rfl, e2⟩
   | cons a r => exact .inr ⟨by simp, e2⟩
  have hend : XO (bt tl 0) := by
   rcases htl with ⟨_, h⟩ | ⟨_, h⟩ <;> rw [h]
   · exact .inr (.inr rfl)
   · exact .inr (.inl rfl)
  obtain ⟨hb4, hp4l⟩ : (bt l p4 = if rm' = [] then 125 else 44) ∧ p4 < l.length := by
   rcases htl with ⟨h0, h⟩ | ⟨h0, h⟩ <;> rw [h] at hat4
   · rw [if_pos h0]; exact Cz hat4
   · rw [if_neg h0]; exact Cz hat4
  refine Wq 3 hS ?_; intro a hS
  unfold BQ GS at hS
  refine Wh 7 hS ?_
  refine Ie 62 true rfl rfl ?_
  refine Wn 12 ?_
  refine Ie 67 false rfl (decide_eq_false (by omega)) ?_
  refine Wn 16 ?_
  refine Ie 79 true rfl rfl ?_
  refine Wn 13 ?_
  refine Lo (cM Yf (fun hS => Kk W0 br q c l ht hb pp m.n (58 :: (m.t ++ tl)) hvn hat (by omega) _ (hS.gg (X := BQ br q c l pp)) hS.od) ?_); intro x85
  intro a w hS
  rw [hp2] at hS
  refine Wq 6 hS ?_; intro a hS
  unfold BQ GS at hS
  refine Wh 6 hS ?_
  refine Ie 91 true rfl rfl ?_
  refine Wn 3 ?_
  refine Lg (cP YX (@fun a w hS => Ud w qn cn ns (DV (hS.gg (X := oR 9 1 qn ns cn AM)) (fun _ => rfl) rfl) (by omega) m.n _ (Ax w)) ?_)
  refine Wn 3 ?_
  refine Ie 96 false rfl (decide_eq_false hnin) ?_
  refine Wn 8 ?_
  refine Lo (Bz ?_); intro b103
  refine Lo (A1 ?_); intro v104 hv104
  intro a w hS
  obtain ⟨q104, c104, rfl⟩ := AN (hS.gg (X := AJ 9 1 v104 (ns.length + 1) (ns.flatMap AM ++ [.string (tx m.n)])))
  refine Wh 1 hS ?_
  refine Lo (Sb ?_)
  refine Wn 5 ?_
  refine Lo (cM Iu (fun hS => Dj W0 br q c l ht hb p2 (by omega) (Rl (by rw [hb2]; decide)) _ (hS.gg (X := BQ br q c l p2)) hS.od) ?_); intro x107
  refine Wn 5 ?_
  refine Lo (cM KJ (fun hS => F1 W0 br q c l ht hb p2 [58] (m.t ++ tl) hat2 (by omega) _ (hS.gg (X := BQ br q c l p2)) hS.od) ?_); intro x109
  intro a w hS
  rw [show p2 + [(58 : UInt8)].length = p2 + 1 from rfl] at hS
  refine Wh 4 hS ?_
  refine Lo (cM Iu (fun hS => Dj W0 br q c l ht hb (p2 + 1) (by omega) (Rl (by rw [hb3]; omega)) _ (hS.gg (X := BQ br q c l (p2 + 1))) hS.od) ?_); intro x111
  refine Wn 5 ?_
  intro a w hS
  unfold BQ GS at hS
  refine Wh 7 hS ?_
  refine Ie 116 false rfl rfl ?_
  refine Wn 4 ?_
  refine Dr 10 [9] [.blk b7 [.int .i64 6, .string ⟨#[]⟩, .slice ql kids.length cl, .slice q104 (ns.length + 1) c104] 132] ?_
  refine ZR 5 ?_
  intro a w hS
  rw [show (deep : Int) + 1 = ((deep + 1 : Nat) : Int) by omega] at hS
  refine Un hS (Z0 rfl (cM Yb (fun hS => IH (deep + 1) (p2 + 1) m.v m.r m.t tl _ hpj hok hgi (by omega) hat3 hend (hS.gg (X := BQ br q c l (p2 + 1))) hS.od) ?_)); intro x122
  obtain ⟨x, hxv⟩ := x122
  intro a w hS
  simp only at hS
  rw [hp4] at hS
  replace hS := (hS.pk (Γ' := [C5 (BQ br q c l p4) (Be n x), .blk b7 [.int .i64 6, .string ⟨#[]⟩, .slice ql kids.length cl, .slice q104 (ns.length + 1) c104] 132, oR 132 4 ql kids cl JX.cs, AJ 9 1 (.slice q104 (ns.length + 1) c104) (ns.length + 1) (ns.flatMap AM ++ [.string (tx m.n)]), As n kids, .blk b6 BM 132, AG W0])).unduo
  obtain ⟨lx, nx, ⟨a1, a2, a3, rfl⟩, ⟨a4, a5, a6, rfl⟩, hcs⟩ := DZ.four (hS.get (X := Be n x) (.tail _ (.head _)))
  rw [hcs] at hS
  refine Un hS (Za ?_)
  refine Z0 rfl (Bz ?_); intro b123
  refine Za ?_
  refine Z0 rfl (A1 ?_); intro v124 hv124
  intro a w hS
  obtain ⟨q124, c124, rfl⟩ := AN (hS.gg (X := AJ 132 4 v124 (kids.length + 1) _))
  refine Un hS (Za ?_)
  refine ZR 1 ?_
  refine Z0 rfl (Sb ?_)
  refine Zl ?_
  refine Wn 3 ?_
  have hfl : (kids ++ [x]).flatMap JX.cs = kids.flatMap JX.cs ++ ([.int .i64 (x.v.k : Int), .string (tx x.v.t), .slice a1 a2 a3, .slice a4 a5 a6] ++ []) := by rw [List.flatMap_append, ← hcs]; simp
  have hfn : (ns ++ [m.n]).flatMap AM = ns.flatMap AM ++ [.string (tx m.n)] := by rw [List.flatMap_append]; rfl
  have hkl1 : (kids ++ [x]).length = kids.length + 1 := by simp
  have hnl1 : (ns ++ [m.n]).length = ns.length + 1 := by simp
  have hkv2 : (kids ++ [x]).map JX.v = (dn ++ [m]).map Ee.r := by rw [List.map_append, List.map_append, hkv, List.map_singleton, hxv]; rfl
  have hns2 : (dn ++ [m]).map Ee.n = ns ++ [m.n] := by rw [List.map_append, hns]; rfl
  intro a w hS
  replace hS := hS.pk (Γ' := [Be n x, As n kids, BQ br q c l p4, .blk b7 [.int .i64 6, .string ⟨#[]⟩, .slice q124 (kids.length + 1) c124, .slice q104 (ns.length + 1) c104] 132, AJ 132 4 (.slice q124 (kids.length + 1) c124) (kids.length + 1) (kids.flatMap JX.cs ++ ([.int .i64 (x.v.k : Int), .string (tx x.v.t), .slice a1 a2 a3, .slice a4 a5 a6] ++ [])), AJ 9 1 (.slice q104 (ns.length + 1) c104) (ns.length + 1) (ns.flatMap AM ++ [.string (tx m.n)]), .blk b6 BM 132, AG W0])
  replace hS := CA hS
  rw [← hfl, ← hfn] at hS
  refine Wh 2 hS ?_
  refine Lo (cM Iu (fun hS => Dj W0 br q c l ht hb p4 (by omega) (Rl (by rw [hb4]; split <;> omega)) _ (hS.gg (X := BQ br q c l p4)) hS.od) ?_); intro x127
  refine Wn 5 ?_
  intro a w hS
  unfold BQ GS at hS
  obtain ⟨bb, off, y4, hq, hy4, hcx⟩ := ht.cell hp4l
  subst hq
  have hy4' : (y4.toNat : Int) = if rm' = [] then 125 else 44 := by rw [← hb4]; exact (Hz hy4).symm
  refine Wh 7 hS ?_
  refine Ie 132 false rfl rfl ?_
  refine Wn 5 ?_
  refine Dr 24 [] [.blk br [.slice (some ⟨bb, off, none⟩) l.length c, .int .i64 (p4 : Int), .int .i64 0, .int .i64 0] 231, AG W0] ?_
  refine ZR 11 ?_
  refine Ie 143 true rfl (decide_eq_true (by omega)) ?_
  refine ZR 8 ?_
  refine Zx rfl (BI rfl rfl AZ.1 BL.1 hp4l) ?_
  refine Zy rfl (AI rfl BX.1 (fun w hh => by rw [Nat.mul_one]; exact AF (hh (AG W0) (by repeat constructor)) hcx)) ?_
  refine ZR 3 ?_
  refine Wn 2 ?_
  refine iD (fun hc156 => ?_) fun hc156 => ?_
  ·
   have hr0 : rm' = [] := Classical.byContradiction fun h => by rw [if_neg h] at hy4'; omega
   subst hr0
   have hl7 := congrArg List.length hat4
   rw [e2, List.length_drop, List.length_append, List.length_cons] at hl7
   have hfin : p4 + 1 = p + (A2 ms).length + 2 := by simp at hl7; omega
   have hms2 : ms = dn ++ [m] := hsp
   refine Wn 10 ?_
   refine Lo (Sb ?_)
   refine Wn 3 ?_
   intro a w hS
   refine AH (SN rfl (AH (Aj ?_)))
   refine Wh 4 hS ?_
   refine Lo (Sa ?_)
   refine Wn 3 ?_
   intro a w hS
   refine Ro hS Tryz.results202 ?_
   rw [show (p4 : Int) + 1 = ((p + (A2 ms).length + 2 : Nat) : Int) by omega] at hS
   have hS1 := hS.pk (Γ' := [AJ 132 4 (.slice q124 (kids.length + 1) c124) (kids.length + 1) ((kids ++ [x]).flatMap JX.cs), AJ 9 1 (.slice q104 (ns.length + 1) c104) (ns.length + 1) ((ns ++ [m.n]).flatMap AM), As n (kids ++ [x]), BQ br (some ⟨bb, off, none⟩) c l (p + (A2 ms).length + 2)])
   rw [← hkl1, ← hnl1] at hS1
   have hS2 := Eg (d := n) (k := 6) (t := []) (ns := ns ++ [m.n]) (kids := kids ++ [x]) hS1
   rw [hkl1, hnl1] at hS2
   obtain ⟨F, hF⟩ : ∃ F : Nat → Prop, F = fun b => (Value.slice q124 (kids.length + 1) c124).ownBlock = some b ∨ (Value.slice q104 (ns.length + 1) c104).ownBlock = some b ∨ LR (kids ++ [x]) b := ⟨_, rfl⟩
   rw [← hF] at hS2
   refine ⟨⟨⟨.mk 6 [] (ns ++ [m.n]) ((kids ++ [x]).map JX.v), [.int .i64 6, .string ⟨#[]⟩, .slice q124 (kids.length + 1) c124, .slice q104 (ns.length + 1) c104], F, rfl, rfl⟩, by show JV.mk 6 [] (ns ++ [m.n]) ((kids ++ [x]).map JX.v) = _; rw [hkv2, ← hns2, ← hms2]⟩, rfl, hS.chg, ?_, ?_⟩
   · exact By (hS2.ok _ (.tail _ (.head _))) (hS2.ok _ (.head _)) (fun b h1 h2 => hS2.sep (X := BQ br (some ⟨bb, off, none⟩) c l (p + (A2 ms).length + 2)) (by repeat (first | exact Jw.head | apply Jw.tail)) (.head _) b h1 h2)
   ·
    rintro b (hb | hb)
    · exact .inl hb
    · exact (hS2.mine _ (.head _) rfl b hb).symm
  have hr0 : rm' ≠ [] := fun h => by rw [if_pos h] at hy4'; omega
  have hat5 : l.drop p4 = 44 :: (A2 rm' ++ 125 :: rest) := by
   rcases htl with ⟨h0, _⟩ | ⟨_, h⟩
   · exact absurd h0 hr0
   · rw [hat4, h]
  have hat6 : l.drop (p4 + 1) = A2 rm' ++ 125 :: rest := E8 (x := [44]) hat5
  have hno6 : bt l (p4 + 1) ≠ 32 ∧ bt l (p4 + 1) ≠ 9 ∧ bt l (p4 + 1) ≠ 10 ∧ bt l (p4 + 1) ≠ 13 := by
   cases rm' with
   | nil => exact absurd rfl hr0
   | cons m2 r2 =>
     obtain ⟨tl2, e4, _⟩ := IX (m := m2) (rm := r2) (125 :: rest)
     rw [e4] at hat6
     rw [(Cz (y := 34) hat6).1]; decide
  refine Wn 5 ?_
  refine Lo (cM KJ (fun hS => F1 W0 br (some ⟨bb, off, none⟩) c l ht hb p4 [44] (A2 rm' ++ 125 :: rest) hat5 (by omega) _ (hS.gg (X := BQ br (some ⟨bb, off, none⟩) c l p4)) hS.od) ?_); intro x166
  intro a w hS
  rw [show p4 + [(44 : UInt8)].length = p4 + 1 from rfl] at hS
  refine Wh 4 hS ?_
  refine Lo (cM Iu (fun hS => Dj W0 br (some ⟨bb, off, none⟩) c l ht hb (p4 + 1) (by omega) (Rl hno6) _ (hS.gg (X := BQ br (some ⟨bb, off, none⟩) c l (p4 + 1))) hS.od) ?_); intro x168
  refine Wn 2 ?_
  intro a w hS
  refine ⟨(dn ++ [m], rm', p4 + 1, kids ++ [x], .slice q124 (kids.length + 1) c124, .slice q104 (ns.length + 1) c104), by show rm'.length < (m :: rm').length; simp, ?_, by show ms = (dn ++ [m]) ++ rm'; rw [hsp]; simp, hr0, hat6, hkv2⟩
  show St _ _ _ _ _ _ [_, _, AJ _ _ _ (kids ++ [x]).length _, AJ _ _ _ ((dn ++ [m]).map Ee.n).length (((dn ++ [m]).map Ee.n).flatMap AM), _, _, _]
  rw [hkl1, hns2, hnl1]
  exact hS.sp
theorem XX {n deep : Nat} {v r : JV} {tv : List UInt8} (hp : PJ (n + 1) v r tv) (ho : Cp (n + 1) deep v) (hg : Lq (n + 1) v) :
 ((∃ y rr, tv = y :: rr ∧ y.toNat = 110) ∧ r = .mk 0 [] [] [] ∧ tv = [110, 117, 108, 108]) ∨
 ((∃ y rr, tv = y :: rr ∧ y.toNat = 102) ∧ r = .mk 1 [] [] [] ∧ tv = [102, 97, 108, 115, 101]) ∨
 ((∃ y rr, tv = y :: rr ∧ y.toNat = 116) ∧ r = .mk 2 [] [] [] ∧ tv = [116, 114, 117, 101]) ∨
 ((∃ y rr, tv = y :: rr ∧ (y.toNat = 45 ∨ 48 ≤ y.toNat ∧ y.toNat ≤ 57)) ∧ ∃ m : Int, -9223372036854775808 ≤ m ∧ m ≤ 9223372036854775807 ∧ r = DI (Lib.itoa m) ∧ tv = Lib.itoa m) ∨
 ((∃ y rr, tv = y :: rr ∧ y.toNat = 34) ∧ ∃ s, Lib.validD s = true ∧ r = Fb s ∧ tv = AV s) ∨
 ((∃ y rr, tv = y :: rr ∧ y.toNat = 123) ∧ ∃ ms : List Ee, (∀ m ∈ ms, Lib.validD m.n = true ∧ PJ n m.v m.r m.t ∧ Cp n (deep + 1) m.v ∧ Lq n m.v) ∧ deep < 32 ∧ (ms.map (·.n)).Nodup ∧ ms.length ≤ 1000 ∧ r = .mk 6 [] (ms.map (·.n)) (ms.map (·.r)) ∧ tv = 123 :: (A2 ms ++ [125])) := by
 cases v with
 | mk k s ns l =>
   rcases hp with ⟨hk, rfl, rfl⟩ | ⟨hk, rfl, rfl⟩ | ⟨hk, rfl, rfl⟩ | ⟨hk, ms, hp, hs, hm, rfl, rfl⟩
   ·
    obtain ⟨m, m0, m1, rfl⟩ := hg.2.2.1 hk
    obtain ⟨s, m', h1, h2, h3, h4, _⟩ := Lc (l := Lib.itoa m) (rest := []) (p := 0) (n := m) (by simp)
    refine .inr (.inr (.inr (.inl ⟨?_, m, m0, m1, rfl, rfl⟩)))
    cases hi : Lib.itoa m with
    | nil => rw [hi] at h1; simp at h1; omega
    | cons y rr =>
      rw [hi] at h3 h4
      have hb : bt (y :: rr) 0 = (y.toNat : Int) := rfl
      refine ⟨y, rr, rfl, ?_⟩
      by_cases h45 : bt (y :: rr) 0 = 45
      · omega
      ·
       rw [if_neg h45] at h3
       subst h3
       have := h4 0 h2
       rw [show 0 + 0 + 0 = 0 from rfl] at this
       omega
   · exact .inr (.inr (.inr (.inr (.inl ⟨⟨34, _, rfl, rfl⟩, s, ho.2.1 hk, rfl, rfl⟩))))
   ·
    obtain _ | _ | _ | k := k
    · exact .inl ⟨⟨_, _, rfl, rfl⟩, rfl, rfl⟩
    · exact .inr (.inl ⟨⟨_, _, rfl, rfl⟩, rfl, rfl⟩)
    · exact .inr (.inr (.inl ⟨⟨_, _, rfl, rfl⟩, rfl, rfl⟩))
    · omega
   ·
    obtain ⟨p1, p2, p3, p4, p5, p6⟩ := TI hk ho hp
    exact .inr (.inr (.inr (.inr (.inr ⟨⟨123, _, rfl, rfl⟩, ms, fun m hm' => ⟨(p1 m hm').1, hm m hm', (p1 m hm').2.1, (hg.2.2.2 hk).2 _ (p1 m hm').2.2⟩, p4, p2, p5, rfl, rfl⟩))))
def E9 (k : Nat) (t : List UInt8) : JX := ⟨.mk k t [] [], [.int .i64 (k : Int), .string (tx t), .slice none 0 0, .slice none 0 0], fun _ => False, rfl, rfl⟩
theorem FA {br c p n k : Nat} {q : Option Addr} {l t : List UInt8} {w : World} (h : (BQ br q c l p).ok w) : (C5 (BQ br q c l p) (Be (n + 1) (E9 k t))).ok w := By h (CH n k t w) (fun _ _ hk => hk)
theorem NG (W0 : World) (br : Nat) (q : Option Addr) (c : Nat) (l : List UInt8) (ht : EB W0 q c l) (hb : W0.heap.size ≤ br) (n : Nat) (IH : mS W0 br q c l n) : mS W0 br q c l (n + 1) := by
 intro deep p v r t rest w0 hpj hok hgi hdeep hl hend h ho
 have hn := ht.n
 have hcs := XX hpj hok hgi
 obtain ⟨y, rr, hy, _⟩ := P6 hpj hgi
 have hl0 : l.drop p = y :: (rr ++ rest) := by rw [hl, hy]; rfl
 obtain ⟨hbp, hpl⟩ := Cz hl0
 have hyl := y.toNat_lt
 have hy1 : ∀ z r2, t = z :: r2 → z = y := fun z r2 e => by rw [hy] at e; injection e with e; exact e.symm
 obtain ⟨Y, hY⟩ : ∃ Y : Int, (y.toNat : Int) = Y := ⟨_, rfl⟩
 rw [hY] at hbp
 refine En [BQ br q c l p, AG W0] (fun k => k = br) Tryz.func168 Tryz.ntmps168 (B3 (BE h) (B3 (BB ho) DN)) (CT (CK (fun k h1 h2 => by have h1 : k = br := h1; have h2 : k < W0.heap.size := h2; omega) CU) Bi) (A9 (fun _ hb => hb) (BP rfl Aw)) ?_
 intro a hS
 refine Wh 2 hS ?_
 refine Lo (Al ?_); intro b4
 refine Wn 5 ?_
 refine Lo (cM Gn (fun hS => (by have := FI W0 br q c l ht hb p (by omega) _ (hS.gg (X := BQ br q c l p)) hS.od; rw [hbp] at this; exact this)) ?_); intro x7
 refine Wn 6 ?_
 refine Dr 11 [] [.blk br [.slice q l.length c, .int .i64 (p : Int), .int .i64 0, .int .i64 0] 231, AG W0] ?_
 intro a w hS
 unfold BQ GS at hS
 refine Un hS (ZR 11 ?_)
 refine Wn 2 ?_
 refine Ie 14 false rfl (decide_eq_false (by omega)) ?_
 refine Wn 8 ?_
 refine iD (fun hc32 => ?_) fun hc32 => ?_
 ·
  obtain ⟨hr, htv⟩ : r = .mk 0 [] [] [] ∧ t = [110, 117, 108, 108] := by
   rcases hcs with ⟨_, h2⟩ | ⟨⟨z, r2, e, h2⟩, _⟩ | ⟨⟨z, r2, e, h2⟩, _⟩ | ⟨⟨z, r2, e, h2⟩, _⟩ | ⟨⟨z, r2, e, h2⟩, _⟩ | ⟨⟨z, r2, e, h2⟩, _⟩
   · exact h2
   all_goals (have := hy1 z r2 e; subst this; omega)
  subst hr htv
  refine Wn 3 ?_
  refine Lo (cM KJ (fun hS => F1 W0 br q c l ht hb p [110, 117, 108, 108] rest hl (by omega) _ (hS.gg (X := BQ br q c l p)) hS.od) ?_); intro x36
  refine Wn 5 ?_
  refine Lo (Sa ?_)
  refine Wn 3 ?_
  intro a w hS
  refine AD (AC ?_)
  refine Ro hS Tryz.results168 ?_
  exact ⟨⟨E9 0 [], rfl⟩, rfl, hS.chg, FA (hS.ok (BQ br q c l (p + [110, 117, 108, 108].length)) (by repeat constructor)), fun b hb => by
    rcases hb with hb | hb
    · exact .inl hb
    · exact hb.elim⟩
 refine Wn 7 ?_
 refine iD (fun hc38 => ?_) fun hc38 => ?_
 ·
  obtain ⟨hr, htv⟩ : r = .mk 1 [] [] [] ∧ t = [102, 97, 108, 115, 101] := by
   rcases hcs with ⟨⟨z, r2, e, h2⟩, _⟩ | ⟨_, h2⟩ | ⟨⟨z, r2, e, h2⟩, _⟩ | ⟨⟨z, r2, e, h2⟩, _⟩ | ⟨⟨z, r2, e, h2⟩, _⟩ | ⟨⟨z, r2, e, h2⟩, _⟩
   rotate_left
   · exact h2
   all_goals (have := hy1 z r2 e; subst this; omega)
  subst hr htv
  refine Wn 3 ?_
  refine Lo (cM KJ (fun hS => F1 W0 br q c l ht hb p [102, 97, 108, 115, 101] rest hl (by omega) _ (hS.gg (X := BQ br q c l p)) hS.od) ?_); intro x42
  refine Wn 5 ?_
  refine Lo (Sa ?_)
  refine Wn 3 ?_
  intro a w hS
  refine AD (AC ?_)
  refine Ro hS Tryz.results168 ?_
  exact ⟨⟨E9 1 [], rfl⟩, rfl, hS.chg, FA (hS.ok (BQ br q c l (p + [102, 97, 108, 115, 101].length)) (by repeat constructor)), fun b hb => by
    rcases hb with hb | hb
    · exact .inl hb
    · exact hb.elim⟩
 refine Wn 7 ?_
 refine iD (fun hc44 => ?_) fun hc44 => ?_
 ·
  obtain ⟨hr, htv⟩ : r = .mk 2 [] [] [] ∧ t = [116, 114, 117, 101] := by
   rcases hcs with ⟨⟨z, r2, e, h2⟩, _⟩ | ⟨⟨z, r2, e, h2⟩, _⟩ | ⟨_, h2⟩ | ⟨⟨z, r2, e, h2⟩, _⟩ | ⟨⟨z, r2, e, h2⟩, _⟩ | ⟨⟨z, r2, e, h2⟩, _⟩
   rotate_left 2
   · exact h2
   all_goals (have := hy1 z r2 e; subst this; omega)
  subst hr htv
  refine Wn 3 ?_
  refine Lo (cM KJ (fun hS => F1 W0 br q c l ht hb p [116, 114, 117, 101] rest hl (by omega) _ (hS.gg (X := BQ br q c l p)) hS.od) ?_); intro x48
  refine Wn 5 ?_
  refine Lo (Sa ?_)
  refine Wn 3 ?_
  intro a w hS
  refine AD (AC ?_)
  refine Ro hS Tryz.results168 ?_
  exact ⟨⟨E9 2 [], rfl⟩, rfl, hS.chg, FA (hS.ok (BQ br q c l (p + [116, 114, 117, 101].length)) (by repeat constructor)), fun b hb => by
    rcases hb with hb | hb
    · exact .inl hb
    · exact hb.elim⟩
 refine Wn 5 ?_
 refine Lm 3 56 (.bool (decide (Y = 45 ∨ 48 ≤ Y ∧ Y ≤ 57))) ?_ ?_
 ·
  intro hcM56
  refine Gd 53 ?_ ?_ <;> intro hg53
  ·
   refine Wn 3 ?_
   exact Et 4 56 53 hcM56 rfl ((decide_eq_true (.inl hg53)).symm) hg53
  refine Wn 1 ?_
  refine Lg (cP PH (fun _ => G2 Y _) ?_)
  refine Wn 1 ?_
  exact Ef 4 56 53 hcM56 rfl (decide_eq_decide.2 ⟨.inr, fun h => h.resolve_left hg53⟩) hg53
 ·
  refine Wn 3 ?_
  refine iD (fun hc50 => ?_) fun hc50 => ?_
  ·
   obtain ⟨m, m0, m1, hr, htv⟩ : ∃ m : Int, -9223372036854775808 ≤ m ∧ m ≤ 9223372036854775807 ∧ r = DI (Lib.itoa m) ∧ t = Lib.itoa m := by
    rcases hcs with ⟨⟨z, r2, e, h2⟩, _⟩ | ⟨⟨z, r2, e, h2⟩, _⟩ | ⟨⟨z, r2, e, h2⟩, _⟩ | ⟨_, h2⟩ | ⟨⟨z, r2, e, h2⟩, _⟩ | ⟨⟨z, r2, e, h2⟩, _⟩
    rotate_left 3
    · exact h2
    all_goals (have := hy1 z r2 e; subst this; omega)
   subst hr htv
   refine Wn 3 ?_
   refine Lo (cM Yd (fun hS => Kj W0 br q c l ht hb p rest m m0 m1 hl (by omega) hend _ (hS.gg (X := BQ br q c l p)) hS.od) ?_); intro x58
   refine Wn 1 ?_
   refine Lo (Sa ?_)
   refine Wn 3 ?_
   intro a w hS
   refine AD (AC ?_)
   refine Ro hS Tryz.results168 ?_
   exact ⟨⟨E9 3 (Lib.itoa m), rfl⟩, rfl, hS.chg, FA (hS.ok (BQ br q c l (p + (Lib.itoa m).length)) (by repeat constructor)), fun b hb => by
     rcases hb with hb | hb
     · exact .inl hb
     · exact hb.elim⟩
  refine Wn 7 ?_
  refine iD (fun hc60 => ?_) fun hc60 => ?_
  ·
   obtain ⟨s, hvs, hr, htv⟩ : ∃ s, Lib.validD s = true ∧ r = Fb s ∧ t = AV s := by
    rcases hcs with ⟨⟨z, r2, e, h2⟩, _⟩ | ⟨⟨z, r2, e, h2⟩, _⟩ | ⟨⟨z, r2, e, h2⟩, _⟩ | ⟨⟨z, r2, e, h2⟩, _⟩ | ⟨_, h2⟩ | ⟨⟨z, r2, e, h2⟩, _⟩
    rotate_left 4
    · exact h2
    all_goals (have := hy1 z r2 e; subst this; omega)
   subst hr htv
   refine Wn 3 ?_
   refine Lo (cM Yf (fun hS => Kk W0 br q c l ht hb p s rest hvs hl (by omega) _ (hS.gg (X := BQ br q c l p)) hS.od) ?_); intro x64
   refine Wn 1 ?_
   refine Lo (Sa ?_)
   refine Wn 3 ?_
   intro a w hS
   refine AD (AC ?_)
   refine Ro hS Tryz.results168 ?_
   exact ⟨⟨E9 4 s, rfl⟩, rfl, hS.chg, FA (hS.ok (BQ br q c l (p + (AV s).length)) (by repeat constructor)), fun b hb => by
     rcases hb with hb | hb
     · exact .inl hb
     · exact hb.elim⟩
  obtain ⟨hY123, ms, hms, hd32, hnd, h1000, hr, htv⟩ : Y = 123 ∧ ∃ ms : List Ee, (∀ m ∈ ms, Lib.validD m.n = true ∧ PJ n m.v m.r m.t ∧ Cp n (deep + 1) m.v ∧ Lq n m.v) ∧ deep < 32 ∧ (ms.map (·.n)).Nodup ∧ ms.length ≤ 1000 ∧ r = .mk 6 [] (ms.map (·.n)) (ms.map (·.r)) ∧ t = 123 :: (A2 ms ++ [125]) := by
   rcases hcs with ⟨⟨z, r2, e, h2⟩, _⟩ | ⟨⟨z, r2, e, h2⟩, _⟩ | ⟨⟨z, r2, e, h2⟩, _⟩ | ⟨⟨z, r2, e, h2⟩, _⟩ | ⟨⟨z, r2, e, h2⟩, _⟩ | ⟨⟨z, r2, e, h2⟩, h3⟩
   rotate_left 5
   · exact ⟨by have := hy1 z r2 e; subst this; omega, h3⟩
   all_goals (have := hy1 z r2 e; subst this; omega)
  subst hr htv
  refine Wn 7 ?_
  refine Ie 66 false rfl (decide_eq_false (by omega)) ?_
  refine Wn 8 ?_
  refine Ie 72 true rfl (decide_eq_true hY123) ?_
  refine Wn 5 ?_
  refine Lo (cM jA (fun hS => XW W0 br q c l ht hb n IH deep p hd32 ms rest hms hnd h1000 (by rw [hl]; simp) _ (hS.gg (X := BQ br q c l p)) hS.od) ?_); intro x77
  obtain ⟨x, hxv⟩ := x77
  intro a w hS
  simp only at hS
  obtain ⟨lx, nx, ⟨a1, a2, a3, rfl⟩, ⟨a4, a5, a6, rfl⟩, hcs⟩ := DZ.four ((hS.ok (C5 (BQ br q c l (p + (A2 ms).length + 2)) (Be (n + 1) x)) (by repeat constructor)).now.2.1.now)
  rw [hcs] at hS
  refine Un hS (Lo (Sa ?_))
  refine Wn 3 ?_
  intro a w hS
  refine AD (AC ?_)
  refine Ro hS Tryz.results168 ?_
  refine ⟨⟨x, hxv⟩, by show _ = Ending.returned (Value.agg x.cs.toArray); rw [hcs], hS.chg, ?_, fun b hb => ?_⟩
  ·
   rw [show p + (123 :: (A2 ms ++ [125])).length = p + (A2 ms).length + 2 by simp; omega]
   exact hS.ok (C5 (BQ br q c l (p + (A2 ms).length + 2)) (Be (n + 1) x)) (by repeat constructor)
  · exact (hS.mine (C5 (BQ br q c l (p + (A2 ms).length + 2)) (Be (n + 1) x)) (by repeat constructor) rfl b hb).symm
theorem JU (W0 : World) (br : Nat) (q : Option Addr) (c : Nat) (l : List UInt8) (ht : EB W0 q c l) (hb : W0.heap.size ≤ br) : ∀ n, mS W0 br q c l n
 | 0 => fun _ _ _ _ _ _ _ h => h.elim
 | n + 1 => NG W0 br q c l ht hb n (JU W0 br q c l ht hb n)
theorem Ue (W0 : World) (q : Option Addr) (c n : Nat) (v r : JV) (t : List UInt8) (ht : EB W0 q c t) (hpj : PJ n v r t) (hok : Cp n 0 v) (hgi : Lq n v) (h64 : t.length ≤ 65536) (w0 : World) (ho : AQ W0 w0) :
 Bb Tryz.prog 122 [.slice q t.length c] w0 (fun x : { x : JX // x.v = r } => .tuple [.agg x.1.cs.toArray, .int .i64 0, .int .i64 0].toArray) (fun x => Be n x.1) := by
 obtain ⟨y, rr, hy, n1, n2, n3, n4⟩ := P6 hpj hgi
 have hl0 : t.drop 0 = y :: rr := by rw [hy]; rfl
 obtain ⟨hbp, hpl⟩ := Cz hl0
 refine Ew Ai Tryz.func122 Tryz.ntmps122 ho ?_
 intro a hS
 refine Wh 2 hS ?_
 refine Lo (Al ?_); intro b2
 refine Wn 12 ?_
 refine Ie 9 false rfl (decide_eq_false (by omega)) ?_
 refine Wn 7 ?_
 refine Lo (Bx ?_); intro b13
 refine Wn 5 ?_
 intro a w hS
 have hm13 : W0.heap.size ≤ b13 := Nat.not_lt.1 fun h => hS.sep (X := .blk b13 [.slice q t.length c, .int .i64 0, .int .i64 0, .int .i64 0] 231) (Y := AG W0) (by repeat constructor) (by repeat constructor) b13 rfl h
 refine Wh 1 hS ?_
 refine Lo (cM Iu (fun hS => Dj W0 b13 q c t ht hm13 0 (Nat.zero_le _) (Rl (by rw [hbp]; omega)) _ (hS.gg (X := BQ b13 q c t 0)) hS.od) ?_); intro x15
 refine Wn 5 ?_
 refine Lo (cM Yb (fun hS => JU W0 b13 q c t ht hm13 n 0 0 v r t [] _ hpj hok hgi (by omega) (by simp) NC (hS.gg (X := BQ b13 q c t 0)) hS.od) ?_); intro x17
 obtain ⟨x, hxv⟩ := x17
 intro a w hS
 simp only at hS
 rw [Nat.zero_add] at hS
 replace hS := (hS.pk (Γ' := [C5 (BQ b13 q c t t.length) (Be n x), .blk b2 BM 132, AG W0])).unduo
 obtain ⟨lx, nx, ⟨a1, a2, a3, rfl⟩, ⟨a4, a5, a6, rfl⟩, hcs⟩ := DZ.four (hS.get (X := Be n x) (.tail _ (.head _)))
 rw [hcs] at hS
 refine Un hS (Lo (Al ?_)); intro b6
 refine Lo (Sa ?_)
 refine Wn 5 ?_
 refine Lo (cM Iu (fun hS => Dj W0 b13 q c t ht hm13 t.length (Nat.le_refl _) (fun h => by omega) _ (hS.gg (X := BQ b13 q c t t.length)) hS.od) ?_); intro x19
 refine Wn 5 ?_
 intro a w hS
 unfold BQ GS at hS
 refine Wh 6 hS ?_
 refine Ie 25 true rfl rfl ?_
 refine Wn 10 ?_
 refine Ie 33 false rfl (decide_eq_false (by omega)) ?_
 refine Wn 13 ?_
 refine Ie 44 false rfl rfl ?_
 refine Wn 6 ?_
 refine Lo (Sa ?_)
 refine Wn 5 ?_
 intro a w hS
 refine Rm hS Tryz.results122 ?_
 exact ⟨⟨x, hxv⟩, by show _ = Ending.returned (Value.tuple [.agg x.cs.toArray, .int .i64 0, .int .i64 0].toArray); rw [hcs], hS.chg, hS.ok (Be n x) (by repeat constructor), fun b hb => (hS.mine (Be n x) (by repeat constructor) rfl b hb).resolve_right id⟩
theorem Uf (u : Nat) : dv (Lib.decDigits u) = u := by
 induction u using Nat.strongRecOn with
 | ind u ih =>
   by_cases h : u < 10
   ·
    rw [B8 h]
    show DU 0 _ = u
    unfold DU
    rw [FJ (by omega)]; omega
   · rw [FK h, PK, ih (u / 10) (by omega), FJ (by omega)]; omega
theorem NH (u : Nat) : Lib.decDigits u ≠ [] ∧ (AY (Lib.decDigits u) 0 = 48 → Lib.decDigits u = [48] ∧ u = 0) ∧ ∀ j, j < (Lib.decDigits u).length → 48 ≤ AY (Lib.decDigits u) j ∧ AY (Lib.decDigits u) j ≤ 57 := by
 refine ⟨Dk u, fun h => ?_, fun j hj => ?_⟩
 · have h0 : u = 0 := Fh u (by
     cases hd : Lib.decDigits u with
     | nil => exact absurd hd (Dk u)
     | cons x r =>
       rw [hd] at h
       have : x = 48 := UInt8.toNat_inj.1 h
       rw [this]; rfl)
   subst h0
   exact ⟨B8 (by decide), rfl⟩
 ·
  have hd := of_decide_eq_true (Em u _ (List.getElem_mem hj))
  unfold AY
  rw [List.getD_eq_getElem?_getD, List.getElem?_eq_getElem hj]
  exact hd
theorem NI (n : Int) : An (Lib.itoa n) ∧ EI (Lib.itoa n) = n := by
 by_cases hn : n < 0
 ·
  have e : Lib.itoa n = 45 :: Lib.decDigits n.natAbs := if_pos hn
  obtain ⟨f1, f2, f3⟩ := NH n.natAbs
  have hpos := List.length_pos_iff.2 f1
  have hb : BZ (Lib.itoa n) = Lib.decDigits n.natAbs := by
   unfold BZ
   rw [e, if_pos ⟨by rw [List.length_cons]; omega, rfl⟩]; rfl
  refine ⟨?_, ?_⟩
  ·
   unfold An
   rw [hb]
   refine ⟨f1, fun ⟨h1, h2⟩ => ?_, fun ⟨h1, _⟩ => ?_, f3⟩
   · rw [(f2 h2).1] at h1; exact absurd h1 (by decide)
   · have := (f2 (by rw [h1]; rfl)).2; omega
  ·
   unfold EI
   rw [hb, Uf, e, if_pos (show AY (45 :: Lib.decDigits n.natAbs) 0 = 45 from rfl)]; omega
 ·
  have e : Lib.itoa n = Lib.decDigits n.toNat := if_neg hn
  obtain ⟨f1, f2, f3⟩ := NH n.toNat
  have hpos := List.length_pos_iff.2 f1
  have h45 : AY (Lib.itoa n) 0 ≠ 45 := by rw [e]; have := f3 0 hpos; omega
  have hb : BZ (Lib.itoa n) = Lib.decDigits n.toNat := by
   unfold BZ
   rw [if_neg (fun h => h45 h.2), e]
  refine ⟨?_, ?_⟩
  ·
   unfold An
   rw [hb]
   refine ⟨f1, fun ⟨h1, h2⟩ => ?_, fun ⟨h1, h2⟩ => ?_, f3⟩
   · rw [(f2 h2).1] at h1; exact absurd h1 (by decide)
   · rw [e, h1] at h2; exact absurd h2 (by decide)
  ·
   unfold EI
   rw [hb, Uf, if_neg h45]; omega
theorem GX {n : Int} (h0 : -9223372036854775808 ≤ n) (h1 : n ≤ 9223372036854775807) : DO (Lib.itoa n) = (n, true) := by
 obtain ⟨f, e⟩ := NI n
 unfold DO
 rw [e, if_pos ⟨f, h0, h1⟩]
theorem XY (n : Int) (h0 : -9223372036854775808 ≤ n) (h1 : n ≤ 9223372036854775807) (w0 : World) : Ae Tryz.prog 165 [.string (tx (Lib.itoa n))] w0 (.tuple [.int .i64 n, .bool true].toArray) := by
 have h20 := Bp h0 h1
 have h := N0 (tx (Lib.itoa n)) (by rw [BA]; omega) w0
 rw [show (tx (Lib.itoa n)).data.toList = Lib.itoa n by unfold tx; simp, GX h0 h1] at h
 exact h
theorem Of (n : Int) (h0 : -9223372036854775808 ≤ n) (h1 : n ≤ 9223372036854775807) (a1 a4 : Option Addr) (a2 a3 a5 a6 : Nat) (w0 : World) : Ae Tryz.prog 171 [.agg [.int .i64 3, .string (tx (Lib.itoa n)), .slice a1 a2 a3, .slice a4 a5 a6].toArray] w0 (.tuple [.int .i64 n, .int .i64 0].toArray) := by
 have h20 := Bp h0 h1
 have hf := Gp (tx (Lib.itoa n)) (by rw [BA]; omega)
 rw [show (tx (Lib.itoa n)).data.toList = Lib.itoa n by unfold tx; simp, decide_eq_true (NI n).1] at hf
 refine Eo Ai Tryz.func171 Tryz.ntmps171 ?_
 intro a hS
 refine Wh 2 hS ?_
 refine Lo (Bx ?_); intro b1
 refine Wn 12 ?_
 refine Ie 9 false rfl (decide_eq_false (fun h => h rfl)) ?_
 refine Wn 7 ?_
 refine Lo (cP Ye (fun _ => hf _) ?_)
 refine Wn 10 ?_
 refine Ie 14 false rfl rfl ?_
 refine Wn 7 ?_
 refine Lo (cP S9 (fun _ => XY n h0 h1 _) ?_)
 refine Wn 14 ?_
 refine Ie 22 false rfl rfl ?_
 refine Wn 11 ?_
 intro a w hS
 refine Rm hS Tryz.results171 ?_
 exact ⟨rfl, hS.chg⟩
theorem Og (W0 : World) (n : Nat) (v y : JV) (cs : List Value) (nm : List UInt8) (hv : CI v nm = some y) (w0 : World) (hj : DZ (n + 1) v cs W0) (hns : v.ns.length ≤ 1000) (hold : AQ W0 w0) :
 Bb Tryz.prog 170 [.agg cs.toArray, .string (tx nm)] w0 (fun x : { r : List Value // DZ n y r W0 } => .tuple [.agg x.1.toArray, .bool true].toArray) (fun _ => A7) := by
 cases v with
 | mk kd t ns l =>
 obtain ⟨lv, nv, rows, rfl, hn1, hn2, hn3, hn4⟩ := hj
 obtain ⟨na, nc, rfl, hT⟩ := FM hn1
 obtain ⟨la, lc, rfl⟩ := hn2.shape
 have hk6 : kd = 6 := by unfold CI at hv; split at hv; assumption; cases hv
 have hns : ns.length ≤ 1000 := hns
 obtain ⟨ix, h1, h2, hl⟩ : ∃ i : Nat, ns[i]? = some nm ∧ (∀ j : Nat, j < i → ns[j]? ≠ some nm) ∧ l[i]? = some y := by
  unfold CI at hv
  rw [if_pos (show (JV.mk kd t ns l).k = 6 from hk6)] at hv
  have hv : ((ns.zip l).find? fun p => p.1 == nm).map (·.2) = some y := hv
  rcases My nm ns with ⟨h, _⟩ | ⟨i, h1, h2, _⟩
  · rw [Pu h] at hv; cases hv
  · rw [IW h1 h2] at hv; exact ⟨i, h1, h2, hv⟩
 have hin := (List.getElem?_eq_some_iff.1 h1).1
 have hil := (List.getElem?_eq_some_iff.1 hl).1
 refine Ew Ai Tryz.func170 Tryz.ntmps170 hold ?_
 intro a hS
 refine Wh 2 hS ?_
 refine Lo (Bx ?_); intro b2
 refine Lo (Al ?_); intro b4
 refine Wn 10 ?_
 intro a w hS
 refine AW (γ := Nat) (fun k a w => St 39 Ai w0 a w [(6, .int .i64 (k : Int)), (4, .pointer (some ⟨b4, 0, none⟩)), (2, .pointer (some ⟨b2, 0, none⟩)), (1, .string (tx nm))] [.blk b4 BM 132, .blk b2 [.int .i64 (kd : Int), .string (tx t), .slice la rows.length lc, .slice na ns.length nc] 132, AG W0] ∧ k ≤ ix) (fun k => ix - k) 0 ⟨hS.sp, Nat.zero_le _⟩ ?_
 intro k a w hI
 obtain ⟨hS, hk⟩ := hI
 obtain ⟨x, hx⟩ : ∃ x, ns[k]? = some x := ⟨_, List.getElem?_eq_getElem (by omega)⟩
 obtain ⟨bx, ox, rfl, hcx⟩ := hT.at_ (fun e => by rw [e] at hin; exact absurd hin (Nat.not_lt_zero _))
 obtain ⟨v2, hv2⟩ : ∃ x, l[k]? = some x := ⟨_, List.getElem?_eq_getElem (by omega)⟩
 obtain ⟨r, hr⟩ : ∃ x, rows[k]? = some x := ⟨_, List.getElem?_eq_getElem (by omega)⟩
 have hjv := hn4 _ v2 r hv2 hr
 obtain ⟨lv2, nv2, ⟨a1, a2, a3, rfl⟩, ⟨a4, a5, a6, rfl⟩, hrc⟩ := hjv.four
 subst hrc
 obtain ⟨lb, lo, lc', e3, hlb, hcl⟩ := FL hn2 (fun e => by rw [e] at hn3; simp at hn3; omega)
 injection e3 with e3 _ _
 subst e3
 refine Wh 9 hS ?_
 refine Ie 12 true rfl (decide_eq_true (by omega)) ?_
 refine Wn 7 ?_
 refine Ie 19 true rfl (decide_eq_true (by omega)) ?_
 refine Wn 6 ?_
 refine Ie 23 true rfl (decide_eq_true (by omega)) ?_
 refine Wn 11 ?_
 refine Xp (AI rfl Af.1 (fun w hh => by rw [Nat.mul_one]; exact AF (hh (AG W0) (by repeat constructor)) (hcx k _ hx))) ?_
 refine Wn 4 ?_
 refine iD (fun hc32 => ?_) fun hc32 => ?_
 ·
  obtain rfl : k = ix := by
   rcases Nat.lt_or_ge k ix with h3 | h3
   · exact absurd (by rw [hx, Bn hc32]) (h2 k h3)
   · omega
  obtain rfl : v2 = y := by rw [hl] at hv2; injection hv2 with hv2; exact hv2.symm
  refine Wn 6 ?_
  refine Xp (BV (l := [.int .i64 (v2.k : Int), .string (tx v2.t), .slice a1 a2 a3, .slice a4 a5 a6]) rfl Gl.1 Bs.1 (fun w hh j x hx => AF (hh (AG W0) (by repeat constructor)) (hcl _ _ hr j x hx))) ?_
  refine Lo (Sa ?_)
  refine Wn 4 ?_
  intro a w hS
  refine AD (AC (AC (AD (AC ?_))))
  refine Rm hS Tryz.results170 ?_
  exact ⟨⟨_, hjv⟩, rfl, hS.chg, AL _, fun b h => h.elim⟩
 refine Wn 8 ?_
 have hne : k ≠ ix := fun e => hc32 (by subst e; rw [h1] at hx; injection hx with hx; rw [hx])
 intro a w hS
 exact ⟨k + 1, by omega, hS.sp, by omega⟩
def qE (W0 : World) (n : Nat) : Prop := ∀ (v : JV) (cs : List Value) (d : Nat) (w0 : World), Lq n v → Fy n v → DZ n v cs W0 → AQ W0 w0 → d ≤ 1000 →
 Bb Tryz.prog 116 [.agg cs.toArray, .int .i64 (d : Int)] w0 (fun e : { e : Int // (e = 0 ↔ Cp n d v) ∧ e ≠ 8 } => .int .i64 e.1) (fun _ => A7)
theorem rU {W0 : World} {na : Option Addr} {ns : List (List UInt8)} (hT : Ff W0 na ns) {k : Nat} (hk : k < ns.length) : Pt W0 na (ns.take k).length ((ns.take k).flatMap AM) := by
 obtain ⟨bx, ox, rfl, hc⟩ := hT.at_ (fun e => by rw [e] at hk; exact absurd hk (Nat.not_lt_zero _))
 refine .inr ⟨bx, ox, rfl, fun j u hj => ?_⟩
 have e : ∀ l : List (List UInt8), l.flatMap AM = l.map fun x => Value.string (tx x) := fun l => by
  induction l with
  | nil => rfl
  | cons a l ih => rw [List.flatMap_cons, List.map_cons, ih]; rfl
 rw [e, List.getElem?_map] at hj
 obtain ⟨x, hx, rfl⟩ := Option.map_eq_some_iff.1 hj
 rw [List.getElem?_take] at hx
 split at hx
 · exact hc j x hx
 · cases hx
theorem NJ (W0 : World) (n : Nat) (IH : qE W0 n) : qE W0 (n + 1) := by
 intro v cs d w0 hg hsm hj hold hd
 cases v with
 | mk kd t ns l =>
 obtain ⟨lv, nv, rows, rfl, hn1, hn2, hn3, hn4⟩ := hj
 obtain ⟨na, nc, rfl, hT⟩ := FM hn1
 obtain ⟨la, lc, rfl⟩ := hn2.shape
 obtain ⟨hg1, hg2, hg3, hg4⟩ := hg
 obtain ⟨hs1, hs2, hs3, hs4, hs5⟩ := hsm
 have hnum : kd = 3 → Cs t = some t.length := fun hk => by
  obtain ⟨m, m0, m1, rfl⟩ := hg3 hk
  have h := TG (Fi m0 m1) [] WF
  rwa [List.append_nil] at h
 obtain ⟨lit, hlit⟩ : ∃ m : Int, kd = 3 → -9223372036854775808 ≤ m ∧ m ≤ 9223372036854775807 ∧ t = Lib.itoa m := by
  by_cases h : kd = 3
  · obtain ⟨m, hm⟩ := hg3 h; exact ⟨m, fun _ => hm⟩
  · exact ⟨0, fun h2 => absurd h2 h⟩
 clear hg3
 refine Ew Ai Tryz.func116 Tryz.ntmps116 hold ?_
 intro a hS
 refine Wh 2 hS ?_
 refine Lo (Bx ?_); intro b2
 refine Wn 10 ?_
 refine Ie 13 false rfl (decide_eq_false (by omega)) ?_
 refine Wn 6 ?_
 refine Ie 17 false rfl (decide_eq_false (by omega)) ?_
 refine Wn 10 ?_
 refine Lm 5 26 (.bool (false)) ?_ ?_
 ·
  intro hcM26
  refine Gd 21 ?_ ?_ <;> intro hg21
  ·
   refine Wn 2 ?_
   intro a w hS
   refine Vm hS rfl rfl (K5 hS (.cons rfl .nil) iR rfl ((by obtain ⟨m0, m1, e⟩ := hlit (by omega); rw [e]; exact Oe lit m0 m1 _)) ?_); intro a w hS
   refine Wh 2 hS ?_
   exact Et 6 26 21 hcM26 rfl (by rfl) hg21
  refine Wn 5 ?_
  exact Ef 6 26 21 hcM26 rfl (by rfl) hg21
 ·
  refine Wn 1 ?_
  refine Ie 27 false rfl rfl ?_
  refine Wn 4 ?_
  refine Lm 5 36 (.bool (decide (kd = 4) && !Lib.validD t)) ?_ ?_
  ·
   intro hcM36
   refine Gd 31 ?_ ?_ <;> intro hg31
   ·
    refine Wn 2 ?_
    refine Lg (cP MN (fun _ => Fm t hs1 _) ?_)
    refine Wn 2 ?_
    exact Et 6 36 31 hcM36 rfl (by rw [decide_eq_true (show kd = 4 by omega)]; rfl) hg31
   refine Wn 5 ?_
   exact Ef 6 36 31 hcM36 rfl (by rw [decide_eq_false (show ¬ kd = 4 by omega)]; rfl) hg31
  ·
   refine Wn 2 ?_
   refine Lm 13 51 (.bool (decide (kd = 4) && !Lib.validD t)) ?_ ?_
   ·
    intro hcM51
    refine Gs 38 ?_ ?_ <;> intro hg38
    ·
     refine Wn 13 ?_
     exact Eb 14 51 38 hcM51 rfl (hg38.symm) hg38
    refine Wn 4 ?_
    refine Lm 8 50 (.bool (false)) ?_ ?_
    ·
     intro hcM50
     refine Gd 42 ?_ ?_ <;> intro hg42
     ·
      refine Wn 8 ?_
      exact Et 9 50 42 hcM50 rfl (decide_eq_false (by have := (hg4 (by omega)).1; omega)) hg42
     refine Wn 8 ?_
     exact Ef 9 50 42 hcM50 rfl (by rfl) hg42
    ·
     refine Wn 1 ?_
     exact Eb 7 51 38 hcM51 rfl ((Bool.eq_false_iff.2 (by rw [hg38]; decide)).symm) hg38
   ·
    refine Wn 2 ?_
    refine iB (fun hc51 => ?_) fun hc51 => ?_
    ·
     refine Wn 7 ?_
     intro a w hS
     refine Ro hS Tryz.results116 ?_
     rw [Bool.and_eq_true, decide_eq_true_eq, Bool.not_eq_true'] at hc51
     exact ⟨⟨10, ⟨fun h => absurd h (by decide), fun ho => by have := ho.2.1 hc51.1; rw [hc51.2] at this; cases this⟩, by decide⟩, rfl, hS.chg, AL _, fun b h => h.elim⟩
    have hval : kd = 4 → Lib.validD t = true := fun h => by
     rw [decide_eq_true h, Bool.true_and] at hc51
     simpa using hc51
    refine Wn 10 ?_
    refine iD (fun hc54 => ?_) fun hc54 => ?_
    ·
     refine Wn 7 ?_
     intro a w hS
     refine Ro hS Tryz.results116 ?_
     exact ⟨⟨0, ⟨fun _ => ⟨hnum, hval, fun h => by omega⟩, fun _ => rfl⟩, by decide⟩, rfl, hS.chg, AL _, fun b h => h.elim⟩
    have hk6 : kd = 6 := by omega
    obtain ⟨hnl, hgk⟩ := hg4 hk6
    refine Wn 9 ?_
    intro a w hS
    refine AW (γ := Nat) (fun k a w => St 121 Ai w0 a w [(5, .int .i64 (k : Int)), (2, .pointer (some ⟨b2, 0, none⟩)), (1, .int .i64 (d : Int))] [.blk b2 [.int .i64 (kd : Int), .string (tx t), .slice la rows.length lc, .slice na ns.length nc] 132, AG W0] ∧ k ≤ ns.length ∧ ∀ (j : Nat) (x : List UInt8), j < k → ns[j]? = some x → Lib.validD x = true) (fun k => ns.length - k) 0 ⟨hS.sp, Nat.zero_le _, fun j _ hj => by omega⟩ ?_
    intro k a w hI
    obtain ⟨hS, hk, hno⟩ := hI
    refine Wh 9 hS ?_
    refine Lm 4 64 (.bool (decide (k < ns.length))) ?_ ?_
    ·
     intro hcM64
     refine Gd 60 ?_ ?_ <;> intro hg60
     ·
      refine Wn 4 ?_
      exact Et 5 64 60 hcM64 rfl (by rw [decide_eq_true (show (kd : Int) = 6 by omega), decide_eq_true (show k < ns.length by omega)]) hg60
     refine Wn 4 ?_
     exact Ef 5 64 60 hcM64 rfl ((decide_eq_false (by omega)).symm) hg60
    ·
     refine Wn 2 ?_
     refine iD (fun hc64 => ?_) fun hc64 => ?_
     ·
      obtain ⟨x, hx⟩ : ∃ x, ns[k]? = some x := ⟨_, List.getElem?_eq_getElem hc64⟩
      obtain ⟨bx, ox, rfl, hcx⟩ := hT.at_ (fun e => by rw [e] at hc64; exact absurd hc64 (Nat.not_lt_zero _))
      have hxs := hs3 x (List.mem_of_getElem? hx)
      refine Wn 10 ?_
      refine Xp (AI rfl Af.1 (fun w hh => by rw [Nat.mul_one]; exact AF (hh (AG W0) (by repeat constructor)) (hcx k _ hx))) ?_
      refine Lo (cP MN (fun _ => Fm x (by omega) _) ?_)
      refine Wn 9 ?_
      refine iB (fun hc74 => ?_) fun hc74 => ?_
      ·
       refine Wn 6 ?_
       intro a w hS
       refine AD (AC (AC (AD (AC ?_))))
       refine Ro hS Tryz.results116 ?_
       exact ⟨⟨10, ⟨fun h => absurd h (by decide), fun ho => by have := (ho.2.2 hk6).1 x (List.mem_of_getElem? hx); rw [this] at hc74; exact absurd hc74 (by decide)⟩, by decide⟩, rfl, hS.chg, AL _, fun b h => h.elim⟩
      refine Wn 8 ?_
      intro a w hS
      exact ⟨k + 1, by omega, hS.sp, by omega, fun j y hj hy => by
            rcases Nat.lt_or_ge j k with h1 | h1
            · exact hno j y h1 hy
            · obtain rfl : j = k := by omega
              rw [hx] at hy; injection hy with hy; subst hy
              simpa using hc74⟩
     have hvn : ∀ x ∈ ns, Lib.validD x = true := fun x hx => by
      obtain ⟨j, hj⟩ := List.getElem?_of_mem hx
      exact hno j x (by have := (List.getElem?_eq_some_iff.1 hj).1; omega) hj
     refine Wn 1 ?_
     intro a w hS
     refine AH (AH (Aj ?_))
     refine Wh 8 hS ?_
     refine iD (fun hc76 => ?_) fun hc76 => ?_
     ·
      refine Wn 7 ?_
      intro a w hS
      refine Ro hS Tryz.results116 ?_
      exact ⟨⟨20, ⟨fun h => absurd h (by decide), fun ho => by have := (ho.2.2 hk6).2.2.1; omega⟩, by decide⟩, rfl, hS.chg, AL _, fun b h => h.elim⟩
     refine Wn 11 ?_
     refine iD (fun hc80 => ?_) fun hc80 => ?_
     ·
      refine Wn 7 ?_
      intro a w hS
      refine Ro hS Tryz.results116 ?_
      exact ⟨⟨9, ⟨fun h => absurd h (by decide), fun ho => by have := (ho.2.2 hk6).2.2.2.1; omega⟩, by decide⟩, rfl, hS.chg, AL _, fun b h => h.elim⟩
     refine Wn 9 ?_
     intro a w hS
     refine AW (γ := Nat) (fun k2 a w => St 121 Ai w0 a w [(7, .int .i64 (k2 : Int)), (2, .pointer (some ⟨b2, 0, none⟩)), (1, .int .i64 (d : Int))] [.blk b2 [.int .i64 (kd : Int), .string (tx t), .slice la rows.length lc, .slice na ns.length nc] 132, AG W0] ∧ k2 ≤ ns.length ∧ (ns.take k2).Nodup) (fun k2 => ns.length - k2) 0 ⟨hS.sp, Nat.zero_le _, List.nodup_nil⟩ ?_
     intro k2 a w hI
     obtain ⟨hS, hk2, hnd⟩ := hI
     refine Wh 9 hS ?_
     refine Lm 4 90 (.bool (decide (k2 < ns.length))) ?_ ?_
     ·
      intro hcM90
      refine Gd 86 ?_ ?_ <;> intro hg86
      ·
       refine Wn 4 ?_
       exact Et 5 90 86 hcM90 rfl (by rw [decide_eq_true (show (kd : Int) = 6 by omega), decide_eq_true (show k2 < ns.length by omega)]) hg86
      refine Wn 4 ?_
      exact Ef 5 90 86 hcM90 rfl ((decide_eq_false (by omega)).symm) hg86
     ·
      refine Wn 2 ?_
      refine iD (fun hc90 => ?_) fun hc90 => ?_
      ·
       obtain ⟨x, hx⟩ : ∃ x, ns[k2]? = some x := ⟨_, List.getElem?_eq_getElem hc90⟩
       have hrd := rU hT hc90
       have hcap := aT hn1 (fun e => by rw [List.map_eq_nil_iff] at e; rw [e] at hc90; exact absurd hc90 (Nat.not_lt_zero _))
       have htl : (ns.take k2).length = k2 := by rw [List.length_take]; omega
       obtain ⟨bx, ox, rfl, hcx⟩ := hT.at_ (fun e => by rw [e] at hc90; exact absurd hc90 (Nat.not_lt_zero _))
       refine Wn 5 ?_
       refine Dr 10 [] [.blk b2 [.int .i64 (kd : Int), .string (tx t), .slice la rows.length lc, .slice (some ⟨bx, ox, none⟩) ns.length nc] 132, AG W0] ?_
       refine ZR 3 ?_
       refine Zx rfl (Hu (j := k2) rfl rfl Ar.1 A8.1 (by omega)) ?_
       refine ZR 3 ?_
       refine Zx rfl (BI rfl rfl Ar.1 A8.1 hc90) ?_
       refine Zy rfl (AI rfl Af.1 (fun w hh => by rw [Nat.mul_one]; exact AF (hh (AG W0) (by repeat constructor)) (hcx k2 _ hx))) ?_
       refine Z0 rfl (cP YX (fun hS => (by have := Ud W0 (some ⟨bx, ox, none⟩) nc (ns.take k2) hrd (by omega) x _ hS.od; rw [htl] at this; exact this)) ?_)
       refine Za ?_
       refine Wn 2 ?_
       refine iD (fun hc102 => ?_) fun hc102 => ?_
       ·
        refine Wn 6 ?_
        intro a w hS
        refine AD (AC (AC (AD (AC ?_))))
        refine Ro hS Tryz.results116 ?_
        exact ⟨⟨12, ⟨fun h => absurd h (by decide), fun ho => by
          have hnd2 := (ho.2.2 hk6).2.2.2.2.1
          have hsp : ns = ns.take k2 ++ x :: ns.drop (k2 + 1) := by
            conv => lhs; rw [← List.take_append_drop k2 ns, List.drop_eq_getElem_cons hc90, (List.getElem?_eq_some_iff.1 hx).2]
          rw [hsp] at hnd2
          exact ((List.nodup_append.1 hnd2).2.2 x hc102 x (.head _) rfl).elim⟩, by decide⟩, rfl, hS.chg, AL _, fun b h => h.elim⟩
       refine Wn 8 ?_
       intro a w hS
       refine ⟨k2 + 1, by omega, hS.sp, by omega, ?_⟩
       rw [BG hx]
       exact List.nodup_append.2 ⟨hnd, by simp, fun a ha b hb e => by rw [List.mem_singleton.1 hb] at e; exact hc102 (e ▸ ha)⟩
      rw [List.take_of_length_le (by omega)] at hnd
      refine Wn 1 ?_
      intro a w hS
      refine AH (AH (Aj ?_))
      refine Wq 8 hS ?_; intro a hS
      refine AW (γ := Nat) (fun k4 a w => St 121 Ai w0 a w [(8, .int .i64 (k4 : Int)), (2, .pointer (some ⟨b2, 0, none⟩)), (1, .int .i64 (d : Int))] [.blk b2 [.int .i64 (kd : Int), .string (tx t), .slice la rows.length lc, .slice na ns.length nc] 132, AG W0] ∧ k4 ≤ rows.length ∧ ∀ (j : Nat) (x : JV), j < k4 → l[j]? = some x → Cp n (d + 1) x) (fun k4 => rows.length - k4) 0 ⟨hS.sp, Nat.zero_le _, fun j _ hj => by omega⟩ ?_
      intro k4 a w hI
      obtain ⟨hS, hk4, hok⟩ := hI
      refine Wh 10 hS ?_
      refine iD (fun hc107 => ?_) fun hc107 => ?_
      ·
       have hkn : k4 < rows.length := by omega
       obtain ⟨lb, lo, lc', e3, hlb, hcl⟩ := FL hn2 (fun e => by rw [e] at hkn; exact absurd hkn (Nat.not_lt_zero _))
       injection e3 with e3 _ _
       subst e3
       obtain ⟨v, hv⟩ : ∃ x, l[k4]? = some x := ⟨_, List.getElem?_eq_getElem (by omega)⟩
       obtain ⟨r, hr⟩ : ∃ x, rows[k4]? = some x := ⟨_, List.getElem?_eq_getElem hkn⟩
       have hjv := hn4 k4 v r hv hr
       obtain ⟨lv2, nv2, ⟨a1, a2, a3, rfl⟩, ⟨a4, a5, a6, rfl⟩, hrc⟩ := hjv.four
       subst hrc
       refine Wn 9 ?_
       refine Xp (BI rfl rfl CY.1 Bs.1 hkn) ?_
       refine Xp (BV (l := [.int .i64 (v.k : Int), .string (tx v.t), .slice a1 a2 a3, .slice a4 a5 a6]) rfl Gl.1 Bs.1 (fun w hh j x hx => AF (hh (AG W0) (by repeat constructor)) (hcl k4 _ hr j x hx))) ?_
       refine Wn 2 ?_
       intro a w hS
       rw [show (d : Int) + 1 = ((d + 1 : Nat) : Int) by omega] at hS
       refine Aa (PA hS YL (IH v _ (d + 1) _ (hgk v (List.mem_of_getElem? hv)) (hs5 v (List.mem_of_getElem? hv)) hjv hS.od (by omega)) ?_); intro x117
       refine Wn 9 ?_
       refine iD (fun hc119 => ?_) fun hc119 => ?_
       ·
        refine Wn 7 ?_
        intro a w hS
        refine AD (AC (AC (AD (AC ?_))))
        refine Ro hS Tryz.results116 ?_
        exact ⟨⟨x117.1, ⟨fun h => absurd h hc119, fun ho => absurd (x117.2.1.2 ((ho.2.2 hk6).2.2.2.2.2 v (List.mem_of_getElem? hv))) hc119⟩, x117.2.2⟩, rfl, hS.chg, AL _, fun b h => h.elim⟩
       refine Wn 8 ?_
       intro a w hS
       refine ⟨k4 + 1, by omega, hS.sp, hkn, fun j x hj hx => ?_⟩
       by_cases e : j = k4
       · subst e; rw [hv] at hx; cases hx; exact x117.2.1.1 (Classical.not_not.1 hc119)
       · exact hok j x (by omega) hx
      refine Wn 1 ?_
      intro a w hS
      refine AH (AH (Aj ?_))
      refine Wh 7 hS ?_
      intro a w hS
      refine Ro hS Tryz.results116 ?_
      refine ⟨⟨0, ⟨fun _ => ⟨hnum, hval, fun _ => ⟨hvn, hnl, by omega, by omega, hnd, fun x hx => ?_⟩⟩, fun _ => rfl⟩, by decide⟩, rfl, hS.chg, AL _, fun b h => h.elim⟩
      obtain ⟨j, hj⟩ := List.getElem?_of_mem hx
      exact hok j x (by have := (List.getElem?_eq_some_iff.1 hj).1; omega) hj
theorem JW (W0 : World) : ∀ n, qE W0 n
 | 0 => fun _ _ _ _ hg => hg.elim
 | n + 1 => NJ W0 n (JW W0 n)
section
section
variable {P : Program} {n : NN} {a : Act} {L : List (Nat × Value)} {Γ : List AT} {dst : Option Nat} {ty : Nat} {pos : String} {af : Array Edge} {g : Option (Nat × Bool)}
theorem kJ {t t' : TypeId} {x y : Operand} {i j : List UInt8} (hx : ev L x = some (.string (tx i))) (hy : ev L y = some (.string (tx j))) : Ex P n a L Γ ⟨dst, .binOp .lss t x y t', ty, pos, af, g⟩ (.bool (decide (i < j))) := fun hs w hh => by
 have e : Op.bytesLess (tx i).toList (tx j).toList = decide (i < j) := by rw [ByteArray.toList_eq, ByteArray.toList_eq, FH, FH, HH]
 simp only [execOp, hs.ev hx, hs.ev hy, eqGuard, binOp, Op.stringOp, ← e]
 rfl
end
def EO (x : List UInt8) : List (List UInt8) → List (List UInt8)
 | [] => [x]
 | y :: r => if y < x then y :: EO x r else if y = x then y :: r else x :: y :: r
def BW (ns : List (List UInt8)) : List (List UInt8) := ns.foldl (fun o x => EO x o) []
theorem Lr {x : List UInt8} : ∀ {o : List (List UInt8)} {k : Nat}, k ≤ o.length → (∀ j y, j < k → o[j]? = some y → y < x) → (∀ y, o[k]? = some y → ¬ y < x) → EO x o = if o[k]? = some x then o else o.take k ++ x :: o.drop k
 | [], k, hk, _, _ => by
   obtain rfl : k = 0 := by simpa using hk
   rfl
 | y :: r, 0, _, _, h2 => by
   unfold EO
   rw [if_neg (h2 y rfl)]
   by_cases e : y = x
   · subst e; rw [if_pos rfl, if_pos (show (y :: r)[0]? = some y from rfl)]
   · rw [if_neg e, if_neg (by simpa using e)]; rfl
 | y :: r, k + 1, hk, h1, h2 => by
   unfold EO
   rw [if_pos (h1 0 y (by omega) rfl), Lr (k := k) (by simpa using hk) (fun j z hj hz => h1 (j + 1) z (by omega) (by simpa using hz)) (fun z hz => h2 z (by simpa using hz))]
   simp only [List.getElem?_cons_succ, List.take_succ_cons, List.drop_succ_cons]
   split <;> rfl
theorem JY {x y : List UInt8} : ∀ {o : List (List UInt8)}, y ∈ EO x o ↔ y = x ∨ y ∈ o
 | [] => by simp [EO]
 | z :: r => by
   unfold EO
   split
   · rw [List.mem_cons, JY, List.mem_cons]; exact or_left_comm
   ·
    split
    ·
     rename_i e; rw [List.mem_cons, ← e]; constructor
     · exact .inr
     ·
      rintro (h | h)
      · exact .inl h
      · exact h
    · rw [List.mem_cons]
theorem Kl {x : List UInt8} : ∀ {o : List (List UInt8)}, o.Pairwise (· < ·) → (EO x o).Pairwise (· < ·)
 | [], _ => by simp [EO]
 | z :: r, h => by
   obtain ⟨h1, h2⟩ := List.pairwise_cons.1 h
   unfold EO
   split
   ·
    rename_i hz
    refine List.pairwise_cons.2 ⟨fun y hy => ?_, Kl h2⟩
    rcases JY.1 hy with rfl | hy
    · exact hz
    · exact h1 y hy
   ·
    rename_i hz
    split
    · exact h
    ·
     rename_i hne
     have hlt : x < z := by
      rcases List.le_iff_lt_or_eq.1 (List.not_lt.1 hz) with h3 | h3
      · exact h3
      · exact absurd h3.symm hne
     refine List.pairwise_cons.2 ⟨fun y hy => ?_, h⟩
     rcases List.mem_cons.1 hy with rfl | hy
     · exact hlt
     · exact List.lt_trans hlt (h1 y hy)
theorem IY : ∀ (ns o : List (List UInt8)), o.Pairwise (· < ·) → (ns.foldl (fun o x => EO x o) o).Pairwise (· < ·) ∧ ∀ y, y ∈ ns.foldl (fun o x => EO x o) o ↔ y ∈ ns ∨ y ∈ o
 | [], o, h => ⟨h, fun y => by simp⟩
 | x :: r, o, h => by
   obtain ⟨h1, h2⟩ := IY r (EO x o) (Kl h)
   refine ⟨h1, fun y => ?_⟩
   show y ∈ r.foldl (fun o x => EO x o) (EO x o) ↔ _
   rw [h2 y, JY, List.mem_cons]
   constructor
   ·
    rintro (h | h | h)
    · exact .inl (.inr h)
    · exact .inl (.inl h)
    · exact .inr h
   ·
    rintro ((h | h) | h)
    · exact .inr (.inl h)
    · exact .inl h
    · exact .inr (.inr h)
def Oh (o : List (List UInt8)) (k : Nat) (x : List UInt8) : Bool := match o[k]? with | none => false | some y => decide (y < x)
theorem Ug {E m c k : Nat} {q : Option Addr} {xs : List (List UInt8)} {w : World} (h : w.ownsRow 0 E 1 (.slice q m c) m (xs.flatMap AM)) (hk : k ≤ m) : Pt w q k ((xs.take k).flatMap AM) := by
 rcases Ma h (fun _ => rfl) hk with ⟨_, h1, _, h2⟩ | h1
 · exact .inl ⟨h1, h2⟩
 · exact .inr h1
theorem Uh {E m c k : Nat} {q : Option Addr} {xs : List (List UInt8)} {w : World} (h : w.ownsRow 0 E 1 (.slice q m c) m (xs.flatMap AM)) (hx : xs.length = m) (hk : k ≤ m) : Pt w (Cu q k c 1) (m - k) ((xs.drop k).flatMap AM) := by
 rcases TO h (fun _ => rfl) hx hk with ⟨_, h1, _, h2⟩ | h1
 · exact .inl ⟨h1, h2⟩
 · exact .inr h1
theorem Aq {E m c k g : Nat} {xs : List (List UInt8)} {w : World} {y : List UInt8} (h : w.ownsRow 0 E 1 (.slice (some ⟨g, 0, none⟩) m c) m (xs.flatMap AM)) (hy : xs[k]? = some y) : w.cell? ⟨g, 0 + k * 1, none⟩ = some (.string (tx y)) := by
 have h1 := World.ownsRow.cells h (g := g) rfl k _ (NF hy)
 rw [BH] at h1
 rw [Nat.mul_one]; exact h1
theorem Km (W0 : World) (q : Option Addr) (c : Nat) (ns : List (List UInt8)) (h : Pt W0 q ns.length (ns.flatMap AM)) (hn : ns.length ≤ 1000000) (w0 : World) (ho : AQ W0 w0) :
 Bb Tryz.prog 163 [.slice q ns.length c] w0 (fun v : Option Addr × Nat => .slice v.1 (BW ns).length v.2) (fun v => oR 9 1 v.1 (BW ns) v.2 AM) := by
 refine Ew Ai Tryz.func163 Tryz.ntmps163 ho ?_
 intro a hS
 refine Wq 17 hS ?_; intro a hS
 refine AW (γ := Nat × List (List UInt8) × Option Addr × Nat) (fun G a w => St 63 Ai w0 a w [(4, .int .i64 (G.1 : Int)), (3, .slice G.2.2.1 G.2.1.length G.2.2.2), (0, .slice q ns.length c)] [oR 9 1 G.2.2.1 G.2.1 G.2.2.2 AM, AG W0] ∧ G.1 ≤ ns.length ∧ G.2.1.length ≤ G.1 ∧ BW ns = (ns.drop G.1).foldl (fun o x => EO x o) G.2.1) (fun G => ns.length - G.1) (0, [], none, 0) ⟨((hS.own_nil 9 1).sq).pk, Nat.zero_le _, Nat.le_refl _, rfl⟩ ?_
 intro G a w hI
 obtain ⟨i, o, qo, co⟩ := G
 obtain ⟨hS, hi, hoi, hgo⟩ := hI
 simp only at hS hi hoi hgo
 refine Wh 9 hS ?_
 refine iD (fun hc10 => ?_) fun hc10 => ?_
 ·
  have hil : i < ns.length := by omega
  obtain ⟨x, hx⟩ : ∃ x, ns[i]? = some x := ⟨_, List.getElem?_eq_getElem hil⟩
  obtain ⟨bx, ox, hqx, hcx⟩ := Uc h hx
  rw [List.drop_eq_getElem_cons hil, (List.getElem?_eq_some_iff.1 hx).2, List.foldl_cons] at hgo
  refine Wn 11 ?_
  intro a w hS
  refine AW (γ := Nat) (fun k a w => St 63 Ai w0 a w [(5, .int .i64 (k : Int)), (4, .int .i64 (i : Int)), (3, .slice qo o.length co), (0, .slice q ns.length c)] [oR 9 1 qo o co AM, AG W0] ∧ k ≤ o.length ∧ ∀ j y, j < k → o[j]? = some y → y < x) (fun k => o.length - k) 0 ⟨hS.sp, Nat.zero_le _, fun j y hj => by omega⟩ ?_
  intro k a w hI
  obtain ⟨hS, hk, hlt⟩ := hI
  refine Wh 2 hS ?_
  refine Dr 15 [] [oR 9 1 qo o co AM, AG W0] ?_
  refine ZR 5 ?_
  intro a w hS
  refine CG 0 (tf 15 0) 27 (.bool (Oh o k x)) hS ?_ ?_
  ·
   intro hcM27
   refine Un hS (Gd 17 ?_ ?_) <;> intro hg17
   ·
    have hkl : k < o.length := by omega
    obtain ⟨y, hy⟩ : ∃ y, o[k]? = some y := ⟨_, List.getElem?_eq_getElem hkl⟩
    intro a w hS
    obtain ⟨g, rfl⟩ := Dv (hS.gg (X := oR 9 1 qo o co AM)) (by omega)
    subst hqx
    refine Un hS (ZR 2 ?_)
    refine Zx rfl (BI rfl rfl Ar.1 A8.1 hkl) ?_
    refine Zy rfl (AI rfl Af.1 (fun w hh => Aq (hh (oR 9 1 (some ⟨g, 0, none⟩) o co AM) (by repeat constructor)) hy)) ?_
    refine ZR 2 ?_
    refine Zx rfl (BI rfl rfl Ar.1 A8.1 hil) ?_
    refine Zy rfl (AI rfl Af.1 (fun w hh => by rw [Nat.mul_one]; exact AF (hh (AG W0) (by repeat constructor)) hcx)) ?_
    refine Zx rfl (kJ rfl rfl) ?_
    refine ZR 1 ?_
    exact Et 11 27 17 hcM27 rfl (by unfold Oh; rw [hy]) hg17
   refine ZR 10 ?_
   exact Ef 11 27 17 hcM27 rfl (by unfold Oh; rw [List.getElem?_eq_none (by omega)]) hg17
  ·
   intro a w hS
   refine Wh 2 hS ?_
   refine iB (fun hc27 => ?_) fun hc27 => ?_
   ·
    refine Wn 9 ?_
    have hkl2 : k < o.length := by
     rcases Nat.lt_or_ge k o.length with h1 | h1
     · exact h1
     · unfold Oh at hc27; rw [List.getElem?_eq_none h1] at hc27; cases hc27
    intro a w hS
    exact ⟨k + 1, by omega, hS.sp, by omega, fun j y hj hy => by
      rcases Nat.lt_or_ge j k with h1 | h1
      · exact hlt j y h1 hy
      · obtain rfl : j = k := by omega
        unfold Oh at hc27; rw [hy] at hc27; exact of_decide_eq_true hc27⟩
   refine Wn 1 ?_
   intro a w hS
   refine AH (AH (Aj ?_))
   refine Wh 3 hS ?_
   refine Dr 15 [] [oR 9 1 qo o co AM, AG W0] ?_
   refine ZR 5 ?_
   intro a w hS
   refine CG 0 (tf 15 0) 44 (.bool (decide (o[k]? = some x))) hS ?_ ?_
   ·
    intro hcM44
    refine Un hS (Gd 34 ?_ ?_) <;> intro hg34
    ·
     have hkl : k < o.length := by omega
     obtain ⟨y, hy⟩ : ∃ y, o[k]? = some y := ⟨_, List.getElem?_eq_getElem hkl⟩
     intro a w hS
     obtain ⟨g, rfl⟩ := Dv (hS.gg (X := oR 9 1 qo o co AM)) (by omega)
     subst hqx
     refine Un hS (ZR 2 ?_)
     refine Zx rfl (BI rfl rfl Ar.1 A8.1 hkl) ?_
     refine Zy rfl (AI rfl Af.1 (fun w hh => Aq (hh (oR 9 1 (some ⟨g, 0, none⟩) o co AM) (by repeat constructor)) hy)) ?_
     refine ZR 2 ?_
     refine Zx rfl (BI rfl rfl Ar.1 A8.1 hil) ?_
     refine Zy rfl (AI rfl Af.1 (fun w hh => by rw [Nat.mul_one]; exact AF (hh (AG W0) (by repeat constructor)) hcx)) ?_
     refine ZR 2 ?_
     exact Et 11 44 34 hcM44 rfl (by rw [hy]; exact decide_eq_decide.2 ⟨fun h => by rw [Bn h], fun h => by injection h with h; rw [h]⟩) hg34
    refine ZR 10 ?_
    exact Ef 11 44 34 hcM44 rfl (by rw [List.getElem?_eq_none (by omega)]; rfl) hg34
   ·
    intro a w hS
    refine Wh 2 hS ?_
    refine iD (fun hc44 => ?_) fun hc44 => ?_
    ·
     refine Wn 1 ?_
     intro a w hS
     refine AH (Aj ?_)
     refine Wh 6 hS ?_
     have hin : EO x o = o := by
      rw [Lr hk hlt (fun y hy h => by unfold Oh at hc27; rw [hy] at hc27; exact of_decide_eq_false hc27 h), if_pos hc44]
     intro a w hS
     exact ⟨(i + 1, o, qo, co), by show ns.length - (i + 1) < ns.length - i; omega, hS.sp, by show i + 1 ≤ ns.length; omega, by show o.length ≤ i + 1; omega, by rw [hin] at hgo; exact hgo⟩
    refine Wn 4 ?_
    intro a w hS
    have hoc : o.length ≤ co := PZ (hS.gg (X := oR 9 1 qo o co AM))
    have hin : EO x o = o.take k ++ x :: o.drop k := by
     rw [Lr hk hlt (fun y hy h => by unfold Oh at hc27; rw [hy] at hc27; exact of_decide_eq_false hc27 h), if_neg hc44]
    subst hqx
    refine Un hS (Lo (Bz ?_)); intro b45
    intro a w hS
    replace hS := hS.swap (X := .blk b45 [] 9) (Y := AJ 9 1 (.slice (some ⟨b45, 0, none⟩) 0 0) 0 []) (by repeat constructor) (Cg (hS.gg (X := .blk b45 [] 9))) (fun b hb => by simpa [AJ, AT.F, Value.ownBlock, eq_comm] using hb) rfl
    refine Wh 2 hS ?_
    refine Xp (Hu (j := k) rfl rfl Ar.1 A8.1 (by omega)) ?_
    intro a w hS
    refine Aa (Cx hS rfl rfl Ar.1 A8.1 EG.1 Ec.1 rfl rfl rfl (by repeat constructor) (ys := (o.take k).flatMap AM) (by rw [Cc AM 1 (fun _ => rfl), List.length_take]; omega) (Ug (hS.gg (X := oR 9 1 qo o co AM)) hk) (OP _) (by omega) (fun _ => (by repeat constructor)) ?_); intro v49 a w hv49 hS
    obtain ⟨q49, c49, rfl⟩ := AN (hS.gg (X := AJ 9 1 v49 (0 + k) ([] ++ (o.take k).flatMap AM)))
    rw [Nat.zero_add, List.nil_append] at hS
    refine Wh 8 hS ?_
    refine Xp (BI rfl rfl Ar.1 A8.1 hil) ?_
    refine Xp (AI rfl Af.1 (fun w hh => by rw [Nat.mul_one]; exact AF (hh (AG W0) (by repeat constructor)) hcx)) ?_
    refine Lo (Bz ?_); intro b55
    refine Lo (A1 ?_); intro v56 hv56
    intro a w hS
    obtain ⟨q56, c56, rfl⟩ := AN (hS.gg (X := AJ 9 1 v56 (k + 1) ((o.take k).flatMap AM ++ [.string (tx x)])))
    refine Wh 7 hS ?_
    refine Xp (MZ (j := k) rfl rfl Ar.1 A8.1 hk) ?_
    intro a w hS
    refine Aa (Cx hS rfl rfl Ar.1 A8.1 EG.1 Ec.1 rfl rfl rfl (by repeat constructor) (ys := (o.drop k).flatMap AM) (by rw [Cc AM 1 (fun _ => rfl), List.length_drop]) (Uh (hS.gg (X := oR 9 1 qo o co AM)) rfl hk) (OP _) (by omega) (fun _ => (by repeat constructor)) ?_); intro v61 a w hv61 hS
    obtain ⟨q61, c61, rfl⟩ := AN (hS.gg (X := AJ 9 1 v61 (k + 1 + (o.length - k)) (((o.take k).flatMap AM ++ [.string (tx x)]) ++ (o.drop k).flatMap AM)))
    refine Wh 9 hS ?_
    have hl : k + 1 + (o.length - k) = (EO x o).length := by rw [hin, List.length_append, List.length_take, List.length_cons, List.length_drop]; omega
    have hf : ((o.take k).flatMap AM ++ [.string (tx x)]) ++ (o.drop k).flatMap AM = (EO x o).flatMap AM := by rw [hin, List.flatMap_append, List.flatMap_cons, List.append_assoc]; rfl
    intro a w hS
    rw [hl, hf] at hS
    exact ⟨(i + 1, EO x o, q61, c61), by show ns.length - (i + 1) < ns.length - i; omega, hS.sp, by show i + 1 ≤ ns.length; omega, by show (EO x o).length ≤ i + 1; omega, hgo⟩
 refine Wn 1 ?_
 intro a w hS
 refine AH (AH (Aj ?_))
 refine Wh 8 hS ?_
 intro a w hS
 refine Ro hS Tryz.results163 ?_
 rw [List.drop_of_length_le (by omega)] at hgo
 have hgo : BW ns = o := hgo
 rw [hgo]
 exact ⟨(qo, co), rfl, hS.chg, hS.ok (oR 9 1 qo o co AM) (by repeat constructor), fun b hb => (hS.mine (oR 9 1 qo o co AM) (by repeat constructor) rfl b hb).resolve_right id⟩
end
def Ce (fl : List Fg) (k : Nat) : List (List UInt8) := (fl.take k).map fun x => x.f.nm
theorem F3 {fl : List Fg} {k : Nat} {x : Fg} (h : fl[k]? = some x) : Ce fl (k + 1) = Ce fl k ++ [x.f.nm] := by
 unfold Ce; rw [BG h, List.map_append]; rfl
theorem Kn {fl : List Fg} {k : Nat} {x : Fg} (c : Cd) (ns : List (List UInt8)) (l : List JV) (h : fl[k]? = some x) : DJ (AE (fl.drop k)) c ns l = match Av x.f c with
 | (none, _) => none
 | (some y, c') => DJ (AE (fl.drop (k + 1))) c' (ns ++ [x.f.nm]) (l ++ [y]) := by
 unfold AE
 rw [List.drop_eq_getElem_cons (List.getElem?_eq_some_iff.1 h).1, (List.getElem?_eq_some_iff.1 h).2, List.map_cons]
 conv => lhs; unfold DJ
 generalize Av x.f c = p
 rcases p with ⟨_ | y, c'⟩ <;> rfl
theorem Rn {fl : List Fg} {k : Nat} {x : Fg} {c : Cd} {y : JV} (ns : List (List UInt8)) (l : List JV) (h : fl[k]? = some x) (hy : (Av x.f c).1 = some y) : DJ (AE (fl.drop k)) c ns l = DJ (AE (fl.drop (k + 1))) (Av x.f c).2 (ns ++ [x.f.nm]) (l ++ [y]) := by
 rw [Kn c ns l h]
 generalize Av x.f c = p at *
 obtain ⟨p1, p2⟩ := p
 simp only at hy
 subst hy
 rfl
theorem Rp (c : Cd) (ns : List (List UInt8)) (l : List JV) (fl : List Fg) : DJ (AE (fl.drop fl.length)) c ns l = some (.mk 6 [] ns l, c) := by
 rw [List.drop_length]; rfl
theorem XZ {f : Fd} {c : Cd} (h : c.ok) : (Av f c).2.ok := by
 unfold Av
 split
 · exact h.putT _
 ·
  split
  · exact h.putN _
  · exact ⟨h.t, h.n⟩
def Ui (f : Fd) (fa : Option Addr) : Option Addr := if f.kd = 2 then none else fa
def Xa (f : Fd) (fc : Nat) : Nat := if f.kd = 2 then 0 else fc
theorem Xb {f : Fd} (hf : f.ok) (c : Cd) (fa : Option Addr) (fc : Nat) : (if f.kd = 2 then Value.slice none 0 0 else .slice fa c.fx.length fc) = .slice (Ui f fa) (Av f c).2.fx.length (Xa f fc) := by
 unfold Ui Xa Av
 rcases hf.kd with h | h | h <;> simp [h, Cd.putT, Cd.putN]
theorem Xc (W : World) : H4 W none [] := ⟨fun h => absurd rfl h, Nat.zero_le _, fun x h => by cases h⟩
theorem Uj {f : Fd} (hf : f.ok) {c : Cd} {fa : Option Addr} {W : World} (h : H4 W fa c.fx) : H4 W (Ui f fa) (Av f c).2.fx := by
 unfold Ui Av
 rcases hf.kd with h2 | h2 | h2
 · rw [if_neg (by omega), if_pos h2]; exact h
 · rw [if_neg (by omega), if_neg (by omega), if_pos h2]; exact h
 · rw [if_pos h2, if_neg (by omega), if_neg (by omega)]; exact Xc W
theorem Xd {f : Fd} {c : Cd} {cb : Nat} {fv : Value} {w : World} (r : mR f c) (h : (eQ f c cb fv r).ok w) : ∃ (k : Int) (s : ByteArray) (a1 : Option Addr) (a2 a3 : Nat) (a4 : Option Addr) (a5 a6 : Nat) (b : Bool), rD f c r = .tuple [.agg [.int .i64 k, .string s, .slice a1 a2 a3, .slice a4 a5 a6].toArray, .bool b].toArray ∧
 ((b = true ∧ ∃ x : { x : JX // (Av f c).1 = some x.v }, r = .inl x ∧ x.1.cs = [.int .i64 k, .string s, .slice a1 a2 a3, .slice a4 a5 a6]) ∨ (b = false ∧ ∃ p, r = .inr p)) := by
 rcases r with x | p
 ·
  have hd : (Be 2 x.1).ok w := ((show (C5 _ (Be 2 x.1)).ok w from h).now).2.1
  obtain ⟨lv, nv, ⟨a1, a2, a3, rfl⟩, ⟨a4, a5, a6, rfl⟩, hcs⟩ := DZ.four hd.now
  exact ⟨_, _, a1, a2, a3, a4, a5, a6, true, by show Value.tuple [.agg x.1.cs.toArray, .bool true].toArray = _; rw [hcs], .inl ⟨rfl, x, rfl, hcs⟩⟩
 ·
  obtain ⟨p0, h0, k, s, a1, a2, a3, a4, a5, a6, rfl⟩ := p
  exact ⟨k, s, a1, a2, a3, a4, a5, a6, false, rfl, .inr ⟨rfl, _, rfl⟩⟩
theorem Xe {n : Nat} {v : JV} (r : pL n v) : ∃ (q : Option Addr) (m c : Nat) (e : Int), pM n v r = .tuple [.slice q m c, .int .i64 e].toArray ∧
 ((e = 0 ∧ ∃ x : { x : (Nat × Nat) × JV × List UInt8 // Cp n 0 v ∧ PJ n v x.2.1 x.2.2 ∧ x.2.2.length ≤ 65536 ∧ x.2.2.length ≤ x.1.2 }, r = .inl x ∧ q = some ⟨x.1.1.1, 0, none⟩ ∧ m = x.1.2.2.length ∧ c = x.1.1.2) ∨ ((e ≠ 0 ∧ (e = 8 → Cp n 0 v)) ∧ (Cp n 0 v → e = 8 ∧ 65536 < BY n v))) := by
 rcases r with x | x
 · exact ⟨_, _, _, 0, rfl, .inl ⟨rfl, x, rfl, rfl, rfl, rfl⟩⟩
 · exact ⟨none, 0, 0, x.1, rfl, .inr x.2⟩
theorem Ho (w0 : World) (lo : Nat) (h : lo = w0.heap.size) : Bb Tryz.prog 26 [] w0 (fun x : Nat × Nat × (Nat → Nat) => .slice (some ⟨x.2.1, 0, none⟩) 12 12) (fun x => Er lo x.1 x.2.1 x.2.2) := by
 rw [h]; exact RZ w0
structure kK (c : Cd) (path s : List UInt8) (v r : JV) (k : Nat) (fl : List Fg) (c' : Cd) : Prop where
 x : DK[k]? = some (path, fl)
 kd : (k : Int) + 1 = c.kind
 q : DJ (AE fl) c [] [] = some (v, c')
 e : CD c'
 f : Cp 3 0 v
 p : PJ 3 v r s
 n : s.length ≤ 32768
def Xf (c : Cd) : Prop := ∃ (k : Nat) (path : List UInt8) (fl : List Fg) (v : JV) (c' : Cd), DK[k]? = some (path, fl) ∧ (k : Int) + 1 = c.kind ∧ DJ (AE fl) c [] [] = some (v, c') ∧ CD c' ∧ Cp 3 0 v
def Xh (c : Cd) (e : Int) : Prop := (e = 7 ∧ ¬ (1 ≤ c.kind ∧ c.kind ≤ 14)) ∨ ((1 ≤ c.kind ∧ c.kind ≤ 14) ∧ ((e = 10 ∧ ¬ Xf c) ∨ (e = 8 ∧ Xf c)))
def NK (c : Cd) (e : Int) : Prop := Xh c e ∧ (c.kind = 13 ∨ c.kind = 14 → (Au c).2 = false) ∧ ∀ (k : Nat) (path : List UInt8) (fl : List Fg) (v : JV) (c' : Cd), DK[k]? = some (path, fl) → (k : Int) + 1 = c.kind → DJ (AE fl) c [] [] = some (v, c') → CD c' → Cp 3 0 v → e = 8 ∧ 32768 < BY 3 v
theorem NL {c : Cd} (h : ∀ j : Nat, j < 12 → (j : Int) + 1 ≠ c.kind) : ¬ Xf c := fun ⟨k, _, _, _, _, hx, hk, _⟩ => h k (List.getElem?_eq_some_iff.1 hx).1 hk
theorem Uk {c : Cd} (h : c.kind = 13 ∨ c.kind = 14) (hp : (Au c).2 = false) : NK c 10 := ⟨.inr ⟨by omega, .inl ⟨rfl, NL fun j hj => by omega⟩⟩, fun _ => hp, fun k path fl v c' hx hk => by
  have hk12 : k < 12 := (List.getElem?_eq_some_iff.1 hx).1
  omega⟩
theorem Ul {c : Cd} (h : ¬ (c.kind = 13 ∨ c.kind = 14)) (hn : ∀ j : Nat, j < 12 → decide ((j : Int) + 1 = c.kind) = false) : NK c 7 := ⟨.inl ⟨rfl, fun h2 => of_decide_eq_false (hn (c.kind - 1).toNat (by omega)) (by omega)⟩, fun h2 => absurd h2 h, fun k path fl v c' hx hk => by
  have hk12 : k < 12 := (List.getElem?_eq_some_iff.1 hx).1
  exact absurd hk (of_decide_eq_false (hn k hk12))⟩
theorem HJ {c : Cd} {e : Int} {k : Nat} {path : List UInt8} {fl : List Fg} (h : ¬ (c.kind = 13 ∨ c.kind = 14)) (hx : DK[k]? = some (path, fl)) (hk : (k : Int) + 1 = c.kind) (hw : (e = 10 ∧ ∀ v c', DJ (AE fl) c [] [] = some (v, c') → CD c' → ¬ Cp 3 0 v) ∨ (e = 8 ∧ ∃ v c', DJ (AE fl) c [] [] = some (v, c') ∧ CD c' ∧ Cp 3 0 v)) (hr : ∀ v c', DJ (AE fl) c [] [] = some (v, c') → CD c' → Cp 3 0 v → e = 8 ∧ 32768 < BY 3 v) : NK c e := ⟨.inr ⟨by have := (List.getElem?_eq_some_iff.1 hx).1; have h12 : DK.length = 12 := rfl; omega, hw.imp (fun h2 => ⟨h2.1, fun ⟨k2, p2, fl2, v, c', hx2, hk2, h3, h4, h5⟩ => by
  obtain rfl : k2 = k := by omega
  rw [hx] at hx2; injection hx2 with hx2; injection hx2 with _ hx2; subst hx2
  exact h2.2 v c' h3 h4 h5⟩) (fun h2 => ⟨h2.1, by obtain ⟨v, c', h3, h4, h5⟩ := h2.2; exact ⟨k, path, fl, v, c', hx, hk, h3, h4, h5⟩⟩)⟩, fun h2 => absurd h2 h, fun k2 path2 fl2 v c' hx2 hk2 h1 h2 h3 => by
  obtain rfl : k2 = k := by omega
  rw [hx] at hx2
  injection hx2 with hx2
  injection hx2 with _ hx2
  subst hx2
  exact hr v c' h1 h2 h3⟩
theorem Rq {fl : List Fg} {k : Nat} {x : Fg} {c : Cd} (ns : List (List UInt8)) (l : List JV) (h : fl[k]? = some x) (hy : (Av x.f c).1 = none) : DJ (AE (fl.drop k)) c ns l = none := by
 rw [Kn c ns l h]
 generalize Av x.f c = p at *
 obtain ⟨p1, p2⟩ := p
 simp only at hy
 subst hy
 rfl
theorem Xi {f : Fd} {c : Cd} {r : mR f c} (h : ∃ p, r = .inr p) : (Av f c).1 = none := by
 obtain ⟨p, _⟩ := h
 exact p.2.1
def mT (c : Cd) : Type := { q : (Nat × Nat) × List UInt8 × List UInt8 // (∃ v r k fl c', kK c q.2.1 q.2.2 v r k fl c') ∧ q.2.2.length ≤ q.1.2 } ⊕ ({ s : List UInt8 // (c.kind = 13 ∨ c.kind = 14) ∧ s = (Au c).1 ∧ (Au c).2 = true } ⊕ { e : Int // e ≠ 0 ∧ NK c e })
def mU (c : Cd) : mT c → Value
 | .inl q => .tuple [.agg [.string ⟨#[80, 79, 83, 84]⟩, .string (tx q.1.2.1), .slice (some ⟨q.1.1.1, 0, none⟩) q.1.2.2.length q.1.1.2, .bool false].toArray, .int .i64 0].toArray
 | .inr (.inl s) => .tuple [.agg [.string ⟨#[71, 69, 84]⟩, .string (tx s.1), .slice none 0 0, .bool false].toArray, .int .i64 0].toArray
 | .inr (.inr e) => .tuple [.agg [.string ⟨#[]⟩, .string ⟨#[]⟩, .slice none 0 0, .bool false].toArray, .int .i64 e.1].toArray
def eR (c : Cd) : mT c → AT
 | .inl q => Gb 5 q.1.1.1 (Br q.1.2.2)
 | .inr _ => A7
def FS (f g : Fd) : Prop := f.kd ≠ g.kd ∨ (f.kd < 2 ∧ f.off ≠ g.off)
instance (f g : Fd) : Decidable (FS f g) := by unfold FS; infer_instance
theorem JZ {f g : Fd} (hf : f.ok) (hg : g.ok) (h : FS f g) (c : Cd) : (Av g (Av f c).2).1 = (Av g c).1 := by
 unfold Av
 rcases hf.kd with h1 | h1 | h1 <;> rcases hg.kd with h2 | h2 | h2 <;> simp only [h1, h2] <;> simp [Cd.putT, Cd.putN]
 ·
  have ho : ¬ g.off = f.off := by
   rcases h with h | h
   · exact absurd (h1.trans h2.symm) h
   · exact fun e => h.2 e.symm
  simp [ho]
 ·
  have ho : ¬ g.off = f.off := by
   rcases h with h | h
   · exact absurd (h1.trans h2.symm) h
   · exact fun e => h.2 e.symm
  simp [ho]
 ·
  rcases h with h | h
  · exact absurd (h1.trans h2.symm) h
  · omega
def BO (fs : List Fd) (c : Cd) : Cd := fs.foldl (fun c f => (Av f c).2) c
theorem FB : ∀ (fs : List Fd) (c : Cd) (ns : List (List UInt8)) (l : List JV) (v : JV) (c' : Cd), (∀ f ∈ fs, f.ok) → fs.Pairwise FS → DJ fs c ns l = some (v, c') →
 ∃ vals : List JV, vals.length = fs.length ∧ v = .mk 6 [] (ns ++ fs.map Fd.nm) (l ++ vals) ∧ c' = BO fs c ∧ ∀ (i : Nat) (f : Fd) (y : JV), fs[i]? = some f → vals[i]? = some y → (Av f c).1 = some y
 | [], c, ns, l, v, c', _, _, h => by
   injection h with h
   injection h with h1 h2
   exact ⟨[], rfl, by rw [← h1]; simp, h2.symm, fun i f y hf => by cases hf⟩
 | f :: fs, c, ns, l, v, c', hok, hp, h => by
   obtain ⟨hp1, hp2⟩ := List.pairwise_cons.1 hp
   unfold DJ at h
   cases hv : Av f c with
   | mk o c1 =>
     rw [hv] at h
     cases o with
     | none => cases h
     | some y =>
       simp only at h
       obtain ⟨vals, h1, h2, h3, h4⟩ := FB fs c1 (ns ++ [f.nm]) (l ++ [y]) v c' (fun g hg => hok g (.tail _ hg)) hp2 h
       have hc1 : c1 = (Av f c).2 := by rw [hv]
       refine ⟨y :: vals, by simp [h1], by rw [h2]; simp, by rw [h3, hc1]; rfl, fun i g z hg hz => ?_⟩
       cases i with
       | zero =>
         obtain rfl : f = g := by simpa using hg
         obtain rfl : y = z := by simpa using hz
         rw [hv]
       | succ i =>
         have hg' : fs[i]? = some g := by simpa using hg
         have hgm := List.mem_of_getElem? hg'
         have := h4 i g z hg' (by simpa using hz)
         rw [hc1, JZ (hok f (.head _)) (hok g (.tail _ hgm)) (hp1 g hgm)] at this
         exact this
theorem Ds : ∀ x ∈ DK, (AE x.2).Pairwise FS := by
 intro x hx
 have h : ∀ y ∈ DK.map (fun x => AE x.2), y.Pairwise FS := by decide +kernel
 exact h _ (List.mem_map.2 ⟨x, hx, rfl⟩)
theorem Cm {x : List UInt8 × List Fg} (hx : x ∈ DK) : ∀ f ∈ AE x.2, f.ok := fun f hf => by
 obtain ⟨y, hy, rfl⟩ := List.mem_map.1 hf
 exact ((Hm x hx).ok y hy).fd
theorem cC {v : JV} (h : (BR v).2 = 0) : v.k = 3 := by
 apply Classical.byContradiction
 intro hk
 have e : (D1 v).2 = 13 := by unfold D1; rw [if_pos hk]
 unfold BR at h
 rw [if_neg (by rw [e]; decide), e] at h
 exact absurd h (by decide)
theorem FC {α : Type} {l : List (List UInt8 × α)} {nm : List UInt8} {y : α} (hn : (l.map (·.1)).Nodup) (h : (nm, y) ∈ l) : l.find? (fun p => p.1 == nm) = some (nm, y) := by
 induction l with
 | nil => cases h
 | cons p l ih =>
   rw [List.map_cons, List.nodup_cons] at hn
   rcases List.mem_cons.1 h with rfl | h
   · simp
   ·
    have : (p.1 == nm) = false := by
     rw [beq_eq_false_iff_ne]
     intro e
     exact hn.1 (e ▸ List.mem_map.2 ⟨_, h, rfl⟩)
    rw [List.find?_cons, this]
    exact ih hn.2 h
theorem Rr (ms : List Ee) : (ms.map (·.n)).zip (ms.map (·.r)) = ms.map fun m => (m.n, m.r) := by
 induction ms with
 | nil => rfl
 | cons m ms ih => rw [List.map_cons, List.map_cons, List.zip_cons_cons, ih]; rfl
theorem P7 {n : Nat} {t : List UInt8} {ns : List (List UInt8)} {l : List JV} {r : JV} {s nm : List UInt8} (hn : ns.Nodup) (hl : ns.length = l.length) (hp : PJ (n + 1) (.mk 6 t ns l) r s) :
 (∀ y, CI (.mk 6 t ns l) nm = some y → ∃ y' s', CI r nm = some y' ∧ PJ n y y' s') ∧ (CI (.mk 6 t ns l) nm = none → CI r nm = none) := by
 rcases (show _ ∨ _ ∨ _ ∨ _ from hp) with ⟨h2, _⟩ | ⟨h2, _⟩ | ⟨h2, _⟩ | ⟨_, ms, hpm, hs, hm, hr, _⟩
 · exact absurd h2 (by decide)
 · exact absurd h2 (by decide)
 · exact absurd h2 (by decide)
 have hkeys : (ms.map (·.n)).Nodup := by
  have e := (hpm.map (·.1))
  rw [List.map_map, List.map_fst_zip (by omega)] at e
  exact (e.nodup_iff).2 hn
 have hkeys2 : ((ms.map fun m => (m.n, m.r)).map (·.1)).Nodup := by rw [List.map_map]; exact hkeys
 subst hr
 have e1 : CI (.mk 6 t ns l) nm = ((ns.zip l).find? fun p => p.1 == nm).map (·.2) := by unfold CI; rw [if_pos (show (JV.mk 6 t ns l).k = 6 from rfl)]; rfl
 have e2 : CI (.mk 6 [] (ms.map (·.n)) (ms.map (·.r))) nm = ((ms.map fun m => (m.n, m.r)).find? fun p => p.1 == nm).map (·.2) := by
  unfold CI; rw [if_pos (show (JV.mk 6 [] (ms.map (·.n)) (ms.map (·.r))).k = 6 from rfl)]; show (((ms.map (·.n)).zip (ms.map (·.r))).find? _).map _ = _; rw [Rr]
 constructor
 ·
  intro y hy
  rw [e1] at hy
  obtain ⟨p, hp1, hp2⟩ := Option.map_eq_some_iff.1 hy
  have hpk : p.1 = nm := by simpa using List.find?_some hp1
  have hpm2 := (hpm.mem_iff).2 (List.mem_of_find?_eq_some hp1)
  obtain ⟨m, hmm, hme⟩ := List.mem_map.1 hpm2
  have hmn : m.n = nm := by rw [← hpk, ← hme]
  have hmv : m.v = y := by rw [← hp2, ← hme]
  refine ⟨m.r, m.t, ?_, hmv ▸ hm m hmm⟩
  rw [e2, FC hkeys2 (List.mem_map.2 ⟨m, hmm, by rw [hmn]⟩)]
  rfl
 ·
  intro h
  rw [e1] at h
  rw [e2]
  cases hf : (ms.map fun m => (m.n, m.r)).find? fun p => p.1 == nm with
  | none => rfl
  | some p =>
    exfalso
    have hpk : p.1 = nm := by simpa using List.find?_some hf
    obtain ⟨m, hmm, hme⟩ := List.mem_map.1 (List.mem_of_find?_eq_some hf)
    have hz := (hpm.mem_iff).1 (List.mem_map.2 ⟨m, hmm, rfl⟩)
    have hno := List.find?_eq_none.1 (Option.map_eq_none_iff.1 h) _ hz
    exact hno (by show (m.n == nm) = true; rw [← hpk, ← hme]; simp)
theorem cD {ns : List (List UInt8)} {l : List JV} {ms : List Ee} (hp : (ms.map fun m => (m.n, m.v)).Perm (ns.zip l)) {m : Ee} (hm : m ∈ ms) : m.n ∈ ns ∧ m.v ∈ l := by
 have h := (hp.mem_iff).1 (List.mem_map.2 ⟨m, hm, rfl⟩)
 exact ⟨(List.of_mem_zip h).1, (List.of_mem_zip h).2⟩
theorem Um {ns : List (List UInt8)} {l : List JV} {ms : List Ee} (hp : (ms.map fun m => (m.n, m.v)).Perm (ns.zip l)) (hn : ns.Nodup) (hl : ns.length ≤ l.length) : (ms.map (·.n)).Nodup := by
 have e := (hp.map (·.1))
 rw [List.map_map, List.map_fst_zip hl] at e
 exact (e.nodup_iff).2 hn
theorem Yy (n : Nat) (t : List UInt8) (ns : List (List UInt8)) (l : List JV) : BY (n + 1) (.mk 6 t ns l) = if (ns.zip l).isEmpty then 2 else ((ns.zip l).map fun p => (AV p.1).length + 2 + BY n p.2).sum + 1 := rfl
def FD (ps : List (List UInt8 × JV)) : JV := .mk 6 [] (ps.map (·.1)) (ps.map (·.2))
theorem Uo (ps : List (List UInt8 × JV)) : (ps.map (·.1)).zip (ps.map (·.2)) = ps := by
 induction ps with
 | nil => rfl
 | cons p ps ih => rw [List.map_cons, List.map_cons, List.zip_cons_cons, ih]
theorem Xj (ps : List (List UInt8 × JV)) (nm : List UInt8) : CI (FD ps) nm = (ps.find? fun p => p.1 == nm).map (·.2) := by
 unfold CI FD
 rw [if_pos (show (JV.mk 6 [] (ps.map (·.1)) (ps.map (·.2))).k = 6 from rfl)]
 show (((ps.map (·.1)).zip (ps.map (·.2))).find? _).map _ = _
 rw [Uo]
theorem Ls {ps : List (List UInt8 × JV)} {nm : List UInt8} {y : JV} (hn : (ps.map (·.1)).Nodup) (h : (nm, y) ∈ ps) : CI (FD ps) nm = some y := by
 rw [Xj, FC hn h]; rfl
theorem Up : ∀ x ∈ DK, ((AE x.2).map Fd.nm).Nodup := by
 intro x hx
 have h : ∀ y ∈ DK.map (fun x => (AE x.2).map Fd.nm), y.Nodup := by decide +kernel
 exact h _ (List.mem_map.2 ⟨x, hx, rfl⟩)
theorem Ja {ns : List (List UInt8)} {l : List JV} (h : ns.length = l.length) : JV.mk 6 [] ns l = FD (ns.zip l) := by
 unfold FD
 rw [List.map_fst_zip (by omega), List.map_snd_zip (by omega)]
def Hp (n : Nat) (ps : List (List UInt8 × JV)) : Nat := (ps.map fun p => (AV p.1).length + 2 + BY n p.2).sum
theorem Xk (n : Nat) (ps : List (List UInt8 × JV)) : BY (n + 1) (FD ps) = if ps.isEmpty then 2 else Hp n ps + 1 := by
 unfold FD; rw [Yy, Uo]; rfl
theorem IZ (n : Nat) (ps : List (List UInt8 × JV)) : BY (n + 1) (FD ps) ≤ Hp n ps + 2 ∧ (ps ≠ [] → BY (n + 1) (FD ps) = Hp n ps + 1) := by
 rw [Xk]
 cases ps with
 | nil => exact ⟨by simp [Hp], fun h => absurd rfl h⟩
 | cons p ps => simp
theorem P8 {n : Nat} {ps : List (List UInt8 × JV)} : Fy (n + 1) (FD ps) ↔ ps.length ≤ 1000000 ∧ ∀ p ∈ ps, p.1.length ≤ 1000000 ∧ Fy n p.2 := by
 constructor
 ·
  rintro ⟨_, h2, h3, h4, h5⟩
  exact ⟨by simpa using h2, fun p hp => ⟨h3 _ (List.mem_map.2 ⟨p, hp, rfl⟩), h5 _ (List.mem_map.2 ⟨p, hp, rfl⟩)⟩⟩
 ·
  rintro ⟨h1, h2⟩
  refine ⟨Nat.zero_le _, by simpa using h1, fun x hx => ?_, by simpa using h1, fun x hx => ?_⟩
  · obtain ⟨p, hp, rfl⟩ := List.mem_map.1 hx; exact (h2 p hp).1
  · obtain ⟨p, hp, rfl⟩ := List.mem_map.1 hx; exact (h2 p hp).2
theorem NM (w0 : World) : Ae Tryz.prog 126 [.int .i64 25] w0 (.int .i64 409) := by
 refine Eo Ai Tryz.func126 Tryz.ntmps126 ?_
 intro a hS
 refine Wh 18 hS ?_
 refine Ie 4 false rfl (by decide) ?_
 refine Wn 8 ?_
 refine Ie 6 false rfl (by decide) ?_
 refine Wn 7 ?_
 refine Ie 6 false rfl (by decide) ?_
 refine Wn 7 ?_
 refine Ie 6 false rfl (by decide) ?_
 refine Wn 7 ?_
 refine Ie 6 false rfl (by decide) ?_
 refine Wn 7 ?_
 refine Ie 6 false rfl (by decide) ?_
 refine Wn 7 ?_
 refine Ie 6 false rfl (by decide) ?_
 refine Wn 7 ?_
 refine Ie 6 false rfl (by decide) ?_
 refine Wn 7 ?_
 refine Ie 6 false rfl (by decide) ?_
 refine Wn 7 ?_
 refine Ie 6 false rfl (by decide) ?_
 refine Wn 7 ?_
 refine Ie 6 false rfl (by decide) ?_
 refine Wn 6 ?_
 refine Ie 6 false rfl (by decide) ?_
 refine Wn 8 ?_
 refine Ie 18 false rfl (by decide) ?_
 refine Wn 6 ?_
 refine Ie 18 false rfl (by decide) ?_
 refine Wn 7 ?_
 refine Ie 21 false rfl (by decide) ?_
 refine Wn 8 ?_
 refine Ie 23 false rfl (by decide) ?_
 refine Wn 7 ?_
 refine Ie 23 false rfl (by decide) ?_
 refine Wn 7 ?_
 refine Ie 23 true rfl (by decide) ?_
 refine Wn 3 ?_
 refine Ie 23 true rfl (by decide) ?_
 refine Wn 7 ?_
 intro a w hS
 refine AD (AC ?_)
 refine Ro hS Tryz.results126 ?_
 exact ⟨rfl, hS.chg⟩
theorem Rs (na la : Option Addr) (nm nc lm lc : Nat) (w0 : World) : Ae Tryz.prog 128 [.slice na nm nc, .slice la lm lc] w0 (.agg [.int .i64 6, .string ⟨#[]⟩, .slice la lm lc, .slice na nm nc].toArray) := by
 refine Eo Ai Tryz.func128 Tryz.ntmps128 ?_
 intro a hS
 refine Wh 2 hS ?_
 refine Lo (Al ?_); intro b4
 refine Wn 7 ?_
 refine Lo (Sa ?_)
 refine Wn 3 ?_
 intro a w hS
 refine Ro hS Tryz.results128 ?_
 exact ⟨rfl, hS.chg⟩
def IF : List UInt8 := [47, 105, 110, 118, 111, 105, 99, 101, 115, 47]
def Jb : List UInt8 := [47, 98, 97, 108, 97, 110, 99, 101, 115, 47]
def Jc : List UInt8 := [47, 104, 101, 97, 108, 116, 104]
theorem Oi (t p : List UInt8) (w : World) : Ae Tryz.prog 110 [.string (tx t), .string (tx p)] w (.tuple [.string (tx (Lib.trimPrefix t p)), .bool (Lib.hasPrefix t p)].toArray) :=
 (Tryz.strings_CutPrefix (tx t) (tx p) w).mono fun e w' ⟨he, hw⟩ => ⟨he, by rw [hw]; exact Bd.refl _ _⟩
theorem Uq (t : List UInt8) (h1 : Lib.hasPrefix t IF = false) (h2 : Lib.hasPrefix t Jb = false) (w0 : World) :
 Ae Tryz.prog 44 [.string (tx t)] w0 (.tuple [.agg (AB (CQ 0) (.slice none 0 0)).toArray, .bool (decide (tx t = tx Jc))].toArray) := by
 refine Eo Ai Tryz.func44 Tryz.ntmps44 ?_
 intro a hS
 refine Wh 2 hS ?_
 refine Lo (Al ?_); intro b2
 refine Wn 7 ?_
 refine Lo (cP PD (fun _ => Oi t IF _) ?_)
 refine Wn 12 ?_
 refine Ie 20 false rfl (h1) ?_
 refine Wn 7 ?_
 refine Lo (cP PD (fun _ => Oi t Jb _) ?_)
 refine Wn 12 ?_
 refine Ie 34 false rfl (h2) ?_
 refine Wn 8 ?_
 refine Lo (Sa ?_)
 refine Wn 4 ?_
 intro a w hS
 refine Rm hS Tryz.results44 ?_
 exact ⟨rfl, hS.chg⟩
theorem Oj (W0 : World) (hG : Gj W0) (w0 : World) (ho : AQ W0 w0) :
 Ae Tryz.prog 44 [.string (tx [47, 105, 110, 118, 111, 105, 99, 101, 115, 47, 48, 51])] w0 (.tuple [.agg (AB ((CQ 13).putN 11 3) (.slice none 0 0)).toArray, .bool false].toArray) := by
 refine Ew Ai Tryz.func44 Tryz.ntmps44 ho ?_
 intro a hS
 refine Wh 2 hS ?_
 refine Lo (Al ?_); intro b2
 refine Wn 7 ?_
 refine Lo (cP PD (fun _ => Oi [47, 105, 110, 118, 111, 105, 99, 101, 115, 47, 48, 51] IF _) ?_)
 intro a w hS
 rw [show Lib.trimPrefix [47, 105, 110, 118, 111, 105, 99, 101, 115, 47, 48, 51] IF = [48, 51] by decide, show Lib.hasPrefix [47, 105, 110, 118, 111, 105, 99, 101, 115, 47, 48, 51] IF = true by decide] at hS
 refine Wh 12 hS ?_
 refine Ie 20 true rfl rfl ?_
 refine Wn 4 ?_
 refine Lo (cP gT (fun hS => Rh W0 hG [48, 51] 3 (by decide +kernel) (by omega) (by omega) (by decide) _ hS.od) ?_)
 intro a w hS
 rw [show decide (tx (Lib.itoa 3) = tx [48, 51]) = false by decide +kernel] at hS
 refine Wh 12 hS ?_
 refine Lo (Sa ?_)
 refine Wn 5 ?_
 intro a w hS
 refine Rm hS Tryz.results44 ?_
 exact ⟨rfl, hS.chg⟩
def HK (x : Int) : List Value := Ca 3 (tx (Lib.itoa x)) none 0 0 none 0 0
theorem Rt {xs : List Int} {k : Nat} {x : Int} (h : xs[k]? = some x) : (xs.take (k + 1)).flatMap HK = (xs.take k).flatMap HK ++ (HK x ++ []) := by
 rw [BG h, List.flatMap_append]; rfl
theorem Xl (W0 : World) (hG : Gj W0) (na : Option Addr) (nm nc : Nat) (b c : Nat) (xs : List Int) (hb : ∀ x ∈ xs, -9223372036854775808 ≤ x ∧ x ≤ 9223372036854775807) (hlen : xs.length ≤ 1000) (hx : ∀ (i : Nat) (x : Int), xs[i]? = some x → W0.cell? ⟨b, i, none⟩ = some (.int .i64 x)) (w0 : World) (ho : AQ W0 w0) :
 Bb Tryz.prog 127 [.slice na nm nc, .slice (some ⟨b, 0, none⟩) xs.length c] w0 (fun v : Option Addr × Nat => .agg [.int .i64 6, .string ⟨#[]⟩, .slice v.1 xs.length v.2, .slice na nm nc].toArray) (fun v => oR 37 4 v.1 xs v.2 HK) := by
 refine Ew Ai Tryz.func127 Tryz.ntmps127 ho ?_
 intro a hS
 refine Wh 2 hS ?_
 refine Lo (Al ?_); intro b4
 refine Wn 16 ?_
 intro a w hS
 refine AW (γ := Nat × Value) (fun G a w => St 23 Ai w0 a w [(10, .int .i64 (G.1 : Int)), (9, .int .i64 (xs.length : Int)), (8, .slice (some ⟨b, 0, none⟩) xs.length c), (5, G.2), (0, .slice na nm nc), (4, .pointer (some ⟨b4, 0, none⟩))] [AJ 37 4 G.2 G.1 ((xs.take G.1).flatMap HK), .blk b4 BM 37, AG W0] ∧ G.1 ≤ xs.length) (fun G => xs.length - G.1) (0, .slice none 0 0) ⟨((hS.own_nil 37 4).sq).pk, Nat.zero_le _⟩ ?_
 intro G a w hI
 obtain ⟨k, lv⟩ := G
 obtain ⟨hS, hk⟩ := hI
 simp only at hS hk
 obtain ⟨ql, cl, rfl⟩ := AN (hS.gg (X := AJ 37 4 lv k ((xs.take k).flatMap HK)))
 refine Wh 6 hS ?_
 refine iD (fun hc11 => ?_) fun hc11 => ?_
 ·
  have hkn : k < xs.length := by omega
  obtain ⟨y, hy⟩ : ∃ y, xs[k]? = some y := ⟨_, List.getElem?_eq_getElem hkn⟩
  have hyb := hb y (List.mem_of_getElem? hy)
  refine Wn 7 ?_
  refine Xp (AI rfl El.1 (fun w hh => by rw [Nat.mul_one, Nat.zero_add]; exact AF (hh (AG W0) (by repeat constructor)) (hx k y hy))) ?_
  refine Wn 6 ?_
  refine Lo (cP Zj (fun hS => JO W0 hG y hyb.1 hyb.2 _ hS.od) ?_)
  intro a w hS
  unfold Ca at hS
  refine Un hS (Lo (Bz ?_)); intro b17
  refine Lo (A1 ?_); intro v18 hv18
  intro a w hS
  obtain ⟨q18, c18, rfl⟩ := AN (hS.gg (X := AJ 37 4 v18 (k + 1) _))
  refine Wh 8 hS ?_
  have e := Rt hy
  unfold HK Ca at e
  intro a w hS
  refine ⟨(k + 1, .slice q18 (k + 1) c18), by show xs.length - (k + 1) < xs.length - k; omega, ?_, hkn⟩
  show St _ _ _ _ _ _ [AJ _ _ _ _ ((xs.take (k + 1)).flatMap HK), _, _]
  unfold HK Ca
  rw [e]
  exact hS.sp
 obtain rfl : k = xs.length := by omega
 intro a w hS
 rw [List.take_length] at hS
 refine Wq 1 hS ?_; intro a hS
 refine AH (AH (Aj ?_))
 refine Wh 5 hS ?_
 refine Lo (cP hO (fun _ => Rs na ql nm nc xs.length cl _) ?_)
 refine Lo (Sa ?_)
 refine Wn 3 ?_
 intro a w hS
 refine Ro hS Tryz.results127 ?_
 exact ⟨(ql, cl), rfl, hS.chg, hS.ok (oR 37 4 ql xs cl HK) (by repeat constructor), fun b hb => (hS.mine (oR 37 4 ql xs cl HK) (by repeat constructor) rfl b hb).resolve_right id⟩
theorem Xm {W w : World} (hU : Lib.Utf8Tabs 0 1 W) (h : AQ W w) : Lib.Utf8Tabs 0 1 w :=
 ⟨fun c hc => AF h (hU.1 c hc), fun i hi => ⟨AF h (hU.2 i hi).1, AF h (hU.2 i hi).2⟩⟩
theorem NO (n : Nat) (v : JV) (cs : List Value) (st : Int) (cl : Bool) (w0 : World) (hU : Lib.Utf8Tabs 0 1 w0) (hg : D0 n v) (hsm : Fy n v) (hj : DZ n v cs w0) (hl : BY n v ≤ 65536) (hok : Cp n 0 v) :
 Bb Tryz.prog 66 [.int .i64 st, .agg cs.toArray, .bool cl] w0 (fun x : { x : (Nat × Nat) × JV × List UInt8 // PJ n v x.2.1 x.2.2 ∧ x.2.2.length ≤ x.1.2 } => .agg [.int .i64 st, .slice (some ⟨x.1.1.1, 0, none⟩) x.1.2.2.length x.1.1.2, .bool cl].toArray) (fun x => Gb 5 x.1.1.1 (Br x.1.2.2)) := by
 obtain ⟨lv2, nv2, ⟨a1, a2, a3, rfl⟩, ⟨a4, a5, a6, rfl⟩, hrc⟩ := hj.four
 subst hrc
 refine Ew Ai Tryz.func66 Tryz.ntmps66 (Ax _) ?_
 intro a hS
 refine Wh 2 hS ?_
 refine Lo (Bx ?_); intro b4
 refine Lo (Al ?_); intro b6
 refine Wn 5 ?_
 refine Lo (cN fD (fun hS => Mw n v _ _ (Xm hU (hS.gg (X := AG w0))) hg hsm (hj.old (hS.gg (X := AG w0))) (by omega)) ?_); intro x11
 rcases x11 with ⟨⟨⟨pb, pc⟩, pr, ps⟩, h1, h2, h3, h4⟩ | pe
 intro a w hS
 rotate_left
 · exact absurd (pe.2.2 hok).2 (by omega)
 rw [show pM n v (.inl ⟨((pb, pc), pr, ps), h1, h2, h3, h4⟩) = .tuple [.slice (some ⟨pb, 0, none⟩) ps.length pc, .int .i64 0].toArray from rfl, show qW n v (.inl ⟨((pb, pc), pr, ps), h1, h2, h3, h4⟩) = Gb 5 pb (Br ps) from rfl] at hS
 refine Wh 14 hS ?_
 refine Ie 15 false rfl (by decide) ?_
 refine Wn 9 ?_
 refine Lo (Sa ?_)
 refine Wn 3 ?_
 intro a w hS
 refine Ro hS Tryz.results66 ?_
 exact ⟨⟨((pb, pc), pr, ps), h2, h4⟩, rfl, hS.chg, hS.ok (Gb 5 pb (Br ps)) (by repeat constructor), fun b hb => (hS.mine (Gb 5 pb (Br ps)) (by repeat constructor) rfl b hb).resolve_right id⟩
def Ok : List (List UInt8) := [[101, 114, 114, 111, 114], [112, 108, 97, 99, 101]]
def Jd (e p : Int) : JV := .mk 6 [] Ok [DI (Lib.itoa e), DI (Lib.itoa p)]
theorem cE {e p : Int} {ql : Option Addr} {cl b : Nat} {w : World} (h1 : (AJ 37 4 (.slice ql 2 cl) 2 ([e, p].flatMap HK)).ok w) (h2 : (AT.blk b (Ok.flatMap AM) 9).ok w) : DZ 2 (Jd e p) [.int .i64 6, .string ⟨#[]⟩, .slice ql 2 cl, .slice (some ⟨b, 0, none⟩) 2 2] w := by
 refine ⟨.slice ql 2 cl, .slice (some ⟨b, 0, none⟩) 2 2, [e, p].map HK, rfl, .inr ⟨b, 0, 2, ⟨by decide, by decide⟩, rfl, MK (enc := AM) (xs := Ok) (fun _ => rfl) (show w.heap[b]? = some (.cells (Ok.flatMap AM).toArray 9 (0, 0)) from h2.now), h2.lt b rfl⟩, Fw (xs := [e, p]) (fun _ => rfl) h1, rfl, ?_⟩
 intro i v r hv hr
 rcases i with _ | _ | i
 · cases hv; cases hr; exact (CH 0 3 _ w).now
 · cases hv; cases hr; exact (CH 0 3 _ w).now
 · cases hv
theorem cF : Lib.itoa 25 = [50, 53] := by decide +kernel
theorem kL : Lib.itoa 0 = [48] := by decide +kernel
theorem Ia : Jd 25 0 = .mk 6 [] Ok [DI [50, 53], DI [48]] := by unfold Jd; rw [cF, kL]
theorem HL {t : List UInt8} (h : I0 t) (n : Nat) : D0 (n + 1) (DI t) := ⟨by omega, by omega, fun _ => h, fun h => absurd h (by decide)⟩
theorem Ru : D0 2 (Jd 25 0) := ⟨by omega, by omega, fun h => absurd h (by decide), fun _ x hx => by
  rcases List.mem_cons.1 hx with rfl | hx
  · exact HL (Fi (by omega) (by omega)) 0
  · obtain rfl := List.mem_singleton.1 hx; exact HL (Fi (by omega) (by omega)) 0⟩
theorem Xn : Fy 2 (Jd 25 0) := by
 rw [Ia]
 refine ⟨by decide, by decide, by decide, by decide, fun x hx => ?_⟩
 rcases List.mem_cons.1 hx with rfl | hx
 · exact ⟨by decide, by decide, by decide, by decide, fun x h => by cases h⟩
 · obtain rfl := List.mem_singleton.1 hx; exact ⟨by decide, by decide, by decide, by decide, fun x h => by cases h⟩
theorem Ur : BY 2 (Jd 25 0) ≤ 65536 := by rw [Ia]; decide +kernel
theorem Xo : Cp 2 0 (Jd 25 0) := by
 rw [Ia]
 refine ⟨fun h => absurd h (by decide), fun h => absurd h (by decide), fun _ => ⟨by decide +kernel, rfl, by decide, by decide, by decide, fun x hx => ?_⟩⟩
 rcases List.mem_cons.1 hx with rfl | hx
 · exact ⟨fun _ => by decide +kernel, fun h => absurd h (by decide), fun h => absurd h (by decide)⟩
 · obtain rfl := List.mem_singleton.1 hx; exact ⟨fun _ => by decide +kernel, fun h => absurd h (by decide), fun h => absurd h (by decide)⟩
theorem NP (W0 : World) (hG : Gj W0) (w0 : World) (ho : AQ W0 w0) :
  Bb Tryz.prog 64 [.int .i64 25, .int .i64 0] w0 (fun x : { x : (Nat × Nat) × JV × List UInt8 // PJ 2 (Jd 25 0) x.2.1 x.2.2 ∧ x.2.2.length ≤ x.1.2 } => .agg [.int .i64 409, .slice (some ⟨x.1.1.1, 0, none⟩) x.1.2.2.length x.1.1.2, .bool false].toArray) (fun x => Gb 5 x.1.1.1 (Br x.1.2.2)) := by
  refine Ew Ai Tryz.func64 Tryz.ntmps64 ho ?_
  intro a hS
  refine Wh 2 hS ?_
  refine Lo (Al ?_); intro b4
  refine Wn 5 ?_
  refine Lo (cP gZ (fun _ => NM _) ?_)
  refine Lo (Bz ?_); intro b7
  refine Wn 2 ?_
  refine Lo (Bz ?_); intro b10
  intro a w hS
  have hb10 := hS.gg (X := .blk b10 [.int .i64 25, .int .i64 0] 3)
  refine Aa (EY hS (.cons rfl (.cons rfl .nil)) hM rfl (Xl w (hG.keep hS.od) (some ⟨b7, 0, none⟩) 2 2 b10 2 [25, 0] (by decide) (by decide) (fun i x hx => AR hb10 (by
 rcases i with _ | _ | i
 · cases hx; rfl
 · cases hx; rfl
 · cases hx)) _ (Ax w)) ?_); intro x11 a w hS
  obtain ⟨ql, cl⟩ := x11
  have hj := cE (hS.ok (AJ 37 4 (.slice ql 2 cl) 2 ([25, 0].flatMap HK)) (by repeat constructor)) (hS.ok (.blk b7 (Ok.flatMap AM) 9) (by repeat constructor))
  refine Aa (PA hS oF (NO 2 (Jd 25 0) _ 409 false _ (hG.keep hS.od).u8 Ru Xn hj Ur Xo) ?_); intro x12
  refine Lo (Sa ?_)
  refine Wn 3 ?_
  intro a w hS
  refine Ro hS Tryz.results64 ?_
  exact ⟨x12, rfl, hS.chg, hS.ok (Gb 5 x12.1.1.1 (Br x12.1.2.2)) (by repeat constructor), fun b hb => (hS.mine (Gb 5 x12.1.1.1 (Br x12.1.2.2)) (by repeat constructor) rfl b hb).resolve_right id⟩
theorem Us : (DK.map (·.1)).Nodup := by decide +kernel
theorem Je : ∀ t ∈ DK.map (·.1), Lib.hasPrefix t IF = false ∧ Lib.hasPrefix t Jb = false ∧ t ≠ Jc := by decide +kernel
theorem P9 {j k : Nat} {x y : List UInt8 × List Fg} (hj : DK[j]? = some x) (hk : DK[k]? = some y) (h : x.1 = y.1) : j = k := by
 have hj' : (DK.map (·.1))[j]? = some x.1 := by rw [List.getElem?_map, hj]; rfl
 have hk' : (DK.map (·.1))[k]? = some y.1 := by rw [List.getElem?_map, hk]; rfl
 obtain ⟨l1, e1⟩ := List.getElem?_eq_some_iff.1 hj'
 obtain ⟨l2, e2⟩ := List.getElem?_eq_some_iff.1 hk'
 exact (List.getElem_inj Us).1 (e1.trans (h.trans e2.symm))
def GY (t : ByteArray) (j : Nat) : Bool := match DK[j]? with
 | some x => decide (tx x.1 = t)
 | none => false
theorem Ei {t : ByteArray} {j : Nat} {x : List UInt8 × List Fg} (h : DK[j]? = some x) : GY t j = decide (tx x.1 = t) := by unfold GY; rw [h]
theorem Ut {k : Nat} {t : List UInt8} {fl : List Fg} (hx : DK[k]? = some (t, fl)) {i : Int} (h : Yu (GY (tx t)) i) : i = k := by
 have hk : k < 12 := (List.getElem?_eq_some_iff.1 hx).1
 have hp : GY (tx t) k = true := by rw [Ei hx]; exact decide_eq_true rfl
 rcases h with ⟨j, rfl, hj, hpj, _⟩ | ⟨_, hno⟩
 ·
  obtain ⟨y, hy⟩ := Hn hj
  rw [Ei hy] at hpj
  rw [P9 hy hx (Bn (of_decide_eq_true hpj))]
 · rw [hno k hk] at hp; cases hp
def Bw (fl : List Fg) (kd : Int) (l : List UInt8) : Int × Cd := match Ct l with
 | none => (10, CQ 0)
 | some v => if v.k = 6 then Bj (AE fl) kd v else (13, CQ 0)
theorem Jf {fl : List Fg} {kd : Int} {l : List UInt8} (h : Ct l = none) : (Bw fl kd l).1 = 10 := by unfold Bw; rw [h]
theorem Jg {fl : List Fg} {kd : Int} {l : List UInt8} {v : JV} (h : Ct l = some v) (hk : ¬ v.k = 6) : (Bw fl kd l).1 = 13 := by unfold Bw; rw [h]; simp only; rw [if_neg hk]
theorem GZ {fl : List Fg} {kd : Int} {l : List UInt8} {v : JV} (h : Ct l = some v) (hk : v.k = 6) : Bw fl kd l = Bj (AE fl) kd v := by unfold Bw; rw [h]; simp only; rw [if_pos hk]
def rE (r : Int × Cd) : Type := { _x : Value // r.1 = 0 } ⊕ { _u : Unit // r.1 ≠ 0 }
def rF (r : Int × Cd) : rE r → Value
 | .inl x => .tuple [.agg (AB r.2 x.1).toArray, .int .i64 0].toArray
 | .inr _ => .tuple [.agg (AB (CQ 0) (.slice none 0 0)).toArray, .int .i64 r.1].toArray
def rG (r : Int × Cd) : rE r → AT
 | .inl x => AJ 160 4 x.1 r.2.fx.length (r.2.fx.flatMap Az)
 | .inr _ => A7
theorem QA {l : List UInt8} (r : pH l) {w : World} (h : (eO l r).ok w) : ∃ (k : Int) (s : ByteArray) (a1 : Option Addr) (a2 a3 : Nat) (a4 : Option Addr) (a5 a6 : Nat) (p e : Int), qV l r = .tuple [.agg [.int .i64 k, .string s, .slice a1 a2 a3, .slice a4 a5 a6].toArray, .int .i64 p, .int .i64 e].toArray ∧
 ((e = 0 ∧ ∃ x : { x : JX // Ct l = some x.v }, r = .inl x ∧ x.1.cs = [.int .i64 k, .string s, .slice a1 a2 a3, .slice a4 a5 a6] ∧ k = (x.1.v.k : Int)) ∨ (e ≠ 0 ∧ Ct l = none)) := by
 rcases r with x | pe
 ·
  obtain ⟨lv, nv, ⟨a1, a2, a3, rfl⟩, ⟨a4, a5, a6, rfl⟩, hcs⟩ := DZ.four (show (Be 33 x.1).ok w from h).now
  exact ⟨_, _, a1, a2, a3, a4, a5, a6, 0, 0, by show Value.tuple [.agg x.1.cs.toArray, _, _].toArray = _; rw [hcs], .inl ⟨rfl, x, rfl, hcs, rfl⟩⟩
 · exact ⟨0, ⟨#[]⟩, none, 0, 0, none, 0, 0, pe.1.1, pe.1.2, rfl, .inr pe.2⟩
theorem QB {fs : List Fd} {kd : Int} {v : JV} (r : pQ fs kd v) {w : World} (h : (Ys fs kd v r).ok w) : ∃ (c : Cd) (a : Option Addr) (m cp : Nat) (e : Int), qZ fs kd v r = .tuple [.agg (AB c (.slice a m cp)).toArray, .int .i64 e].toArray ∧
 ((e = 0 ∧ ∃ x : { _x : Value // (Bj fs kd v).1 = 0 }, r = .inl x ∧ c = (Bj fs kd v).2 ∧ .slice a m cp = x.1) ∨ (e = (Bj fs kd v).1 ∧ e ≠ 0 ∧ c = CQ 0 ∧ a = none ∧ m = 0 ∧ cp = 0)) := by
 rcases r with x | x
 ·
  obtain ⟨q, c, e⟩ := AN (show w.ownsRow 0 _ 4 x.1 (Bj fs kd v).2.fx.length _ from h.now)
  exact ⟨(Bj fs kd v).2, q, _, c, 0, by show Value.tuple [.agg (AB (Bj fs kd v).2 x.1).toArray, .int .i64 0].toArray = _; rw [e], .inl ⟨rfl, x, rfl, rfl, e.symm⟩⟩
 · exact ⟨_, none, 0, 0, _, rfl, .inr ⟨rfl, x.2, rfl, rfl, rfl, rfl⟩⟩
theorem NQ {W w : World} {q : Option Addr} {c : Nat} {l : List UInt8} (h : EB W q c l) (ho : AQ W w) : EB w q c l := ⟨Ha ho h.lies, h.n⟩
theorem NR (W0 : World) (hG : Gj W0) (kx : Nat) (t : List UInt8) (fl : List Fg) (hx : DK[kx]? = some (t, fl)) (q : Option Addr) (cap : Nat) (l : List UInt8) (ht : EB W0 q cap l) (hsm : ∀ v, Ct l = some v → Fy 33 v) (cl : Bool) (w0 : World) (hold : AQ W0 w0) :
 Bb Tryz.prog 14 [.agg [.string ⟨#[80, 79, 83, 84]⟩, .string (tx t), .slice q l.length cap, .bool cl].toArray] w0 (rF (Bw fl ((kx : Int) + 1) l)) (rG (Bw fl ((kx : Int) + 1) l)) := by
 have hln := ht.n
 obtain ⟨h1, h2, h3⟩ := Je t (List.mem_map.2 ⟨_, List.mem_of_getElem? hx, rfl⟩)
 have hkx : kx < 12 := (List.getElem?_eq_some_iff.1 hx).1
 refine Ew Ai Tryz.func14 Tryz.ntmps14 hold ?_
 intro a hS
 refine Wh 2 hS ?_
 refine Lo (Bx ?_); intro b1
 refine Lo (Al ?_); intro b2
 refine Wn 5 ?_
 intro a w hS
 obtain ⟨lo, hlo⟩ : ∃ lo, lo = w.heap.size := ⟨_, rfl⟩
 refine Aa (PA hS ZL (Ho _ lo hlo) ?_); intro x11
 obtain ⟨N, rb, f⟩ := x11
 refine Wn 6 ?_
 refine Xp (CR .nil (.cons rfl .nil)) ?_
 intro a w hS
 have hcell := AR (k := 1) (v := .string (tx t)) (hS.gg (X := .blk b1 [.string ⟨#[80, 79, 83, 84]⟩, .string (tx t), .slice q l.length cap, .bool cl] 29)) rfl
 have hrt : DQ lo rb f w := hS.gg (X := Er lo N rb f)
 refine Aa (PA hS ZM (GW w lo rb f hrt 43 [.pointer (some ⟨b1, 0, none⟩)] (GY (tx t)) fL (fun j x w' hx ho => by rw [Ei hx]; exact NA f j x b1 (tx t) w hcell w' ho) _ (Ax w)) ?_); intro x14
 obtain ⟨ix, hix⟩ := x14
 intro a w hS
 simp only at hS
 obtain rfl := Ut hx hix
 refine Wh 7 hS ?_
 refine Lo (cP fM (fun _ => Uq t h1 h2 _) ?_)
 intro a w hS
 rw [show decide (tx t = tx Jc) = false from decide_eq_false (fun e => h3 (Bn e))] at hS
 refine Wh 3 hS ?_
 refine Lo (Al ?_); intro b6
 refine Lo (Sa ?_)
 refine Wn 10 ?_
 refine Ie 24 false rfl (decide_eq_false (by omega)) ?_
 refine Wn 11 ?_
 refine Ie 31 false rfl rfl ?_
 refine Wn 8 ?_
 refine Gs 39 ?_ ?_ <;> intro hg39
 ·
  refine Wn 8 ?_
  refine Ie 29 false rfl (by rfl) ?_
  refine Wn 5 ?_
  refine Ie 48 false rfl rfl ?_
  refine Wn 17 ?_
  refine Ie 55 false rfl (decide_eq_false (fun e => h3 (Bn e))) ?_
  refine Wn 7 ?_
  refine Ie 60 false rfl rfl ?_
  refine Wn 8 ?_
  refine Lo (cN fC (fun hS => Mj q cap l _ (hG.keep hS.od).u8 (NQ ht hS.od)) ?_); intro x66
  intro a w hS
  obtain ⟨jk, js, a1, a2, a3, a4, a5, a6, pp, pe, hpv, hpc⟩ := QA x66 (hS.ok (eO l x66) (by repeat constructor))
  rw [hpv] at hS
  refine Wh 4 hS ?_
  refine Lo (Al ?_); intro b8
  refine Lo (Sa ?_)
  refine Wn 13 ?_
  refine iD (fun hc70 => ?_) fun hc70 => ?_
  ·
   refine Wn 3 ?_
   refine Lo (Sa ?_)
   refine Wn 4 ?_
   intro a w hS
   refine AD (AC ?_)
   refine Rm hS Tryz.results14 ?_
   have hn : Ct l = none := by
    rcases hpc with ⟨h, _⟩ | ⟨_, h⟩
    · exact absurd h hc70
    · exact h
   have he := Jf (fl := fl) (kd := (kx : Int) + 1) hn
   exact ⟨.inr ⟨(), by rw [he]; decide⟩, by show _ = Ending.returned (Value.tuple [.agg (AB (CQ 0) (.slice none 0 0)).toArray, .int .i64 (Bw fl ((kx : Int) + 1) l).1].toArray); rw [he]; rfl, hS.chg, AL _, fun b h => h.elim⟩
  have hpe : pe = 0 := Classical.not_not.1 hc70
  obtain ⟨xj, rfl, hxcs, rfl⟩ : ∃ x : { x : JX // Ct l = some x.v }, x66 = .inl x ∧ x.1.cs = [.int .i64 jk, .string js, .slice a1 a2 a3, .slice a4 a5 a6] ∧ jk = (x.1.v.k : Int) := by
   rcases hpc with ⟨_, h⟩ | ⟨h, _⟩
   · exact h
   · exact absurd hpe h
  intro a w hS
  rw [show eO l (.inl xj) = Be 33 xj.1 from rfl] at hS
  refine Wh 8 hS ?_
  refine iD (fun hc74 => ?_) fun hc74 => ?_
  ·
   refine Wn 3 ?_
   refine Lo (Sa ?_)
   refine Wn 4 ?_
   intro a w hS
   refine AD (AC ?_)
   refine Rm hS Tryz.results14 ?_
   have he := Jg (fl := fl) (kd := (kx : Int) + 1) xj.2 (by omega)
   exact ⟨.inr ⟨(), by rw [he]; decide⟩, by show _ = Ending.returned (Value.tuple [.agg (AB (CQ 0) (.slice none 0 0)).toArray, .int .i64 (Bw fl ((kx : Int) + 1) l).1].toArray); rw [he]; rfl, hS.chg, AL _, fun b h => h.elim⟩
  have hk6 : xj.1.v.k = 6 := by omega
  have hbp := GZ (fl := fl) (kd := (kx : Int) + 1) xj.2 hk6
  refine Wn 4 ?_
  refine Dr 10 [8] [Er lo N rb f, .blk b8 [.int .i64 (xj.1.v.k : Int), .string js, .slice a1 a2 a3, .slice a4 a5 a6] 37] ?_
  refine ZR 3 ?_
  refine Zy rfl (BV (l := [.string (tx t), .int .i64 ((kx : Int) + 1), .slice (some ⟨f kx, 0, none⟩) fl.length fl.length]) rfl LD.1 IM.1 (fun w hh j u hj => HI (show DQ lo rb f w from hh (Er lo N rb f) (by repeat constructor)) hx j u hj)) ?_
  refine ZR 1 ?_
  intro a w hS
  refine Zo 5 (tf 6 4) hS rfl wN rfl (EY hS (.cons rfl (.cons rfl .nil)) fN rfl (HE w (hG.keep hS.od) 31 (tx t) ((kx : Int) + 1) (f kx) 0 fl.length fl (Lk (show DQ lo rb f w from hS.gg (X := Er lo N rb f)) hx) xj.1.v _ w (by rw [← hxcs]; exact hS.gg (X := Be 33 xj.1)) (hsm _ xj.2) (Ax w)) ?_); intro x84 a w hS
  obtain ⟨c9, a9, m9, p9, e9, hbv, hbc⟩ := QB x84 (hS.ok (Ys (AE fl) ((kx : Int) + 1) xj.1.v x84) (by repeat constructor))
  rw [hbv] at hS
  refine Bc hS (AP (by repeat constructor) (AP (by repeat constructor) Ay)) ?_
  refine Un hS (ZR 2 ?_)
  intro a w hS
  refine Zo 8 (tf 9 1) hS rfl wN rfl (Dn (l := AB c9 (.slice a9 m9 p9)) hS rfl rfl Gf.1 (by repeat constructor) rfl rfl rfl ?_); intro w hS
  refine GJ (by simp) ?_
  refine Un hS (ZR 1 ?_)
  refine Wn 3 ?_
  intro a w hS
  refine Rm hS Tryz.results14 ?_
  rcases hbc with ⟨rfl, x, rfl, rfl, hxe⟩ | ⟨rfl, h, rfl, rfl, rfl, rfl⟩
  · exact ⟨.inl ⟨x.1, by rw [hbp]; exact x.2⟩, by show _ = Ending.returned (Value.tuple [.agg (AB (Bw fl ((kx : Int) + 1) l).2 x.1).toArray, .int .i64 0].toArray); rw [hbp, ← hxe], hS.chg, by show (AJ 160 4 x.1 (Bw fl ((kx : Int) + 1) l).2.fx.length ((Bw fl ((kx : Int) + 1) l).2.fx.flatMap Az)).ok w; rw [hbp]; exact hS.ok (Ys (AE fl) ((kx : Int) + 1) xj.1.v (.inl x)) (by repeat constructor), by
      show ∀ b, (AJ 160 4 x.1 (Bw fl ((kx : Int) + 1) l).2.fx.length ((Bw fl ((kx : Int) + 1) l).2.fx.flatMap Az)).F b → w0.heap.size ≤ b
      rw [hbp]
      exact fun b hb => (hS.mine (Ys (AE fl) ((kx : Int) + 1) xj.1.v (.inl x)) (by repeat constructor) rfl b hb).resolve_right id⟩
  · exact ⟨.inr ⟨(), by rw [hbp]; exact h⟩, by show _ = Ending.returned (Value.tuple [.agg (AB (CQ 0) (.slice none 0 0)).toArray, .int .i64 (Bw fl ((kx : Int) + 1) l).1].toArray); rw [hbp], hS.chg, AL _, fun b h => h.elim⟩
 refine Wn 13 ?_
 refine Ie 48 false rfl rfl ?_
 refine Wn 17 ?_
 refine Ie 55 false rfl (decide_eq_false (fun e => h3 (Bn e))) ?_
 refine Wn 7 ?_
 refine Ie 60 false rfl rfl ?_
 refine Wn 8 ?_
 refine Lo (cN fC (fun hS => Mj q cap l _ (hG.keep hS.od).u8 (NQ ht hS.od)) ?_); intro x66
 intro a w hS
 obtain ⟨jk, js, a1, a2, a3, a4, a5, a6, pp, pe, hpv, hpc⟩ := QA x66 (hS.ok (eO l x66) (by repeat constructor))
 rw [hpv] at hS
 refine Wh 4 hS ?_
 refine Lo (Al ?_); intro b8
 refine Lo (Sa ?_)
 refine Wn 13 ?_
 refine iD (fun hc70 => ?_) fun hc70 => ?_
 ·
  refine Wn 3 ?_
  refine Lo (Sa ?_)
  refine Wn 4 ?_
  intro a w hS
  refine AD (AC ?_)
  refine Rm hS Tryz.results14 ?_
  have hn : Ct l = none := by
   rcases hpc with ⟨h, _⟩ | ⟨_, h⟩
   · exact absurd h hc70
   · exact h
  have he := Jf (fl := fl) (kd := (kx : Int) + 1) hn
  exact ⟨.inr ⟨(), by rw [he]; decide⟩, by show _ = Ending.returned (Value.tuple [.agg (AB (CQ 0) (.slice none 0 0)).toArray, .int .i64 (Bw fl ((kx : Int) + 1) l).1].toArray); rw [he]; rfl, hS.chg, AL _, fun b h => h.elim⟩
 have hpe : pe = 0 := Classical.not_not.1 hc70
 obtain ⟨xj, rfl, hxcs, rfl⟩ : ∃ x : { x : JX // Ct l = some x.v }, x66 = .inl x ∧ x.1.cs = [.int .i64 jk, .string js, .slice a1 a2 a3, .slice a4 a5 a6] ∧ jk = (x.1.v.k : Int) := by
  rcases hpc with ⟨_, h⟩ | ⟨h, _⟩
  · exact h
  · exact absurd hpe h
 intro a w hS
 rw [show eO l (.inl xj) = Be 33 xj.1 from rfl] at hS
 refine Wh 8 hS ?_
 refine iD (fun hc74 => ?_) fun hc74 => ?_
 ·
  refine Wn 3 ?_
  refine Lo (Sa ?_)
  refine Wn 4 ?_
  intro a w hS
  refine AD (AC ?_)
  refine Rm hS Tryz.results14 ?_
  have he := Jg (fl := fl) (kd := (kx : Int) + 1) xj.2 (by omega)
  exact ⟨.inr ⟨(), by rw [he]; decide⟩, by show _ = Ending.returned (Value.tuple [.agg (AB (CQ 0) (.slice none 0 0)).toArray, .int .i64 (Bw fl ((kx : Int) + 1) l).1].toArray); rw [he]; rfl, hS.chg, AL _, fun b h => h.elim⟩
 have hk6 : xj.1.v.k = 6 := by omega
 have hbp := GZ (fl := fl) (kd := (kx : Int) + 1) xj.2 hk6
 refine Wn 4 ?_
 refine Dr 10 [8] [Er lo N rb f, .blk b8 [.int .i64 (xj.1.v.k : Int), .string js, .slice a1 a2 a3, .slice a4 a5 a6] 37] ?_
 refine ZR 3 ?_
 refine Zy rfl (BV (l := [.string (tx t), .int .i64 ((kx : Int) + 1), .slice (some ⟨f kx, 0, none⟩) fl.length fl.length]) rfl LD.1 IM.1 (fun w hh j u hj => HI (show DQ lo rb f w from hh (Er lo N rb f) (by repeat constructor)) hx j u hj)) ?_
 refine ZR 1 ?_
 intro a w hS
 refine Zo 5 (tf 6 4) hS rfl wN rfl (EY hS (.cons rfl (.cons rfl .nil)) fN rfl (HE w (hG.keep hS.od) 31 (tx t) ((kx : Int) + 1) (f kx) 0 fl.length fl (Lk (show DQ lo rb f w from hS.gg (X := Er lo N rb f)) hx) xj.1.v _ w (by rw [← hxcs]; exact hS.gg (X := Be 33 xj.1)) (hsm _ xj.2) (Ax w)) ?_); intro x84 a w hS
 obtain ⟨c9, a9, m9, p9, e9, hbv, hbc⟩ := QB x84 (hS.ok (Ys (AE fl) ((kx : Int) + 1) xj.1.v x84) (by repeat constructor))
 rw [hbv] at hS
 refine Bc hS (AP (by repeat constructor) (AP (by repeat constructor) Ay)) ?_
 refine Un hS (ZR 2 ?_)
 intro a w hS
 refine Zo 8 (tf 9 1) hS rfl wN rfl (Dn (l := AB c9 (.slice a9 m9 p9)) hS rfl rfl Gf.1 (by repeat constructor) rfl rfl rfl ?_); intro w hS
 refine GJ (by simp) ?_
 refine Un hS (ZR 1 ?_)
 refine Wn 3 ?_
 intro a w hS
 refine Rm hS Tryz.results14 ?_
 rcases hbc with ⟨rfl, x, rfl, rfl, hxe⟩ | ⟨rfl, h, rfl, rfl, rfl, rfl⟩
 · exact ⟨.inl ⟨x.1, by rw [hbp]; exact x.2⟩, by show _ = Ending.returned (Value.tuple [.agg (AB (Bw fl ((kx : Int) + 1) l).2 x.1).toArray, .int .i64 0].toArray); rw [hbp, ← hxe], hS.chg, by show (AJ 160 4 x.1 (Bw fl ((kx : Int) + 1) l).2.fx.length ((Bw fl ((kx : Int) + 1) l).2.fx.flatMap Az)).ok w; rw [hbp]; exact hS.ok (Ys (AE fl) ((kx : Int) + 1) xj.1.v (.inl x)) (by repeat constructor), by
     show ∀ b, (AJ 160 4 x.1 (Bw fl ((kx : Int) + 1) l).2.fx.length ((Bw fl ((kx : Int) + 1) l).2.fx.flatMap Az)).F b → w0.heap.size ≤ b
     rw [hbp]
     exact fun b hb => (hS.mine (Ys (AE fl) ((kx : Int) + 1) xj.1.v (.inl x)) (by repeat constructor) rfl b hb).resolve_right id⟩
 · exact ⟨.inr ⟨(), by rw [hbp]; exact h⟩, by show _ = Ending.returned (Value.tuple [.agg (AB (CQ 0) (.slice none 0 0)).toArray, .int .i64 (Bw fl ((kx : Int) + 1) l).1].toArray); rw [hbp], hS.chg, AL _, fun b h => h.elim⟩
def qF : List Value := [.int .i64 25, .int .i64 0, .int .i64 0, .bool false, .int .i64 0, .int .i64 0, .int .i64 0, .int .i64 0, .string ⟨#[]⟩, .string ⟨#[]⟩, .slice none 0 0, .int .i64 0, .int .i64 0, .int .i64 0, .int .i64 0, .int .i64 0, .int .i64 0, .string ⟨#[]⟩, .int .i64 0, .int .i64 0, .slice none 0 0, .slice none 0 0]
theorem NS (W0 : World) (hG : Gj W0) (w0 : World) (ho : AQ W0 w0) :
 Bb Tryz.prog 23 [.agg (AB (CQ 6) (.slice none 0 0)).toArray, .agg qF.toArray] w0 (fun x : { x : (Nat × Nat) × JV × List UInt8 // PJ 2 (Jd 25 0) x.2.1 x.2.2 ∧ x.2.2.length ≤ x.1.2 } => .agg [.int .i64 409, .slice (some ⟨x.1.1.1, 0, none⟩) x.1.2.2.length x.1.1.2, .bool false].toArray) (fun x => Gb 5 x.1.1.1 (Br x.1.2.2)) := by
 refine Ew Ai Tryz.func23 Tryz.ntmps23 ho ?_
 intro a hS
 refine Wh 2 hS ?_
 refine Lo (Bx ?_); intro b2
 refine Lo (Bx ?_); intro b3
 refine Lo (Al ?_); intro b4
 refine Wn 10 ?_
 refine Ie 8 true rfl (by decide) ?_
 refine Wn 7 ?_
 refine Lo (cN oE (fun hS => NP W0 hG _ hS.od) ?_); intro x13
 refine Lo (Sa ?_)
 refine Wn 4 ?_
 intro a w hS
 refine Ro hS Tryz.results23 ?_
 exact ⟨x13, rfl, hS.chg, hS.ok (Gb 5 x13.1.1.1 (Br x13.1.2.2)) (by repeat constructor), fun b hb => (hS.mine (Gb 5 x13.1.1.1 (Br x13.1.2.2)) (by repeat constructor) rfl b hb).resolve_right id⟩
theorem cG : ∀ j, j < 12 → GY (tx [47, 105, 110, 118, 111, 105, 99, 101, 115, 47, 48, 51]) j = false := by decide +kernel
theorem Rv (W0 : World) (hG : Gj W0) (w0 : World) (hold : AQ W0 w0) :
 Ae Tryz.prog 14 [.agg [.string ⟨#[71, 69, 84]⟩, .string (tx [47, 105, 110, 118, 111, 105, 99, 101, 115, 47, 48, 51]), .slice none 0 0, .bool false].toArray] w0 (.tuple [.agg (AB (CQ 0) (.slice none 0 0)).toArray, .int .i64 31].toArray) := by
 refine Ew Ai Tryz.func14 Tryz.ntmps14 hold ?_
 intro a hS
 refine Wh 2 hS ?_
 refine Lo (Bx ?_); intro b1
 refine Lo (Al ?_); intro b2
 refine Wn 5 ?_
 intro a w hS
 obtain ⟨lo, hlo⟩ : ∃ lo, lo = w.heap.size := ⟨_, rfl⟩
 refine Aa (PA hS ZL (Ho _ lo hlo) ?_); intro x11
 obtain ⟨N, rb, f⟩ := x11
 refine Wn 6 ?_
 refine Xp (CR .nil (.cons rfl .nil)) ?_
 intro a w hS
 have hcell := AR (k := 1) (v := .string (tx [47, 105, 110, 118, 111, 105, 99, 101, 115, 47, 48, 51])) (hS.gg (X := .blk b1 [.string ⟨#[71, 69, 84]⟩, .string (tx [47, 105, 110, 118, 111, 105, 99, 101, 115, 47, 48, 51]), .slice none 0 0, .bool false] 29)) rfl
 have hrt : DQ lo rb f w := hS.gg (X := Er lo N rb f)
 refine Aa (PA hS ZM (GW w lo rb f hrt 43 [.pointer (some ⟨b1, 0, none⟩)] (GY (tx [47, 105, 110, 118, 111, 105, 99, 101, 115, 47, 48, 51])) fL (fun j x w' hx ho => by rw [Ei hx]; exact NA f j x b1 (tx [47, 105, 110, 118, 111, 105, 99, 101, 115, 47, 48, 51]) w hcell w' ho) _ (Ax w)) ?_); intro x14
 obtain ⟨ix, hix⟩ := x14
 intro a w hS
 simp only at hS
 obtain rfl : ix = -1 := by
  rcases hix with ⟨j, _, hj, hp, _⟩ | ⟨h, _⟩
  · rw [cG j hj] at hp; cases hp
  · exact h
 refine Wh 7 hS ?_
 refine Lo (cP fM (fun hS => Oj W0 hG _ hS.od) ?_)
 refine Wn 3 ?_
 refine Lo (Al ?_); intro b6
 refine Lo (Sa ?_)
 refine Wn 10 ?_
 refine Ie 24 true rfl (by decide) ?_
 refine Wn 6 ?_
 refine Ie 21 true rfl rfl ?_
 refine Wn 4 ?_
 refine Lo (Sa ?_)
 refine Wn 4 ?_
 intro a w hS
 refine AD (AC ?_)
 refine Rm hS Tryz.results14 ?_
 exact ⟨rfl, hS.chg⟩
def EP : List UInt8 := [123, 34, 97, 116, 34, 58, 53, 44, 34, 110, 117, 109, 98, 101, 114, 34, 58, 49, 44, 34, 117, 110, 105, 116, 115, 34, 58, 55, 125]
def FT : List Fg := [BK, CO, BT]
theorem cH : DK[5]? = some ([47, 112, 97, 121, 109, 101, 110, 116, 115], FT) := rfl
def Yz : JV := .mk 6 [] [[97, 116], [110, 117, 109, 98, 101, 114], [117, 110, 105, 116, 115]] [DI [53], DI [49], DI [55]]
theorem H6 : Ct EP = some Yz := by kernel_rfl
theorem Uu : Fy 33 Yz := by
 refine ⟨by decide, by decide, by decide, by decide, fun x hx => ?_⟩
 rcases List.mem_cons.1 hx with rfl | hx
 · exact ⟨by decide, by decide, by decide, by decide, fun x h => by cases h⟩
 rcases List.mem_cons.1 hx with rfl | hx
 · exact ⟨by decide, by decide, by decide, by decide, fun x h => by cases h⟩
 obtain rfl := List.mem_singleton.1 hx
 exact ⟨by decide, by decide, by decide, by decide, fun x h => by cases h⟩
theorem Jh : (Bw FT 6 EP).1 = 0 ∧ (Bw FT 6 EP).2.kind = 6 ∧ (Bw FT 6 EP).2.n 12 = 7 ∧ (Bw FT 6 EP).2.n 8 = 5 ∧ (Bw FT 6 EP).2.n 11 = 1 := by
 rw [GZ H6 rfl]
 decide +kernel
def QC : List UInt8 := [123, 34, 101, 114, 114, 111, 114, 34, 58, 50, 53, 44, 34, 112, 108, 97, 99, 101, 34, 58, 48, 125]
theorem NT {n : Nat} {t : List UInt8} {r : JV} {s : List UInt8} (h : PJ (n + 1) (DI t) r s) : s = t := by
 rcases (show _ ∨ _ ∨ _ ∨ _ from h) with ⟨_, _, h⟩ | ⟨h, _⟩ | ⟨h, _⟩ | ⟨h, _⟩
 · exact h
 · exact absurd h (by decide)
 · exact absurd h (by decide)
 · exact absurd h (by decide)
theorem Uv {r : JV} {s : List UInt8} (h : PJ 2 (Jd 25 0) r s) : s = QC := by
 rw [Ia] at h
 rcases (show _ ∨ _ ∨ _ ∨ _ from h) with ⟨h, _⟩ | ⟨h, _⟩ | ⟨h, _⟩ | ⟨_, ms, hp, hs, hm, _, ht⟩
 · exact absurd h (by decide)
 · exact absurd h (by decide)
 · exact absurd h (by decide)
 have hl : ms.length = 2 := by have := hp.length_eq; simpa [Ok] using this
 match ms, hl with
 | [m1, m2], _ =>
   have hp1 : [(m1.n, m1.v), (m2.n, m2.v)].Perm [([101, 114, 114, 111, 114], DI [50, 53]), ([112, 108, 97, 99, 101], DI [48])] := hp
   have hle : m1.n ≤ m2.n := (List.pairwise_cons.1 hs).1 _ (.head _)
   have hm1 := hm m1 (.head _)
   have hm2 := hm m2 (.tail _ (.head _))
   have h1 := hp1.subset (.head _)
   rcases List.mem_cons.1 h1 with h1 | h1
   ·
    rw [h1] at hp1
    have h2 := List.singleton_perm_singleton.1 hp1.cons_inv
    injection h1 with e1 e2
    injection h2 with e3 e4
    rw [e2] at hm1
    rw [e4] at hm2
    rw [ht]
    show 123 :: (((AV m1.n ++ 58 :: m1.t) ++ 44 :: ((AV m2.n ++ 58 :: m2.t) ++ [])) ++ [125]) = QC
    rw [NT hm1, NT hm2, e1, e3]
    decide +kernel
   ·
    exfalso
    have h1 := List.mem_singleton.1 h1
    rw [h1] at hp1
    have h2 := List.singleton_perm_singleton.1 (hp1.trans (.swap _ _ _)).cons_inv
    injection h1 with e1 e2
    injection h2 with e3 e4
    rw [e1, e3] at hle
    exact absurd hle (by decide)
theorem Lu (x : Int) (w0 : World) : Ae Tryz.prog 10 [.int .i64 x] w0 (.int .i64 x) := by
 refine Eo Ai Tryz.func10 Tryz.ntmps10 ?_
 intro a hS
 refine Wh 12 hS ?_
 intro a w hS
 refine Ro hS Tryz.results10 ?_
 exact ⟨rfl, hS.chg⟩
theorem kM {b E : Nat} {l : List UInt8} {w : World} (h : (eN b ((Br l).map (Value.int .u8)) E).φ w) (hne : Br l ≠ []) : CL (.slice (some ⟨b, 0, none⟩) l.length l.length) (Br l) w := by
 obtain ⟨f, hf⟩ := h
 refine .inr ⟨b, 0, l.length, hne, by rw [Ap], by rw [Ap]; exact Nat.le_refl _, fun j x hj => ?_, (Array.getElem?_eq_some_iff.1 hf).1⟩
 rw [Nat.zero_add]
 unfold World.cell?
 rw [hf]
 simp only [List.getElem?_toArray, List.getElem?_map, hj]
 rfl
theorem Rw (W0 : World) (hG : Gj W0) (w0 : World) (hold : AQ W0 w0) : Ae Tryz.prog 7 [] w0 (.bool true) := by
 refine Bq [] [AG W0] Ai Tryz.func7 rfl Tryz.ntmps7 trivial rfl (B3 (BB hold) DN) Bi (BP rfl Aw) ?_
 intro a hS
 refine Wh 7 hS ?_
 refine Lo (Bz ?_); intro b7
 intro a w hS
 refine Aa (Hy hS rfl AZ.1 C7.1 rfl (by repeat constructor) ?_); intro a w hS
 refine Wq 1 hS ?_; intro a hS
 have htx : EB w (some ⟨b7, 0, none⟩) 29 EP := ⟨kM (l := EP) (hS.gg (X := eN b7 ((Br EP).map (Value.int .u8)) 5)) (by decide), by decide⟩
 refine Aa (PA hS fF (NR w (hG.keep hS.od) 5 _ FT cH (some ⟨b7, 0, none⟩) 29 EP htx (fun v hv => by rw [H6] at hv; injection hv with hv; rw [← hv]; exact Uu) false _ (Ax w)) ?_); intro x10
 rcases x10 with x10 | x10
 intro a w hS
 rotate_left
 · exact absurd Jh.1 x10.2
 obtain ⟨qq, cq, hxe⟩ := AN (show w.ownsRow 0 _ 4 x10.1 (Bw FT 6 EP).2.fx.length _ from (hS.ok (rG (Bw FT (((5 : Nat) : Int) + 1) EP) (.inl x10)) (by repeat constructor)).now)
 obtain ⟨_, hb2, hb3, hb4, hb5⟩ := Jh
 rw [show rF (Bw FT (((5 : Nat) : Int) + 1) EP) (.inl x10) = .tuple [.agg (AB (Bw FT 6 EP).2 x10.1).toArray, .int .i64 0].toArray from rfl, hxe] at hS
 generalize (Bw FT 6 EP).2 = cc at hS hb2 hb3 hb4 hb5
 refine Wh 3 hS ?_
 refine Lo (Al ?_); intro b1
 intro a w hS
 refine Aa (Dn (l := AB cc (.slice qq _ cq)) hS rfl rfl Gf.1 (by repeat constructor) rfl rfl rfl ?_); intro w hS
 refine Wh 6 hS ?_
 refine Lo (cP fF (fun hS => Rv W0 hG _ hS.od) ?_)
 refine Wn 3 ?_
 refine Lo (Al ?_); intro b3
 refine Lo (Sa ?_)
 refine Wn 7 ?_
 refine Lo (cN nO (fun hS => NS W0 hG _ hS.od) ?_); intro x20
 obtain ⟨⟨⟨pb, pc⟩, pr, ps⟩, hpj, hpc⟩ := x20
 obtain rfl := Uv hpj
 intro a w hS
 simp only at hS hpc
 refine Un hS (Lo (Al ?_)); intro b5
 refine Lo (Sa ?_)
 refine Wn 8 ?_
 refine Ie 24 true rfl (decide_eq_true hb2) ?_
 refine Wn 5 ?_
 refine Ie 29 true rfl (decide_eq_true hb3) ?_
 refine Wn 5 ?_
 refine Ie 34 true rfl (decide_eq_true hb4) ?_
 refine Wn 5 ?_
 refine Ie 39 true rfl (decide_eq_true hb5) ?_
 refine Wn 1 ?_
 refine Lg (cP Vw (fun _ => Lu _ _) ?_)
 refine Wn 3 ?_
 refine Ie 44 true rfl rfl ?_
 refine Wn 1 ?_
 refine Lg (cP Vw (fun _ => Lu _ _) ?_)
 refine Wn 3 ?_
 refine Ie 49 true rfl rfl ?_
 refine Wn 5 ?_
 refine Ie 54 true rfl rfl ?_
 refine Wn 2 ?_
 refine Xg (KO (l := Br QC) rfl AZ.1 C7.1 Dp.1 (fun w hh => Po (hh (Gb 5 pb (Br QC)) (by repeat constructor)) (by rw [Ap]; exact hpc))) ?_
 intro a w hS
 rw [Hc] at hS
 refine Wh 3 hS ?_
 refine Ie 60 true rfl (by decide +kernel) ?_
 refine Wn 8 ?_
 intro a w hS
 refine Ro hS Tryz.results7 ?_
 exact ⟨rfl, hS.chg⟩
structure D9 (W0 : World) (fa : Option Addr) (fs : List B5) : Prop where
 c : fs ≠ [] → ∃ nb no, fa = some ⟨nb, no, none⟩ ∧ ∀ (i : Nat) (x : B5), fs[i]? = some x → ∀ (j : Nat) (u : Value), (Az x)[j]? = some u → W0.cell? ⟨nb, no + i * 4 + j, none⟩ = some u
def NU (x : B5) : Prop := x.nm.length ≤ 300 ∧ x.s.length ≤ 300
def EQ (fs : List B5) : Prop := fs.length ≤ 110 ∧ ∀ x ∈ fs, NU x
theorem Uw (W0 : World) (fa : Option Addr) (fc : Nat) (fs : List B5) (hF : D9 W0 fa fs) (w0 : World) (ho : AQ W0 w0) :
 Bb Tryz.prog 68 [.slice fa fs.length fc] w0 (fun b : { b : Bool // b = true ↔ EQ fs } => .bool b.1) (fun _ => A7) := by
 refine Ew Ai Tryz.func68 Tryz.ntmps68 ho ?_
 intro a hS
 refine Wq 12 hS ?_; intro a hS
 refine AW (γ := Nat) (fun k a w => St 33 Ai w0 a w [(3, .int .i64 (k : Int)), (0, .slice fa fs.length fc)] [AG W0] ∧ k ≤ fs.length ∧ k ≤ 111 ∧ ∀ (j : Nat) (x : B5), j < k → fs[j]? = some x → NU x) (fun k => fs.length - k) 0 ⟨hS.sq, Nat.zero_le _, Nat.zero_le _, fun j _ hj => by omega⟩ ?_
 intro k a w hI
 obtain ⟨hS, hk, hk2, hno⟩ := hI
 refine Wh 8 hS ?_
 refine Lm 3 11 (.bool (decide (k < fs.length ∧ k ≤ 110))) ?_ ?_
 ·
  intro hcM11
  refine Gd 8 ?_ ?_ <;> intro hg8
  ·
   refine Wn 3 ?_
   exact Et 4 11 8 hcM11 rfl (decide_eq_decide.2 ⟨fun h => ⟨by omega, by omega⟩, fun h => by omega⟩) hg8
  refine Wn 3 ?_
  exact Ef 4 11 8 hcM11 rfl ((decide_eq_false (fun h => hg8 (by omega))).symm) hg8
 ·
  refine Wn 2 ?_
  refine iD (fun hc11 => ?_) fun hc11 => ?_
  ·
   obtain ⟨x, hx⟩ : ∃ x, fs[k]? = some x := ⟨_, List.getElem?_eq_getElem hc11.1⟩
   obtain ⟨nb, no, rfl, hcell⟩ := hF.c (fun e => by rw [e] at hc11; exact absurd hc11.1 (Nat.not_lt_zero _))
   have hz1 := BA x.nm
   have hz2 := BA x.s
   refine Wn 10 ?_
   refine Xp (AI (v := .string (tx x.nm)) rfl Af.1 (fun w hh => AF (hh (AG W0) (by repeat constructor)) (hcell k x hx 0 _ rfl))) ?_
   refine Wn 3 ?_
   refine Lm 8 29 (.bool (decide (300 < x.nm.length ∨ 300 < x.s.length))) ?_ ?_
   ·
    intro hcM29
    refine Gd 21 ?_ ?_ <;> intro hg21
    ·
     refine Wn 8 ?_
     exact Et 9 29 21 hcM29 rfl ((decide_eq_true (.inl (by omega))).symm) hg21
    refine Wn 4 ?_
    refine Xg (AI (v := .string (tx x.s)) rfl Af.1 (fun w hh => AF (hh (AG W0) (by repeat constructor)) (hcell k x hx 3 _ rfl))) ?_
    refine Wn 3 ?_
    exact Ef 9 29 21 hcM29 rfl (decide_eq_decide.2 ⟨fun h => .inr (by omega), fun h => by have := h.resolve_left (fun h => hg21 (by omega)); omega⟩) hg21
   ·
    refine Wn 2 ?_
    refine iD (fun hc29 => ?_) fun hc29 => ?_
    ·
     refine Wn 6 ?_
     intro a w hS
     refine AD (AC (AC (AD (AC ?_))))
     refine Ro hS Tryz.results68 ?_
     have hbad : ¬ EQ fs := fun h => by have := h.2 x (List.mem_of_getElem? hx); unfold NU at this; omega
     exact ⟨⟨false, iff_of_false Bool.false_ne_true hbad⟩, rfl, hS.chg, AL _, fun b hb => hb.elim⟩
    refine Wn 8 ?_
    intro a w hS
    refine ⟨k + 1, by omega, hS.sq, hc11.1, by omega, fun j y hj hy => ?_⟩
    by_cases e : j = k
    · subst e; rw [hx] at hy; cases hy; exact ⟨by omega, by omega⟩
    · exact hno j y (by omega) hy
  refine Wn 1 ?_
  intro a w hS
  refine AH (AH (Aj ?_))
  refine Wh 10 hS ?_
  intro a w hS
  refine Ro hS Tryz.results68 ?_
  refine ⟨⟨decide ((fs.length : Int) ≤ 110), ?_⟩, rfl, hS.chg, AL _, fun b hb => hb.elim⟩
  rw [decide_eq_true_iff]
  refine ⟨fun h => ⟨by omega, fun x hx => ?_⟩, fun h => by have := h.1; omega⟩
  obtain ⟨j, hj⟩ := List.getElem?_of_mem hx
  exact hno j x (by have := (List.getElem?_eq_some_iff.1 hj).1; omega) hj
section
def QD (i j : Int) : Int := if j < i then j else i
section
variable {P : Program} {n : NN} {a : Act} {L : List (Nat × Value)} {Γ : List AT} {dst : Option Nat} {ty : Nat} {pos : String} {af : Array Edge} {g : Option (Nat × Bool)}
theorem Ga {x y : Operand} {i j : Int} {k k' : IntKind} {ts : Array TypeId} (hx : ev L x = some (.int k i)) (hy : ev L y = some (.int k' j)) : Ex P n a L Γ ⟨dst, .call ⟨.builtin .min, #[x, y], ts⟩, ty, pos, af, g⟩ (.int k (QD i j)) := fun hs w hh => by
 have h : ∀ t, (Builtin.min_ ts t #[.int k i, .int k' j]).run P w = .ok (.int k (QD i j)) w := fun t => by rw [run_min_int2]; rfl
 simp [execOp, resolve, invoke, builtin, hs.ev hx, hs.ev hy, h]
end
theorem Rx (u : Nat) : 0 ≤ QD (u : Int) 30000 ∧ QD (u : Int) 30000 ≤ 30000 := by
 unfold QD; split <;> omega
def eS (x : List UInt8) : Int := QD ((tx x).size : Int) 30000
def Ry (c : Cd) : Int := QD (0 + eS (c.t 1) + eS (c.t 2) + eS (c.t 3) + eS (c.t 4) + eS (c.t 5) + eS (c.t 6)) 60000
def kN (c : Cd) : Prop := EQ c.fx ∧ Ry c ≤ 30000
theorem Ux (W0 : World) (fa : Option Addr) (fc : Nat) (c : Cd) (hF : D9 W0 fa c.fx) (b : Nat) (hc : ∀ (j : Nat) (v : Value), (AB c (.slice fa c.fx.length fc))[j]? = some v → W0.cell? ⟨b, 0 + 0 * 15 + j, none⟩ = some v) (w0 : World) (ho : AQ W0 w0) :
 Bb Tryz.prog 24 [.slice (some ⟨b, 0, none⟩) 1 1, .int .i64 1] w0 (fun b : { b : Bool // b = true ↔ kN c } => .bool b.1) (fun _ => A7) := by
 refine Ew Ai Tryz.func24 Tryz.ntmps24 ho ?_
 intro a hS
 refine Wq 17 hS ?_; intro a hS
 refine AW (γ := Nat × Int) (fun G a w => St 67 Ai w0 a w [(6, .int .i64 (G.1 : Int)), (5, .int .i64 G.2), (0, .slice (some ⟨b, 0, none⟩) 1 1), (1, .int .i64 1)] [AG W0] ∧ G.1 ≤ 1 ∧ (G.1 = 0 → G.2 = 0) ∧ (G.1 = 1 → G.2 = Ry c ∧ EQ c.fx)) (fun G => 1 - G.1) (0, 0) ⟨hS.sq, Nat.zero_le _, fun _ => rfl, fun h => by cases h⟩ ?_
 intro G a w hI
 obtain ⟨k, nn⟩ := G
 obtain ⟨hS, hk, h0, h1⟩ := hI
 simp only at hS hk h0 h1
 refine Wh 8 hS ?_
 refine Lm 4 16 (.bool (decide (k = 0))) ?_ ?_
 ·
  intro hcM16
  refine Gd 12 ?_ ?_ <;> intro hg12
  ·
   refine Wn 4 ?_
   exact Et 5 16 12 hcM16 rfl (decide_eq_decide.2 ⟨fun h => by omega, fun h => by omega⟩) hg12
  refine Wn 4 ?_
  exact Ef 5 16 12 hcM16 rfl ((decide_eq_false (fun h => hg12 (by omega))).symm) hg12
 ·
  refine Wn 2 ?_
  refine iD (fun hc16 => ?_) fun hc16 => ?_
  ·
   obtain rfl : k = 0 := hc16
   obtain rfl := h0 rfl
   have z1 := Rx (tx (c.t 1)).size
   have z2 := Rx (tx (c.t 2)).size
   have z3 := Rx (tx (c.t 3)).size
   have z4 := Rx (tx (c.t 4)).size
   have z5 := Rx (tx (c.t 5)).size
   have z6 := Rx (tx (c.t 6)).size
   refine Wn 9 ?_
   refine Xp (BV (l := AB c (.slice fa c.fx.length fc)) rfl Vv.1 Gf.1 (fun w hh j u hj => AF (hh (AG W0) (by repeat constructor)) (hc j u hj))) ?_
   refine Lo (Al ?_); intro b7
   refine Lo (Sa ?_)
   refine Wn 8 ?_
   refine Xp (Ga rfl rfl) ?_
   refine Wn 4 ?_
   refine Xp (Ga rfl rfl) ?_
   refine Wn 4 ?_
   refine Xp (Ga rfl rfl) ?_
   refine Wn 4 ?_
   refine Xp (Ga rfl rfl) ?_
   refine Wn 4 ?_
   refine Xp (Ga rfl rfl) ?_
   refine Wn 4 ?_
   refine Xp (Ga rfl rfl) ?_
   refine Wn 1 ?_
   refine Xp (Ga rfl rfl) ?_
   intro a w hS
   rw [show QD (0 + QD ((tx (c.t 1)).size : Int) 30000 + QD ((tx (c.t 2)).size : Int) 30000 + QD ((tx (c.t 3)).size : Int) 30000 + QD ((tx (c.t 4)).size : Int) 30000 + QD ((tx (c.t 5)).size : Int) 30000 + QD ((tx (c.t 6)).size : Int) 30000) 60000 = Ry c from rfl] at hS
   refine Wh 7 hS ?_
   refine Lo (cN oG (fun hS => Uw W0 fa fc c.fx hF _ hS.od) ?_); intro x57
   refine Wn 3 ?_
   refine iB (fun hc58 => ?_) fun hc58 => ?_
   ·
    refine Wn 6 ?_
    intro a w hS
    refine AD (AC (AC (AD (AC ?_))))
    refine Ro hS Tryz.results24 ?_
    have hb : x57.1 = false := by simpa using hc58
    exact ⟨⟨false, iff_of_false Bool.false_ne_true (fun h => by rw [x57.2.2 h.1] at hb; cases hb)⟩, rfl, hS.chg, AL _, fun b hb => hb.elim⟩
   refine Wn 8 ?_
   have hb : x57.1 = true := by simpa using hc58
   have e1 : ((1 : Nat) : Int) = ((0 : Nat) : Int) + 1 := rfl
   intro a w hS
   refine ⟨(1, Ry c), (by decide : (1 : Nat) - 1 < 1 - 0), (by show St _ _ _ _ _ [(6, .int .i64 ((1 : Nat) : Int)), (5, .int .i64 (Ry c)), (0, .slice (some ⟨b, 0, none⟩) 1 1), (1, .int .i64 1)] [AG W0]; rw [e1]; exact hS.sp), Nat.le_refl _, (fun h => absurd (show (1 : Nat) = 0 from h) (by decide)), fun _ => ⟨rfl, x57.2.1 hb⟩⟩
  obtain rfl : k = 1 := by omega
  obtain ⟨rfl, hfx⟩ := h1 rfl
  refine Wn 1 ?_
  intro a w hS
  refine AH (AH (Aj ?_))
  refine Wh 8 hS ?_
  refine Ie 63 true rfl (decide_eq_true (by decide)) ?_
  refine Wn 7 ?_
  intro a w hS
  refine Ro hS Tryz.results24 ?_
  refine ⟨⟨decide (Ry c ≤ 30000), ?_⟩, rfl, hS.chg, AL _, fun b hb => hb.elim⟩
  rw [decide_eq_true_iff]
  exact ⟨fun h => ⟨hfx, h⟩, fun h => h.2⟩
end
theorem D9.keep {W w : World} {fa : Option Addr} {fs : List B5} (h : D9 W fa fs) (ho : AQ W w) : D9 w fa fs := ⟨fun hne => by
  obtain ⟨nb, no, e, hc⟩ := h.c hne
  exact ⟨nb, no, e, fun i x hx j u hu => AF ho (hc i x hx j u hu)⟩⟩
def Uy (c : Cd) : Prop := kN c ∧ (c.t 6).length ≤ 10000
theorem Xq (W0 : World) (fa : Option Addr) (fc : Nat) (c : Cd) (hF : D9 W0 fa c.fx) (w0 : World) (ho : AQ W0 w0) :
 Bb Tryz.prog 8 [.agg (AB c (.slice fa c.fx.length fc)).toArray] w0 (fun b : { b : Bool // b = true ↔ Uy c } => .bool b.1) (fun _ => A7) := by
 have hz := BA (c.t 6)
 refine Ew Ai Tryz.func8 Tryz.ntmps8 ho ?_
 intro a hS
 refine Wh 2 hS ?_
 refine Lo (Bx ?_); intro b1
 refine Wn 6 ?_
 refine Lo (Bz ?_); intro b4
 intro a w hS
 have hb4 := hS.gg (X := .blk b4 (AB c (.slice fa c.fx.length fc) ++ []) 24)
 refine Aa (PA hS nQ (Ux w fa fc c (hF.keep hS.od) b4 (fun j v hv => AR hb4 (by rw [List.append_nil, show 0 + 0 * 15 + j = j by omega]; exact hv)) _ (Ax w)) ?_); intro x5
 refine Wn 1 ?_
 refine Gs 6 ?_ ?_ <;> intro hg6
 ·
  refine Wn 9 ?_
  intro a w hS
  refine Ro hS Tryz.results8 ?_
  exact ⟨⟨decide (((tx (c.t 6)).size : Int) ≤ 10000), by rw [decide_eq_true_iff]; exact ⟨fun h => ⟨x5.2.1 hg6, by omega⟩, fun h => by have := h.2; omega⟩⟩, rfl, hS.chg, AL _, fun b hb => hb.elim⟩
 refine Wn 9 ?_
 intro a w hS
 refine Ro hS Tryz.results8 ?_
 exact ⟨⟨false, iff_of_false Bool.false_ne_true (fun h => by rw [x5.2.2 h.1] at hg6; cases hg6)⟩, rfl, hS.chg, AL _, fun b hb => hb.elim⟩
def NV (fs : List B5) : Prop := ∀ x ∈ fs, -9223372036854775808 ≤ x.n ∧ x.n ≤ 9223372036854775807
theorem Rz {x : B5} {y : JV} {n : Nat} (hb : -9223372036854775808 ≤ x.n ∧ x.n ≤ 9223372036854775807) (h : Bu x = some y) : D0 (n + 1) y := by
 unfold Bu at h
 split at h
 ·
  split at h
  · injection h with h; rw [← h]; exact HL (Fi hb.1 hb.2) n
  · cases h
 ·
  split at h
  ·
   split at h
   ·
    injection h with h
    rw [← h]
    split <;> exact ⟨by omega, by omega, fun h => absurd h (by decide), fun h => absurd h (by decide)⟩
   · cases h
  ·
   split at h
   · injection h with h; rw [← h]; exact ⟨by omega, by omega, fun h => absurd h (by decide), fun h => absurd h (by decide)⟩
   · cases h
theorem ER : ∀ (fs : List B5) (ns : List (List UInt8)) (l : List JV) (v : JV), BN fs ns l = some v → ∃ ys : List JV, v = .mk 6 [] (ns ++ fs.map B5.nm) (l ++ ys) ∧ ys.length = fs.length ∧ ∀ (i : Nat) (x : B5) (y : JV), fs[i]? = some x → ys[i]? = some y → Bu x = some y
 | [], ns, l, v, h => by
   injection h with h
   exact ⟨[], by rw [← h]; simp, rfl, fun i x y hx => by cases hx⟩
 | x :: r, ns, l, v, h => by
   unfold BN at h
   cases hx : Bu x with
   | none => rw [hx] at h; cases h
   | some y =>
     rw [hx] at h
     have hgo : BN r (ns ++ [x.nm]) (l ++ [y]) = some v := by
      simp only at h
      split at h
      ·
       split at h
       · exact h
       · cases h
      ·
       split at h
       · exact h
       · cases h
     obtain ⟨ys, h1, h2, h3⟩ := ER r _ _ v hgo
     refine ⟨y :: ys, by rw [h1]; simp, by simp [h2], fun i z w hz hw => ?_⟩
     cases i with
     | zero =>
       obtain rfl : x = z := by simpa using hz
       obtain rfl : y = w := by simpa using hw
       exact hx
     | succ i => exact h3 i z w (by simpa using hz) (by simpa using hw)
theorem Uz {f : Fd} {c : Cd} {y : JV} (hf : f.ok) (hc : c.ok) (hx : NV c.fx) (h : (Av f c).1 = some y) : D0 2 y := by
 unfold Av at h
 rcases hf.kd with h1 | h1 | h1
 ·
  rw [if_pos h1] at h
  simp only at h
  split at h
  · injection h with h; rw [← h]; exact ⟨by omega, by omega, fun h => absurd h (by decide), fun h => absurd h (by decide)⟩
  · cases h
 ·
  rw [if_neg (by omega), if_pos h1] at h
  injection h with h
  obtain ⟨n0, n1⟩ := hc.n f.off (hf.n h1).1 (hf.n h1).2
  rw [← h]; exact HL (Fi n0 n1) 1
 ·
  rw [if_neg (by omega), if_neg (by omega)] at h
  obtain ⟨ys, h2, h3, h4⟩ := ER c.fx [] [] y h
  rw [h2]
  refine ⟨by omega, by omega, fun h => absurd h (by decide), fun _ z hz => ?_⟩
  obtain ⟨i, hi⟩ := List.getElem?_of_mem (show z ∈ ys by simpa using hz)
  have hil := (List.getElem?_eq_some_iff.1 hi).1
  obtain ⟨x, hxi⟩ : ∃ x, c.fx[i]? = some x := ⟨_, List.getElem?_eq_getElem (by omega)⟩
  exact Rz (hx x (List.mem_of_getElem? hxi)) (h4 i x z hxi hi)
theorem NW {c : Cd} {k : Nat} {x : List UInt8 × List Fg} {v : JV} {c' : Cd} (hc : c.ok) (hfx : NV c.fx) (hx : DK[k]? = some x) (h : DJ (AE x.2) c [] [] = some (v, c')) : D0 3 v := by
 have hm := List.mem_of_getElem? hx
 obtain ⟨vals, h1, h2, _, h4⟩ := FB (AE x.2) c [] [] v c' (Cm hm) (Ds _ hm) h
 rw [h2]
 refine ⟨by omega, by omega, fun h => absurd h (by decide), fun _ z hz => ?_⟩
 obtain ⟨i, hi⟩ := List.getElem?_of_mem (show z ∈ vals by simpa using hz)
 have hil := (List.getElem?_eq_some_iff.1 hi).1
 obtain ⟨f, hf⟩ : ∃ f, (AE x.2)[i]? = some f := ⟨_, List.getElem?_eq_getElem (by omega)⟩
 exact Uz (Cm hm f (List.mem_of_getElem? hf)) hc hfx (h4 i f z hf hi)
theorem cI (c : UInt8) : (qB c).length ≤ 6 := by
 have h : ∀ n : Fin 256, (qB (UInt8.ofNat n.val)).length ≤ 6 := by decide +kernel
 have := h ⟨c.toNat, c.toNat_lt⟩
 simpa using this
theorem C0 (l : List UInt8) : (AV l).length ≤ 6 * l.length + 2 := by
 have h : (l.flatMap qB).length ≤ 6 * l.length := by
  induction l with
  | nil => simp
  | cons c l ih =>
    rw [List.flatMap_cons, List.length_append, List.length_cons]
    have := cI c
    omega
 unfold AV
 rw [List.cons_append, List.length_cons, List.length_append]
 simp only [List.length_cons, List.length_nil]
 omega
theorem Xr {x : B5} {y : JV} {n : Nat} (hb : -9223372036854775808 ≤ x.n ∧ x.n ≤ 9223372036854775807) (hs : NU x) (h : Bu x = some y) : Fy (n + 1) y ∧ BY (n + 1) y ≤ 1802 := by
 have hi := Bp hb.1 hb.2
 have hq := C0 x.s
 have hs2 := hs.2
 unfold Bu at h
 split at h
 ·
  split at h
  ·
   injection h with h
   rw [← h]
   exact ⟨⟨by omega, Nat.zero_le _, (fun x h => by cases h), Nat.zero_le _, (fun x h => by cases h)⟩, by show (Lib.itoa x.n).length ≤ 1802; omega⟩
  · cases h
 ·
  split at h
  ·
   split at h
   ·
    injection h with h
    rw [← h]
    exact ⟨⟨Nat.zero_le _, Nat.zero_le _, (fun x h => by cases h), Nat.zero_le _, (fun x h => by cases h)⟩, by
      split
      · exact (by decide : (B0.getD 2 []).length ≤ 1802)
      · exact (by decide : (B0.getD 1 []).length ≤ 1802)⟩
   · cases h
  ·
   split at h
   ·
    injection h with h
    rw [← h]
    exact ⟨⟨by show x.s.length ≤ 1100000; omega, Nat.zero_le _, (fun x h => by cases h), Nat.zero_le _, (fun x h => by cases h)⟩, Nat.le_trans hq (show 6 * x.s.length + 2 ≤ 1802 by omega)⟩
   · cases h
theorem U0 {α : Type} (f : α → Nat) (b : Nat) (l : List α) (h : ∀ x ∈ l, f x ≤ b) : (l.map f).sum ≤ l.length * b := by
 induction l with
 | nil => simp
 | cons x l ih =>
   rw [List.map_cons, List.sum_cons, List.length_cons, Nat.succ_mul]
   have := h x (.head _)
   have := ih (fun y hy => h y (.tail _ hy))
   omega
theorem U1 {fs : List B5} {v : JV} (hb : NV fs) (hs : EQ fs) (h : BN fs [] [] = some v) : Fy 2 v ∧ BY 2 v ≤ 410000 := by
 obtain ⟨ys, h1, h2, h3⟩ := ER fs [] [] v h
 have hl := hs.1
 have hall : ∀ p ∈ (fs.map B5.nm).zip ys, p.1.length ≤ 300 ∧ Fy 1 p.2 ∧ BY 1 p.2 ≤ 1802 := by
  intro p hp
  obtain ⟨i, hi⟩ := List.getElem?_of_mem hp
  rw [List.getElem?_zip_eq_some] at hi
  obtain ⟨hi1, hi2⟩ := hi
  rw [List.getElem?_map] at hi1
  obtain ⟨x, hx1, hx2⟩ := Option.map_eq_some_iff.1 hi1
  have hxm := List.mem_of_getElem? hx1
  have := Xr (n := 0) (hb x hxm) (hs.2 x hxm) (h3 i x p.2 hx1 hi2)
  exact ⟨by rw [← hx2]; exact (hs.2 x hxm).1, this.1, this.2⟩
 have hz : ((fs.map B5.nm).zip ys).length ≤ 110 := by rw [List.length_zip, List.length_map]; omega
 rw [h1]
 simp only [List.nil_append]
 rw [Ja (by rw [List.length_map]; exact h2.symm)]
 refine ⟨P8.2 ⟨by omega, fun p hp => ⟨by have := (hall p hp).1; omega, (hall p hp).2.1⟩⟩, ?_⟩
 have e : BY 2 (FD ((fs.map B5.nm).zip ys)) ≤ _ := (IZ 1 ((fs.map B5.nm).zip ys)).1
 have e2 : Hp 1 ((fs.map B5.nm).zip ys) ≤ ((fs.map B5.nm).zip ys).length * (1802 + 2 + 1802) := by
  unfold Hp
  refine U0 _ (1802 + 2 + 1802) _ fun p hp => ?_
  have h1 := hall p hp
  have h2 : (AV p.1).length ≤ 1802 := Nat.le_trans (C0 p.1) (show 6 * p.1.length + 2 ≤ 1802 by omega)
  exact Nat.add_le_add (Nat.add_le_add h2 (Nat.le_refl 2)) h1.2.2
 omega
def qG (W0 : World) (n : Nat) : Prop := ∀ (v : JV) (cs : List Value) (d : Nat) (w0 : World), Lq n v → Fy n v → Cp n d v → DZ n v cs W0 → BY n v ≤ 9000000 → AQ W0 w0 →
 Bb Tryz.prog 117 [.agg cs.toArray] w0 (fun x : { x : JV × List UInt8 // PJ n v x.1 x.2 } => .string (tx x.1.2)) (fun _ => A7)
theorem Xs {α : Type} (f : α → Nat) {l : List α} {x : α} (h : x ∈ l) : f x ≤ (l.map f).sum := by
 induction l with
 | nil => cases h
 | cons y r ih =>
   rw [List.map_cons, List.sum_cons]
   rcases List.mem_cons.1 h with rfl | h
   · omega
   · have := ih h; omega
theorem Xt {ns : List (List UInt8)} {l : List JV} {i : Nat} {x : List UInt8} {y : JV} (h1 : ns[i]? = some x) (h2 : l[i]? = some y) : (x, y) ∈ ns.zip l := List.mem_of_getElem? (i := i) (by rw [List.getElem?_zip_eq_some]; exact ⟨h1, h2⟩)
theorem U2 {l : List (List UInt8)} (h : l.Pairwise (· < ·)) : l.Nodup := by
 show List.Pairwise (· ≠ ·) l
 exact h.imp (fun h e => by rw [e] at h; exact List.lt_irrefl _ h)
theorem U3 {α β : Type} (f : α → β) {l : List α} (h : (l.map f).Nodup) : l.Nodup := by
 have h2 : List.Pairwise (fun a b => f a ≠ f b) l := List.pairwise_map.1 h
 show List.Pairwise (· ≠ ·) l
 exact h2.imp (fun h e => h (congrArg f e))
theorem QE {α : Type} (f : α → Nat) : ∀ (A B : List α), A.Nodup → (∀ p ∈ A, p ∈ B) → (A.map f).sum ≤ (B.map f).sum
 | [], _, _, _ => Nat.zero_le _
 | p :: A, B, hn, hs => by
   obtain ⟨B1, B2, rfl⟩ := List.append_of_mem (hs p (.head _))
   obtain ⟨h1, h2⟩ := List.nodup_cons.1 hn
   have := QE f A (B1 ++ B2) h2 (fun x hx => by
     have h3 := hs x (.tail _ hx)
     rw [List.mem_append, List.mem_cons] at h3
     rw [List.mem_append]
     rcases h3 with h3 | h3 | h3
     · exact .inl h3
     · exact absurd (h3 ▸ hx) h1
     · exact .inr h3)
   rw [List.map_append, List.sum_append] at this
   rw [List.map_append, List.sum_append, List.map_cons, List.sum_cons, List.map_cons, List.sum_cons]
   omega
theorem U4 {ns : List (List UInt8)} {l : List JV} {ms : List Ee} (hn : ns.Nodup) (hl : ns.length = l.length) (h1 : ms.map (·.n) = BW ns) (h2 : ∀ m ∈ ms, (m.n, m.v) ∈ ns.zip l) : (ms.map fun m => (m.n, m.v)).Perm (ns.zip l) ∧ (ms.map (·.n)).Pairwise (· ≤ ·) := by
 obtain ⟨hs, hm⟩ := IY ns [] .nil
 have hs : (BW ns).Pairwise (· < ·) := hs
 have hm : ∀ y, y ∈ BW ns ↔ y ∈ ns ∨ y ∈ [] := hm
 have hnd : (ms.map (·.n)).Nodup := by rw [h1]; exact U2 hs
 have hz : ((ns.zip l).map (·.1)).Nodup := by rw [List.map_fst_zip (by omega)]; exact hn
 refine ⟨(List.perm_ext_iff_of_nodup ?_ ?_).2 fun p => ⟨fun hp => ?_, fun hp => ?_⟩, by rw [h1]; exact hs.imp (fun h => List.le_of_lt h)⟩
 ·
  refine U3 (·.1) ?_
  rw [List.map_map]; exact hnd
 · exact U3 (·.1) hz
 ·
  obtain ⟨m, hm, rfl⟩ := List.mem_map.1 hp
  exact h2 m hm
 ·
  have hx : p.1 ∈ ms.map (·.n) := by rw [h1]; exact (hm p.1).2 (.inl (List.of_mem_zip hp).1)
  obtain ⟨m, hm, he⟩ := List.mem_map.1 hx
  have h3 := h2 m hm
  have he : m.n = p.1 := he
  rw [he] at h3
  have e := FC hz (nm := p.1) (y := m.v) h3
  have e2 := FC hz (nm := p.1) (y := p.2) hp
  rw [e] at e2
  injection e2 with e2
  injection e2 with _ e2
  exact List.mem_map.2 ⟨m, hm, by rw [he, e2]⟩
theorem Xu {ns : List (List UInt8)} {l : List JV} {n : Nat} {ms : List Ee} (hnd : (ms.map (·.n)).Nodup) (h2 : ∀ m ∈ ms, (m.n, m.v) ∈ ns.zip l ∧ PJ n m.v m.r m.t) : (A2 ms).length ≤ ((ns.zip l).map fun p => (AV p.1).length + 2 + BY n p.2).sum := by
 by_cases he : ms = []
 · subst he; exact Nat.zero_le _
 have hj := I2 ms he
 have e1 : (ms.map fun m => (AV m.n).length + 2 + m.t.length) = (ms.map fun m => (m.n, m.v)).map fun p => (AV p.1).length + 2 + BY n p.2 := by
  rw [List.map_map]
  exact List.map_congr_left fun m hm => by show _ = (AV m.n).length + 2 + BY n m.v; rw [← FG _ _ _ _ (h2 m hm).2]
 rw [e1] at hj
 have h5 := QE (fun p : List UInt8 × JV => (AV p.1).length + 2 + BY n p.2) (ms.map fun m => (m.n, m.v)) (ns.zip l) (U3 (·.1) (by rw [List.map_map]; exact hnd)) (fun p hp => by obtain ⟨m, hm, rfl⟩ := List.mem_map.1 hp; exact (h2 m hm).1)
 omega
def HM (ms : List Ee) : List UInt8 := A2 ms ++ (if ms.isEmpty then [] else [44])
theorem U5 (ms : List Ee) (m : Ee) : A2 (ms ++ [m]) = HM ms ++ GP m := by rw [I1]; unfold HM; simp
theorem Ol (W0 : World) (n : Nat) (IH : qG W0 n) : qG W0 (n + 1) := by
 intro v cs d w0 hg hsm hok hj hlen hold
 cases v with
 | mk kd t ns l =>
 obtain ⟨lv, nv, rows, rfl, hn1, hn2, hn3, hn4⟩ := hj
 obtain ⟨na, nc, rfl, hT⟩ := FM hn1
 obtain ⟨la, lc, rfl⟩ := hn2.shape
 obtain ⟨hg1, hg2, hg3, hg4⟩ := hg
 obtain ⟨hs1, hs2, hs3, hs4, hs5⟩ := hsm
 clear hg3
 have hRd : Pt W0 na ns.length (ns.flatMap AM) := by
  by_cases he : ns = []
  · subst he; exact .inl ⟨rfl, rfl⟩
  ·
   rcases Nat.eq_zero_or_pos ns.length with h | h
   · exact absurd (List.eq_nil_of_length_eq_zero h) he
   ·
    obtain ⟨bx, ox, rfl, hc⟩ := hT.at_ he
    refine .inr ⟨bx, ox, rfl, fun j u hj => ?_⟩
    have e : ∀ l : List (List UInt8), l.flatMap AM = l.map fun x => Value.string (tx x) := fun l => by
     induction l with
     | nil => rfl
     | cons a l ih => rw [List.flatMap_cons, List.map_cons, ih]; rfl
    rw [e, List.getElem?_map] at hj
    obtain ⟨x, hx, rfl⟩ := Option.map_eq_some_iff.1 hj
    exact hc j x hx
 refine Ew Ai Tryz.func117 Tryz.ntmps117 hold ?_
 intro a hS
 refine Wh 2 hS ?_
 refine Lo (Bx ?_); intro b1
 refine Wn 17 ?_
 refine iD (fun hc11 => ?_) fun hc11 => ?_
 ·
  refine Wn 6 ?_
  intro a w hS
  refine AD (AC ?_)
  refine Ro hS Tryz.results117 ?_
  exact ⟨⟨(_, _), .inr (.inr (.inl ⟨by omega, rfl, rfl⟩))⟩, by show _ = Ending.returned (Value.string (tx (B0.getD kd []))); rw [show kd = 0 by omega]; rfl, hS.chg, AL _, fun b h => h.elim⟩
 refine Wn 6 ?_
 refine iD (fun hc13 => ?_) fun hc13 => ?_
 ·
  refine Wn 6 ?_
  intro a w hS
  refine AD (AC ?_)
  refine Ro hS Tryz.results117 ?_
  exact ⟨⟨(_, _), .inr (.inr (.inl ⟨by omega, rfl, rfl⟩))⟩, by show _ = Ending.returned (Value.string (tx (B0.getD kd []))); rw [show kd = 1 by omega]; rfl, hS.chg, AL _, fun b h => h.elim⟩
 refine Wn 6 ?_
 refine iD (fun hc15 => ?_) fun hc15 => ?_
 ·
  refine Wn 6 ?_
  intro a w hS
  refine AD (AC ?_)
  refine Ro hS Tryz.results117 ?_
  exact ⟨⟨(_, _), .inr (.inr (.inl ⟨by omega, rfl, rfl⟩))⟩, by show _ = Ending.returned (Value.string (tx (B0.getD kd []))); rw [show kd = 2 by omega]; rfl, hS.chg, AL _, fun b h => h.elim⟩
 refine Wn 6 ?_
 refine iD (fun hc17 => ?_) fun hc17 => ?_
 ·
  refine Wn 8 ?_
  intro a w hS
  refine AD (AC ?_)
  refine Ro hS Tryz.results117 ?_
  exact ⟨⟨(_, _), .inl ⟨by omega, rfl, rfl⟩⟩, rfl, hS.chg, AL _, fun b h => h.elim⟩
 refine Wn 6 ?_
 refine iD (fun hc21 => ?_) fun hc21 => ?_
 ·
  refine Wn 4 ?_
  refine Lo (cP YY (fun _ => ND t hs1 _) ?_)
  refine Wn 4 ?_
  intro a w hS
  refine AD (AC ?_)
  refine Ro hS Tryz.results117 ?_
  exact ⟨⟨(_, _), .inr (.inl ⟨by omega, rfl, rfl⟩)⟩, rfl, hS.chg, AL _, fun b h => h.elim⟩
 have hk6 : kd = 6 := by omega
 obtain ⟨hnl, hgk⟩ := hg4 hk6
 obtain ⟨ho1, _, ho3, ho4, hnd, ho6⟩ := hok.2.2 hk6
 obtain ⟨hrs, hrm⟩ := IY ns [] .nil
 have hrs : (BW ns).Pairwise (· < ·) := hrs
 have hrm : ∀ y, y ∈ BW ns ↔ y ∈ ns := fun y => by have := hrm y; rw [show y ∈ BW ns ↔ y ∈ ns ∨ y ∈ [] from this]; simp
 have hrnd : (BW ns).Nodup := U2 hrs
 have hrl : (BW ns).length ≤ 1000000 := by
  have := (List.perm_ext_iff_of_nodup hrnd hnd).2 hrm
  have := this.length_eq; omega
 subst hk6
 have hsumle : ((ns.zip l).map fun p => (AV p.1).length + 2 + BY n p.2).sum ≤ 9000000 := by
  rw [Yy] at hlen
  split at hlen
  · rename_i he; rw [List.isEmpty_iff] at he; rw [he]; exact Nat.zero_le _
  · omega
 refine Wn 6 ?_
 refine Ie 26 false rfl (decide_eq_false (by decide)) ?_
 refine Wn 13 ?_
 refine Lo (cN YZ (fun hS => Km W0 na nc ns hRd hs2 _ hS.od) ?_); intro x51
 obtain ⟨qr, cr⟩ := x51
 intro a w hS
 simp only at hS
 refine Wq 10 hS ?_; intro a hS
 refine AW (γ := List Ee) (fun ms a w => St 96 Ai w0 a w [(7, .int .i64 (ms.length : Int)), (5, .string (tx (123 :: A2 ms))), (6, .slice qr (BW ns).length cr), (1, .pointer (some ⟨b1, 0, none⟩))] [.blk b1 [.int .i64 (6 : Int), .string (tx t), .slice la rows.length lc, .slice na ns.length nc] 132, oR 9 1 qr (BW ns) cr AM, AG W0] ∧ ms.length ≤ (BW ns).length ∧ ms.map (·.n) = (BW ns).take ms.length ∧ ∀ m ∈ ms, (m.n, m.v) ∈ ns.zip l ∧ PJ n m.v m.r m.t) (fun ms => (BW ns).length - ms.length) [] ⟨hS.sp, Nat.zero_le _, rfl, fun m hm => by cases hm⟩ ?_
 intro ms a w hI
 obtain ⟨hS, hml, hmn, hmp⟩ := hI
 have hmnd : (ms.map (·.n)).Nodup := by rw [hmn]; exact (List.take_sublist _ _).nodup hrnd
 have hjl := Xu hmnd hmp
 refine Wh 9 hS ?_
 refine iD (fun hc55 => ?_) fun hc55 => ?_
 ·
  have hml2 : ms.length < (BW ns).length := by omega
  obtain ⟨nm, hnm⟩ : ∃ x, (BW ns)[ms.length]? = some x := ⟨_, List.getElem?_eq_getElem hml2⟩
  obtain ⟨j0, hj0⟩ := List.getElem?_of_mem ((hrm nm).1 (List.mem_of_getElem? hnm))
  have hj0l := (List.getElem?_eq_some_iff.1 hj0).1
  intro a w hS
  obtain ⟨g, rfl⟩ := Dv (hS.gg (X := oR 9 1 qr (BW ns) cr AM)) (by omega)
  have hnml := hs3 nm (List.mem_of_getElem? hj0)
  refine Wq 4 hS ?_; intro a hS
  refine C1 (fun a w => St 96 Ai w0 a w [(7, .int .i64 (ms.length : Int)), (5, .string (tx (123 :: HM ms))), (6, .slice (some ⟨g, 0, none⟩) (BW ns).length cr), (1, .pointer (some ⟨b1, 0, none⟩))] [.blk b1 [.int .i64 (6 : Int), .string (tx t), .slice la rows.length lc, .slice na ns.length nc] 132, oR 9 1 (some ⟨g, 0, none⟩) (BW ns) cr AM, AG W0]) ?_ ?_
  ·
   refine Wh 6 hS ?_
   refine iD (fun hc59 => ?_) fun hc59 => ?_
   ·
    have hsp : 123 :: HM ms = 123 :: A2 ms ++ [44] := by unfold HM; rw [if_neg (by rw [List.isEmpty_iff]; intro e; rw [e] at hc59; exact absurd hc59 (by decide))]; rfl
    refine Wn 2 ?_
    refine Xp (DL (j := [44]) rfl rfl (by rw [List.length_cons]; simp only [List.length_cons, List.length_nil]; omega)) ?_
    refine Wn 2 ?_
    intro a w hS
    rw [hsp]
    exact hS.sp
   have hsp : 123 :: HM ms = 123 :: A2 ms := by unfold HM; rw [if_pos (by rw [List.isEmpty_iff]; exact List.eq_nil_of_length_eq_zero (by omega))]; simp
   refine Wn 1 ?_
   intro a w hS
   rw [hsp]
   exact hS.sp
  intro a w hS
  refine Wq 6 hS ?_; intro a hS
  refine AW (γ := Nat × Option Ee) (fun H a w => St 96 Ai w0 a w [(8, .int .i64 (H.1 : Int)), (5, .string (tx (123 :: HM ms ++ (H.2.map GP).getD []))), (7, .int .i64 (ms.length : Int)), (6, .slice (some ⟨g, 0, none⟩) (BW ns).length cr), (1, .pointer (some ⟨b1, 0, none⟩))] [.blk b1 [.int .i64 (6 : Int), .string (tx t), .slice la rows.length lc, .slice na ns.length nc] 132, AJ 9 1 (.slice (some ⟨g, 0, none⟩) (BW ns).length cr) (BW ns).length ((BW ns).flatMap AM), AG W0] ∧ H.1 ≤ ns.length ∧ ((H.1 ≤ j0 ∧ H.2 = none) ∨ ∃ m : Ee, j0 < H.1 ∧ H.2 = some m ∧ m.n = nm ∧ (m.n, m.v) ∈ ns.zip l ∧ PJ n m.v m.r m.t)) (fun H => ns.length - H.1) (0, none) ⟨by show St _ _ _ _ _ [_, (5, .string (tx (123 :: HM ms ++ []))), _, _, _] _; rw [List.append_nil]; exact hS.sp, Nat.zero_le _, .inl ⟨Nat.zero_le _, rfl⟩⟩ ?_
  intro H a w hI
  obtain ⟨k, om⟩ := H
  obtain ⟨hS, hk, hom⟩ := hI
  simp only at hS hk hom
  refine Wh 10 hS ?_
  refine iD (fun hc66 => ?_) fun hc66 => ?_
  ·
   have hkn : k < ns.length := by omega
   obtain ⟨x, hx⟩ : ∃ x, ns[k]? = some x := ⟨_, List.getElem?_eq_getElem hkn⟩
   obtain ⟨bx, ox, rfl, hcx⟩ := hT.at_ (fun e => by rw [e] at hkn; exact absurd hkn (Nat.not_lt_zero _))
   refine Wn 5 ?_
   refine Dr 10 [] [.blk b1 [.int .i64 (6 : Int), .string (tx t), .slice la rows.length lc, .slice (some ⟨bx, ox, none⟩) ns.length nc] 132, oR 9 1 (some ⟨g, 0, none⟩) (BW ns) cr AM, AG W0] ?_
   refine ZR 3 ?_
   refine Zx rfl (BI rfl rfl Ar.1 A8.1 hkn) ?_
   refine Zy rfl (AI rfl Af.1 (fun w hh => by rw [Nat.mul_one]; exact AF (hh (AG W0) (by repeat constructor)) (hcx k _ hx))) ?_
   refine ZR 2 ?_
   refine Zx rfl (BI rfl rfl Ar.1 A8.1 hml2) ?_
   refine Zy rfl (AI rfl Af.1 (fun w hh => Aq (hh (oR 9 1 (some ⟨g, 0, none⟩) (BW ns) cr AM) (by repeat constructor)) hnm)) ?_
   refine ZR 1 ?_
   refine Wn 2 ?_
   refine iD (fun hc78 => ?_) fun hc78 => ?_
   ·
    have hxn : x = nm := Bn hc78
    have hkj : k = j0 := (List.getElem?_inj hkn hnd).1 (by rw [hx, hj0, hxn])
    have hom0 : om = none := by
     rcases hom with ⟨_, h⟩ | ⟨m, h, _⟩
     · exact h
     · omega
    subst hom0
    have hkr : k < rows.length := by omega
    obtain ⟨lb, lo, lc', e3, hlb, hcl⟩ := FL hn2 (fun e => by rw [e] at hkr; exact absurd hkr (Nat.not_lt_zero _))
    injection e3 with e3 _ _
    subst e3
    obtain ⟨v, hv⟩ : ∃ x, l[k]? = some x := ⟨_, List.getElem?_eq_getElem (by omega)⟩
    obtain ⟨r, hr⟩ : ∃ x, rows[k]? = some x := ⟨_, List.getElem?_eq_getElem hkr⟩
    have hjv := hn4 k v r hv hr
    obtain ⟨lv2, nv2, ⟨a1, a2, a3, rfl⟩, ⟨a4, a5, a6, rfl⟩, hrc⟩ := hjv.four
    subst hrc
    have hvm := List.mem_of_getElem? hv
    have hzm : (nm, v) ∈ ns.zip l := Xt (hxn ▸ hx) hv
    have hvl : BY n v ≤ 9000000 := by
     have := Xs (fun p : List UInt8 × JV => (AV p.1).length + 2 + BY n p.2) hzm
     simp only at this; omega
    have hql := C0 nm
    have hsl : (HM ms).length ≤ (A2 ms).length + 1 := by unfold HM; rw [List.length_append]; split <;> simp
    refine Dr 16 [] [.blk b1 [.int .i64 (6 : Int), .string (tx t), .slice (some ⟨lb, lo, none⟩) rows.length lc, .slice (some ⟨bx, ox, none⟩) ns.length nc] 132, oR 9 1 (some ⟨g, 0, none⟩) (BW ns) cr AM, AG W0] ?_
    refine ZR 3 ?_
    refine Zx rfl (BI rfl rfl Ar.1 A8.1 hml2) ?_
    refine Zy rfl (AI rfl Af.1 (fun w hh => Aq (hh (oR 9 1 (some ⟨g, 0, none⟩) (BW ns) cr AM) (by repeat constructor)) hnm)) ?_
    refine Zv 8 _ rfl ExA.go ?_
    refine Zu 9 _ rfl ExA.go ?_
    refine Zv 10 _ rfl ExA.go ?_
    refine Zv 11 _ rfl (BI rfl rfl CY.1 Bs.1 hkr) ?_
    refine Zu 12 _ rfl (BV (l := [.int .i64 (v.k : Int), .string (tx v.t), .slice a1 a2 a3, .slice a4 a5 a6]) rfl Gl.1 Bs.1 (fun w hh j x hx => AF (hh (AG W0) (by repeat constructor)) (hcl k _ hr j x hx))) ?_
    refine Zz 5 _ rfl (cP YY (fun _ => ND nm (by omega) _) ?_)
    refine Za ?_
    refine Zv 6 _ rfl (DL (i := 123 :: HM ms ++ []) rfl rfl (by rw [List.append_nil, List.length_cons]; omega)) ?_
    refine Zv 7 (tf 13 3) rfl (DL (j := [58]) rfl rfl (by rw [List.append_nil, List.length_append, List.length_cons]; simp only [List.length_cons, List.length_nil]; omega)) ?_
    refine Z0 rfl (cN YM (fun hS => IH v _ (d + 1) _ (hgk v hvm) (hs5 v hvm) (ho6 v hvm) hjv hvl hS.od) ?_); intro x92
    obtain ⟨⟨rv, tv⟩, hpv⟩ := x92
    intro a w hS
    simp only at hS hpv
    have htv := FG _ _ _ _ hpv
    refine Un hS (Za ?_)
    refine Zx rfl (DL rfl rfl (by rw [List.append_nil, List.length_append, List.length_append, List.length_cons]; simp only [List.length_cons, List.length_nil]; omega)) ?_
    refine ZR 1 ?_
    refine Wn 8 ?_
    intro a w hS
    refine ⟨(k + 1, some ⟨nm, v, rv, tv⟩), by show ns.length - (k + 1) < ns.length - k; omega, ?_, by show k + 1 ≤ ns.length; omega, .inr ⟨⟨nm, v, rv, tv⟩, by show j0 < k + 1; omega, rfl, rfl, hzm, hpv⟩⟩
    rw [show 123 :: HM ms ++ [] ++ AV nm ++ [58] ++ tv = 123 :: HM ms ++ GP ⟨nm, v, rv, tv⟩ by unfold GP; simp] at hS
    exact hS.sp
   refine Wn 8 ?_
   intro a w hS
   exact ⟨(k + 1, om), by show ns.length - (k + 1) < ns.length - k; omega, hS.sp, by show k + 1 ≤ ns.length; omega, by
     rcases hom with ⟨h1, h2⟩ | ⟨m, h1, h2⟩
     · refine .inl ⟨?_, h2⟩
       show k + 1 ≤ j0
       rcases Nat.lt_or_ge k j0 with h3 | h3
       · omega
       · obtain rfl : k = j0 := by omega
         exact absurd (by rw [hj0] at hx; injection hx with hx; rw [hx]) hc78
     · exact .inr ⟨m, by show j0 < k + 1; omega, h2⟩⟩
  obtain ⟨m, hm1, hm2, hm3, hm4, hm5⟩ : ∃ m : Ee, j0 < k ∧ om = some m ∧ m.n = nm ∧ (m.n, m.v) ∈ ns.zip l ∧ PJ n m.v m.r m.t := by
   rcases hom with ⟨h, _⟩ | h
   · omega
   · exact h
  subst hm2
  refine Wn 1 ?_
  intro a w hS
  refine AH (AH (Aj ?_))
  refine Wh 7 hS ?_
  have hl1 : (ms ++ [m]).length = ms.length + 1 := by simp
  intro a w hS
  refine ⟨ms ++ [m], by rw [hl1]; omega, ?_, by rw [hl1]; omega, ?_, fun x hx => ?_⟩
  ·
   show St _ _ _ _ _ [(7, .int .i64 ((ms ++ [m]).length : Int)), (5, .string (tx (123 :: A2 (ms ++ [m])))), _, _] _
   rw [hl1, U5]
   exact hS.sp
  · rw [hl1, List.map_append, hmn, BG hnm, ← hm3]; rfl
  ·
   rcases List.mem_append.1 hx with hx | hx
   · exact hmp x hx
   · rw [List.mem_singleton.1 hx]; exact ⟨hm4, hm5⟩
 rw [List.take_of_length_le (by omega)] at hmn
 obtain ⟨hpm, hps⟩ := U4 hnd hnl hmn (fun m hm => (hmp m hm).1)
 refine Wn 1 ?_
 intro a w hS
 refine AH (AH (Aj ?_))
 refine Wh 4 hS ?_
 refine Xp (DL (j := [125]) rfl rfl (by rw [List.length_cons]; simp only [List.length_cons, List.length_nil]; omega)) ?_
 refine Wn 4 ?_
 intro a w hS
 refine Ro hS Tryz.results117 ?_
 exact ⟨⟨(_, 123 :: (A2 ms ++ [125])), .inr (.inr (.inr ⟨rfl, ms, hpm, hps, fun m hm => (hmp m hm).2, rfl, rfl⟩))⟩, rfl, hS.chg, AL _, fun b h => h.elim⟩
theorem Ko (W0 : World) : ∀ n, qG W0 n
 | 0 => fun _ _ _ _ hg => hg.elim
 | n + 1 => Ol W0 n (Ko W0 n)
def qH (n : Nat) (v : JV) : Type := { x : (Nat × Nat) × JV × List UInt8 // Cp n 0 v ∧ PJ n v x.2.1 x.2.2 ∧ x.2.2.length ≤ 65536 ∧ x.2.2.length ≤ x.1.2 } ⊕ { e : Int // e ≠ 0 ∧ ((e ≠ 8 ∧ ¬ Cp n 0 v) ∨ (e = 8 ∧ Cp n 0 v ∧ 65536 < BY n v)) }
def rH (n : Nat) (v : JV) : qH n v → Value
 | .inl x => .tuple [.slice (some ⟨x.1.1.1, 0, none⟩) x.1.2.2.length x.1.1.2, .int .i64 0].toArray
 | .inr e => .tuple [.slice none 0 0, .int .i64 e.1].toArray
def rV (n : Nat) (v : JV) : qH n v → AT
 | .inl x => Gb 5 x.1.1.1 (Br x.1.2.2)
 | .inr _ => A7
theorem U6 (n : Nat) (v : JV) (cs : List Value) (w0 : World) (hg : Lq n v) (hsm : Fy n v) (hj : DZ n v cs w0) (hl : BY n v ≤ 9000000) : Bb Tryz.prog 57 [.agg cs.toArray] w0 (rH n v) (rV n v) := by
 obtain ⟨lv2, nv2, ⟨a1, a2, a3, rfl⟩, ⟨a4, a5, a6, rfl⟩, hrc⟩ := hj.four
 subst hrc
 refine Ew Ai Tryz.func57 Tryz.ntmps57 (Ax _) ?_
 intro a hS
 refine Wh 2 hS ?_
 refine Lo (Bx ?_); intro b1
 refine Wn 7 ?_
 refine Lo (cN YL (fun hS => JW w0 n v _ 0 _ hg hsm hj (hS.gg (X := AG w0)) (by omega)) ?_); intro x7
 obtain ⟨e, he1, he2⟩ := x7
 intro a w hS
 simp only at hS
 refine Wh 10 hS ?_
 refine iD (fun hc9 => ?_) fun hc9 => ?_
 ·
  refine Wn 9 ?_
  intro a w hS
  refine Rm hS Tryz.results57 ?_
  exact ⟨.inr ⟨e, hc9, .inl ⟨he2, fun h => hc9 (he1.2 h)⟩⟩, rfl, hS.chg, AL _, fun b h => h.elim⟩
 have hok : Cp n 0 v := he1.1 (Classical.not_not.1 hc9)
 refine Wn 5 ?_
 refine Lo (cN YM (fun hS => Ko w0 n v _ 0 _ hg hsm hok hj hl (hS.gg (X := AG w0))) ?_); intro x12
 obtain ⟨⟨r, t⟩, hpj⟩ := x12
 intro a w hS
 simp only at hS hpj
 have htl := FG _ _ _ _ hpj
 have htz := BA t
 refine Wh 11 hS ?_
 refine iD (fun hc15 => ?_) fun hc15 => ?_
 ·
  refine Wn 8 ?_
  intro a w hS
  refine Rm hS Tryz.results57 ?_
  exact ⟨.inr ⟨8, by decide, .inr ⟨rfl, hok, by omega⟩⟩, rfl, hS.chg, AL _, fun b h => h.elim⟩
 refine Wn 5 ?_
 intro a w hS
 refine Aa (E6 hS rfl Tryz.underlying9 AZ.1 C7.1 rfl ?_)
 intro b17 c17 a w hc17 hS
 rw [show CE (tx t) = Br t from rfl, Ap] at hS hc17
 refine Wh 5 hS ?_
 intro a w hS
 refine Rm hS Tryz.results57 ?_
 exact ⟨.inl ⟨((b17, c17), r, t), hok, hpj, by show t.length ≤ 65536; omega, hc17⟩, rfl, hS.chg, hS.ok (Gb 5 b17 (Br t)) (by repeat constructor), fun b hb => (hS.mine (Gb 5 b17 (Br t)) (by repeat constructor) rfl b hb).resolve_right (fun h => h)⟩
def Lv (s : ByteArray) : Nat := if s = ⟨#[115, 101, 116]⟩ then 2 else if s = ⟨#[115, 111, 117, 114, 99, 101]⟩ ∨ s = ⟨#[116, 101, 120, 116]⟩ then 6 else if s = ⟨#[110, 97, 109, 101]⟩ then 1 else if s = ⟨#[99, 117, 114]⟩ then 3 else if s = ⟨#[107, 101, 121]⟩ then 4 else 5
def J8 (s : ByteArray) : Nat := if s = ⟨#[102, 114, 111, 109]⟩ then 9 else if s = ⟨#[116, 111]⟩ then 10 else if s = ⟨#[97, 116]⟩ then 8 else if s = ⟨#[113, 116, 121]⟩ then 7 else if s = ⟨#[110, 117, 109, 98, 101, 114]⟩ then 11 else if s = ⟨#[117, 110, 105, 116, 115]⟩ then 12 else 13
theorem U7 : ∀ x ∈ DK, ∀ f ∈ AE x.2, (f.kd = 0 → Lv (tx f.nm) = f.off) ∧ (f.kd = 1 → J8 (tx f.nm) = f.off) := by
 intro x hx f hf
 have h : ∀ y ∈ DK.map (fun x => (AE x.2).map fun f => (f.nm, f.kd, f.off)), ∀ z ∈ y, (z.2.1 = 0 → Lv (tx z.1) = z.2.2) ∧ (z.2.1 = 1 → J8 (tx z.1) = z.2.2) := by decide +kernel
 exact h _ (List.mem_map.2 ⟨x, hx, rfl⟩) _ (List.mem_map.2 ⟨f, hf, rfl⟩)
theorem QF (c : Cd) (fa : Option Addr) (m fc : Nat) (s : ByteArray) (w0 : World) : Ae Tryz.prog 54 [.agg (AB c (.slice fa m fc)).toArray, .string s] w0 (.string (tx (c.t (Lv s)))) := by
 refine Eo Ai Tryz.func54 Tryz.ntmps54 ?_
 intro a hS
 refine Wh 2 hS ?_
 refine Lo (Bx ?_); intro b2
 refine Wn 16 ?_
 refine iD (fun hc6 => ?_) fun hc6 => ?_
 ·
  refine Wn 8 ?_
  intro a w hS
  refine AD (AC ?_)
  refine Ro hS Tryz.results54 ?_
  exact ⟨by unfold Lv; rw [if_pos hc6], hS.chg⟩
 intro a w hS
 refine C1 (fun a w => ∃ b : Bool, St 29 Ai w0 a w [(10, .bool b), (5, .string s), (2, .pointer (some ⟨b2, 0, none⟩))] [.blk b2 (AB c (.slice fa m fc)) 48] ∧ (b = true ↔ s = ⟨#[115, 111, 117, 114, 99, 101]⟩ ∨ s = ⟨#[116, 101, 120, 116]⟩)) ?_ ?_
 ·
  refine Wh 6 hS ?_
  refine iD (fun hc10 => ?_) fun hc10 => ?_
  ·
   refine Wn 1 ?_
   intro a w hS
   exact ⟨_, hS.sp, ⟨fun _ => .inl hc10, fun _ => decide_eq_true hc10⟩⟩
  refine Wn 4 ?_
  intro a w hS
  exact ⟨_, hS.sp, ⟨fun h => .inr (of_decide_eq_true h), fun h => decide_eq_true (h.resolve_left hc10)⟩⟩
 intro a w hS
 obtain ⟨b, hS, hb⟩ := hS
 refine SZ hS rfl (fun hc10 => ?_) (fun hc10 => ?_)
 ·
  refine Wq 8 hS ?_; intro a hS
  refine AD (AC ?_)
  refine Ro hS Tryz.results54 ?_
  exact ⟨by unfold Lv; rw [if_neg hc6, if_pos (hb.1 hc10)], hS.chg⟩
 refine Wh 6 hS ?_
 refine iD (fun hc15 => ?_) fun hc15 => ?_
 ·
  refine Wn 8 ?_
  intro a w hS
  refine AD (AC ?_)
  refine Ro hS Tryz.results54 ?_
  exact ⟨by unfold Lv; rw [if_neg hc6, if_neg (fun h => by rw [hb.2 h] at hc10; cases hc10), if_pos hc15], hS.chg⟩
 refine Wn 6 ?_
 refine iD (fun hc19 => ?_) fun hc19 => ?_
 ·
  refine Wn 8 ?_
  intro a w hS
  refine AD (AC ?_)
  refine Ro hS Tryz.results54 ?_
  exact ⟨by unfold Lv; rw [if_neg hc6, if_neg (fun h => by rw [hb.2 h] at hc10; cases hc10), if_neg hc15, if_pos hc19], hS.chg⟩
 refine Wn 6 ?_
 refine iD (fun hc23 => ?_) fun hc23 => ?_
 ·
  refine Wn 8 ?_
  intro a w hS
  refine AD (AC ?_)
  refine Ro hS Tryz.results54 ?_
  exact ⟨by unfold Lv; rw [if_neg hc6, if_neg (fun h => by rw [hb.2 h] at hc10; cases hc10), if_neg hc15, if_neg hc19, if_pos hc23], hS.chg⟩
 refine Wn 11 ?_
 intro a w hS
 refine Ro hS Tryz.results54 ?_
 exact ⟨by unfold Lv; rw [if_neg hc6, if_neg (fun h => by rw [hb.2 h] at hc10; cases hc10), if_neg hc15, if_neg hc19, if_neg hc23], hS.chg⟩
theorem Kq (c : Cd) (fa : Option Addr) (m fc : Nat) (s : ByteArray) (w0 : World) : Ae Tryz.prog 56 [.agg (AB c (.slice fa m fc)).toArray, .string s] w0 (.int .i64 (c.n (J8 s))) := by
 refine Eo Ai Tryz.func56 Tryz.ntmps56 ?_
 intro a hS
 refine Wh 2 hS ?_
 refine Lo (Bx ?_); intro b2
 refine Wn 16 ?_
 refine iD (fun hc6 => ?_) fun hc6 => ?_
 ·
  refine Wn 8 ?_
  intro a w hS
  refine AD (AC ?_)
  refine Ro hS Tryz.results56 ?_
  exact ⟨by unfold J8; rw [if_pos hc6], hS.chg⟩
 refine Wn 6 ?_
 refine iD (fun hc10 => ?_) fun hc10 => ?_
 ·
  refine Wn 8 ?_
  intro a w hS
  refine AD (AC ?_)
  refine Ro hS Tryz.results56 ?_
  exact ⟨by unfold J8; rw [if_neg hc6, if_pos hc10], hS.chg⟩
 refine Wn 6 ?_
 refine iD (fun hc14 => ?_) fun hc14 => ?_
 ·
  refine Wn 8 ?_
  intro a w hS
  refine AD (AC ?_)
  refine Ro hS Tryz.results56 ?_
  exact ⟨by unfold J8; rw [if_neg hc6, if_neg hc10, if_pos hc14], hS.chg⟩
 refine Wn 6 ?_
 refine iD (fun hc18 => ?_) fun hc18 => ?_
 ·
  refine Wn 8 ?_
  intro a w hS
  refine AD (AC ?_)
  refine Ro hS Tryz.results56 ?_
  exact ⟨by unfold J8; rw [if_neg hc6, if_neg hc10, if_neg hc14, if_pos hc18], hS.chg⟩
 refine Wn 6 ?_
 refine iD (fun hc22 => ?_) fun hc22 => ?_
 ·
  refine Wn 8 ?_
  intro a w hS
  refine AD (AC ?_)
  refine Ro hS Tryz.results56 ?_
  exact ⟨by unfold J8; rw [if_neg hc6, if_neg hc10, if_neg hc14, if_neg hc18, if_pos hc22], hS.chg⟩
 refine Wn 6 ?_
 refine iD (fun hc26 => ?_) fun hc26 => ?_
 ·
  refine Wn 8 ?_
  intro a w hS
  refine AD (AC ?_)
  refine Ro hS Tryz.results56 ?_
  exact ⟨by unfold J8; rw [if_neg hc6, if_neg hc10, if_neg hc14, if_neg hc18, if_neg hc22, if_pos hc26], hS.chg⟩
 refine Wn 11 ?_
 intro a w hS
 refine Ro hS Tryz.results56 ?_
 exact ⟨by unfold J8; rw [if_neg hc6, if_neg hc10, if_neg hc14, if_neg hc18, if_neg hc22, if_neg hc26], hS.chg⟩
def GF (c : Cd) (s : ByteArray) (x : List UInt8) : Cd := if s = ⟨#[115, 101, 116]⟩ then c.putT 2 x else if s = ⟨#[115, 111, 117, 114, 99, 101]⟩ ∨ s = ⟨#[116, 101, 120, 116]⟩ then c.putT 6 x else if s = ⟨#[110, 97, 109, 101]⟩ then c.putT 1 x else if s = ⟨#[99, 117, 114]⟩ then c.putT 3 x else if s = ⟨#[107, 101, 121]⟩ then c.putT 4 x else if s = ⟨#[109, 101, 116, 101, 114]⟩ then c.putT 5 x else c
def Ji (c : Cd) (s : ByteArray) (x : Int) : Cd := if s = ⟨#[102, 114, 111, 109]⟩ then c.putN 9 x else if s = ⟨#[116, 111]⟩ then c.putN 10 x else if s = ⟨#[97, 116]⟩ then c.putN 8 x else if s = ⟨#[113, 116, 121]⟩ then c.putN 7 x else if s = ⟨#[110, 117, 109, 98, 101, 114]⟩ then c.putN 11 x else if s = ⟨#[117, 110, 105, 116, 115]⟩ then c.putN 12 x else if s = ⟨#[110, 97, 110, 111]⟩ then c.putN 13 x else c
theorem H7 (c : Cd) (fa : Option Addr) (m fc : Nat) (s : ByteArray) (x : List UInt8) (w0 : World) : Ae Tryz.prog 119 [.agg (AB c (.slice fa m fc)).toArray, .string s, .string (tx x)] w0 (.agg (AB (GF c s x) (.slice fa m fc)).toArray) := by
 refine Eo Ai Tryz.func119 Tryz.ntmps119 ?_
 intro a hS
 refine Wh 2 hS ?_
 refine Lo (Bx ?_); intro b3
 refine Lo (Al ?_); intro b6
 refine Wn 15 ?_
 refine iD (fun hc8 => ?_) fun hc8 => ?_
 ·
  refine Wn 3 ?_
  refine Lo (Sb ?_)
  refine Wn 6 ?_
  refine Lo (Sa ?_)
  refine Wn 3 ?_
  intro a w hS
  refine Ro hS Tryz.results119 ?_
  refine ⟨?_, hS.chg⟩
  unfold GF
  rw [if_pos hc8]; rfl
 intro a w hS
 refine C1 (fun a w => ∃ b : Bool, St 34 Ai w0 a w [(12, .bool b), (7, .string s), (2, .string (tx x)), (3, .pointer (some ⟨b3, 0, none⟩)), (6, .pointer (some ⟨b6, 0, none⟩))] [.blk b3 (AB c (.slice fa m fc)) 48, .blk b6 (AB (CQ 0) (.slice none 0 0)) 48] ∧ (b = true ↔ s = ⟨#[115, 111, 117, 114, 99, 101]⟩ ∨ s = ⟨#[116, 101, 120, 116]⟩)) ?_ ?_
 ·
  refine Wh 6 hS ?_
  refine iD (fun hc12 => ?_) fun hc12 => ?_
  ·
   refine Wn 1 ?_
   intro a w hS
   exact ⟨_, hS.sp, ⟨fun _ => .inl hc12, fun _ => decide_eq_true hc12⟩⟩
  refine Wn 4 ?_
  intro a w hS
  exact ⟨_, hS.sp, ⟨fun h => .inr (of_decide_eq_true h), fun h => decide_eq_true (h.resolve_left hc12)⟩⟩
 intro a w hS
 obtain ⟨b, hS, hb⟩ := hS
 refine SZ hS rfl (fun hc12 => ?_) (fun hc12 => ?_)
 ·
  refine Wh 3 hS ?_
  refine Lo (Sb ?_)
  refine Wn 6 ?_
  refine Lo (Sa ?_)
  refine Wn 3 ?_
  intro a w hS
  refine Ro hS Tryz.results119 ?_
  refine ⟨?_, hS.chg⟩
  unfold GF
  rw [if_neg hc8, if_pos (hb.1 hc12)]; rfl
 refine Wh 6 hS ?_
 refine iD (fun hc17 => ?_) fun hc17 => ?_
 ·
  refine Wn 3 ?_
  refine Lo (Sb ?_)
  refine Wn 6 ?_
  refine Lo (Sa ?_)
  refine Wn 3 ?_
  intro a w hS
  refine Ro hS Tryz.results119 ?_
  refine ⟨?_, hS.chg⟩
  unfold GF
  rw [if_neg hc8, if_neg (fun h => by rw [hb.2 h] at hc12; cases hc12), if_pos hc17]; rfl
 refine Wn 6 ?_
 refine iD (fun hc21 => ?_) fun hc21 => ?_
 ·
  refine Wn 3 ?_
  refine Lo (Sb ?_)
  refine Wn 6 ?_
  refine Lo (Sa ?_)
  refine Wn 3 ?_
  intro a w hS
  refine Ro hS Tryz.results119 ?_
  refine ⟨?_, hS.chg⟩
  unfold GF
  rw [if_neg hc8, if_neg (fun h => by rw [hb.2 h] at hc12; cases hc12), if_neg hc17, if_pos hc21]; rfl
 refine Wn 6 ?_
 refine iD (fun hc25 => ?_) fun hc25 => ?_
 ·
  refine Wn 3 ?_
  refine Lo (Sb ?_)
  refine Wn 6 ?_
  refine Lo (Sa ?_)
  refine Wn 3 ?_
  intro a w hS
  refine Ro hS Tryz.results119 ?_
  refine ⟨?_, hS.chg⟩
  unfold GF
  rw [if_neg hc8, if_neg (fun h => by rw [hb.2 h] at hc12; cases hc12), if_neg hc17, if_neg hc21, if_pos hc25]; rfl
 refine Wn 6 ?_
 refine iD (fun hc29 => ?_) fun hc29 => ?_
 ·
  refine Wn 3 ?_
  refine Lo (Sb ?_)
  refine Wn 6 ?_
  refine Lo (Sa ?_)
  refine Wn 3 ?_
  intro a w hS
  refine Ro hS Tryz.results119 ?_
  refine ⟨?_, hS.chg⟩
  unfold GF
  rw [if_neg hc8, if_neg (fun h => by rw [hb.2 h] at hc12; cases hc12), if_neg hc17, if_neg hc21, if_neg hc25, if_pos hc29]; rfl
 refine Wn 6 ?_
 refine Lo (Sa ?_)
 refine Wn 3 ?_
 intro a w hS
 refine Ro hS Tryz.results119 ?_
 refine ⟨?_, hS.chg⟩
 unfold GF
 rw [if_neg hc8, if_neg (fun h => by rw [hb.2 h] at hc12; cases hc12), if_neg hc17, if_neg hc21, if_neg hc25, if_neg hc29]
theorem GG (c : Cd) (fa : Option Addr) (m fc : Nat) (s : ByteArray) (x : Int) (w0 : World) : Ae Tryz.prog 120 [.agg (AB c (.slice fa m fc)).toArray, .string s, .int .i64 x] w0 (.agg (AB (Ji c s x) (.slice fa m fc)).toArray) := by
 refine Eo Ai Tryz.func120 Tryz.ntmps120 ?_
 intro a hS
 refine Wh 2 hS ?_
 refine Lo (Bx ?_); intro b3
 refine Lo (Al ?_); intro b6
 refine Wn 15 ?_
 refine iD (fun hc8 => ?_) fun hc8 => ?_
 ·
  refine Wn 3 ?_
  refine Lo (Sb ?_)
  refine Wn 6 ?_
  refine Lo (Sa ?_)
  refine Wn 3 ?_
  intro a w hS
  refine Ro hS Tryz.results120 ?_
  refine ⟨?_, hS.chg⟩
  unfold Ji
  rw [if_pos hc8]; rfl
 refine Wn 6 ?_
 refine iD (fun hc12 => ?_) fun hc12 => ?_
 ·
  refine Wn 3 ?_
  refine Lo (Sb ?_)
  refine Wn 6 ?_
  refine Lo (Sa ?_)
  refine Wn 3 ?_
  intro a w hS
  refine Ro hS Tryz.results120 ?_
  refine ⟨?_, hS.chg⟩
  unfold Ji
  rw [if_neg hc8, if_pos hc12]; rfl
 refine Wn 6 ?_
 refine iD (fun hc16 => ?_) fun hc16 => ?_
 ·
  refine Wn 3 ?_
  refine Lo (Sb ?_)
  refine Wn 6 ?_
  refine Lo (Sa ?_)
  refine Wn 3 ?_
  intro a w hS
  refine Ro hS Tryz.results120 ?_
  refine ⟨?_, hS.chg⟩
  unfold Ji
  rw [if_neg hc8, if_neg hc12, if_pos hc16]; rfl
 refine Wn 6 ?_
 refine iD (fun hc20 => ?_) fun hc20 => ?_
 ·
  refine Wn 3 ?_
  refine Lo (Sb ?_)
  refine Wn 6 ?_
  refine Lo (Sa ?_)
  refine Wn 3 ?_
  intro a w hS
  refine Ro hS Tryz.results120 ?_
  refine ⟨?_, hS.chg⟩
  unfold Ji
  rw [if_neg hc8, if_neg hc12, if_neg hc16, if_pos hc20]; rfl
 refine Wn 6 ?_
 refine iD (fun hc24 => ?_) fun hc24 => ?_
 ·
  refine Wn 3 ?_
  refine Lo (Sb ?_)
  refine Wn 6 ?_
  refine Lo (Sa ?_)
  refine Wn 3 ?_
  intro a w hS
  refine Ro hS Tryz.results120 ?_
  refine ⟨?_, hS.chg⟩
  unfold Ji
  rw [if_neg hc8, if_neg hc12, if_neg hc16, if_neg hc20, if_pos hc24]; rfl
 refine Wn 6 ?_
 refine iD (fun hc28 => ?_) fun hc28 => ?_
 ·
  refine Wn 3 ?_
  refine Lo (Sb ?_)
  refine Wn 6 ?_
  refine Lo (Sa ?_)
  refine Wn 3 ?_
  intro a w hS
  refine Ro hS Tryz.results120 ?_
  refine ⟨?_, hS.chg⟩
  unfold Ji
  rw [if_neg hc8, if_neg hc12, if_neg hc16, if_neg hc20, if_neg hc24, if_pos hc28]; rfl
 refine Wn 6 ?_
 refine iD (fun hc32 => ?_) fun hc32 => ?_
 ·
  refine Wn 3 ?_
  refine Lo (Sb ?_)
  refine Wn 6 ?_
  refine Lo (Sa ?_)
  refine Wn 3 ?_
  intro a w hS
  refine Ro hS Tryz.results120 ?_
  refine ⟨?_, hS.chg⟩
  unfold Ji
  rw [if_neg hc8, if_neg hc12, if_neg hc16, if_neg hc20, if_neg hc24, if_neg hc28, if_pos hc32]; rfl
 refine Wn 6 ?_
 refine Lo (Sa ?_)
 refine Wn 3 ?_
 intro a w hS
 refine Ro hS Tryz.results120 ?_
 refine ⟨?_, hS.chg⟩
 unfold Ji
 rw [if_neg hc8, if_neg hc12, if_neg hc16, if_neg hc20, if_neg hc24, if_neg hc28, if_neg hc32]
end Go.Proofs.YtlccmgeclhdegaaGreatDoor
