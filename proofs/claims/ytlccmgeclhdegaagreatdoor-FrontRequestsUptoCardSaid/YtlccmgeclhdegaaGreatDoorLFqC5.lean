/- FrontRequests: for every argument the law returns true, and each argument reads afterwards as it read before. No conditions. (text 5 of 6) -/
import Derived.Test.YtlccmgeclhdegaaGreatDoorLFqC4
import Derived.Lib.FrozenHead2
import Derived.ChangeKeysEq
import Derived.Handed
import Derived.SizedLaws
import Derived.Shelf.Vars
import Derived.KernelRfl
import Derived.Stop.LaidErr
import Derived.LaidLaws
import Derived.MakeChecks
import Derived.Lib.LaidU8T
import Derived.Lib.LaidTab
import Derived.Deep.Slices
import Derived.Deep.Fields
import Derived.ChangeSame
import Derived.OpenShut
import Derived.Lib.SmallJoins
set_option maxRecDepth 100000
set_option maxHeartbeats 16000000
namespace Go.Proofs.YtlccmgeclhdegaaGreatDoor
open Go.RowKit
theorem U8 {ns : List (List UInt8)} (h : ns.Nodup) : BW ns = Ao ns := by
 obtain ⟨hs, hm⟩ := IY ns [] .nil
 have hs : (BW ns).Pairwise (· < ·) := hs
 have hm : ∀ y, y ∈ BW ns ↔ y ∈ ns := fun y => by have := hm y; rw [show y ∈ BW ns ↔ y ∈ ns ∨ y ∈ [] from this]; simp
 have hp : (BW ns).Perm (Ao ns) := ((List.perm_ext_iff_of_nodup (U2 hs) h).2 hm).trans (List.mergeSort_perm _ _).symm
 have h2 : (Ao ns).Pairwise (· ≤ ·) := by
  have := List.pairwise_mergeSort (le := fun x y : List UInt8 => decide (x ≤ y)) (fun a b c h1 h2 => by simp only [decide_eq_true_eq] at *; exact List.le_trans h1 h2) (fun a b => by simp only [Bool.or_eq_true, decide_eq_true_eq]; exact List.le_total a b) ns
  exact this.imp (fun h => by simpa using h)
 exact hp.eq_of_pairwise (fun a b _ _ h1 h2 => List.le_antisymm h1 h2) (hs.imp fun h => List.le_of_lt h) h2
def Om (v : JV) : Prop := v.ns.Nodup ∧ ∀ nm ∈ v.ns, ∃ y x, CI v nm = some y ∧ BJ nm y = (0, x) ∧ (y.k = 3 → ∃ m : Int, -9223372036854775808 ≤ m ∧ m ≤ 9223372036854775807 ∧ y.t = Lib.itoa m)
theorem R0 {nm : List UInt8} {y : JV} {x : B5} (h : BJ nm y = (0, x)) : y.k = 1 ∨ y.k = 2 ∨ y.k = 3 ∨ y.k = 4 := by
 unfold BJ at h
 split at h
 · omega
 ·
  split at h
  · omega
  ·
   split at h
   · omega
   · injection h with h; exact absurd h (by decide)
theorem U9 {n : Nat} {v : JV} {cs : List Value} {W : World} (h : DZ (n + 1) v cs W) : ∃ (la na : Option Addr) (lm lc nc : Nat), cs = [.int .i64 (v.k : Int), .string (tx v.t), .slice la lm lc, .slice na v.ns.length nc] ∧ Ff W na v.ns := by
 cases v with
 | mk kd t ns l =>
   obtain ⟨lv, nv, rows, rfl, hn1, hn2, _⟩ := h
   obtain ⟨na, nc, rfl, hT⟩ := FM hn1
   obtain ⟨la, lc, rfl⟩ := hn2.shape
   exact ⟨la, na, _, lc, nc, rfl, hT⟩
theorem Xv {W0 : World} {na : Option Addr} {ns : List (List UInt8)} (hT : Ff W0 na ns) : Pt W0 na ns.length (ns.flatMap AM) := by
 by_cases he : ns = []
 · subst he; exact .inl ⟨rfl, rfl⟩
 ·
  obtain ⟨bx, ox, rfl, hc⟩ := hT.at_ he
  refine .inr ⟨bx, ox, rfl, fun j u hj => ?_⟩
  have e : ∀ l : List (List UInt8), l.flatMap AM = l.map fun x => Value.string (tx x) := fun l => by
   induction l with
   | nil => rfl
   | cons a l ih => rw [List.flatMap_cons, List.map_cons, ih]; rfl
  rw [e, List.getElem?_map] at hj
  obtain ⟨x, hx, rfl⟩ := Option.map_eq_some_iff.1 hj
  exact hc j x hx
theorem VA (W0 : World) (n : Nat) (v : JV) (cs : List Value) (w0 : World) (hj : DZ (n + 2) v cs W0) (hf : Om v) (hns : v.ns.length ≤ 1000) (hold : AQ W0 w0) :
 Bb Tryz.prog 172 [.agg cs.toArray] w0 (fun p : Option Addr × Nat => .tuple [.slice p.1 (AU v).2.length p.2, .int .i64 0].toArray) (fun p => oR 139 4 p.1 (AU v).2 p.2 Az) := by
 obtain ⟨la, na, lm, lc, nc, hcs, hT⟩ := U9 hj
 have hrd := Xv hT
 have hrs := U8 hf.1
 have hj0 := hj
 subst hcs
 have hrl : (BW v.ns).length ≤ 1000 := by rw [hrs]; have := (List.mergeSort_perm v.ns (fun x y => decide (x ≤ y))).length_eq; unfold Ao; omega
 have hrm : ∀ y ∈ BW v.ns, y ∈ v.ns := fun y hy => by rw [hrs] at hy; exact (List.mergeSort_perm v.ns (fun x y => decide (x ≤ y))).mem_iff.1 hy
 have hgo0 : CC v (BW v.ns) [] = AU v := by rw [hrs]; rfl
 refine Ew Ai Tryz.func172 Tryz.ntmps172 hold ?_
 intro a hS
 refine Wh 2 hS ?_
 refine Lo (Bx ?_); intro b1
 refine Wn 13 ?_
 refine Lo (cN YZ (fun hS => Km W0 na nc v.ns hrd (by omega) _ hS.od) ?_); intro x14
 obtain ⟨qr, cr⟩ := x14
 intro a w hS
 simp only at hS
 refine Wq 10 hS ?_; intro a hS
 refine AW (γ := List B5 × Option Addr × Nat) (fun G a w => St 71 Ai w0 a w [(6, .int .i64 (G.1.length : Int)), (4, .slice G.2.1 G.1.length G.2.2), (5, .slice qr (BW v.ns).length cr), (1, .pointer (some ⟨b1, 0, none⟩))] [oR 139 4 G.2.1 G.1 G.2.2 Az, oR 9 1 qr (BW v.ns) cr AM, .blk b1 [.int .i64 (v.k : Int), .string (tx v.t), .slice la lm lc, .slice na v.ns.length nc] 132, AG W0] ∧ G.1.length ≤ (BW v.ns).length ∧ CC v ((BW v.ns).drop G.1.length) G.1 = AU v) (fun G => (BW v.ns).length - G.1.length) ([], none, 0) ⟨((hS.own_nil 139 4).sq).pk, Nat.zero_le _, hgo0⟩ ?_
 intro G a w hI
 obtain ⟨acc, qa, ca⟩ := G
 obtain ⟨hS, hk, hgo⟩ := hI
 simp only at hS hk hgo
 refine Wh 9 hS ?_
 refine iD (fun hc18 => ?_) fun hc18 => ?_
 ·
  have hkn : acc.length < (BW v.ns).length := by omega
  obtain ⟨nm, hnm⟩ : ∃ x, (BW v.ns)[acc.length]? = some x := ⟨_, List.getElem?_eq_getElem hkn⟩
  obtain ⟨y, x, hy, hx, hnum⟩ := hf.2 nm (hrm nm (List.mem_of_getElem? hnm))
  have hst := Kf (v := v) (acc := acc) hnm (y := y) (by rw [hy]; rfl)
  rw [hgo, hx, if_neg (fun h => h rfl)] at hst
  have hkd := R0 hx
  intro a w hS
  obtain ⟨g, rfl⟩ := Dv (hS.gg (X := oR 9 1 qr (BW v.ns) cr AM)) (by omega)
  have hacc : acc.length ≤ 1000 := by omega
  refine Wh 5 hS ?_
  refine Dr 12 [10] [.blk b1 [.int .i64 (v.k : Int), .string (tx v.t), .slice la lm lc, .slice na v.ns.length nc] 132, oR 9 1 (some ⟨g, 0, none⟩) (BW v.ns) cr AM, AG W0] ?_
  refine ZR 3 ?_
  refine Zx rfl (BI rfl rfl Ar.1 A8.1 hkn) ?_
  refine Zy rfl (AI rfl Af.1 (fun w hh => Aq (hh (oR 9 1 (some ⟨g, 0, none⟩) (BW v.ns) cr AM) (by repeat constructor)) hnm)) ?_
  intro a w hS
  refine Ek (j := 5) (js := [9]) (by kernel_rfl) ⟨?_, ?_, trivial⟩
  ·
   refine Ey (i := 5) rfl (Ab a hS.sl) (listed' := (tf 6 6)) rfl (EY hS (.cons rfl (.cons rfl .nil)) TA rfl (Og W0 (n + 1) v y _ nm hy _ hj0 hns hS.od) ?_); intro x27 a w hS
   obtain ⟨r27, hr27⟩ := x27
   obtain ⟨lv2, nv2, ⟨a1, a2, a3, rfl⟩, ⟨a4, a5, a6, rfl⟩, hrc⟩ := hr27.four
   subst hrc
   simp only at hS
   refine Bc hS (AP (by repeat constructor) (AP (by repeat constructor) (AP (by repeat constructor) Ay))) ?_
   refine Un hS (ZR 3 ?_)
   refine Z0 rfl (Al ?_); intro b7
   refine Za ?_
   refine Z0 rfl (Sa ?_)
   refine Zl ?_
   refine ZR 1 ?_
   refine Wn 6 ?_
   refine Xp (BI rfl rfl Ar.1 A8.1 hkn) ?_
   refine Xp (AI rfl Af.1 (fun w hh => Aq (hh (oR 9 1 (some ⟨g, 0, none⟩) (BW v.ns) cr AM) (by repeat constructor)) hnm)) ?_
   refine Wn 1 ?_
   refine Lo (Al ?_); intro b9
   refine Lo (Sa ?_)
   refine Wn 2 ?_
   intro a w hS
   refine C1 (fun a w => St 71 Ai w0 a w [(6, .int .i64 (acc.length : Int)), (4, .slice qa acc.length ca), (5, .slice (some ⟨g, 0, none⟩) (BW v.ns).length cr), (1, .pointer (some ⟨b1, 0, none⟩)), (9, .pointer (some ⟨b9, 0, none⟩))] [.blk b9 (Az x) 139, oR 139 4 qa acc ca Az, oR 9 1 (some ⟨g, 0, none⟩) (BW v.ns) cr AM, .blk b1 [.int .i64 (v.k : Int), .string (tx v.t), .slice la lm lc, .slice na v.ns.length nc] 132, AG W0]) ?_ ?_
   ·
    refine Wq 7 hS ?_; intro a hS
    refine C1 (fun a w => ∃ bb : Bool, St 71 Ai w0 a w [(37, .bool bb), (36, .int .i64 (y.k : Int)), (7, .pointer (some ⟨b7, 0, none⟩)), (6, .int .i64 (acc.length : Int)), (4, .slice qa acc.length ca), (5, .slice (some ⟨g, 0, none⟩) (BW v.ns).length cr), (1, .pointer (some ⟨b1, 0, none⟩)), (9, .pointer (some ⟨b9, 0, none⟩))] [.blk b9 [.string (tx nm), .int .i64 0, .int .i64 0, .string ⟨#[]⟩] 139, .blk b7 [.int .i64 (y.k : Int), .string (tx y.t), .slice a1 a2 a3, .slice a4 a5 a6] 132, oR 139 4 qa acc ca Az, oR 9 1 (some ⟨g, 0, none⟩) (BW v.ns) cr AM, .blk b1 [.int .i64 (v.k : Int), .string (tx v.t), .slice la lm lc, .slice na v.ns.length nc] 132, AG W0] ∧ (bb = true ↔ y.k = 1 ∨ y.k = 2)) ?_ ?_
    ·
     refine Wh 6 hS ?_
     refine iD (fun hc37 => ?_) fun hc37 => ?_
     ·
      refine Wn 1 ?_
      intro a w hS
      exact ⟨_, hS.sp, ⟨fun _ => .inl (by omega), fun _ => decide_eq_true (by omega)⟩⟩
     refine Wn 4 ?_
     intro a w hS
     exact ⟨_, hS.sp, ⟨fun h => .inr (by have := of_decide_eq_true h; omega), fun h => decide_eq_true (by omega)⟩⟩
    intro a w hS
    obtain ⟨bb, hS, hbb⟩ := hS
    refine SZ hS rfl (fun hc37 => ?_) (fun hc37 => ?_)
    ·
     have hx2 : x = ⟨nm, 2, (y.k : Int) - 1, []⟩ := by
      have h2 := hbb.1 hc37
      unfold BJ at hx
      rw [if_neg (by omega), if_neg (by omega), if_pos h2] at hx
      injection hx with _ hx
      rw [← hx]
      rcases h2 with h2 | h2 <;> simp [h2]
     refine Wh 3 hS ?_
     refine Lo (Sb ?_)
     refine Wn 7 ?_
     refine Lo (Sb ?_)
     refine Wn 2 ?_
     intro a w hS
     rw [hx2]; exact hS.sp
    have hn37 : ¬ (y.k = 1 ∨ y.k = 2) := fun h => by rw [hbb.2 h] at hc37; cases hc37
    refine Wh 6 hS ?_
    refine iD (fun hc45 => ?_) fun hc45 => ?_
    ·
     have hk3 : y.k = 3 := by omega
     obtain ⟨m, m0, m1, hyt⟩ := hnum hk3
     have hx3 : x = ⟨nm, 1, m, []⟩ := by
      unfold BJ at hx
      rw [if_pos hk3] at hx
      injection hx with _ hx
      rw [← hx]
      obtain ⟨yk, yt, yns, yl⟩ := y
      have hyt : yt = Lib.itoa m := hyt
      have hk3 : yk = 3 := hk3
      subst hyt hk3
      have e : BR (.mk 3 (Lib.itoa m) yns yl) = (m, 0) := by
       have h2 := Fj m0 m1
       have h3 : D1 (.mk 3 (Lib.itoa m) yns yl) = (m, 0) := h2
       unfold BR; rw [h3]; rfl
      rw [e]
     intro a w hS
     rw [hk3, hyt] at hS
     refine Wh 3 hS ?_
     refine Lo (cP TB (fun _ => Of m m0 m1 a1 a4 a2 a3 a5 a6 _) ?_)
     refine Wn 14 ?_
     refine Ie 53 false rfl (by decide) ?_
     refine Wn 10 ?_
     refine Ie 55 false rfl (by decide) ?_
     refine Wn 6 ?_
     refine Lo (Sb ?_)
     refine Wn 5 ?_
     refine Lo (Sb ?_)
     refine Wn 2 ?_
     intro a w hS
     rw [hx3]; exact hS.sp
    refine Wn 6 ?_
    refine Ie 60 true rfl (decide_eq_true (by omega)) ?_
    refine Wn 3 ?_
    have hx4 : x = ⟨nm, 3, 0, y.t⟩ := by
     have h4 : y.k = 4 := by omega
     unfold BJ at hx
     rw [if_neg (by omega), if_pos h4] at hx
     injection hx with _ hx
     exact hx.symm
    refine Wn 1 ?_
    refine Lo (Sb ?_)
    refine Wn 6 ?_
    refine Lo (Sb ?_)
    refine Wn 2 ?_
    intro a w hS
    rw [hx4]; exact hS.sp
   intro a w hS
   refine Wq 1 hS ?_; intro a hS
   unfold Az at hS
   refine Wh 2 hS ?_
   refine Lo (Bz ?_); intro b68
   refine Lo (A1 ?_); intro v69 hv69
   intro a w hS
   obtain ⟨q69, c69, rfl⟩ := AN (hS.gg (X := AJ 139 4 v69 (acc.length + 1) _))
   refine Wh 9 hS ?_
   have hl1 : (acc ++ [x]).length = acc.length + 1 := by simp
   intro a w hS
   refine ⟨(acc ++ [x], q69, c69), by show (BW v.ns).length - (acc ++ [x]).length < (BW v.ns).length - acc.length; rw [hl1]; omega, ?_, by show (acc ++ [x]).length ≤ _; rw [hl1]; omega, by show CC v ((BW v.ns).drop (acc ++ [x]).length) (acc ++ [x]) = _; rw [hl1]; exact hst.symm⟩
   show St _ _ _ _ _ [(6, .int .i64 ((acc ++ [x]).length : Int)), (4, .slice q69 (acc ++ [x]).length c69), _, _] [AJ _ _ (.slice q69 (acc ++ [x]).length c69) (acc ++ [x]).length ((acc ++ [x]).flatMap Az), _, _, _]
   rw [hl1, List.flatMap_append]
   exact hS.sp
  refine Ey (i := 9) rfl (Ab a hS.sl) (listed' := [true, true, true, true, true, false, false, false, false, true, false, false]) rfl (Fp hS DE.1 rfl ?_); intro a w b7 hS
  refine Bc hS (AP (by repeat constructor) (AP (by repeat constructor) (AP (by repeat constructor) Ay))) ?_
  refine Un hS (Zz 5 _ rfl (cN TA (fun hS => Og W0 (n + 1) v y _ nm hy _ hj0 hns hS.od) ?_)); intro x27
  obtain ⟨r27, hr27⟩ := x27
  obtain ⟨lv2, nv2, ⟨a1, a2, a3, rfl⟩, ⟨a4, a5, a6, rfl⟩, hrc⟩ := hr27.four
  subst hrc
  intro a w hS
  simp only at hS
  refine Un hS (Za ?_)
  refine Zv 6 _ rfl ExA.go ?_
  refine Zv 7 _ rfl ExA.go ?_
  refine Zv 8 (tf 10 2) rfl ExA.go ?_
  refine Z0 rfl (Sa ?_)
  refine Zl ?_
  refine ZR 1 ?_
  refine Wn 6 ?_
  refine Xp (BI rfl rfl Ar.1 A8.1 hkn) ?_
  refine Xp (AI rfl Af.1 (fun w hh => Aq (hh (oR 9 1 (some ⟨g, 0, none⟩) (BW v.ns) cr AM) (by repeat constructor)) hnm)) ?_
  refine Wn 1 ?_
  refine Lo (Al ?_); intro b9
  refine Lo (Sa ?_)
  refine Wn 2 ?_
  intro a w hS
  refine C1 (fun a w => St 71 Ai w0 a w [(6, .int .i64 (acc.length : Int)), (4, .slice qa acc.length ca), (5, .slice (some ⟨g, 0, none⟩) (BW v.ns).length cr), (1, .pointer (some ⟨b1, 0, none⟩)), (9, .pointer (some ⟨b9, 0, none⟩))] [.blk b9 (Az x) 139, oR 139 4 qa acc ca Az, oR 9 1 (some ⟨g, 0, none⟩) (BW v.ns) cr AM, .blk b1 [.int .i64 (v.k : Int), .string (tx v.t), .slice la lm lc, .slice na v.ns.length nc] 132, AG W0]) ?_ ?_
  ·
   refine Wq 7 hS ?_; intro a hS
   refine C1 (fun a w => ∃ bb : Bool, St 71 Ai w0 a w [(37, .bool bb), (36, .int .i64 (y.k : Int)), (7, .pointer (some ⟨b7, 0, none⟩)), (6, .int .i64 (acc.length : Int)), (4, .slice qa acc.length ca), (5, .slice (some ⟨g, 0, none⟩) (BW v.ns).length cr), (1, .pointer (some ⟨b1, 0, none⟩)), (9, .pointer (some ⟨b9, 0, none⟩))] [.blk b9 [.string (tx nm), .int .i64 0, .int .i64 0, .string ⟨#[]⟩] 139, .blk b7 [.int .i64 (y.k : Int), .string (tx y.t), .slice a1 a2 a3, .slice a4 a5 a6] 132, oR 139 4 qa acc ca Az, oR 9 1 (some ⟨g, 0, none⟩) (BW v.ns) cr AM, .blk b1 [.int .i64 (v.k : Int), .string (tx v.t), .slice la lm lc, .slice na v.ns.length nc] 132, AG W0] ∧ (bb = true ↔ y.k = 1 ∨ y.k = 2)) ?_ ?_
   ·
    refine Wh 6 hS ?_
    refine iD (fun hc37 => ?_) fun hc37 => ?_
    ·
     refine Wn 1 ?_
     intro a w hS
     exact ⟨_, hS.sp, ⟨fun _ => .inl (by omega), fun _ => decide_eq_true (by omega)⟩⟩
    refine Wn 4 ?_
    intro a w hS
    exact ⟨_, hS.sp, ⟨fun h => .inr (by have := of_decide_eq_true h; omega), fun h => decide_eq_true (by omega)⟩⟩
   intro a w hS
   obtain ⟨bb, hS, hbb⟩ := hS
   refine SZ hS rfl (fun hc37 => ?_) (fun hc37 => ?_)
   ·
    have hx2 : x = ⟨nm, 2, (y.k : Int) - 1, []⟩ := by
     have h2 := hbb.1 hc37
     unfold BJ at hx
     rw [if_neg (by omega), if_neg (by omega), if_pos h2] at hx
     injection hx with _ hx
     rw [← hx]
     rcases h2 with h2 | h2 <;> simp [h2]
    refine Wh 3 hS ?_
    refine Lo (Sb ?_)
    refine Wn 7 ?_
    refine Lo (Sb ?_)
    refine Wn 2 ?_
    intro a w hS
    rw [hx2]; exact hS.sp
   have hn37 : ¬ (y.k = 1 ∨ y.k = 2) := fun h => by rw [hbb.2 h] at hc37; cases hc37
   refine Wh 6 hS ?_
   refine iD (fun hc45 => ?_) fun hc45 => ?_
   ·
    have hk3 : y.k = 3 := by omega
    obtain ⟨m, m0, m1, hyt⟩ := hnum hk3
    have hx3 : x = ⟨nm, 1, m, []⟩ := by
     unfold BJ at hx
     rw [if_pos hk3] at hx
     injection hx with _ hx
     rw [← hx]
     obtain ⟨yk, yt, yns, yl⟩ := y
     have hyt : yt = Lib.itoa m := hyt
     have hk3 : yk = 3 := hk3
     subst hyt hk3
     have e : BR (.mk 3 (Lib.itoa m) yns yl) = (m, 0) := by
      have h2 := Fj m0 m1
      have h3 : D1 (.mk 3 (Lib.itoa m) yns yl) = (m, 0) := h2
      unfold BR; rw [h3]; rfl
     rw [e]
    intro a w hS
    rw [hk3, hyt] at hS
    refine Wh 3 hS ?_
    refine Lo (cP TB (fun _ => Of m m0 m1 a1 a4 a2 a3 a5 a6 _) ?_)
    refine Wn 14 ?_
    refine Ie 53 false rfl (by decide) ?_
    refine Wn 10 ?_
    refine Ie 55 false rfl (by decide) ?_
    refine Wn 6 ?_
    refine Lo (Sb ?_)
    refine Wn 5 ?_
    refine Lo (Sb ?_)
    refine Wn 2 ?_
    intro a w hS
    rw [hx3]; exact hS.sp
   refine Wn 6 ?_
   refine Ie 60 true rfl (decide_eq_true (by omega)) ?_
   refine Wn 3 ?_
   have hx4 : x = ⟨nm, 3, 0, y.t⟩ := by
    have h4 : y.k = 4 := by omega
    unfold BJ at hx
    rw [if_neg (by omega), if_pos h4] at hx
    injection hx with _ hx
    exact hx.symm
   refine Wn 1 ?_
   refine Lo (Sb ?_)
   refine Wn 6 ?_
   refine Lo (Sb ?_)
   refine Wn 2 ?_
   intro a w hS
   rw [hx4]; exact hS.sp
  intro a w hS
  refine Wq 1 hS ?_; intro a hS
  unfold Az at hS
  refine Wh 2 hS ?_
  refine Lo (Bz ?_); intro b68
  refine Lo (A1 ?_); intro v69 hv69
  intro a w hS
  obtain ⟨q69, c69, rfl⟩ := AN (hS.gg (X := AJ 139 4 v69 (acc.length + 1) _))
  refine Wh 9 hS ?_
  have hl1 : (acc ++ [x]).length = acc.length + 1 := by simp
  intro a w hS
  refine ⟨(acc ++ [x], q69, c69), by show (BW v.ns).length - (acc ++ [x]).length < (BW v.ns).length - acc.length; rw [hl1]; omega, ?_, by show (acc ++ [x]).length ≤ _; rw [hl1]; omega, by show CC v ((BW v.ns).drop (acc ++ [x]).length) (acc ++ [x]) = _; rw [hl1]; exact hst.symm⟩
  show St _ _ _ _ _ [(6, .int .i64 ((acc ++ [x]).length : Int)), (4, .slice q69 (acc ++ [x]).length c69), _, _] [AJ _ _ (.slice q69 (acc ++ [x]).length c69) (acc ++ [x]).length ((acc ++ [x]).flatMap Az), _, _, _]
  rw [hl1, List.flatMap_append]
  exact hS.sp
 rw [List.drop_of_length_le (by omega)] at hgo
 have hgo : AU v = (0, acc) := hgo.symm
 refine Wn 1 ?_
 intro a w hS
 refine AH (AH (Aj ?_))
 refine Wh 9 hS ?_
 intro a w hS
 refine Rm hS Tryz.results172 ?_
 rw [hgo]
 exact ⟨(qa, ca), rfl, hS.chg, hS.ok (oR 139 4 qa acc ca Az) (by repeat constructor), fun b hb => (hS.mine (oR 139 4 qa acc ca Az) (by repeat constructor) rfl b hb).resolve_right id⟩
def eT (k : Nat) : List UInt8 := if k = 0 then [116] else if k = 1 then [110] else [102]
def Ac (fl : List Fg) : List (List UInt8) := (AE fl).flatMap fun f => [f.nm, eT f.kd]
def Eu : List (List UInt8) → List UInt8
 | [] => []
 | [x] => x
 | x :: l => x ++ 32 :: Eu l
def kO (k : Nat) (x : List UInt8 × List Fg) : List Value := [.string (tx x.1), .int .i64 ((k : Int) + 1), .string (tx (Eu (Ac x.2)))]
def DM : List Value := (DK.zipIdx.map fun x => kO x.2 x.1).flatten
theorem Dl {k : Nat} {x : List UInt8 × List Fg} (hx : DK[k]? = some x) (j : Nat) (v : Value) (hj : (kO k x)[j]? = some v) : DM[k * 3 + j]? = some v := by
 have hk : k < 12 := (List.getElem?_eq_some_iff.1 hx).1
 have hj3 : j < 3 := (List.getElem?_eq_some_iff.1 hj).1
 rcases k with _ | _ | _ | _ | _ | _ | _ | _ | _ | _ | _ | _ | k
 case succ.succ.succ.succ.succ.succ.succ.succ.succ.succ.succ.succ => omega
 all_goals
  obtain rfl : _ = x := by injection hx
  rcases j with _ | _ | _ | j
  case succ.succ.succ => omega
  all_goals exact hj
theorem F4 (w0 : World) : Bb Tryz.prog 50 [] w0 (fun b : Nat => .slice (some ⟨b, 0, none⟩) 12 12) (fun b => .blk b DM 128) := by
 refine Bq [] [] Ai Tryz.func50 rfl Tryz.ntmps50 trivial rfl (by simp) (by simp) (by simp) ?_
 intro a hS
 refine Wh 19 hS ?_
 refine Lo (Bz ?_); intro b13
 refine Wn 4 ?_
 intro a w hS
 refine Ro hS Tryz.results50 ?_
 exact ⟨b13, rfl, hS.chg, hS.ok (.blk b13 DM 128) (by repeat constructor), fun b hb => (hS.mine (.blk b13 DM 128) (by repeat constructor) rfl b hb).resolve_right id⟩
def Am (c : UInt8) : List UInt8 → List (List UInt8)
 | [] => [[]]
 | b :: t => if b = c then [] :: Am c t else match Am c t with
   | [] => [[b]]
   | w :: ws => (b :: w) :: ws
theorem NX (c : UInt8) (l : List UInt8) : Am c l ≠ [] := by
 cases l with
 | nil => simp [Am]
 | cons b t =>
   unfold Am
   split
   · simp
   · cases Am c t <;> simp
theorem ES {c : UInt8} : ∀ {l : List UInt8}, (∀ x ∈ l, x ≠ c) → Am c l = [l]
 | [], _ => rfl
 | b :: t, h => by
   unfold Am
   rw [if_neg (h b (.head _)), ES (l := t) (fun x hx => h x (.tail _ hx))]
theorem Ci {c : UInt8} : ∀ {a b : List UInt8}, (∀ x ∈ a, x ≠ c) → Am c (a ++ c :: b) = a :: Am c b
 | [], b, _ => by simp [Am]
 | x :: t, b, h => by
   rw [List.cons_append]
   conv => lhs; unfold Am
   rw [if_neg (h x (.head _)), Ci (a := t) (b := b) (fun x hx => h x (.tail _ hx))]
theorem R1 {c : UInt8} {l : List UInt8} {f k : Nat} (hk : k < l.length) (hf : f ≤ k) (hc : l[k]? = some c) : l.drop f = (l.drop f).take (k - f) ++ c :: l.drop (k + 1) := by
 conv => lhs; rw [← List.take_append_drop (k - f) (l.drop f)]
 rw [List.drop_drop, show f + (k - f) = k by omega, List.drop_eq_getElem_cons hk, (List.getElem?_eq_some_iff.1 hc).2]
theorem QG {c : UInt8} {l : List UInt8} {f k : Nat} (h : ∀ j, f ≤ j → j < k → l[j]? ≠ some c) : ∀ x ∈ (l.drop f).take (k - f), x ≠ c := fun x hx e => by
 subst e
 obtain ⟨j, hj⟩ := List.mem_iff_getElem?.1 hx
 rw [List.getElem?_take] at hj
 split at hj
 ·
  rw [List.getElem?_drop] at hj
  exact h (f + j) (by omega) (by omega) hj
 · cases hj
theorem VB (s : ByteArray) (i j : Nat) : (s.extract i j).data.toList = (s.data.toList.drop i).take (j - i) := by
 simp only [ByteArray.data_extract, Array.toList_extract, List.extract_eq_take_drop]
theorem cJ (l : List UInt8) (i j : Nat) : (tx l).extract i j = tx ((l.drop i).take (j - i)) := by
 rw [← WK ((tx l).extract i j), VB, FH]
theorem Lw (c : UInt8) (l : List UInt8) (hs : l.length ≤ 1200000) (w0 : World) : Bb Tryz.prog 51 [.string (tx l), .int .u8 (c.toNat : Int)] w0 (fun v : Option Addr × Nat => .slice v.1 (Am c l).length v.2) (fun v => oR 9 1 v.1 (Am c l) v.2 AM) := by
 have hl := BA l
 have hat : ∀ j, (tx l).data.toList.getD j 0 = l.getD j 0 := fun j => rfl
 refine Eo Ai Tryz.func51 Tryz.ntmps51 ?_
 intro a hS
 refine Wq 22 hS ?_; intro a hS
 refine AW (γ := (Nat × Nat × List (List UInt8) × Value)) (fun G a w => St 35 Ai w0 a w [(7, .int .i64 (G.1 : Int)), (6, .int .i64 (G.2.1 : Int)), (5, G.2.2.2), (0, .string (tx l)), (1, .int .u8 (c.toNat : Int))] [AJ 9 1 G.2.2.2 G.2.2.1.length (G.2.2.1.flatMap AM)] ∧ G.1 ≤ l.length + 1 ∧ G.2.2.1.length ≤ G.1 ∧ (G.1 ≤ l.length → G.2.1 ≤ G.1 ∧ Am c l = G.2.2.1 ++ Am c (l.drop G.2.1) ∧ ∀ j, G.2.1 ≤ j → j < G.1 → l[j]? ≠ some c) ∧ (l.length < G.1 → Am c l = G.2.2.1)) (fun G => l.length + 1 - G.1) (0, 0, [], .slice none 0 0) ⟨(hS.own_nil 9 1).sq, Nat.zero_le _, Nat.le_refl _, fun _ => ⟨Nat.le_refl _, rfl, fun j _ hj => by omega⟩, fun h => absurd h (Nat.not_lt_zero _)⟩ ?_
 intro G a w hI
 obtain ⟨k, f, o, vo⟩ := G
 obtain ⟨hS, hk, hok, hA, hB⟩ := hI
 simp only at hS hk hok hA hB
 refine Wh 9 hS ?_
 refine iD (fun hc11 => ?_) fun hc11 => ?_
 ·
  have hks : k ≤ l.length := by omega
  obtain ⟨hfk, hw, hno⟩ := hA hks
  refine Wn 11 ?_
  refine Lm 6 24 (.bool (decide (k = l.length ∨ l[k]? = some c))) ?_ ?_
  ·
   intro hcM24
   refine Gd 18 ?_ ?_ <;> intro hg18
   ·
    refine Wn 6 ?_
    exact Et 7 24 18 hcM24 rfl ((decide_eq_true (.inl (by omega))).symm) hg18
   have hkl : k < l.length := by omega
   refine Wn 6 ?_
   exact Ef 7 24 18 hcM24 rfl (by have e := List.getElem?_eq_getElem (l := l) (i := k) (by omega); exact decide_eq_decide.2 ⟨fun h => .inr (by rw [Int.toNat_natCast, hat, List.getD_eq_getElem?_getD, e] at h; rw [e]; congr 1; apply UInt8.toNat_inj.1; simp only [Option.getD_some] at h; omega), fun h => by rw [Int.toNat_natCast, hat, List.getD_eq_getElem?_getD, h.resolve_left (by omega)]; rfl⟩) hg18
  ·
   refine Wn 2 ?_
   refine iD (fun hc24 => ?_) fun hc24 => ?_
   ·
    refine Wn 6 ?_
    refine Xp (Sm (i := (f : Int)) (j := (k : Int)) rfl rfl rfl Dp.1 (by omega)) ?_
    intro a w hS
    rw [Int.toNat_natCast, Int.toNat_natCast, cJ] at hS
    refine Un hS (Lo (Bz ?_)); intro b30
    refine Lo (A1 ?_); intro v31 hv31
    refine Wn 15 ?_
    intro a w hS
    refine ⟨(k + 1, k + 1, o ++ [(l.drop f).take (k - f)], v31), by show l.length + 1 - (k + 1) < l.length + 1 - k; omega, ?_, by show k + 1 ≤ l.length + 1; omega, by simp; omega, fun h1 => ⟨Nat.le_refl _, ?_, fun j h2 h3 => by simp only at h2 h3; omega⟩, fun h1 => ?_⟩
    ·
     show St _ _ _ _ _ _ [AJ _ _ v31 (o ++ [(l.drop f).take (k - f)]).length ((o ++ [(l.drop f).take (k - f)]).flatMap AM)]
     rw [List.length_append, List.flatMap_append]
     exact hS.sp
    ·
     simp only at h1 ⊢
     have hd := Ci (b := l.drop (k + 1)) (QG hno)
     rw [← R1 (l := l) (by omega) hfk (hc24.resolve_left (by omega))] at hd
     rw [hw, hd, List.append_assoc]
     rfl
    ·
     simp only at h1 ⊢
     have hks2 : k = l.length := by omega
     rw [hw, ES (l := l.drop f) (fun x hx => QG (f := f) (k := k) hno x (by rw [List.take_of_length_le (by rw [List.length_drop]; omega)]; exact hx)), List.take_of_length_le (by rw [List.length_drop]; omega)]
   refine Wn 8 ?_
   intro a w hS
   exact ⟨(k + 1, f, o, vo), by show l.length + 1 - (k + 1) < l.length + 1 - k; omega, hS.sp, by show k + 1 ≤ l.length + 1; omega, by show o.length ≤ k + 1; omega, fun h1 => ⟨by show f ≤ k + 1; omega, hw, fun j h2 h3 => by
       rcases Nat.lt_or_ge j k with h4 | h4
       · exact hno j h2 h4
       · simp only at h3
         obtain rfl : j = k := by omega
         exact fun e => hc24 (.inr e)⟩, fun h1 => by simp only at h1; omega⟩
 refine Wn 1 ?_
 intro a w hS
 refine AH (AH (Aj ?_))
 refine Wh 8 hS ?_
 intro a w hS
 refine Ro hS Tryz.results51 ?_
 have hw2 := hB (by omega)
 obtain ⟨q, cc, rfl⟩ := AN (hS.gg (X := AJ 9 1 vo o.length (o.flatMap AM)))
 rw [hw2]
 exact ⟨(q, cc), rfl, hS.chg, hS.ok (oR 9 1 q o cc AM) (by repeat constructor), fun b hb => (hS.mine (oR 9 1 q o cc AM) (by repeat constructor) rfl b hb).resolve_right (fun h => h)⟩
theorem Jj : ∀ (ws : List (List UInt8)), ws ≠ [] → (∀ w ∈ ws, ∀ x ∈ w, x ≠ (32 : UInt8)) → Am 32 (Eu ws) = ws
 | [], h, _ => absurd rfl h
 | [w], _, h => ES (h w (.head _))
 | w :: v :: r, _, h => by
   show Am 32 (w ++ 32 :: Eu (v :: r)) = _
   rw [Ci (h w (.head _)), Jj (v :: r) (by simp) (fun x hx => h x (.tail _ hx))]
theorem Jk : ∀ x ∈ DK, Am 32 (Eu (Ac x.2)) = Ac x.2 := by
 intro x hx
 have h : ∀ y ∈ DK.map (fun x => Ac x.2), y ≠ [] ∧ ∀ w ∈ y, ∀ b ∈ w, b ≠ (32 : UInt8) := by decide +kernel
 obtain ⟨h1, h2⟩ := h _ (List.mem_map.2 ⟨x, hx, rfl⟩)
 exact Jj _ h1 h2
theorem VC (k : Nat) : (tx (eT k) = ⟨#[116]⟩ ↔ k = 0) ∧ (tx (eT k) = ⟨#[110]⟩ ↔ k = 1) := by
 unfold eT
 by_cases h0 : k = 0
 · subst h0; simp [tx]
 ·
  by_cases h1 : k = 1
  · subst h1; simp [tx]
  · rw [if_neg h0, if_neg h1]; simp [tx, h0, h1]
structure mV (f : Fd) : Prop where
 t : f.kd = 0 → ∀ c x, GF c (tx f.nm) x = c.putT f.off x
 n : f.kd = 1 → ∀ c x, Ji c (tx f.nm) x = c.putN f.off x
theorem VD : ∀ x ∈ DK, ∀ f ∈ AE x.2, mV f := by
 have key : ∀ f ∈ [KW, Hg, Mk, Pm, IT, G5, La, IE, JF, Wp, Pn, E5, G6, Lb, IU], mV f := by
  intro f hf
  simp only [List.mem_cons, List.not_mem_nil, or_false] at hf
  rcases hf with rfl | rfl | rfl | rfl | rfl | rfl | rfl | rfl | rfl | rfl | rfl | rfl | rfl | rfl | rfl
  all_goals exact ⟨fun h c x => (by first | rfl | exact absurd h (by decide)), fun h c x => (by first | rfl | exact absurd h (by decide))⟩
 intro x hx f hf
 refine key f ?_
 have hx : (x.1, AE x.2) ∈ pJ := by rw [← kG]; exact List.mem_map.2 ⟨x, hx, rfl⟩
 obtain ⟨p, fl⟩ := x
 simp only at hx hf
 generalize AE fl = fs at hx hf
 unfold pJ at hx
 simp only [List.mem_cons, List.not_mem_nil, or_false, Prod.mk.injEq] at hx
 rcases hx with ⟨_, rfl⟩ | ⟨_, rfl⟩ | ⟨_, rfl⟩ | ⟨_, rfl⟩ | ⟨_, rfl⟩ | ⟨_, rfl⟩ | ⟨_, rfl⟩ | ⟨_, rfl⟩ | ⟨_, rfl⟩ | ⟨_, rfl⟩ | ⟨_, rfl⟩ | ⟨_, rfl⟩ <;> (simp only [List.mem_cons, List.not_mem_nil, or_false] at hf ⊢; grind)
def MB (f : Fd) (y : JV) : List B5 := if f.kd = 2 then (AU y).2 else []
def Lx (f : Fd) (fv : Value) (n : Nat) (p : Option Addr × Nat) : Value := if f.kd = 2 then .slice p.1 n p.2 else fv
theorem NY (W0 : World) (n : Nat) (v y : JV) (cs : List Value) (f : Fd) (hok : f.ok) (hz : mV f) (c : Cd) (fa : Option Addr) (m fc : Nat) (hy : CI v f.nm = some y) (he : JG f y = 0) (hnum : y.k = 3 → ∃ m : Int, -9223372036854775808 ≤ m ∧ m ≤ 9223372036854775807 ∧ y.t = Lib.itoa m) (hfx : f.kd = 2 → Om y ∧ y.ns.length ≤ 1000) (hns : v.ns.length ≤ 1000) (w0 : World) (hj : DZ (n + 3) v cs W0) (hold : AQ W0 w0) :
 Bb Tryz.prog 123 [.agg (AB c (.slice fa m fc)).toArray, .agg cs.toArray, .string (tx f.nm), .string (tx (eT f.kd))] w0 (fun p : Option Addr × Nat => .tuple [.agg (AB (G7 f y c) (Lx f (.slice fa m fc) (MB f y).length p)).toArray, .int .i64 0].toArray) (fun p => oR 139 4 p.1 (MB f y) p.2 Az) := by
 obtain ⟨la, na, lm, lc, nc, hcs, hT⟩ := U9 hj
 obtain ⟨k0, k1⟩ := VC f.kd
 have hj0 := hj
 subst hcs
 refine Ew Ai Tryz.func123 Tryz.ntmps123 hold ?_
 intro a hS
 refine Wh 2 hS ?_
 refine Lo (Bx ?_); intro b4
 refine Lo (Bx ?_); intro b5
 refine Lo (Al ?_); intro b8
 refine Wn 7 ?_
 refine Lo (cN TA (fun hS => Og W0 (n + 2) v y _ f.nm hy _ hj0 hns hS.od) ?_); intro x19
 obtain ⟨r19, hr19⟩ := x19
 have hr0 := hr19
 obtain ⟨lv2, nv2, ⟨a1, a2, a3, rfl⟩, ⟨a4, a5, a6, rfl⟩, hrc⟩ := hr19.four
 subst hrc
 intro a w hS
 simp only at hS
 refine Wh 3 hS ?_
 refine Lo (Al ?_); intro b10
 refine Lo (Sa ?_)
 refine Wn 10 ?_
 refine Ie 23 false rfl rfl ?_
 refine Wn 16 ?_
 refine iD (fun hc26 => ?_) fun hc26 => ?_
 ·
  have hk0 : f.kd = 0 := k0.1 hc26
  have hy4 : y.k = 4 := by unfold JG at he; rw [if_pos hk0] at he; split at he; assumption; exact absurd he (by decide)
  refine Wn 8 ?_
  refine Ie 30 false rfl (decide_eq_false (fun h => h (by omega))) ?_
  refine Wn 9 ?_
  refine Lo (cP YN (fun _ => H7 c fa m fc (tx f.nm) y.t _) ?_)
  refine Lo (Sa ?_)
  refine Wn 4 ?_
  intro a w hS
  refine AD (AC ?_)
  refine Rm hS Tryz.results123 ?_
  have e : G7 f y c = GF c (tx f.nm) y.t := by unfold G7; rw [if_pos hk0, hz.t hk0]
  have e2 : MB f y = [] := by unfold MB; rw [if_neg (by omega)]
  have e3 : ∀ fv n p, Lx f fv n p = fv := fun fv n p => by unfold Lx; rw [if_neg (by omega)]
  refine ⟨(none, 0), by simp only [e, e3], hS.chg, ?_, fun b hb => ?_⟩
  · simp only [e2]; exact LA w 139 4
  · simp [AJ, AT.F, Value.ownBlock] at hb
 refine Wn 6 ?_
 refine iD (fun hc37 => ?_) fun hc37 => ?_
 ·
  have hk1 : f.kd = 1 := k1.1 hc37
  have hy3 : y.k = 3 ∧ (BR y).2 = 0 := by
   have h2 : (BR y).2 = 0 := by unfold JG at he; rw [if_neg (by omega), if_pos hk1] at he; exact he
   exact ⟨cC h2, h2⟩
  obtain ⟨m', m0, m1, hyt⟩ := hnum hy3.1
  have hint : BR y = (m', 0) := by
   obtain ⟨yk, yt, yns, yl⟩ := y
   have hyt : yt = Lib.itoa m' := hyt
   have hk3 : yk = 3 := hy3.1
   subst hyt hk3
   have h3 : D1 (.mk 3 (Lib.itoa m') yns yl) = (m', 0) := Fj m0 m1
   unfold BR; rw [h3]; rfl
  intro a w hS
  rw [hy3.1, hyt] at hS
  refine Wh 3 hS ?_
  refine Lo (cP TB (fun _ => Of m' m0 m1 a1 a4 a2 a3 a5 a6 _) ?_)
  refine Wn 14 ?_
  refine Ie 45 false rfl (by decide) ?_
  refine Wn 8 ?_
  refine Lo (cP YO (fun _ => GG c fa m fc (tx f.nm) m' _) ?_)
  refine Wn 1 ?_
  refine Lo (Sa ?_)
  refine Wn 4 ?_
  intro a w hS
  refine AD (AC ?_)
  refine Rm hS Tryz.results123 ?_
  have e : G7 f y c = Ji c (tx f.nm) m' := by unfold G7; rw [if_neg (by omega), if_pos hk1, hz.n hk1, hint]
  have e2 : MB f y = [] := by unfold MB; rw [if_neg (by omega)]
  have e3 : ∀ fv n p, Lx f fv n p = fv := fun fv n p => by unfold Lx; rw [if_neg (by omega)]
  refine ⟨(none, 0), by simp only [e, e3], hS.chg, ?_, fun b hb => ?_⟩
  · simp only [e2]; exact LA w 139 4
  · simp [AJ, AT.F, Value.ownBlock] at hb
 have hk2 : f.kd = 2 := by
  have h0 : f.kd ≠ 0 := fun h => hc26 (k0.2 h)
  have h1 : f.kd ≠ 1 := fun h => hc37 (k1.2 h)
  rcases hok.kd with h | h | h <;> omega
 have hy6 : y.k = 6 := by unfold JG at he; rw [if_neg (by omega), if_neg (by omega)] at he; split at he; assumption; exact absurd he (by decide)
 obtain ⟨hf1, hf2⟩ := hfx hk2
 refine Wn 11 ?_
 refine Ie 53 false rfl (decide_eq_false (fun h => h (by omega))) ?_
 refine Wn 6 ?_
 refine Lo (cN iU (fun hS => VA W0 n y _ _ hr0 hf1 hf2 hS.od) ?_); intro x57
 obtain ⟨q57, c57⟩ := x57
 intro a w hS
 simp only at hS
 refine Wh 11 hS ?_
 refine Lo (Sb ?_)
 refine Wn 6 ?_
 refine Lo (Sa ?_)
 refine Wn 4 ?_
 intro a w hS
 refine Rm hS Tryz.results123 ?_
 have e : G7 f y c = c := by unfold G7; rw [if_neg (by omega), if_neg (by omega)]
 have e2 : MB f y = (AU y).2 := by unfold MB; rw [if_pos hk2]
 have e3 : ∀ fv n p, Lx f fv n p = .slice p.1 n p.2 := fun fv n p => by unfold Lx; rw [if_pos hk2]
 refine ⟨(q57, c57), by simp only [e, e2, e3]; rfl, hS.chg, ?_, fun b hb => ?_⟩
 · simp only [e2]; exact hS.ok (oR 139 4 q57 (AU y).2 c57 Az) (by repeat constructor)
 ·
  simp only [e2] at hb
  exact (hS.mine (oR 139 4 q57 (AU y).2 c57 Az) (by repeat constructor) rfl b hb).resolve_right id
theorem Xw (s : List UInt8) (hs : s.length ≤ 1200000) (w0 : World) : Ae Tryz.prog 166 [.string (tx s)] w0 (.bool (Ba s)) := by
 have hsz := BA s
 refine Eo Ai Tryz.func166 Tryz.ntmps166 ?_
 intro a hS
 refine Wq 12 hS ?_; intro a hS
 refine AW (γ := Nat) (fun k a w => St 34 Ai w0 a w [(3, .int .i64 (k : Int)), (0, .string (tx s))] [] ∧ k ≤ s.length ∧ ∀ (j : Nat) (x : UInt8), j < k → s[j]? = some x → NB x.toNat = false) (fun k => s.length - k) 0 ⟨hS.sp, Nat.zero_le _, fun j x hj => by omega⟩ ?_
 intro k a w hI
 obtain ⟨hS, hk, hno⟩ := hI
 refine Wh 9 hS ?_
 refine iD (fun hc7 => ?_) fun hc7 => ?_
 ·
  have hkl : k < s.length := by omega
  obtain ⟨x, hx⟩ : ∃ x, s[k]? = some x := ⟨_, List.getElem?_eq_getElem hkl⟩
  have hx0 : (tx s).data.toList.getD (k : Int).toNat 0 = x := HB hx
  refine Wn 9 ?_
  intro a w hS
  rw [hx0] at hS
  refine Wh 2 hS ?_
  refine Lm 5 19 (.bool (decide (x.toNat < 33 ∨ 126 < x.toNat))) ?_ ?_
  ·
   intro hcM19
   refine Gd 14 ?_ ?_ <;> intro hg14
   ·
    refine Wn 5 ?_
    exact Et 6 19 14 hcM19 rfl ((decide_eq_true (.inl (by omega))).symm) hg14
   refine Wn 3 ?_
   intro a w hS
   rw [hx0] at hS
   refine Wh 2 hS ?_
   exact Ef 6 19 14 hcM19 rfl (decide_eq_decide.2 (by omega)) hg14
  ·
   refine Wn 1 ?_
   refine Lm 5 25 (.bool (decide ((x.toNat < 33 ∨ 126 < x.toNat) ∨ x.toNat = 47))) ?_ ?_
   ·
    intro hcM25
    refine Gd 20 ?_ ?_ <;> intro hg20
    ·
     refine Wn 5 ?_
     exact Et 6 25 20 hcM25 rfl ((decide_eq_true (.inl hg20)).symm) hg20
    refine Wn 3 ?_
    intro a w hS
    rw [hx0] at hS
    refine Wh 2 hS ?_
    exact Ef 6 25 20 hcM25 rfl (decide_eq_decide.2 (by omega)) hg20
   ·
    refine Wn 2 ?_
    refine iD (fun hc25 => ?_) fun hc25 => ?_
    ·
     refine Wn 6 ?_
     intro a w hS
     refine AD (AC (AC (AD (AC ?_))))
     refine Ro hS Tryz.results166 ?_
     refine ⟨?_, hS.chg⟩
     rw [show Ba s = false by unfold Ba; rw [Bool.and_eq_false_iff]; right; rw [Bool.not_eq_false', List.any_eq_true]; exact ⟨x, List.mem_of_getElem? hx, by unfold NB; simp; omega⟩]
    refine Wn 8 ?_
    intro a w hS
    exact ⟨k + 1, by omega, hS.sp, by omega, fun j y hj hy => by
        rcases Nat.lt_or_ge j k with h1 | h1
        · exact hno j y h1 hy
        · obtain rfl : j = k := by omega
          rw [hx] at hy; injection hy with hy; subst hy
          unfold NB; simp; omega⟩
 have hall : s.any (fun b => NB b.toNat) = false := by
  rw [List.any_eq_false]
  intro x hx
  obtain ⟨j, hj⟩ := List.getElem?_of_mem hx
  rw [hno j x (by have := (List.getElem?_eq_some_iff.1 hj).1; omega) hj]; decide
 refine Wn 1 ?_
 intro a w hS
 refine AH (AH (Aj ?_))
 refine Wh 7 hS ?_
 refine Lm 4 33 (.bool (Ba s)) ?_ ?_
 ·
  intro hcM33
  refine Gd 29 ?_ ?_ <;> intro hg29
  ·
   refine Wn 4 ?_
   exact Et 5 33 29 hcM33 rfl (by unfold Ba; rw [hall, decide_eq_true (show s ≠ [] by intro e; have : s.length = 0 := (by rw [e]; rfl); omega)]; simp; omega) hg29
  refine Wn 4 ?_
  exact Ef 5 33 29 hcM33 rfl (by unfold Ba; rw [decide_eq_false (show ¬ s ≠ [] by intro h; exact h (List.eq_nil_of_length_eq_zero (by omega)))]; rfl) hg29
 ·
  refine Wn 4 ?_
  intro a w hS
  refine Ro hS Tryz.results166 ?_
  exact ⟨rfl, hS.chg⟩
theorem HN {c : UInt8} : ∀ {l w : List UInt8}, w ∈ Am c l → w.length ≤ l.length
 | [], w, h => by rw [show Am c [] = [[]] from rfl, List.mem_singleton] at h; subst h; exact Nat.le_refl _
 | b :: t, w, h => by
   unfold Am at h
   split at h
   ·
    rcases List.mem_cons.1 h with rfl | h
    · exact Nat.zero_le _
    · have := HN h; rw [List.length_cons]; omega
   ·
    split at h
    · obtain rfl := List.mem_singleton.1 h; simp
    ·
     rename_i w2 ws e
     rcases List.mem_cons.1 h with rfl | h
     ·
      have := HN (l := t) (w := w2) (by rw [e]; exact .head _)
      rw [List.length_cons, List.length_cons]; omega
     ·
      have := HN (l := t) (w := w) (by rw [e]; exact .tail _ h)
      rw [List.length_cons]; omega
def NZ : List UInt8 := [105, 110, 118, 111, 105, 99, 101, 115]
def J9 : List UInt8 := [98, 97, 108, 97, 110, 99, 101, 115]
def Y0 (n : Nat) (w : List UInt8) (ws : List (List UInt8)) : Prop := (ws.length = n ∧ ws[0]? = some []) ∧ ws[1]? = some w
instance (n : Nat) (w : List UInt8) (ws : List (List UInt8)) : Decidable (Y0 n w ws) := by unfold Y0; exact inferInstance
def CP (ws : List (List UInt8)) : Cd × Bool := if Y0 3 NZ ws then ((CQ 13).putN 11 (DO (ws.getD 2 [])).1, (DO (ws.getD 2 [])).2) else if Y0 4 J9 ws then (((CQ 14).putT 1 (ws.getD 2 [])).putN 8 (DO (ws.getD 3 [])).1, (DO (ws.getD 3 [])).2 && Ba (ws.getD 2 [])) else (CQ 0, false)
theorem QH (s : List UInt8) (hs : s.length ≤ 1200000) (w0 : World) : Ae Tryz.prog 121 [.string (tx s)] w0 (.tuple [.agg (AB (CP (Am 47 s)).1 (.slice none 0 0)).toArray, .bool (CP (Am 47 s)).2].toArray) := by
 obtain ⟨ws, hws⟩ : ∃ ws, Am 47 s = ws := ⟨_, rfl⟩
 have hcut := Lw 47 s hs
 have hwl : ∀ x ∈ ws, x.length ≤ 1200000 := fun x hx => by have := HN (hws ▸ hx); omega
 rw [hws] at hcut ⊢
 refine Eo Ai Tryz.func121 Tryz.ntmps121 ?_
 intro a hS
 refine Wh 2 hS ?_
 refine Lo (Al ?_); intro b2
 refine Wn 6 ?_
 refine Lo (cN V4 (fun _ => hcut _) ?_); intro x10
 obtain ⟨qw, cw⟩ := x10
 intro a w hS
 simp only at hS
 have hsm : ∀ k < 4, (ws.getD k []).length ≤ 1200000 := fun k _ => by
  rw [List.getD_eq_getElem?_getD]
  cases h : ws[k]? with
  | none => exact Nat.zero_le _
  | some x => exact hwl x (List.mem_of_getElem? h)
 have hex : ∀ k, k < ws.length → ∃ g, qw = some ⟨g, 0, none⟩ ∧ ws[k]? = some (ws.getD k []) := fun k hk => by
  obtain ⟨g, rfl⟩ := Dv (hS.gg (X := oR 9 1 qw ws cw AM)) (by omega)
  exact ⟨g, rfl, by rw [List.getD_eq_getElem?_getD, List.getElem?_eq_getElem hk]; rfl⟩
 obtain ⟨x0, hx0⟩ : ∃ x, ws.getD 0 [] = x := ⟨_, rfl⟩
 obtain ⟨x1, hx1⟩ : ∃ x, ws.getD 1 [] = x := ⟨_, rfl⟩
 obtain ⟨x2, hx2⟩ : ∃ x, ws.getD 2 [] = x := ⟨_, rfl⟩
 obtain ⟨x3, hx3⟩ : ∃ x, ws.getD 3 [] = x := ⟨_, rfl⟩
 have e0 : 0 < ws.length → ws[0]? = some x0 := fun h => by obtain ⟨_, _, h⟩ := hex 0 h; rw [h, hx0]
 have e1 : 1 < ws.length → ws[1]? = some x1 := fun h => by obtain ⟨_, _, h⟩ := hex 1 h; rw [h, hx1]
 have e2 : 2 < ws.length → ws[2]? = some x2 := fun h => by obtain ⟨_, _, h⟩ := hex 2 h; rw [h, hx2]
 have e3 : 3 < ws.length → ws[3]? = some x3 := fun h => by obtain ⟨_, _, h⟩ := hex 3 h; rw [h, hx3]
 have s2 : x2.length ≤ 1200000 := hx2 ▸ hsm 2 (by omega)
 have s3 : x3.length ≤ 1200000 := hx3 ▸ hsm 3 (by omega)
 obtain ⟨g, hg⟩ : ∃ g, 0 < ws.length → qw = some ⟨g, 0, none⟩ := by
  by_cases h : 0 < ws.length
  · obtain ⟨g, h, _⟩ := hex 0 h; exact ⟨g, fun _ => h⟩
  · exact ⟨0, fun h2 => absurd h2 h⟩
 have hpos : 0 < ws.length := List.length_pos_iff.2 (by rw [← hws]; exact NX 47 s)
 obtain rfl := hg hpos
 have htn : ∀ x : List UInt8, tx x = ⟨#[]⟩ ↔ x = [] := fun x => EN
 have hat : ∀ x : List UInt8, (tx x).data.toList = x := fun x => by unfold tx; simp
 have hszx : ∀ x : List UInt8, (tx x).size = x.length := BA
 refine Wh 10 hS ?_
 refine Lm 5 19 (.bool (decide (ws.length = 3 ∧ ws[0]? = some []))) ?_ ?_
 ·
  intro hcM19
  refine Gd 14 ?_ ?_ <;> intro hg14
  ·
   refine Wn 1 ?_
   refine Xg (BI (i := 0) rfl rfl Ar.1 A8.1 (by omega)) ?_
   refine Xg (AI rfl Af.1 (fun w hh => Aq (hh (oR 9 1 (some ⟨g, 0, none⟩) ws cw AM) (by repeat constructor)) (e0 (by omega)))) ?_
   refine Wn 2 ?_
   exact Et 6 19 14 hcM19 rfl (by rw [e0 (by omega)]; exact decide_eq_decide.2 ⟨fun h => ⟨by omega, by rw [(htn x0).1 h]⟩, fun h => (htn x0).2 (by injection h.2)⟩) hg14
  refine Wn 5 ?_
  exact Ef 6 19 14 hcM19 rfl ((decide_eq_false (fun h => hg14 (by omega))).symm) hg14
 ·
  refine Wn 1 ?_
  refine Lm 5 25 (.bool (decide (Y0 3 NZ ws))) ?_ ?_
  ·
   intro hcM25
   refine Gd 20 ?_ ?_ <;> intro hg20
   ·
    refine Wn 1 ?_
    refine Xg (BI (i := 1) rfl rfl Ar.1 A8.1 (by omega)) ?_
    refine Xg (AI rfl Af.1 (fun w hh => Aq (hh (oR 9 1 (some ⟨g, 0, none⟩) ws cw AM) (by repeat constructor)) (e1 (by omega)))) ?_
    refine Wn 2 ?_
    exact Et 6 25 20 hcM25 rfl (by refine decide_eq_decide.2 ⟨fun h => ⟨hg20, by rw [e1 (by omega), Bn (b := NZ) h]⟩, fun h => ?_⟩; have h2 := h.2; rw [e1 (by omega)] at h2; injection h2 with h2; rw [h2]; rfl) hg20
   refine Wn 5 ?_
   exact Ef 6 25 20 hcM25 rfl ((decide_eq_false (fun h => hg20 h.1)).symm) hg20
  ·
   refine Wn 2 ?_
   refine iD (fun hc25 => ?_) fun hc25 => ?_
   ·
    have hl3 : ws.length = 3 := hc25.1.1
    refine Wn 3 ?_
    refine Xp (BI (i := 2) rfl rfl Ar.1 A8.1 (by omega)) ?_
    refine Xp (AI rfl Af.1 (fun w hh => Aq (hh (oR 9 1 (some ⟨g, 0, none⟩) ws cw AM) (by repeat constructor)) (e2 (by omega)))) ?_
    refine Lo (cP S9 (fun _ => N0 (tx x2) (by rw [hszx]; omega) _) ?_)
    intro a w hS
    rw [hat x2] at hS
    refine Wh 12 hS ?_
    refine Lo (Sa ?_)
    refine Wn 5 ?_
    intro a w hS
    refine Rm hS Tryz.results121 ?_
    refine ⟨?_, hS.chg⟩
    unfold CP
    rw [if_pos hc25, hx2]
    rfl
   refine Wn 9 ?_
   refine Lm 5 44 (.bool (decide (ws.length = 4 ∧ ws[0]? = some []))) ?_ ?_
   ·
    intro hcM44
    refine Gd 39 ?_ ?_ <;> intro hg39
    ·
     refine Wn 1 ?_
     refine Xg (BI (i := 0) rfl rfl Ar.1 A8.1 (by omega)) ?_
     refine Xg (AI rfl Af.1 (fun w hh => Aq (hh (oR 9 1 (some ⟨g, 0, none⟩) ws cw AM) (by repeat constructor)) (e0 (by omega)))) ?_
     refine Wn 2 ?_
     exact Et 6 44 39 hcM44 rfl (by rw [e0 (by omega)]; exact decide_eq_decide.2 ⟨fun h => ⟨by omega, by rw [(htn x0).1 h]⟩, fun h => (htn x0).2 (by injection h.2)⟩) hg39
    refine Wn 5 ?_
    exact Ef 6 44 39 hcM44 rfl ((decide_eq_false (fun h => hg39 (by omega))).symm) hg39
   ·
    refine Wn 1 ?_
    refine Lm 5 50 (.bool (decide (Y0 4 J9 ws))) ?_ ?_
    ·
     intro hcM50
     refine Gd 45 ?_ ?_ <;> intro hg45
     ·
      refine Wn 1 ?_
      refine Xg (BI (i := 1) rfl rfl Ar.1 A8.1 (by omega)) ?_
      refine Xg (AI rfl Af.1 (fun w hh => Aq (hh (oR 9 1 (some ⟨g, 0, none⟩) ws cw AM) (by repeat constructor)) (e1 (by omega)))) ?_
      refine Wn 2 ?_
      exact Et 6 50 45 hcM50 rfl (by refine decide_eq_decide.2 ⟨fun h => ⟨hg45, by rw [e1 (by omega), Bn (b := J9) h]⟩, fun h => ?_⟩; have h2 := h.2; rw [e1 (by omega)] at h2; injection h2 with h2; rw [h2]; rfl) hg45
     refine Wn 5 ?_
     exact Ef 6 50 45 hcM50 rfl ((decide_eq_false (fun h => hg45 h.1)).symm) hg45
    ·
     refine Wn 2 ?_
     refine iD (fun hc50 => ?_) fun hc50 => ?_
     ·
      have hl4 : ws.length = 4 := hc50.1.1
      refine Wn 3 ?_
      refine Xp (BI (i := 3) rfl rfl Ar.1 A8.1 (by omega)) ?_
      refine Xp (AI rfl Af.1 (fun w hh => Aq (hh (oR 9 1 (some ⟨g, 0, none⟩) ws cw AM) (by repeat constructor)) (e3 (by omega)))) ?_
      refine Lo (cP S9 (fun _ => N0 (tx x3) (by rw [hszx]; omega) _) ?_)
      intro a w hS
      rw [hat x3] at hS
      refine Wh 8 hS ?_
      refine Dr 14 [] [oR 9 1 (some ⟨g, 0, none⟩) ws cw AM] ?_
      refine ZR 1 ?_
      refine Zx rfl (BI (i := 2) rfl rfl Ar.1 A8.1 (by omega)) ?_
      refine Zy rfl (AI rfl Af.1 (fun w hh => Aq (hh (oR 9 1 (some ⟨g, 0, none⟩) ws cw AM) (by repeat constructor)) (e2 (by omega)))) ?_
      refine ZR 4 ?_
      intro a w hS
      refine CG 2 (tf 12 2) 69 (.bool ((DO x3).2 && Ba x2)) hS ?_ ?_
      ·
       intro hcM69
       refine Un hS (Gs 64 ?_ ?_) <;> intro hg64
       ·
        refine ZR 1 ?_
        refine Zx rfl (BI (i := 2) rfl rfl Ar.1 A8.1 (by omega)) ?_
        refine Zy rfl (AI rfl Af.1 (fun w hh => Aq (hh (oR 9 1 (some ⟨g, 0, none⟩) ws cw AM) (by repeat constructor)) (e2 (by omega)))) ?_
        refine Z0 rfl (cP iS (fun _ => Xw x2 s2 _) ?_)
        refine Za ?_
        refine ZR 1 ?_
        exact Eb 6 69 64 hcM69 rfl (by rw [hg64]; rfl) hg64
       refine ZR 5 ?_
       exact Eb 6 69 64 hcM69 rfl (by rw [hg64]; rfl) hg64
      ·
       intro a w hS
       refine Un hS (Z0 rfl (Sa ?_))
       refine Za ?_
       refine ZR 1 ?_
       refine Wn 4 ?_
       intro a w hS
       refine Rm hS Tryz.results121 ?_
       refine ⟨?_, hS.chg⟩
       unfold CP
       rw [if_neg hc25, if_pos hc50, hx2, hx3]
       rfl
     refine Wn 5 ?_
     refine Lo (Sa ?_)
     refine Wn 4 ?_
     intro a w hS
     refine Rm hS Tryz.results121 ?_
     refine ⟨?_, hS.chg⟩
     unfold CP
     rw [if_neg hc25, if_neg hc50]
     rfl
section
theorem ET (P : Program) (g o : Nat) (t : TypeId) (fz : Nat × Nat) : ∀ (vs : List Value) (i : Nat) (cur : Array Value) (w : World), w.heap[g]? = some (.cells cur t fz) → cur.size ≤ fz.1 → o + i + vs.length ≤ cur.size → (∀ v ∈ vs, v.oneCell' = true) →
 (storeCells ⟨g, o, none⟩ vs i).run P w = .ok () (w.setRow g (cur.toList.take (o + i) ++ vs ++ cur.toList.drop (o + i + vs.length)).toArray)
 | [], i, cur, w, hg, _, _, _ => by
   simp only [storeCells, List.append_nil, List.length_nil, Nat.add_zero, List.take_append_drop, Array.toArray_toList]
   rw [setRow_self w g cur t fz hg]
   rfl
 | v :: rest, i, cur, w, hg, hfz, hl, h1 => by
   have hi : o + i < cur.size := by simp at hl; omega
   have hadd : (⟨g, o, none⟩ : Addr).add i = ⟨g, o + i, none⟩ := by unfold Addr.add; split <;> simp_all
   have hcell : w.cell? ⟨g, o + i, none⟩ = some cur[o + i] := by simp [World.cell?, hg, hi]
   have hfro : w.frozen? ⟨g, o + i, none⟩ = false := by
    obtain ⟨lo, hi'⟩ := fz
    simp only [World.frozen?, hg, Bool.and_eq_false_iff, decide_eq_false_iff_not]
    left
    simp only at hfz
    omega
   have hst : (store ((⟨g, o, none⟩ : Addr).add i) v).run P w = .ok () (w.setRow g (cur.setIfInBounds (o + i) v)) := by
    rw [hadd, run_store P w _ v _ (h1 v (by simp)), hcell]
    simp [hfro, setCell_eq_setRow w g (o + i) cur t fz v hg]
   have ih := ET P g o t fz rest (i + 1) (cur.setIfInBounds (o + i) v) (w.setRow g (cur.setIfInBounds (o + i) v)) (setRow_heap w g cur _ t _ hg) (by simpa using hfz) (by simp at hl ⊢; omega) (fun x hx => h1 x (by simp [hx]))
   simp only [storeCells, Sem.run_bind, hst, Result.andThen_ok, ih, setRow_setRow]
   congr 3
   have e := list_seg_step cur.toList (o + i) v rest (by simp at hl ⊢; omega)
   simpa [Array.toList_setIfInBounds, Nat.add_assoc] using e
def cK (E b c : Nat) (l : List Int) (w : World) : Prop := ∃ sp : List Value, w.heap[b]? = some (.cells (l.map (Value.int .u8) ++ sp).toArray E (c, c + 1)) ∧ l.length + sp.length = c
def eU (E b c : Nat) (l : List Int) : AT := .any (fun k => k = b) (cK E b c l) true
theorem kP {E b c : Nat} {l : List Int} {w : World} (h : cK E b c l w) : (eU E b c l).ok w := by
 obtain ⟨sp, h1, h2⟩ := h
 exact ⟨fun k hk => by obtain rfl : k = b := hk; exact (Array.getElem?_eq_some_iff.1 h1).1, fun w' hw => ⟨sp, (hw b rfl).trans h1, h2⟩⟩
def Ly (v : Value) (l : List Int) : AT := .any (fun k => v.ownBlock = some k) (CL v l) true
theorem Y1 {v : Value} {l : List Int} {w : World} (h : CL v l w) (hne : l ≠ []) : (Ly v l).ok w := by
 rcases h with ⟨h, _⟩ | ⟨b, off, c, h1, rfl, h2, h3, h4⟩
 · exact absurd h hne
 · exact ⟨fun k hk => by have hk : (Value.slice (some ⟨b, off, none⟩) l.length c).ownBlock = some k := hk
                         obtain rfl : b = k := by simpa [Value.ownBlock] using hk
                         exact h4, fun w' hw => (show CL _ l w from .inr ⟨b, off, c, h1, rfl, h2, h3, h4⟩).keep fun k hk => by
     obtain ⟨_, _, _, _, e⟩ := hk
     injection e with e _ _
     injection e with e
     injection e with e _ _
     exact hw k (by rw [e]; rfl)⟩
section
variable {P : Program} {n : NN} {F0 : Nat → Prop} {w0 w : World} {a : Act} {L : List (Nat × Value)} {Γ : List AT}
variable {K : Act → World → Prop} {Q : Exit → Act → World → Prop} {d ty : Nat} {pos : String} {af : Array Edge} {g : Option (Nat × Bool)}
theorem Jl {T T' E : Nat} {x : Operand} {s : ByteArray} {u : TypeDesc} (hS : St n F0 w0 a w L Γ) (hx : ev L x = some (.string s)) (hs : s.size ≤ 1000000000) (hu : P.underlying T = some u) (hT : BD P T' = some E) (hE : P.underlying E = some (.int .u8)) (hn : Nat.blt d n.n = true)
 (h : ∀ b c a' w', (CE s).length ≤ c → c ≤ 9223372036854775807 → St n F0 w0 a' w' ((d, .slice (some ⟨b, 0, none⟩) (CE s).length c) :: L) (eU E b c (CE s) :: Γ) → K a' w') : OW P ⟨some d, .convert T T' x, ty, pos, af, g⟩ a w K Q := by
 have hcv := Lib.run_convert_string_bytes (P := P) w T T' E s hu (BF hT) hE
 have he : (execOp a.eval (⟨some d, .convert T T' x, ty, pos, af, g⟩ : Oper)).run P w = .ok (.value (.slice (some ⟨w.heap.size, 0, none⟩) s.size (grownCap w s.size 0 E))) (Lib.bytesWorld w E s) := by
  simp [execOp, hS.sl.ev hx, hcv]
 refine ⟨?_⟩
 unfold Oper.wp
 rw [he]
 have hcap : s.size ≤ grownCap w s.size 0 E := grownCap_ge w s.size 0 E
 have hcm : grownCap w s.size 0 E ≤ maxLen := grownCap_le_maxLen w s.size 0 E (by unfold maxLen; omega)
 have hcs : Lib.bytesCells w E s = ((CE s).map (Value.int .u8) ++ List.replicate (grownCap w s.size 0 E - s.size) (Value.int .u8 0)).toArray := by
  unfold Lib.bytesCells CE
  apply Array.ext'
  simp
 have hsz : (Lib.bytesCells w E s).size = grownCap w s.size 0 E := by
  rw [hcs, List.size_toArray, List.length_append, List.length_map, Cv, List.length_replicate]; omega
 rw [← Cv s]
 refine h w.heap.size _ _ _ (by rw [Cv]; exact hcap) (by rw [Cv]; unfold maxLen at hcm; omega) ((hS.fresh (Bd.of_below (Lib.bytesWorld_below w E s)) (kP ⟨List.replicate (grownCap w s.size 0 E - s.size) (Value.int .u8 0), ?_, ?_⟩) (fun b hb => by have : b = w.heap.size := hb; omega)).put hn _)
 · rw [Lib.bytesWorld_at_new, ← hcs, hsz, Cv]
 · rw [Cv, List.length_replicate]; omega
theorem Kr {T E b c k c2 : Nat} {zs : List Value} {x y : Operand} {q : Option Addr} {l ys : List Int} {Γ' : Value → List AT} (hS : St n F0 w0 a w L Γ) (hx : ev L x = some (.slice (some ⟨b, 0, none⟩) l.length c)) (hy : ev L y = some (.slice q k c2))
 (hT : BD P T = some E) (hs : BS P E = some 1) (hb : Ev P E = some 1) (hz : A3 P E = some zs) (hn : Nat.blt d n.n = true)
 (hm : eU E b c l ∈ Γ) (hcm : c ≤ 9223372036854775807) (hlc : l.length ≤ c) (hyl : ys.length = k) (hyq : CL (.slice q k c2) ys w) (hne : l ≠ []) (hbd : l.length + k ≤ 1000000000)
 (hr : ∀ v', DY (eU E b c l) (Ly v' (l ++ ys)) Γ (Γ' v'))
 (h : ∀ q' c' a' w', l.length + k ≤ c' → St n F0 w0 a' w' ((d, .slice q' (l.length + k) c') :: L) (Γ' (.slice q' (l.length + k) c')) → K a' w') : OW P ⟨some d, .call ⟨.builtin .append, #[x, y], #[T, T]⟩, ty, pos, af, g⟩ a w K Q := by
 obtain ⟨i, z, hi, hz', hsz, hby, hzc⟩ := Fq hs hb hz
 obtain ⟨sp, hg, hsp⟩ := (hS.get hm : cK E b c l w)
 have hbl := (Array.getElem?_eq_some_iff.1 hg).1
 have hlne : l ++ ys ≠ [] := by simp [hne]
 have hll : (l ++ ys).length = l.length + k := by rw [List.length_append, hyl]
 have hcells : ∀ (j : Nat) (u : Int), l[j]? = some u → w.cell? ⟨b, j, none⟩ = some (.int .u8 u) := fun j u hj => by
  unfold World.cell?
  rw [hg]
  simp only [List.getElem?_toArray]
  rw [List.getElem?_append_left (by rw [List.length_map]; exact (List.getElem?_eq_some_iff.1 hj).1), List.getElem?_map, hj]; rfl
 suffices hfin : ∃ q' c' w', (Builtin.append_ #[T, T] ty #[.slice (some ⟨b, 0, none⟩) l.length c, .slice q k c2]).run P w = .ok (.slice q' (l.length + k) c') w' ∧ l.length + k ≤ c' ∧ CL (.slice q' (l.length + k) c') (l ++ ys) w' ∧ Bd (eU E b c l).F w w' ∧ ∀ b', (Ly (.slice q' (l.length + k) c') (l ++ ys)).F b' → (eU E b c l).F b' ∨ w.heap.size ≤ b' by
  obtain ⟨q', c', w', hrun, hc', hby', hchg, hF⟩ := hfin
  have he : (execOp a.eval (⟨some d, .call ⟨.builtin .append, #[x, y], #[T, T]⟩, ty, pos, af, g⟩ : Oper)).run P w = .ok (.value (.slice q' (l.length + k) c')) w' := by
   simp [execOp, resolve, invoke, builtin, hS.sl.ev hx, hS.sl.ev hy, hrun]
  refine ⟨?_⟩
  unfold Oper.wp
  rw [he]
  exact h q' c' _ _ hc' ((hS.upd (hr _) hchg (Y1 hby' hlne) hF rfl).put hn _)
 rcases hyq with ⟨rfl, qa, ca, hqe⟩ | ⟨bx, ox, cx, hyne, hqe, _, hyc, _⟩
 ·
  -- nothing is appended
  injection hqe with h1 h2 h3
  subst h1 h2 h3
  refine ⟨some ⟨b, 0, none⟩, c, w, ?_, by omega, ?_, Bd.refl _ _, fun b' hb' => .inl ?_⟩
  ·
   have : l.length + 0 ≤ c := by omega
   cases q <;> simp [Builtin.append_, run_underlying (BF hT), sizeOf, typeInfo, hi, Builtin.lenOf, Builtin.firstCells, hlc, storeCells, loadCells, loadCellsFrom]
   all_goals rfl
  ·
   rw [List.append_nil, Nat.add_zero]
   exact .inr ⟨b, 0, c, hne, rfl, hlc, fun j u hj => by rw [Nat.zero_add]; exact hcells j u hj, hbl⟩
  ·
   have hb' : (Value.slice (some ⟨b, 0, none⟩) (l.length + 0) c).ownBlock = some b' := hb'
   show b' = b
   simpa [Value.ownBlock, eq_comm] using hb'
 ·
  injection hqe with h1 h2 h3
  subst h1 h3
  have hk : k = ys.length := h2
  have hnl : (ys.map (Value.int .u8)).length = k * i.size := by rw [List.length_map, hsz, hyl, Nat.mul_one]
  have hnews : ∀ j u, (ys.map (Value.int .u8))[j]? = some u → w.cell? ((⟨bx, ox, none⟩ : Addr).add j) = some u := fun j u hj => by
   rw [List.getElem?_map, Option.map_eq_some_iff] at hj
   obtain ⟨v, hv, rfl⟩ := hj
   rw [BH]; exact hyc j v hv
  have hone : ∀ u ∈ ys.map (Value.int .u8), u.oneCell' = true := fun u hu => by
   obtain ⟨v, _, rfl⟩ := List.mem_map.1 hu; rfl
  by_cases hroom : l.length + k ≤ c
  ·
   have hcur : (l.map (Value.int .u8) ++ sp).toArray.size = c := by rw [List.size_toArray, List.length_append, List.length_map]; exact hsp
   have hst := ET P b (l.length * i.size) E (c, c + 1) (ys.map (Value.int .u8)) 0 _ w hg (by rw [hcur]; exact Nat.le_refl _) (by rw [hcur, hsz, List.length_map]; omega) hone
   have hf := run_firstCells_some (P := P) w i.size k ⟨bx, ox, none⟩ k c2 (ys.map (Value.int .u8)) hnl hnews
   simp only [Nat.add_zero] at hst
   have hrun : (Builtin.append_ #[T, T] ty #[.slice (some ⟨b, 0, none⟩) l.length c, .slice (some ⟨bx, ox, none⟩) k c2]).run P w = .ok (.slice (some ⟨b, 0, none⟩) (l.length + k) c) (w.setRow b ((l.map (Value.int .u8) ++ sp).toArray.toList.take (l.length * i.size) ++ ys.map (Value.int .u8) ++ (l.map (Value.int .u8) ++ sp).toArray.toList.drop (l.length * i.size + (ys.map (Value.int .u8)).length)).toArray) := by
    simp [Builtin.append_, run_underlying (BF hT), sizeOf, typeInfo, hi, Builtin.lenOf, hroom, hf, Addr.add_lit, hst]
   refine ⟨_, _, _, hrun, hroom, ?_, ⟨rfl, rfl, rfl, by simp, fun k' _ hk' => setRow_other w b k' _ hk'⟩, fun b' hb' => .inl ?_⟩
   ·
    refine .inr ⟨b, 0, c, hlne, by rw [hll], by rw [hll]; exact hroom, fun j u hj => ?_, by simp; exact hbl⟩
    rw [Nat.zero_add]
    unfold World.cell?
    rw [setRow_heap w b _ _ E _ hg]
    simp only [List.getElem?_toArray]
    rw [hsz, Nat.mul_one, List.take_left' (by rw [List.length_map]), ← List.map_append]
    rw [List.getElem?_append_left (by rw [List.length_map]; exact (List.getElem?_eq_some_iff.1 hj).1), List.getElem?_map, hj]; rfl
   ·
    have hb' : (Value.slice (some ⟨b, 0, none⟩) (l.length + k) c).ownBlock = some b' := hb'
    show b' = b
    simpa [Value.ownBlock, eq_comm] using hb'
  ·
   have holds : ∀ j u, (l.map (Value.int .u8))[j]? = some u → w.cell? ((⟨b, 0, none⟩ : Addr).add j) = some u := fun j u hj => by
    rw [List.getElem?_map, Option.map_eq_some_iff] at hj
    obtain ⟨v, hv, rfl⟩ := hj
    rw [BH, Nat.zero_add]; exact hcells j v hv
   have hr := run_append_grow (P := P) w T ty E i z (BF hT) hi hz' ⟨b, 0, none⟩ l.length c (l.map (Value.int .u8)) (by rw [List.length_map, hsz, Nat.mul_one]) holds ⟨bx, ox, none⟩ k c2 (ys.map (Value.int .u8)) hnl hnews (by omega) (by omega) (growslice_fits (by omega) (by rw [hby]; omega))
   refine ⟨_, _, _, hr, grownCap_ge w (l.length + k) c E, ?_, ⟨rfl, rfl, rfl, by simp, fun k' hk' _ => heap_alloc_old w.drew _ hk'⟩, fun b' hb' => .inr ?_⟩
   ·
    refine .inr ⟨w.heap.size, 0, _, hlne, by rw [hll], by rw [hll]; exact grownCap_ge w (l.length + k) c E, fun j u hj => ?_, by simp⟩
    rw [Nat.zero_add]
    unfold World.cell?
    rw [show (World.alloc w.drew _).heap[w.heap.size]? = some _ from heap_alloc_new w.drew _]
    simp only [Array.getElem?_append, List.getElem?_toArray, List.size_toArray, Array.size_append, List.length_map, Option.isSome_none, Bool.false_eq_true, if_false]
    have hj2 := (List.getElem?_eq_some_iff.1 hj).1
    rw [List.length_append] at hj2
    rw [if_pos (by omega)]
    rcases Nat.lt_or_ge j l.length with h1 | h1
    ·
     rw [if_pos h1, List.getElem?_map]
     rw [List.getElem?_append_left h1] at hj
     rw [hj]; rfl
    ·
     rw [if_neg (by omega), List.getElem?_map]
     rw [List.getElem?_append_right h1] at hj
     rw [hj]; rfl
   ·
    have hb' : (Value.slice (some ⟨w.heap.size, 0, none⟩) (l.length + k) (grownCap w (l.length + k) c E)).ownBlock = some b' := hb'
    have : w.heap.size = b' := by simpa [Value.ownBlock] using hb'
    omega
end
end
theorem Lz {α β : Type} (f : α → Nat) (g : β → Nat) : ∀ (l : List α) (r : List β), l.length = r.length → (∀ (i : Nat) (x : α) (y : β), l[i]? = some x → r[i]? = some y → f x ≤ g y) → (l.map f).sum ≤ (r.map g).sum
 | [], [], _, _ => Nat.le_refl _
 | [], _ :: _, h, _ => by cases h
 | _ :: _, [], h, _ => by cases h
 | x :: l, y :: r, h, hh => by
   rw [List.map_cons, List.map_cons, List.sum_cons, List.sum_cons]
   exact Nat.add_le_add (hh 0 x y rfl rfl) (Lz f g l r (by simpa using h) (fun i a b ha hb => hh (i + 1) a b (by simpa using ha) (by simpa using hb)))
def VE (c : Cd) (f : Fd) : Nat := if f.kd = 0 then 6 * (c.t f.off).length + 2 else 410000
theorem VF {f : Fd} {c : Cd} {y : JV} (hf : f.ok) (hc : c.ok) (hx : NV c.fx) (hs : EQ c.fx) (h : (Av f c).1 = some y) : Fy 2 y ∧ BY 2 y ≤ VE c f := by
 unfold Av at h
 unfold VE
 rcases hf.kd with h1 | h1 | h1
 ·
  rw [if_pos h1] at h ⊢
  simp only at h
  have ho := hf.t h1
  split at h
  ·
   injection h with h; rw [← h]
   exact ⟨⟨hc.t f.off ho.1 ho.2, Nat.zero_le _, (fun x h => by cases h), Nat.zero_le _, (fun x h => by cases h)⟩, C0 (c.t f.off)⟩
  · cases h
 ·
  rw [if_neg (by omega), if_pos h1] at h
  rw [if_neg (by omega)]
  injection h with h
  obtain ⟨n0, n1⟩ := hc.n f.off (hf.n h1).1 (hf.n h1).2
  have hi := Bp n0 n1
  rw [← h]
  exact ⟨⟨Nat.le_trans hi (by decide), Nat.zero_le _, (fun x h => by cases h), Nat.zero_le _, (fun x h => by cases h)⟩, Nat.le_trans hi (by decide)⟩
 ·
  rw [if_neg (by omega), if_neg (by omega)] at h
  rw [if_neg (by omega)]
  exact U1 hx hs h
theorem VG : ∀ x ∈ DK, (AE x.2).length ≤ 5 ∧ ∀ f ∈ AE x.2, f.nm.length ≤ 6 := by
 intro x hx
 have h : ∀ y ∈ DK.map (fun x => (AE x.2).map Fd.nm), y.length ≤ 5 ∧ ∀ z ∈ y, z.length ≤ 6 := by decide +kernel
 obtain ⟨h1, h2⟩ := h _ (List.mem_map.2 ⟨x, hx, rfl⟩)
 exact ⟨by simpa using h1, fun f hf => h2 _ (List.mem_map.2 ⟨f, hf, rfl⟩)⟩
def KA (c : Cd) : Nat := (c.t 1).length + (c.t 2).length + (c.t 3).length + (c.t 4).length + (c.t 5).length + (c.t 6).length
def kQ (b : Nat) (c : Cd) (f : Fd) : Nat := if f.kd = 0 then 6 * (c.t f.off).length + 2 else b
theorem Xx (b : Nat) (c : Cd) {k : Nat} {x : List UInt8 × List Fg} (hx : DK[k]? = some x) : ((AE x.2).map (kQ b c)).sum ≤ 6 * KA c + 5 * b + 10 := by
 have hk : k < 12 := (List.getElem?_eq_some_iff.1 hx).1
 unfold KA
 rcases k with _ | _ | _ | _ | _ | _ | _ | _ | _ | _ | _ | _ | k
 case succ.succ.succ.succ.succ.succ.succ.succ.succ.succ.succ.succ => omega
 all_goals
  obtain rfl : _ = x := by injection hx
  simp [AE, kQ, Cw, CF, D2, HF, D6, DW, FO, BT, C4, Li, HG, BK, CO, FP, D7, KW, Hg, Mk, Pm, IT, G5, La, IE, JF, Wp, Pn, E5, G6, Lb, IU]
  try omega
theorem VH (c : Cd) {k : Nat} {x : List UInt8 × List Fg} (hx : DK[k]? = some x) : ((AE x.2).map (VE c)).sum ≤ 6 * KA c + 2050010 := Xx 410000 c hx
theorem VI {c : Cd} {k : Nat} {x : List UInt8 × List Fg} {v : JV} {c' : Cd} (hc : c.ok) (hfx : NV c.fx) (hs : EQ c.fx) (ht : KA c ≤ 1048576) (hx : DK[k]? = some x) (h : DJ (AE x.2) c [] [] = some (v, c')) : Fy 3 v ∧ BY 3 v ≤ 9000000 := by
 have hm := List.mem_of_getElem? hx
 obtain ⟨hl5, hnm⟩ := VG _ hm
 obtain ⟨vals, h1, h2, _, h4⟩ := FB (AE x.2) c [] [] v c' (Cm hm) (Ds _ hm) h
 simp only [List.nil_append] at h2
 have hlen : ((AE x.2).map Fd.nm).length = vals.length := by rw [List.length_map]; exact h1.symm
 obtain ⟨ps, hps⟩ : ∃ ps, ((AE x.2).map Fd.nm).zip vals = ps := ⟨_, rfl⟩
 rw [h2, Ja hlen, hps]
 have hpl : ps.length = (AE x.2).length := by rw [← hps, List.length_zip, List.length_map]; omega
 have hat : ∀ (i : Nat) (p : List UInt8 × JV) (f : Fd), ps[i]? = some p → (AE x.2)[i]? = some f → p.1 = f.nm ∧ (Av f c).1 = some p.2 := by
  intro i p f hp hf
  rw [← hps, List.getElem?_zip_eq_some] at hp
  obtain ⟨hp1, hp2⟩ := hp
  rw [List.getElem?_map, hf] at hp1
  injection hp1 with hp1
  exact ⟨hp1.symm, h4 i f p.2 hf hp2⟩
 constructor
 ·
  refine P8.2 ⟨by omega, fun p hp => ?_⟩
  obtain ⟨i, hi⟩ := List.getElem?_of_mem hp
  have hil := (List.getElem?_eq_some_iff.1 hi).1
  obtain ⟨f, hf⟩ : ∃ f, (AE x.2)[i]? = some f := ⟨_, List.getElem?_eq_getElem (by omega)⟩
  obtain ⟨e1, e2⟩ := hat i p f hi hf
  have hfm := List.mem_of_getElem? hf
  refine ⟨by rw [e1]; have := hnm f hfm; omega, (VF (Cm hm f hfm) hc hfx hs e2).1⟩
 ·
  have e : BY 3 (FD ps) ≤ Hp 2 ps + 2 := (IZ 2 ps).1
  have e2 : Hp 2 ps ≤ ((AE x.2).map fun f => 40 + VE c f).sum := by
   unfold Hp
   refine Lz _ _ _ _ hpl fun i p f hp hf => ?_
   obtain ⟨e1, e2⟩ := hat i p f hp hf
   have hfm := List.mem_of_getElem? hf
   have h6 := hnm f hfm
   have hq : (AV p.1).length ≤ 38 := Nat.le_trans (C0 p.1) (by rw [e1]; omega)
   exact Nat.add_le_add (Nat.add_le_add hq (Nat.le_refl 2)) (VF (Cm hm f hfm) hc hfx hs e2).2
  have e3 : ∀ l : List Fd, (l.map fun f => 40 + VE c f).sum = l.length * 40 + (l.map (VE c)).sum := by
   intro l
   induction l with
   | nil => rfl
   | cons f l ih => rw [List.map_cons, List.sum_cons, ih, List.map_cons, List.sum_cons, List.length_cons]; omega
  have e4 := e3 (AE x.2)
  have e5 := VH c hx
  omega
theorem Jm (W0 : World) (hG : Gj W0) (c : Cd) (hc : c.ok) (fa : Option Addr) (fc : Nat) (hF : H4 W0 fa c.fx) (w0 : World) (hold : AQ W0 w0)
 (hb : ∀ (k : Nat) (x : List UInt8 × List Fg) (v : JV) (c' : Cd), DK[k]? = some x → DJ (AE x.2) c [] [] = some (v, c') → D0 3 v ∧ Fy 3 v ∧ BY 3 v ≤ 9000000) :
 Bb Tryz.prog 9 [.agg (AB c (.slice fa c.fx.length fc)).toArray] w0 (mU c) (eR c) := by
 have hfl0 := hF.n
 refine Ew Ai Tryz.func9 Tryz.ntmps9 hold ?_
 intro a hS
 refine Wh 2 hS ?_
 refine Lo (Bx ?_); intro b1
 refine Lo (Al ?_); intro b2
 refine Wn 6 ?_
 intro a w hS
 have hcb : W0.heap.size ≤ b1 := Nat.le_trans hold.1 ((hS.mine (.blk b1 (AB c (.slice fa c.fx.length fc)) 24) (by repeat constructor) rfl b1 rfl).resolve_right id)
 refine Wh 4 hS ?_
 refine Lm 4 22 (.bool (decide (c.kind = 13 ∨ c.kind = 14))) ?_ ?_
 ·
  intro hcM22
  refine Gd 18 ?_ ?_ <;> intro hg18
  ·
   refine Wn 4 ?_
   exact Et 5 22 18 hcM22 rfl ((decide_eq_true (.inl hg18)).symm) hg18
  refine Wn 4 ?_
  exact Ef 5 22 18 hcM22 rfl (decide_eq_decide.2 ⟨.inr, fun h => h.resolve_left hg18⟩) hg18
 ·
  refine Wn 2 ?_
  refine iD (fun hc22 => ?_) fun hc22 => ?_
  ·
   refine Wn 2 ?_
   refine Lo (cM nR (fun hS => XN W0 hG c hc fa fc (by omega) b1 hcb _ hS.od (hS.ok (.blk b1 (AB c (.slice fa c.fx.length fc)) 24) (by repeat constructor))) ?_); intro x24
   refine Wn 14 ?_
   refine iB (fun hc28 => ?_) fun hc28 => ?_
   ·
    refine Wn 3 ?_
    refine Lo (Sa ?_)
    refine Wn 4 ?_
    intro a w hS
    refine AC (AC ?_)
    refine Rm hS Tryz.results9 ?_
    exact ⟨.inr (.inr ⟨10, by decide, Uk hc22 (by simpa using hc28)⟩), rfl, hS.chg, AL _, fun b h => h.elim⟩
   refine Wn 6 ?_
   refine Lo (Sa ?_)
   refine Wn 5 ?_
   intro a w hS
   refine Rm hS Tryz.results9 ?_
   exact ⟨.inr (.inl ⟨(Au c).1, hc22, rfl, by simpa using hc28⟩), rfl, hS.chg, AL _, fun b h => h.elim⟩
  refine Wn 4 ?_
  intro a w hS
  obtain ⟨lo, hlo⟩ : ∃ lo, lo = w.heap.size := ⟨_, rfl⟩
  refine Aa (PA hS ZL (Ho _ lo hlo) ?_); intro x32
  obtain ⟨N, rb, f⟩ := x32
  refine Wn 6 ?_
  refine Xp (CR .nil (.cons rfl .nil)) ?_
  intro a w hS
  have hcell := AR (k := 0) (v := .int .i64 c.kind) (hS.gg (X := .blk b1 (AB c (.slice fa c.fx.length fc)) 24)) rfl
  have hrt : DQ lo rb f w := hS.gg (X := Er lo N rb f)
  refine Aa (PA hS ZM (GW w lo rb f hrt 28 [.pointer (some ⟨b1, 0, none⟩)] (fun k => decide ((k : Int) + 1 = c.kind)) nS (fun k x w' _ ho => M9 f k x b1 c.kind w hcell w' ho) _ (Ax w)) ?_); intro x35
  obtain ⟨ix, hix⟩ := x35
  refine Wn 10 ?_
  refine iD (fun hc37 => ?_) fun hc37 => ?_
  ·
   refine Wn 3 ?_
   refine Lo (Sa ?_)
   refine Wn 5 ?_
   intro a w hS
   refine Rm hS Tryz.results9 ?_
   have hnk : ∀ j : Nat, j < 12 → decide ((j : Int) + 1 = c.kind) = false := by
    rcases hix with ⟨k, h1, _⟩ | ⟨_, h⟩
    ·
     have h2 : ix < 0 := hc37
     have h1 : ix = k := h1
     omega
    · exact h
   exact ⟨.inr (.inr ⟨7, by decide, Ul hc22 hnk⟩), rfl, hS.chg, AL _, fun b h => h.elim⟩
  obtain ⟨kx, rfl, hkx, hkd⟩ : ∃ kx : Nat, ix = kx ∧ kx < 12 ∧ (kx : Int) + 1 = c.kind := by
   rcases hix with ⟨kx, h1, h2, h3, _⟩ | ⟨h1, _⟩
   · exact ⟨kx, h1, h2, of_decide_eq_true h3⟩
   · exact absurd (show ix < 0 by omega) hc37
  obtain ⟨⟨path, fl⟩, hx⟩ := Hn hkx
  have hgx := Hm _ (List.mem_of_getElem? hx)
  have hfn := hgx.n
  simp only at hfn
  refine Wn 5 ?_
  refine Lo (Al ?_); intro b8
  refine Lo (Sa ?_)
  refine Wn 9 ?_
  refine Xp (AI rfl V1.1 (fun w hh => HI (show DQ lo rb f w from hh (Er lo N rb f) (by repeat constructor)) hx 2 (.slice (some ⟨f kx, 0, none⟩) fl.length fl.length) rfl)) ?_
  refine Wn 5 ?_
  intro a w hS
  refine AW (γ := List JX × Value × Value × Cd × Option Addr × Nat) (fun G a w => St 105 Ai w0 a w [(46, .int .i64 (G.1.length : Int)), (45, .int .i64 (fl.length : Int)), (44, .slice (some ⟨f kx, 0, none⟩) fl.length fl.length), (6, .slice (some ⟨rb, 0, none⟩) 12 12), (7, .int .i64 (kx : Int)), (1, .pointer (some ⟨b1, 0, none⟩)), (2, .pointer (some ⟨b2, 0, none⟩)), (8, .pointer (some ⟨b8, 0, none⟩)), (3, .int .i64 0)] [AJ 37 4 G.2.1 G.1.length (G.1.flatMap JX.cs), AJ 9 1 G.2.2.1 G.1.length ((Ce fl G.1.length).flatMap AM), As 2 G.1, .blk b8 [.int .i64 6, .string ⟨#[]⟩, G.2.1, G.2.2.1] 37, .blk b2 [.string ⟨#[]⟩, .string ⟨#[]⟩, .slice none 0 0, .bool false] 29, .blk b1 (AB G.2.2.2.1 (.slice G.2.2.2.2.1 G.2.2.2.1.fx.length G.2.2.2.2.2)) 24, Er lo N rb f, AG W0] ∧ G.1.length ≤ fl.length ∧ DJ (AE (fl.drop G.1.length)) G.2.2.2.1 (Ce fl G.1.length) (G.1.map JX.v) = DJ (AE fl) c [] [] ∧ G.2.2.2.1.ok ∧ H4 W0 G.2.2.2.2.1 G.2.2.2.1.fx) (fun G => fl.length - G.1.length) ([], .slice none 0 0, .slice none 0 0, c, fa, fc) ⟨((((hS.own_nil 9 1).own_nil 37 4).more (Y := As 2 []) (D5 (fun x hx => by cases hx)) (fun b ⟨x, hx, _⟩ => by cases hx)).sq).pk, Nat.zero_le _, rfl, hc, hF⟩ ?_
  intro G a w hI
  obtain ⟨kids, lv, nv, c2, fa2, fc2⟩ := G
  obtain ⟨hS, hk, hgo, hc2, hF2⟩ := hI
  simp only at hS hk hgo hc2 hF2
  obtain ⟨ql, cl, rfl⟩ := AN (hS.gg (X := AJ 37 4 lv kids.length (kids.flatMap JX.cs)))
  obtain ⟨qn, cn, rfl⟩ := AN (hS.gg (X := AJ 9 1 nv kids.length ((Ce fl kids.length).flatMap AM)))
  refine Wh 6 hS ?_
  refine iD (fun hc47 => ?_) fun hc47 => ?_
  ·
   have hkn : kids.length < fl.length := by omega
   obtain ⟨y, hy⟩ : ∃ y, fl[kids.length]? = some y := ⟨_, List.getElem?_eq_getElem hkn⟩
   have hym := List.mem_of_getElem? hy
   have hyo := hgx.ok y hym
   obtain ⟨u1, u2, hfg, o1, o2⟩ := M5 y
   refine Wn 7 ?_
   refine Xp (BV (l := [.string (tx y.f.nm), u1, u2]) rfl PB.1 CW.1 (fun w hh j u hj => (Lk (show DQ lo rb f w from hh (Er lo N rb f) (by repeat constructor)) hx).c kids.length y hy j u (by rw [hfg]; exact hj))) ?_
   refine Lo (Al ?_); intro b10
   intro a w hS
   refine Aa (I3 hS rfl rfl CW.1 (cs' := [.string (tx y.f.nm), u1, u2]) (by repeat constructor) rfl (.cons .z (.cons (.s .z) (.cons (.s (.s .z)) .nil))) (by have h1 : Bl (Value.string (tx y.f.nm)) = true := rfl; simp [o1, o2, h1]) ?_); intro w hS
   refine Wh 5 hS ?_
   refine Lo (cM nU (fun hS => (by have := UP W0 hG y hyo c2 hc2 fa2 fc2 hF2 b1 hcb _ hS.od (hS.ok (.blk b1 (AB c2 (.slice fa2 c2.fx.length fc2)) 24) (by repeat constructor)); rw [hfg] at this; exact this)) ?_); intro x52
   intro a w hS
   obtain ⟨jk, js, a1, a2, a3, a4, a5, a6, bv, hvt, hcase⟩ := Xd x52 (hS.ok (eQ y.f c2 b1 (.slice fa2 c2.fx.length fc2) x52) (by repeat constructor))
   rw [hvt] at hS
   refine Wh 3 hS ?_
   refine Lo (Al ?_); intro b11
   refine Lo (Sa ?_)
   refine Wn 10 ?_
   refine iB (fun hc56 => ?_) fun hc56 => ?_
   ·
    refine Wn 3 ?_
    refine Lo (Sa ?_)
    refine Wn 4 ?_
    intro a w hS
    refine AC (AD (AC (AC (AD (AC ?_)))))
    refine Rm hS Tryz.results9 ?_
    have hvn : (Av y.f c2).1 = none := by
     rcases hcase with ⟨hb1, _⟩ | ⟨_, h⟩
     · rw [hb1] at hc56; exact absurd hc56 (by decide)
     · exact Xi h
    have hno := hgo.symm.trans (Rq _ _ hy hvn)
    exact ⟨.inr (.inr ⟨10, by decide, HJ hc22 hx hkd (.inl ⟨rfl, fun v c' h => by rw [hno] at h; cases h⟩) (fun v c' h => by rw [hno] at h; cases h)⟩), rfl, hS.chg, AL _, fun b h => h.elim⟩
   have hbv : bv = true := by simpa using hc56
   obtain ⟨xj, rfl, hxcs⟩ : ∃ x : { x : JX // (Av y.f c2).1 = some x.v }, x52 = .inl x ∧ x.1.cs = [.int .i64 jk, .string js, .slice a1 a2 a3, .slice a4 a5 a6] := by
    rcases hcase with ⟨_, h⟩ | ⟨h, _⟩
    · exact h
    · rw [h] at hbv; cases hbv
   rw [Rn _ _ hy xj.2] at hgo
   have e52 : eQ y.f c2 b1 (.slice fa2 c2.fx.length fc2) (.inl xj) = C5 (.blk b1 (AB (Av y.f c2).2 (if y.f.kd = 2 then .slice none 0 0 else .slice fa2 c2.fx.length fc2)) 24) (Be 2 xj.1) := rfl
   intro a w hS
   rw [e52, Xb hyo.fd] at hS
   have hc3 := XZ (f := y.f) hc2
   have hF3 := Uj hyo.fd hF2
   obtain ⟨c3, hc3e⟩ : ∃ c3, (Av y.f c2).2 = c3 := ⟨_, rfl⟩
   rw [hc3e] at hS hgo hc3 hF3
   replace hS := (hS.pk (Γ' := [C5 (.blk b1 (AB c3 (.slice (Ui y.f fa2) c3.fx.length (Xa y.f fc2))) 24) (Be 2 xj.1), .blk b11 [.int .i64 jk, .string js, .slice a1 a2 a3, .slice a4 a5 a6] 37, .blk b10 [.string (tx y.f.nm), u1, u2] 88, oR 37 4 ql kids cl JX.cs, AJ 9 1 (.slice qn kids.length cn) kids.length ((Ce fl kids.length).flatMap AM), As 2 kids, .blk b8 [.int .i64 6, .string ⟨#[]⟩, .slice ql kids.length cl, .slice qn kids.length cn] 37, .blk b2 [.string ⟨#[]⟩, .string ⟨#[]⟩, .slice none 0 0, .bool false] 29, Er lo N rb f, AG W0])).unduo
   refine Wh 2 hS ?_
   refine Dr 15 [12, 14] [.blk b8 [.int .i64 6, .string ⟨#[]⟩, .slice ql kids.length cl, .slice qn kids.length cn] 37, .blk b10 [.string (tx y.f.nm), u1, u2] 88, .blk b11 [.int .i64 jk, .string js, .slice a1 a2 a3, .slice a4 a5 a6] 37] ?_
   refine ZR 4 ?_
   refine Zv 6 _ rfl ExA.go ?_
   refine Zu 7 _ rfl ExA.go ?_
   refine Zu 8 _ rfl ExA.go ?_
   intro a w hS
   refine Ek (j := 4) (js := [9]) (by kernel_rfl) ⟨?_, ?_, trivial⟩
   ·
    refine Ey (i := 4) rfl (Ab a hS.sl) (listed' := [true, true, true, true, true, false, true, true, true, false, false, false, false, false, false]) rfl (B4 hS Ar.1 A8.1 Ec.1 rfl rfl rfl rfl (.one rfl rfl rfl .nil) rfl ?_); intro a w b62 hS
    refine Bc hS (AP (by repeat constructor) (AP (by repeat constructor) (AP (by repeat constructor) Ay))) ?_
    refine Ek (j := 5) (js := [9]) (by kernel_rfl) ⟨?_, ?_, trivial⟩
    ·
     refine Ey (i := 5) rfl (Ab a hS.sl) (listed' := (tf 9 6)) rfl (Dd hS rfl rfl Ar.1 A8.1 EG.1 Ec.1 rfl rfl rfl (by repeat constructor) (by repeat constructor) (by rfl) (by rfl) (fun _ => (by repeat constructor)) (by omega) ?_); intro v63 a w hv63 hS
     obtain ⟨q63, c63, rfl⟩ := AN (hS.gg (X := AJ 9 1 v63 (kids.length + 1) ((Ce fl kids.length).flatMap AM ++ [.string (tx y.f.nm)])))
     refine Bc hS (AP (by repeat constructor) (AP (by repeat constructor) (AP (by repeat constructor) Ay))) ?_
     refine Un hS (Zv 11 _ rfl ExA.go ?_)
     refine Zz 9 _ rfl (Bz ?_); intro b67
     refine Za ?_
     refine Zz 10 (tf 12 3) rfl (A1 ?_); intro v68 hv68
     intro a w hS
     obtain ⟨q68, c68, rfl⟩ := AN (hS.gg (X := AJ 37 4 v68 (kids.length + 1) _))
     refine Un hS (Za ?_)
     refine Z0 rfl (Sb ?_)
     refine Zl ?_
     refine Zx rfl (C6 rfl Df.1) ?_
     refine Z0 rfl (Sb ?_)
     refine Zl ?_
     refine Wn 7 ?_
     have hfl2 : (kids ++ [xj.1]).flatMap JX.cs = kids.flatMap JX.cs ++ ([.int .i64 jk, .string js, .slice a1 a2 a3, .slice a4 a5 a6] ++ []) := by rw [List.flatMap_append, ← hxcs]; simp
     have hkl1 : (kids ++ [xj.1]).length = kids.length + 1 := by simp
     have hns := F3 hy
     have hnf : (Ce fl (kids.length + 1)).flatMap AM = (Ce fl kids.length).flatMap AM ++ [.string (tx y.f.nm)] := by rw [hns, List.flatMap_append]; rfl
     intro a w hS
     replace hS := CA (hS.pk (Γ' := [Be 2 xj.1, As 2 kids, AJ 37 4 (.slice q68 (kids.length + 1) c68) (kids.length + 1) (kids.flatMap JX.cs ++ ([.int .i64 jk, .string js, .slice a1 a2 a3, .slice a4 a5 a6] ++ [])), AJ 9 1 (.slice q63 (kids.length + 1) c63) (kids.length + 1) ((Ce fl kids.length).flatMap AM ++ [.string (tx y.f.nm)]), .blk b8 [.int .i64 6, .string ⟨#[]⟩, .slice q68 (kids.length + 1) c68, .slice q63 (kids.length + 1) c63] 37, .blk b2 [.string ⟨#[]⟩, .string ⟨#[]⟩, .slice none 0 0, .bool false] 29, .blk b1 (AB c3 (.slice (Ui y.f fa2) c3.fx.length (Xa y.f fc2))) 24, Er lo N rb f, AG W0]))
     rw [← hfl2, ← hnf] at hS
     refine ⟨(kids ++ [xj.1], .slice q68 (kids.length + 1) c68, .slice q63 (kids.length + 1) c63, c3, Ui y.f fa2, Xa y.f fc2), by show fl.length - (kids ++ [xj.1]).length < fl.length - kids.length; omega, ?_, by show (kids ++ [xj.1]).length ≤ fl.length; omega, by show DJ (AE (fl.drop (kids ++ [xj.1]).length)) c3 (Ce fl (kids ++ [xj.1]).length) ((kids ++ [xj.1]).map JX.v) = _; rw [hkl1, hns, List.map_append, List.map_singleton]; exact hgo, hc3, hF3⟩
     show St _ _ _ _ _ [(46, .int .i64 ((kids ++ [xj.1]).length : Int)), _, _, _, _, _, _, _, _] [AJ _ _ _ (kids ++ [xj.1]).length _, AJ _ _ _ (kids ++ [xj.1]).length ((Ce fl (kids ++ [xj.1]).length).flatMap AM), _, _, _, _, _, _]
     rw [hkl1]
     exact hS.sp
    refine Ey (i := 9) rfl (Ab a hS.sl) (listed' := [true, true, true, true, true, false, true, true, true, true, false, false, false, false, false]) rfl (B4 hS Gg.1 Cb.1 GM.1 rfl rfl rfl rfl (.agg rfl rfl .nil) rfl ?_); intro a w b67 hS
    refine Bc hS (AP (by repeat constructor) (AP (by repeat constructor) (AP (by repeat constructor) Ay))) ?_
    refine Un hS (Zz 5 (tf 10 5) rfl (A1 ?_)); intro v63 hv63
    intro a w hS
    obtain ⟨q63, c63, rfl⟩ := AN (hS.gg (X := AJ 9 1 v63 (kids.length + 1) ((Ce fl kids.length).flatMap AM ++ [.string (tx y.f.nm)])))
    refine Un hS (Za ?_)
    refine Zv 11 _ rfl ExA.go ?_
    refine Zz 10 (tf 12 3) rfl (A1 ?_); intro v68 hv68
    intro a w hS
    obtain ⟨q68, c68, rfl⟩ := AN (hS.gg (X := AJ 37 4 v68 (kids.length + 1) _))
    refine Un hS (Za ?_)
    refine Z0 rfl (Sb ?_)
    refine Zl ?_
    refine Zx rfl (C6 rfl Df.1) ?_
    refine Z0 rfl (Sb ?_)
    refine Zl ?_
    refine Wn 7 ?_
    have hfl2 : (kids ++ [xj.1]).flatMap JX.cs = kids.flatMap JX.cs ++ ([.int .i64 jk, .string js, .slice a1 a2 a3, .slice a4 a5 a6] ++ []) := by rw [List.flatMap_append, ← hxcs]; simp
    have hkl1 : (kids ++ [xj.1]).length = kids.length + 1 := by simp
    have hns := F3 hy
    have hnf : (Ce fl (kids.length + 1)).flatMap AM = (Ce fl kids.length).flatMap AM ++ [.string (tx y.f.nm)] := by rw [hns, List.flatMap_append]; rfl
    intro a w hS
    replace hS := CA (hS.pk (Γ' := [Be 2 xj.1, As 2 kids, AJ 37 4 (.slice q68 (kids.length + 1) c68) (kids.length + 1) (kids.flatMap JX.cs ++ ([.int .i64 jk, .string js, .slice a1 a2 a3, .slice a4 a5 a6] ++ [])), AJ 9 1 (.slice q63 (kids.length + 1) c63) (kids.length + 1) ((Ce fl kids.length).flatMap AM ++ [.string (tx y.f.nm)]), .blk b8 [.int .i64 6, .string ⟨#[]⟩, .slice q68 (kids.length + 1) c68, .slice q63 (kids.length + 1) c63] 37, .blk b2 [.string ⟨#[]⟩, .string ⟨#[]⟩, .slice none 0 0, .bool false] 29, .blk b1 (AB c3 (.slice (Ui y.f fa2) c3.fx.length (Xa y.f fc2))) 24, Er lo N rb f, AG W0]))
    rw [← hfl2, ← hnf] at hS
    refine ⟨(kids ++ [xj.1], .slice q68 (kids.length + 1) c68, .slice q63 (kids.length + 1) c63, c3, Ui y.f fa2, Xa y.f fc2), by show fl.length - (kids ++ [xj.1]).length < fl.length - kids.length; omega, ?_, by show (kids ++ [xj.1]).length ≤ fl.length; omega, by show DJ (AE (fl.drop (kids ++ [xj.1]).length)) c3 (Ce fl (kids ++ [xj.1]).length) ((kids ++ [xj.1]).map JX.v) = _; rw [hkl1, hns, List.map_append, List.map_singleton]; exact hgo, hc3, hF3⟩
    show St _ _ _ _ _ [(46, .int .i64 ((kids ++ [xj.1]).length : Int)), _, _, _, _, _, _, _, _] [AJ _ _ _ (kids ++ [xj.1]).length _, AJ _ _ _ (kids ++ [xj.1]).length ((Ce fl (kids ++ [xj.1]).length).flatMap AM), _, _, _, _, _, _]
    rw [hkl1]
    exact hS.sp
   refine Ey (i := 9) rfl (Ab a hS.sl) (listed' := [true, true, true, true, false, false, true, true, true, true, false, false, false, false, false]) rfl (B4 hS Gg.1 Cb.1 GM.1 rfl rfl rfl rfl (.agg rfl rfl .nil) rfl ?_); intro a w b67 hS
   refine Bc hS (AP (by repeat constructor) (AP (by repeat constructor) (AP (by repeat constructor) Ay))) ?_
   refine Un hS (Zz 4 _ rfl (Bz ?_)); intro b62
   refine Za ?_
   refine Zz 5 (tf 10 5) rfl (A1 ?_); intro v63 hv63
   intro a w hS
   obtain ⟨q63, c63, rfl⟩ := AN (hS.gg (X := AJ 9 1 v63 (kids.length + 1) ((Ce fl kids.length).flatMap AM ++ [.string (tx y.f.nm)])))
   refine Un hS (Za ?_)
   refine Zv 11 _ rfl ExA.go ?_
   refine Zz 10 (tf 12 3) rfl (A1 ?_); intro v68 hv68
   intro a w hS
   obtain ⟨q68, c68, rfl⟩ := AN (hS.gg (X := AJ 37 4 v68 (kids.length + 1) _))
   refine Un hS (Za ?_)
   refine Z0 rfl (Sb ?_)
   refine Zl ?_
   refine Zx rfl (C6 rfl Df.1) ?_
   refine Z0 rfl (Sb ?_)
   refine Zl ?_
   refine Wn 7 ?_
   have hfl2 : (kids ++ [xj.1]).flatMap JX.cs = kids.flatMap JX.cs ++ ([.int .i64 jk, .string js, .slice a1 a2 a3, .slice a4 a5 a6] ++ []) := by rw [List.flatMap_append, ← hxcs]; simp
   have hkl1 : (kids ++ [xj.1]).length = kids.length + 1 := by simp
   have hns := F3 hy
   have hnf : (Ce fl (kids.length + 1)).flatMap AM = (Ce fl kids.length).flatMap AM ++ [.string (tx y.f.nm)] := by rw [hns, List.flatMap_append]; rfl
   intro a w hS
   replace hS := CA (hS.pk (Γ' := [Be 2 xj.1, As 2 kids, AJ 37 4 (.slice q68 (kids.length + 1) c68) (kids.length + 1) (kids.flatMap JX.cs ++ ([.int .i64 jk, .string js, .slice a1 a2 a3, .slice a4 a5 a6] ++ [])), AJ 9 1 (.slice q63 (kids.length + 1) c63) (kids.length + 1) ((Ce fl kids.length).flatMap AM ++ [.string (tx y.f.nm)]), .blk b8 [.int .i64 6, .string ⟨#[]⟩, .slice q68 (kids.length + 1) c68, .slice q63 (kids.length + 1) c63] 37, .blk b2 [.string ⟨#[]⟩, .string ⟨#[]⟩, .slice none 0 0, .bool false] 29, .blk b1 (AB c3 (.slice (Ui y.f fa2) c3.fx.length (Xa y.f fc2))) 24, Er lo N rb f, AG W0]))
   rw [← hfl2, ← hnf] at hS
   refine ⟨(kids ++ [xj.1], .slice q68 (kids.length + 1) c68, .slice q63 (kids.length + 1) c63, c3, Ui y.f fa2, Xa y.f fc2), by show fl.length - (kids ++ [xj.1]).length < fl.length - kids.length; omega, ?_, by show (kids ++ [xj.1]).length ≤ fl.length; omega, by show DJ (AE (fl.drop (kids ++ [xj.1]).length)) c3 (Ce fl (kids ++ [xj.1]).length) ((kids ++ [xj.1]).map JX.v) = _; rw [hkl1, hns, List.map_append, List.map_singleton]; exact hgo, hc3, hF3⟩
   show St _ _ _ _ _ [(46, .int .i64 ((kids ++ [xj.1]).length : Int)), _, _, _, _, _, _, _, _] [AJ _ _ _ (kids ++ [xj.1]).length _, AJ _ _ _ (kids ++ [xj.1]).length ((Ce fl (kids ++ [xj.1]).length).flatMap AM), _, _, _, _, _, _]
   rw [hkl1]
   exact hS.sp
  have hk2 : kids.length = fl.length := by omega
  have hgo' : DJ (AE fl) c [] [] = some (.mk 6 [] (Ce fl kids.length) (kids.map JX.v), c2) := by rw [← hgo, hk2]; exact Rp _ _ _ fl
  have hnl : (Ce fl kids.length).length = kids.length := by unfold Ce; rw [List.length_map, List.length_take, hk2, Nat.min_self]
  refine Wn 1 ?_
  intro a w hS
  refine AH (AH (Aj ?_))
  refine Wh 5 hS ?_
  refine Lo (cP ZN (fun _ => JT c2 hc2 fa2 fc2 (by have := hF2.n; omega) _) ?_)
  refine Wn 3 ?_
  refine iB (fun hc74 => ?_) fun hc74 => ?_
  ·
   refine Wn 3 ?_
   refine Lo (Sa ?_)
   refine Wn 5 ?_
   intro a w hS
   refine Rm hS Tryz.results9 ?_
   have hnem : ¬ CD c2 := fun h => by rw [Fl.2 h] at hc74; exact absurd hc74 (by decide)
   exact ⟨.inr (.inr ⟨10, by decide, HJ hc22 hx hkd (.inl ⟨rfl, fun v c' h he => by rw [hgo'] at h; injection h with h; injection h with _ h; subst h; exact absurd he hnem⟩) (fun v c' h he => by rw [hgo'] at h; injection h with h; injection h with _ h; subst h; exact absurd he hnem)⟩), rfl, hS.chg, AL _, fun b h => h.elim⟩
  have hem : CD c2 := Fl.1 (by simpa using hc74)
  obtain ⟨g1, g2, g3⟩ := hb kx (path, fl) _ c2 hx hgo'
  intro a w hS
  replace hS := Eg (d := 2) (k := 6) (t := []) (ns := Ce fl kids.length) (kids := kids) (by rw [hnl]; exact hS.pk (Γ' := [oR 37 4 ql kids cl JX.cs, AJ 9 1 (.slice qn kids.length cn) kids.length ((Ce fl kids.length).flatMap AM), As 2 kids, .blk b8 [.int .i64 6, .string ⟨#[]⟩, .slice ql kids.length cl, .slice qn kids.length cn] 37, .blk b2 [.string ⟨#[]⟩, .string ⟨#[]⟩, .slice none 0 0, .bool false] 29, Er lo N rb f, AG W0]))
  have hj : DZ 3 (.mk 6 [] (Ce fl kids.length) (kids.map JX.v)) [.int .i64 6, .string ⟨#[]⟩, .slice ql kids.length cl, .slice qn kids.length cn] w := hS.get (.head _)
  obtain ⟨v, hv⟩ : ∃ v, JV.mk 6 [] (Ce fl kids.length) (kids.map JX.v) = v := ⟨_, rfl⟩
  rw [hv] at hgo' g1 g2 g3 hj
  refine Wq 5 hS ?_; intro a hS
  refine Aa (PA hS fD (Mw 3 v _ _ (hG.keep hS.od).u8 g1 g2 hj g3) ?_); intro x78
  obtain ⟨pq, pm, pc, pe, hpv, hpc⟩ := Xe x78
  intro a w hS
  rw [hpv] at hS
  refine Wh 14 hS ?_
  refine Lm 3 87 (.bool (decide (pe ≠ 0 ∧ pe ≠ 8))) ?_ ?_
  ·
   intro hcM87
   refine Gd 84 ?_ ?_ <;> intro hg84
   ·
    refine Wn 3 ?_
    exact Et 4 87 84 hcM87 rfl (decide_eq_decide.2 ⟨fun h => ⟨hg84, h⟩, fun h => h.2⟩) hg84
   refine Wn 3 ?_
   exact Ef 4 87 84 hcM87 rfl ((decide_eq_false (fun h => hg84 h.1)).symm) hg84
  ·
   refine Wn 3 ?_
   refine iD (fun hc81 => ?_) fun hc81 => ?_
   ·
    refine Wn 3 ?_
    refine Lo (Sa ?_)
    refine Wn 4 ?_
    intro a w hS
    refine AD (AC ?_)
    refine Rm hS Tryz.results9 ?_
    have hpe2 : Cp 3 0 v → False := fun h => by
     rcases hpc with ⟨h0, _⟩ | ⟨_, h0⟩
     · exact hc81.1 h0
     · exact hc81.2 (h0 h).1
    exact ⟨.inr (.inr ⟨10, by decide, HJ hc22 hx hkd (.inl ⟨rfl, fun v2 c' h _ ho => by rw [hgo'] at h; injection h with h; injection h with h _; subst h; exact hpe2 ho⟩) (fun v2 c' h _ ho => by rw [hgo'] at h; injection h with h; injection h with h _; subst h; exact (hpe2 ho).elim)⟩), rfl, hS.chg, AL _, fun b h => h.elim⟩
   refine Wn 5 ?_
   refine Lm 4 96 (.bool (decide (pe = 8 ∨ 32768 < pm))) ?_ ?_
   ·
    intro hcM96
    refine Gd 92 ?_ ?_ <;> intro hg92
    ·
     refine Wn 4 ?_
     exact Et 5 96 92 hcM96 rfl ((decide_eq_true (.inl hg92)).symm) hg92
    refine Wn 4 ?_
    exact Ef 5 96 92 hcM96 rfl (decide_eq_decide.2 ⟨fun h => .inr (by omega), fun h => by have := h.resolve_left hg92; omega⟩) hg92
   ·
    refine Wn 3 ?_
    refine iD (fun hc89 => ?_) fun hc89 => ?_
    ·
     refine Wn 3 ?_
     refine Lo (Sa ?_)
     refine Wn 4 ?_
     intro a w hS
     refine AD (AC ?_)
     refine Rm hS Tryz.results9 ?_
     have hln : Cp 3 0 v → 32768 < BY 3 v := fun h => by
      rcases hpc with ⟨h0, x, _, _, hm, _⟩ | ⟨_, h0⟩
      ·
       have := FG 3 v _ _ x.2.2.1
       omega
      · have := (h0 h).2; omega
     have hok3 : Cp 3 0 v := by
      rcases hpc with ⟨_, x, _⟩ | ⟨⟨h0, h8⟩, _⟩
      · exact x.2.1
      · exact h8 (Classical.not_not.1 fun h8' => hc81 ⟨h0, h8'⟩)
     exact ⟨.inr (.inr ⟨8, by decide, HJ hc22 hx hkd (.inr ⟨rfl, _, _, hgo', hem, hok3⟩) (fun v2 c' h _ ho => by rw [hgo'] at h; injection h with h; injection h with h _; subst h; exact ⟨rfl, hln ho⟩)⟩), rfl, hS.chg, AL _, fun b h => h.elim⟩
    have hpe : pe = 0 := by omega
    obtain ⟨px, rfl, rfl, rfl, rfl⟩ : ∃ x : { x : (Nat × Nat) × JV × List UInt8 // Cp 3 0 v ∧ PJ 3 v x.2.1 x.2.2 ∧ x.2.2.length ≤ 65536 ∧ x.2.2.length ≤ x.1.2 }, x78 = .inl x ∧ pq = some ⟨x.1.1.1, 0, none⟩ ∧ pm = x.1.2.2.length ∧ pc = x.1.1.2 := by
     rcases hpc with ⟨_, h⟩ | h
     · exact h
     · exact absurd hpe h.1.1
    refine Wn 9 ?_
    refine Xp (AI rfl Af.1 (fun w hh => HI (show DQ lo rb f w from hh (Er lo N rb f) (by repeat constructor)) hx 0 (.string (tx path)) rfl)) ?_
    refine Wn 2 ?_
    refine Lo (Sa ?_)
    refine Wn 4 ?_
    intro a w hS
    refine Rm hS Tryz.results9 ?_
    obtain ⟨⟨⟨pb, pcap⟩, pr, ps⟩, h1, h2, h3, h4⟩ := px
    exact ⟨.inl ⟨((pb, pcap), path, ps), ⟨v, pr, kx, fl, c2, ⟨hx, hkd, hgo', hem, h1, h2, Nat.not_lt.1 (fun h => hc89 (.inr h))⟩⟩, h4⟩, rfl, hS.chg, hS.ok (Gb 5 pb (Br ps)) (by repeat constructor), fun b hb => (hS.mine (Gb 5 pb (Br ps)) (by repeat constructor) rfl b hb).resolve_right id⟩
theorem On (W0 : World) (hG : Gj W0) (c : Cd) (hc : c.ok) (hfx : NV c.fx) (hs : EQ c.fx) (ht : KA c ≤ 1048576) (fa : Option Addr) (fc : Nat) (hF : D9 W0 fa c.fx) (w0 : World) (hold : AQ W0 w0) :
 Bb Tryz.prog 9 [.agg (AB c (.slice fa c.fx.length fc)).toArray] w0 (mU c) (eR c) :=
 Jm W0 hG c hc fa fc ⟨hF.c, by have := hs.1; omega, hfx⟩ w0 hold fun _ _ _ _ hx h => ⟨NW hc hfx hx h, VI hc hfx hs ht hx h⟩
def EA (f : Fd) (c cc : Cd) : Cd := if f.kd = 0 then cc.putT f.off (c.t f.off) else if f.kd = 1 then cc.putN f.off (c.n f.off) else cc
def Dy (fs : List Fd) (c cc : Cd) : Cd := fs.foldl (fun cc f => EA f c cc) cc
theorem R2 {fs : List Fd} {v : JV} {c : Cd} (h : ∀ f ∈ fs, ∃ y, CI v f.nm = some y ∧ JG f y = 0 ∧ ∀ cc, G7 f y cc = EA f c cc) : ∀ (cc : Cd) (fx : JV), (CB fs v cc fx).1 = 0 ∧ (CB fs v cc fx).2.1 = Dy fs c cc := by
 induction fs with
 | nil => exact fun cc fx => ⟨rfl, rfl⟩
 | cons f fs ih =>
   intro cc fx
   obtain ⟨y, h1, h2, h3⟩ := h f (.head _)
   unfold CB
   rw [h1]; simp only
   rw [if_neg (fun h => h h2), h3 cc]
   exact ih (fun f hf => h f (.tail _ hf)) _ _
def VJ (c d cc : Cd) (i : Nat) : Prop := (d.t i = c.t i ∧ (cc.t i = [] ∨ cc.t i = c.t i)) ∨ (d.t i = [] ∧ cc.t i = c.t i)
def VK (c d cc : Cd) (i : Nat) : Prop := (d.n i = c.n i ∧ (cc.n i = 0 ∨ cc.n i = c.n i)) ∨ (d.n i = 0 ∧ cc.n i = c.n i)
theorem R3 {c d cc : Cd} {f : Fd} (hf : f.ok) {i : Nat} (h : VJ c d cc i) : VJ c (Av f d).2 (EA f c cc) i := by
 unfold Av EA
 rcases hf.kd with h1 | h1 | h1
 ·
  rw [if_pos h1, if_pos h1]
  by_cases e : i = f.off
  ·
   refine .inr ⟨?_, ?_⟩
   ·
    show (if i = f.off then [] else d.t i) = []
    rw [if_pos e]
   ·
    show (if i = f.off then c.t f.off else cc.t i) = c.t i
    rw [if_pos e, e]
  ·
   unfold VJ
   rw [show (d.putT f.off []).t i = d.t i from if_neg e, show (cc.putT f.off (c.t f.off)).t i = cc.t i from if_neg e]
   exact h
 · rw [if_neg (by omega), if_pos h1, if_neg (by omega), if_pos h1]; exact h
 · rw [if_neg (by omega), if_neg (by omega), if_neg (by omega), if_neg (by omega)]; exact h
theorem R4 {c d cc : Cd} {f : Fd} (hf : f.ok) {i : Nat} (h : VK c d cc i) : VK c (Av f d).2 (EA f c cc) i := by
 unfold Av EA
 rcases hf.kd with h1 | h1 | h1
 · rw [if_pos h1, if_pos h1]; exact h
 ·
  rw [if_neg (by omega), if_pos h1, if_neg (by omega), if_pos h1]
  by_cases e : i = f.off
  ·
   refine .inr ⟨?_, ?_⟩
   ·
    show (if i = f.off then 0 else d.n i) = 0
    rw [if_pos e]
   ·
    show (if i = f.off then c.n f.off else cc.n i) = c.n i
    rw [if_pos e, e]
  ·
   unfold VK
   rw [show (d.putN f.off 0).n i = d.n i from if_neg e, show (cc.putN f.off (c.n f.off)).n i = cc.n i from if_neg e]
   exact h
 · rw [if_neg (by omega), if_neg (by omega), if_neg (by omega), if_neg (by omega)]; exact h
theorem QI (c : Cd) : ∀ (fs : List Fd) (d cc : Cd), (∀ f ∈ fs, f.ok) → (∀ i, VJ c d cc i) → (∀ i, VK c d cc i) → (∀ i, VJ c (BO fs d) (Dy fs c cc) i) ∧ ∀ i, VK c (BO fs d) (Dy fs c cc) i
 | [], _, _, _, h1, h2 => ⟨h1, h2⟩
 | f :: fs, _, _, hok, h1, h2 => QI c fs _ _ (fun g hg => hok g (.tail _ hg)) (fun i => R3 (hok f (.head _)) (h1 i)) (fun i => R4 (hok f (.head _)) (h2 i))
theorem F5 (c : Cd) : ∀ (fs : List Fd) (cc : Cd), (Dy fs c cc).kind = cc.kind
 | [], _ => rfl
 | f :: fs, cc => by
   show (Dy fs c (EA f c cc)).kind = cc.kind
   rw [F5 c fs]
   unfold EA
   split
   · rfl
   · split <;> rfl
theorem R5 {fs : List Fd} {c : Cd} (hok : ∀ f ∈ fs, f.ok) (he : CD (BO fs c)) (fv : Value) : AB (Dy fs c (CQ c.kind)) fv = AB c fv := by
 obtain ⟨h1, h2⟩ := QI c fs c (CQ c.kind) hok (fun i => .inl ⟨rfl, .inl rfl⟩) (fun i => .inl ⟨rfl, .inl rfl⟩)
 have ht : ∀ i, (BO fs c).t i = [] → (Dy fs c (CQ c.kind)).t i = c.t i := fun i hi => by
  rcases h1 i with ⟨e1, e2 | e2⟩ | ⟨_, e2⟩
  · rw [e2, ← e1, hi]
  · exact e2
  · exact e2
 have hn : ∀ i, (BO fs c).n i = 0 → (Dy fs c (CQ c.kind)).n i = c.n i := fun i hi => by
  rcases h2 i with ⟨e1, e2 | e2⟩ | ⟨_, e2⟩
  · rw [e2, ← e1, hi]
  · exact e2
  · exact e2
 obtain ⟨t1, t2, t3, t4, t5, t6, _, n7, n8, n9, n10, n11, n12, n13⟩ := he
 unfold AB
 rw [F5, ht 1 t1, ht 2 t2, ht 3 t3, ht 4 t4, ht 5 t5, ht 6 t6, hn 7 n7, hn 8 n8, hn 9 n9, hn 10 n10, hn 11 n11, hn 12 n12, hn 13 n13]
 rfl
theorem Oo {x : B5} {y r : JV} {t : List UInt8} {n : Nat} (hb : -9223372036854775808 ≤ x.n ∧ x.n ≤ 9223372036854775807) (h : Bu x = some y) (hp : PJ (n + 1) y r t) : BJ x.nm r = (0, x) := by
 obtain ⟨nm, ty, m, s⟩ := x
 simp only at hb
 unfold Bu at h
 simp only at h
 split at h
 ·
  rename_i hty
  split at h
  ·
   rename_i hs
   injection h with h
   subst h hty hs
   rcases (show _ ∨ _ ∨ _ ∨ _ from hp) with ⟨_, hr, _⟩ | ⟨h2, _⟩ | ⟨h2, _⟩ | ⟨h2, _⟩
   ·
    rw [hr]
    unfold BJ
    rw [if_pos (show (DI (Lib.itoa m)).k = 3 from rfl)]
    unfold BR
    rw [Fj hb.1 hb.2]
    rfl
   · exact absurd h2 (by decide)
   · exact absurd h2 (by decide)
   · exact absurd h2 (by decide)
  · cases h
 ·
  split at h
  ·
   rename_i hty
   split at h
   ·
    rename_i hs
    injection h with h
    obtain ⟨hs1, hs2⟩ := hs
    subst h hty hs1
    rcases hs2 with rfl | rfl
    ·
     rcases (show _ ∨ _ ∨ _ ∨ _ from hp) with ⟨h2, _⟩ | ⟨h2, _⟩ | ⟨_, hr, _⟩ | ⟨h2, _⟩
     · exact absurd h2 (by simp)
     · exact absurd h2 (by simp)
     · rw [hr]; rfl
     · exact absurd h2 (by simp)
    ·
     rcases (show _ ∨ _ ∨ _ ∨ _ from hp) with ⟨h2, _⟩ | ⟨h2, _⟩ | ⟨_, hr, _⟩ | ⟨h2, _⟩
     · exact absurd h2 (by simp)
     · exact absurd h2 (by simp)
     · rw [hr]; rfl
     · exact absurd h2 (by simp)
   · cases h
  ·
   split at h
   ·
    rename_i hs
    injection h with h
    obtain ⟨hs1, hs2⟩ := hs
    subst h hs1 hs2
    rcases (show _ ∨ _ ∨ _ ∨ _ from hp) with ⟨h2, _⟩ | ⟨_, hr, _⟩ | ⟨h2, _⟩ | ⟨h2, _⟩
    · exact absurd h2 (by decide)
    · rw [hr]; rfl
    · exact absurd h2 (by decide)
    · exact absurd h2 (by decide)
   · cases h
theorem H8 : ∀ (fs : List B5) (ns : List (List UInt8)) (l : List JV) (v : JV), BN fs ns l = some v → ns.Pairwise (· < ·) → (∀ p, ns.getLast? = some p → ∀ q ∈ ns, q = p ∨ q < p) → (ns ++ fs.map B5.nm).Pairwise (· < ·)
 | [], ns, l, v, _, hp, _ => by simpa using hp
 | x :: r, ns, l, v, h, hp, hl => by
   unfold BN at h
   cases hx : Bu x with
   | none => rw [hx] at h; cases h
   | some y =>
     rw [hx] at h
     simp only at h
     have hlt : ∀ q ∈ ns, q < x.nm := by
      intro q hq
      cases hg : ns.getLast? with
      | none => rw [List.getLast?_eq_none_iff.1 hg] at hq; cases hq
      | some p =>
        rw [hg] at h
        simp only at h
        by_cases hpx : p < x.nm
        ·
         rcases hl p hg q hq with rfl | e
         · exact hpx
         · exact List.lt_trans e hpx
        · rw [if_neg (by simpa using hpx)] at h; cases h
     have hgo : BN r (ns ++ [x.nm]) (l ++ [y]) = some v := by
      split at h
      ·
       split at h
       · exact h
       · cases h
      ·
       split at h
       · exact h
       · cases h
     have := H8 r (ns ++ [x.nm]) (l ++ [y]) v hgo (List.pairwise_append.2 ⟨hp, List.pairwise_singleton _ _, fun a ha b hb => by rw [List.mem_singleton.1 hb]; exact hlt a ha⟩) (fun p hpl q hq => by
       rw [List.getLast?_append, List.getLast?_singleton] at hpl
       have e : x.nm = p := by simpa using hpl
       rcases List.mem_append.1 hq with h1 | h1
       · exact .inr (e ▸ hlt q h1)
       · exact .inl ((List.mem_singleton.1 h1).trans e))
     simpa using this
theorem Jn {r : JV} : ∀ (fs acc : List B5), (∀ x ∈ fs, ∃ y, CI r x.nm = some y ∧ BJ x.nm y = (0, x)) → CC r (fs.map B5.nm) acc = (0, acc ++ fs)
 | [], acc, _ => by simp [CC]
 | x :: fs, acc, h => by
   obtain ⟨y, h1, h2⟩ := h x (.head _)
   rw [List.map_cons]
   unfold CC
   rw [h1, show (some y).getD jz = y from rfl, h2]
   rw [if_neg (fun h => h rfl), Jn fs _ (fun z hz => h z (.tail _ hz))]
   simp
theorem Na {fs : List B5} {y r : JV} {t : List UInt8} {n : Nat} (hb : NV fs) (h : BN fs [] [] = some y) (hp : PJ (n + 2) y r t) : AU r = (0, fs) := by
 have hr := H8 fs [] [] y h List.Pairwise.nil (fun p hp => by cases hp)
 simp only [List.nil_append] at hr
 obtain ⟨ys, h1, h2, h3⟩ := ER fs [] [] y h
 simp only [List.nil_append] at h1
 have hnd : (fs.map B5.nm).Nodup := hr.imp (fun h e => by rw [e] at h; exact List.lt_irrefl _ h)
 have hlen : (fs.map B5.nm).length = ys.length := by rw [List.length_map]; exact h2.symm
 subst h1
 have hns : Ao r.ns = fs.map B5.nm := by
  rcases (show _ ∨ _ ∨ _ ∨ _ from hp) with ⟨h2, _⟩ | ⟨h2, _⟩ | ⟨h2, _⟩ | ⟨_, ms, hpm, _, _, hrr, _⟩
  · exact absurd h2 (by simp)
  · exact absurd h2 (by simp)
  · exact absurd h2 (by simp)
  have e := hpm.map (·.1)
  rw [List.map_map, List.map_fst_zip (by omega)] at e
  have e2 : r.ns.Perm (fs.map B5.nm) := by rw [hrr]; exact e
  have e3 : (Ao r.ns).Perm (fs.map B5.nm) := (List.mergeSort_perm _ _).trans e2
  refine List.Perm.eq_of_pairwise (le := (· ≤ ·)) (fun a b _ _ h1 h2 => List.le_antisymm h1 h2) ?_ (hr.imp (fun h => List.le_of_lt h)) e3
  have := List.pairwise_mergeSort (le := fun x y : List UInt8 => decide (x ≤ y)) (fun a b c h1 h2 => by simp only [decide_eq_true_eq] at *; exact List.le_trans h1 h2) (fun a b => by simp only [Bool.or_eq_true, decide_eq_true_eq]; exact List.le_total a b) r.ns
  exact this.imp (fun h => by simpa using h)
 unfold AU
 rw [hns, Jn fs [] ?_]
 · rfl
 ·
  intro x hx
  obtain ⟨i, hi⟩ := List.getElem?_of_mem hx
  have hil := (List.getElem?_eq_some_iff.1 hi).1
  obtain ⟨z, hz⟩ : ∃ z, ys[i]? = some z := ⟨_, List.getElem?_eq_getElem (by omega)⟩
  have hm : (x.nm, z) ∈ (fs.map B5.nm).zip ys := by
   refine List.mem_of_getElem? (i := i) ?_
   rw [List.getElem?_zip_eq_some]
   exact ⟨by rw [List.getElem?_map, hi]; rfl, hz⟩
  have hg : CI (.mk 6 [] (fs.map B5.nm) ys) x.nm = some z := by
   rw [Ja hlen]
   exact Ls (by rw [List.map_fst_zip (by omega)]; exact hnd) hm
  obtain ⟨z', s', h4, h5⟩ := (P7 (nm := x.nm) hnd hlen hp).1 z hg
  exact ⟨z', h4, Oo (hb x hx) (h3 i x z hi hz) h5⟩
theorem Jo {X : List B5} {v : JV} : ∀ (fs : List Fd), (∀ f ∈ fs, ∃ y, CI v f.nm = some y ∧ JG f y = 0 ∧ (f.kd = 2 → AU y = (0, X))) → ∀ (cc : Cd) (fx : JV), ((∀ f ∈ fs, f.kd ≠ 2) ∧ (CB fs v cc fx).2.2 = fx) ∨ AU (CB fs v cc fx).2.2 = (0, X)
 | [], _, _, _ => .inl ⟨fun f hf => (by cases hf), rfl⟩
 | f :: fs, h, cc, fx => by
   obtain ⟨y, h1, h2, h3⟩ := h f (.head _)
   have ih := Jo fs (fun g hg => h g (.tail _ hg)) (G7 f y cc) (if f.kd = 2 then y else fx)
   unfold CB
   rw [h1]; simp only
   rw [if_neg (fun h => h h2)]
   rcases ih with ⟨i1, i2⟩ | i
   ·
    by_cases hk : f.kd = 2
    ·
     right
     rw [i2, if_pos hk]
     exact h3 hk
    ·
     left
     rw [if_neg hk] at i2
     refine ⟨fun g hg => ?_, by rw [if_neg hk]; exact i2⟩
     rcases List.mem_cons.1 hg with rfl | hg
     · exact hk
     · exact i1 g hg
   · exact .inr i
theorem Hq (c : Cd) : ∀ (fs : List Fd) (d : Cd), (∀ f ∈ fs, f.ok) → (∀ f ∈ fs, f.kd ≠ 2) → (BO fs d).fx = d.fx
 | [], _, _, _ => rfl
 | f :: fs, d, hok, h => by
   show (BO fs (Av f d).2).fx = d.fx
   rw [Hq c fs _ (fun g hg => hok g (.tail _ hg)) (fun g hg => h g (.tail _ hg))]
   have hk := h f (.head _)
   unfold Av
   split
   · rfl
   ·
    split
    · rfl
    · rcases (hok f (.head _)).kd with h1 | h1 | h1 <;> omega
section
section
variable {P : Program} {n : NN} {a : Act} {L : List (Nat × Value)} {Γ : List AT} {dst : Option Nat} {ty : Nat} {pos : String} {af : Array Edge} {g : Option (Nat × Bool)}
end
structure Sy (W : World) : Prop where
 c : ∃ ev, W.cell? ⟨4, 0, none⟩ = some ev ∧ (ev = .nilIface ∨ ∃ te pe, ev = .iface te pe)
theorem Sy.keep {W w : World} (h : Sy W) (ho : AQ W w) : Sy w := by
 obtain ⟨ev, h1, h2⟩ := h.c
 exact ⟨ev, AF ho h1, h2⟩
def L0 (t : List UInt8) (n : Int) : Prop := Lib.atoiAll t = .ok n ∧ Lib.itoa n = t
theorem Nb {t : List UInt8} {n m : Int} (h : L0 t n) (h2 : L0 t m) : n = m := by
 have := h.1.symm.trans h2.1
 injection this
inductive R6 (t : List UInt8) : Cd → Prop
 | inv {n : Int} (h : Lib.hasPrefix t IF = true) (hn : L0 (Lib.trimPrefix t IF) n) : R6 t ((CQ 13).putN 11 n)
 | bal {n : Int} (h0 : Lib.hasPrefix t IF = false) (h : Lib.hasPrefix t Jb = true) (hn : L0 (Lib.cut (Lib.trimPrefix t Jb) [47]).2.1 n) (hm : Ba (Lib.cut (Lib.trimPrefix t Jb) [47]).1 = true) : R6 t (((CQ 14).putT 1 (Lib.cut (Lib.trimPrefix t Jb) [47]).1).putN 8 n)
 | hea (h : t = Jc) : R6 t (CQ 0)
theorem Hr : Lib.hasPrefix Jc IF = false ∧ Lib.hasPrefix Jc Jb = false := ⟨by decide, by decide⟩
theorem R6.one {t : List UInt8} {c d : Cd} (h : R6 t c) (h2 : R6 t d) : c = d := by
 cases h with
 | inv h hn => cases h2 with
   | inv _ hm => rw [Nb hn hm]
   | bal h0 _ _ _ => rw [h] at h0; cases h0
   | hea e => subst e; rw [Hr.1] at h; cases h
 | bal h0 h hn hm => cases h2 with
   | inv h1 _ => rw [h1] at h0; cases h0
   | bal _ _ hk _ => rw [Nb hn hk]
   | hea e => subst e; rw [Hr.2] at h; cases h
 | hea e => cases h2 with
   | inv h _ => subst e; rw [Hr.1] at h; cases h
   | bal _ h _ _ => subst e; rw [Hr.2] at h; cases h
   | hea _ => rfl
end
def L2 : List UInt8 := [71, 69, 84]
def Cf : List UInt8 := [80, 79, 83, 84]
open Classical in
theorem Ks : ∀ (ms' ms : List Ee), (ms'.map fun m => (m.n, m.v)) = (ms.map fun m => (m.n, m.v)) → (∀ m ∈ ms, ∀ m' ∈ ms', m'.v = m.v → m'.r = m.r ∧ m'.t = m.t) → ms'.map (·.n) = ms.map (·.n) ∧ ms'.map (·.r) = ms.map (·.r) ∧ A2 ms' = A2 ms
 | [], [], _, _ => ⟨rfl, rfl, rfl⟩
 | [], _ :: _, h, _ => by simp at h
 | _ :: _, [], h, _ => by simp at h
 | m' :: ms', m :: ms, h, hi => by
   rw [List.map_cons, List.map_cons] at h
   injection h with h1 h2
   injection h1 with hn hv
   obtain ⟨e1, e2⟩ := hi m (.head _) m' (.head _) hv
   obtain ⟨i1, i2, i3⟩ := Ks ms' ms h2 (fun a ha b hb => hi a (.tail _ ha) b (.tail _ hb))
   have hle : ms'.isEmpty = ms.isEmpty := by
    have := congrArg List.length i1
    rw [List.length_map, List.length_map] at this
    cases ms' with
    | nil => cases ms with
      | nil => rfl
      | cons a b => simp at this
    | cons a b => cases ms with
      | nil => simp at this
      | cons a b => rfl
   refine ⟨by rw [List.map_cons, List.map_cons, hn, i1], by rw [List.map_cons, List.map_cons, e1, i2], ?_⟩
   rw [Ft, Ft, hle, i3]
   unfold GP
   rw [hn, e2]
theorem Oq {l1 l2 : List (List UInt8 × JV)} (hnd : (l2.map (·.1)).Nodup) (hp : l1.Perm l2) (h1 : l1.Pairwise (fun a b => a.1 ≤ b.1)) (h2 : l2.Pairwise (fun a b => a.1 ≤ b.1)) : l1 = l2 := by
 refine List.Perm.eq_of_pairwise (le := fun (a b : List UInt8 × JV) => a.1 ≤ b.1) (fun a b ha hb h3 h4 => ?_) h1 h2 hp
 have hab := List.le_antisymm h3 h4
 have f1 := FC hnd (show (a.1, a.2) ∈ _ from (hp.mem_iff).1 ha)
 have f2 := FC hnd (show (b.1, b.2) ∈ _ from hb)
 rw [← hab, f1] at f2
 injection f2 with f2
 have f3 := congrArg (fun p : List UInt8 × JV => p.2) f2
 exact Prod.ext hab f3
theorem VL : ∀ (n d : Nat) (v r : JV) (s : List UInt8) (r' : JV) (s' : List UInt8), Cp n d v → PJ n v r s → PJ n v r' s' → r' = r ∧ s' = s
 | 0, _, _, _, _, _, _, h, _, _ => h.elim
 | n + 1, d, .mk k t ns l, r, s, r', s', ho, hp, hq => by
   rcases (show _ ∨ _ ∨ _ ∨ _ from hp) with ⟨hk, rfl, rfl⟩ | ⟨hk, rfl, rfl⟩ | ⟨hk, rfl, rfl⟩ | ⟨hk, ms, hpm, hs, hm, rfl, rfl⟩
   ·
    rcases (show _ ∨ _ ∨ _ ∨ _ from hq) with ⟨_, h1, h2⟩ | ⟨h, _⟩ | ⟨h, _⟩ | ⟨h, _⟩
    · exact ⟨h1, h2⟩
    · omega
    · omega
    · omega
   ·
    rcases (show _ ∨ _ ∨ _ ∨ _ from hq) with ⟨h, _⟩ | ⟨_, h1, h2⟩ | ⟨h, _⟩ | ⟨h, _⟩
    · omega
    · exact ⟨h1, h2⟩
    · omega
    · omega
   ·
    rcases (show _ ∨ _ ∨ _ ∨ _ from hq) with ⟨h, _⟩ | ⟨h, _⟩ | ⟨_, h1, h2⟩ | ⟨h, _⟩
    · omega
    · omega
    · exact ⟨h1, h2⟩
    · omega
   ·
    obtain ⟨_, _, h3⟩ := ho
    obtain ⟨g1, g2, g3, g4, g5, g6⟩ := h3 hk
    rcases (show _ ∨ _ ∨ _ ∨ _ from hq) with ⟨h, _⟩ | ⟨h, _⟩ | ⟨h, _⟩ | ⟨_, ms', hpm', hs', hm', rfl, rfl⟩
    · omega
    · omega
    · omega
    have hnd : ((ms.map fun m => (m.n, m.v)).map (·.1)).Nodup := by rw [List.map_map]; exact Um hpm g5 (by omega)
    have hw1 : (ms.map fun m => (m.n, m.v)).Pairwise (fun a b => a.1 ≤ b.1) := by rw [List.pairwise_map]; rw [List.pairwise_map] at hs; exact hs
    have hw2 : (ms'.map fun m => (m.n, m.v)).Pairwise (fun a b => a.1 ≤ b.1) := by rw [List.pairwise_map]; rw [List.pairwise_map] at hs'; exact hs'
    have heq := Oq hnd (hpm'.trans hpm.symm) hw2 hw1
    obtain ⟨i1, i2, i3⟩ := Ks ms' ms heq (fun m hmm m' hmm' hv => VL n (d + 1) m.v m.r m.t m'.r m'.t (g6 _ (cD hpm hmm).2) (hm m hmm) (hv ▸ hm' m' hmm'))
    exact ⟨by rw [i1, i2], by rw [i3]⟩
def QJ (c : Cd) (me pa s : List UInt8) : Prop := (me = Cf ∧ ∃ v r k fl c', kK c pa s v r k fl c') ∨ (me = L2 ∧ (c.kind = 13 ∨ c.kind = 14) ∧ pa = (Au c).1 ∧ (Au c).2 = true ∧ s = [])
theorem VM {s : List UInt8} (h : Ba s = true) : s.length ≤ 100 := by
 unfold Ba at h
 rw [Bool.and_eq_true, Bool.and_eq_true, decide_eq_true_eq, decide_eq_true_eq] at h
 exact h.1.2
theorem QK (p x : List UInt8) : Lib.hasPrefix (p ++ x) p = true ∧ Lib.trimPrefix (p ++ x) p = x := by
 have h : Lib.hasPrefix (p ++ x) p = true := by unfold Lib.hasPrefix; rw [List.isPrefixOf_iff_prefix]; exact List.prefix_append _ _
 exact ⟨h, by unfold Lib.trimPrefix; rw [if_pos h, Fc]⟩
theorem Xy {c : Cd} {me pa s me' pa' s' : List UInt8} (h : QJ c me pa s) (h2 : QJ c me' pa' s') : me' = me ∧ pa' = pa ∧ s' = s := by
 rcases h with ⟨rfl, v, r, k, fl, c', h⟩ | ⟨rfl, hk, rfl, hp, rfl⟩
 ·
  rcases h2 with ⟨rfl, v2, r2, k2, fl2, c2, h2⟩ | ⟨rfl, hk, _⟩
  ·
   have e1 := h.kd
   have e2 := h2.kd
   obtain rfl : k2 = k := by omega
   have hx := h2.x
   rw [h.x] at hx
   injection hx with hx
   injection hx with hx1 hx2
   subst hx1 hx2
   have hq := h2.q
   rw [h.q] at hq
   injection hq with hq
   injection hq with hq1 _
   subst hq1
   exact ⟨rfl, rfl, (VL 3 0 v r s r2 s' h.f h.p h2.p).2⟩
  ·
   have hk12 : k < 12 := (List.getElem?_eq_some_iff.1 h.x).1
   have e1 := h.kd
   omega
 ·
  rcases h2 with ⟨_, v2, r2, k2, fl2, c2, h2⟩ | ⟨rfl, _, rfl, _, rfl⟩
  ·
   have hk12 : k2 < 12 := (List.getElem?_eq_some_iff.1 h2.x).1
   have e1 := h2.kd
   omega
  · exact ⟨rfl, rfl, rfl⟩
theorem R7 {c : Cd} {me pa s : List UInt8} {e : Int} (h : QJ c me pa s) (he : NK c e) : False := by
 rcases h with ⟨rfl, v, r, k, fl, c', h⟩ | ⟨rfl, hk, rfl, hp, rfl⟩
 ·
  obtain ⟨_, h2⟩ := he.2.2 k pa fl v c' h.x h.kd h.q h.e h.f
  have := FG 3 v r s h.p
  have := h.n
  omega
 · rw [he.2.1 hk] at hp; cases hp
def DR (me pa : List UInt8) : List UInt8 := me ++ [32] ++ pa ++ [10]
def FQ (me pa s : List UInt8) : List UInt8 := DR me pa ++ s
theorem VN {c : Cd} (hc : c.ok) (hp : (Au c).2 = true) : (Au c).1.length ≤ 200 := by
 unfold Au at hp ⊢
 split
 ·
  rename_i hk
  rw [if_pos hk, Bool.and_eq_true] at hp
  have h1 := VM hp.1
  obtain ⟨n0, n1⟩ := hc.n 8 (by omega) (by omega)
  have h2 := Bp n0 n1
  simp only [List.length_append, List.length_cons, List.length_nil]
  omega
 ·
  obtain ⟨n0, n1⟩ := hc.n 11 (by omega) (by omega)
  have h2 := Bp n0 n1
  simp only [List.length_append, List.length_cons, List.length_nil]
  omega
theorem QL : ∀ x ∈ DK, x.1.length ≤ 20 := by
 intro x hx
 have h : ∀ y ∈ DK.map (fun x => x.1.length), y ≤ 20 := by decide +kernel
 exact h _ (List.mem_map.2 ⟨x, hx, rfl⟩)
theorem Ib {c : Cd} {me pa s : List UInt8} (hc : c.ok) (h : QJ c me pa s) : me.length ≤ 4 ∧ pa.length ≤ 200 ∧ s.length ≤ 32768 := by
 rcases h with ⟨rfl, v, r, k, fl, c', h⟩ | ⟨rfl, hk, rfl, hp, rfl⟩
 · exact ⟨by decide, Nat.le_trans (QL _ (List.mem_of_getElem? h.x)) (by decide), h.n⟩
 · exact ⟨by decide, VN hc hp, Nat.zero_le _⟩
theorem VO {c : Cd} (hc : c.ok) (x : mT c) : ∃ (me pa s : List UInt8) (q : Option Addr) (cp : Nat) (e : Int), mU c x = .tuple [.agg [.string (tx me), .string (tx pa), .slice q s.length cp, .bool false].toArray, .int .i64 e].toArray ∧
 (∀ w, (eR c x).φ w → CL (.slice q s.length cp) (Br s) w) ∧ ((e = 0 ∧ QJ c me pa s) ∨ (e ≠ 0 ∧ NK c e ∧ s = [])) := by
 rcases x with ⟨⟨⟨pb, cap⟩, path, s⟩, ⟨v, r, k, fl, c', h⟩, hcp⟩ | ⟨p, h1, h2, h3⟩ | ⟨e, h1, h2⟩
 · exact ⟨Cf, path, s, _, cap, 0, rfl, fun w hw => Ll hw hcp, .inl ⟨rfl, .inl ⟨rfl, v, r, k, fl, c', h⟩⟩⟩
 · exact ⟨L2, p, [], _, _, 0, rfl, fun w _ => .inl ⟨rfl, _, _, rfl⟩, .inl ⟨rfl, .inr ⟨rfl, h1, h2, h3, rfl⟩⟩⟩
 · exact ⟨[], [], [], _, _, e, rfl, fun w _ => .inl ⟨rfl, _, _, rfl⟩, .inr ⟨h1, h2, rfl⟩⟩
def qI (c : Cd) : Type := { x : (Option Addr × Nat) × List UInt8 × List UInt8 × List UInt8 // QJ c x.2.1 x.2.2.1 x.2.2.2 ∧ (FQ x.2.1 x.2.2.1 x.2.2.2).length ≤ x.1.2 } ⊕ { e : Int // e ≠ 0 ∧ NK c e }
def rI (c : Cd) : qI c → Value
 | .inl x => .tuple [.slice x.1.1.1 (FQ x.1.2.1 x.1.2.2.1 x.1.2.2.2).length x.1.1.2, .int .i64 0].toArray
 | .inr e => .tuple [.slice none 0 0, .int .i64 e.1].toArray
def qJ (c : Cd) : qI c → AT
 | .inl x => Ly (.slice x.1.1.1 (FQ x.1.2.1 x.1.2.2.1 x.1.2.2.2).length x.1.1.2) (Br (FQ x.1.2.1 x.1.2.2.1 x.1.2.2.2))
 | .inr _ => A7
theorem R8 (W0 : World) (hG : Gj W0) (c : Cd) (hc : c.ok) (fa : Option Addr) (fc : Nat) (hF : H4 W0 fa c.fx) (w0 : World) (hold : AQ W0 w0)
 (hb : ∀ (k : Nat) (x : List UInt8 × List Fg) (v : JV) (c' : Cd), DK[k]? = some x → DJ (AE x.2) c [] [] = some (v, c') → D0 3 v ∧ Fy 3 v ∧ BY 3 v ≤ 9000000) :
 Bb Tryz.prog 18 [.agg (AB c (.slice fa c.fx.length fc)).toArray] w0 (rI c) (qJ c) := by
 refine Ew Ai Tryz.func18 Tryz.ntmps18 hold ?_
 intro a hS
 refine Wh 2 hS ?_
 refine Lo (Bx ?_); intro b1
 refine Wn 7 ?_
 refine Lo (cN qR (fun hS => Jm W0 hG c hc fa fc hF _ hS.od hb) ?_); intro x8
 obtain ⟨me, pa, s, q, cp, e, hrv, hby, hrc⟩ := VO hc x8
 intro a w hS
 rw [hrv] at hS
 refine Wh 3 hS ?_
 refine Lo (Al ?_); intro b4
 refine Lo (Sa ?_)
 refine Wn 10 ?_
 refine iD (fun hc12 => ?_) fun hc12 => ?_
 ·
  refine Wn 9 ?_
  intro a w hS
  refine Rm hS Tryz.results18 ?_
  rcases hrc with ⟨h, _⟩ | ⟨_, h, _⟩
  · exact absurd h hc12
  · exact ⟨.inr ⟨e, hc12, h⟩, rfl, hS.chg, AL _, fun b h => h.elim⟩
 obtain ⟨rfl, hq⟩ : e = 0 ∧ QJ c me pa s := by
  rcases hrc with h | ⟨h, _⟩
  · exact h
  · exact absurd h hc12
 obtain ⟨l1, l2, l3⟩ := Ib hc hq
 have hll : (DR me pa).length = me.length + 1 + pa.length + 1 := by unfold DR; simp only [List.length_append, List.length_cons, List.length_nil]
 have hlne : Br (DR me pa) ≠ [] := fun e => by have := congrArg List.length e; rw [Ap, hll] at this; simp at this
 refine Wn 6 ?_
 refine Xp (DL (j := [32]) rfl rfl (by simp only [List.length_cons, List.length_nil]; omega)) ?_
 refine Wn 2 ?_
 refine Xp (DL rfl rfl (by simp only [List.length_append, List.length_cons, List.length_nil]; omega)) ?_
 refine Xp (DL (j := [10]) rfl rfl (by simp only [List.length_append, List.length_cons, List.length_nil]; omega)) ?_
 intro a w hS
 rw [show me ++ [32] ++ pa ++ [10] = DR me pa from rfl] at hS
 refine Aa (Jl hS rfl (by rw [BA, hll]; omega) Tryz.underlying9 AZ.1 C7.1 rfl ?_)
 intro b21 c21 a w hc21 hm21 hS
 rw [show CE (tx (DR me pa)) = Br (DR me pa) from rfl] at hS hc21
 refine Wq 2 hS ?_; intro a hS
 refine Aa (Kr (l := Br (DR me pa)) (ys := Br s) hS rfl rfl AZ.1 BL.1 HX.1 KI.1 rfl (by repeat constructor) hm21 hc21 (Ap s) (hby _ (hS.gg (X := eR c x8))) hlne (by rw [Ap, hll]; omega) (fun _ => (by repeat constructor)) ?_)
 intro q24 c24 a w hc24 hS
 have eb : Br (DR me pa) ++ Br s = Br (FQ me pa s) := (List.map_append ..).symm
 have el : (Br (DR me pa)).length + s.length = (FQ me pa s).length := by rw [Ap]; exact (List.length_append ..).symm
 rw [eb, el] at hS
 rw [el] at hc24
 refine Wh 5 hS ?_
 intro a w hS
 refine Rm hS Tryz.results18 ?_
 exact ⟨.inl ⟨((q24, c24), me, pa, s), hq, hc24⟩, rfl, hS.chg, hS.ok (Ly (.slice q24 (FQ me pa s).length c24) (Br (FQ me pa s))) (by repeat constructor), fun b hb => (hS.mine (Ly (.slice q24 (FQ me pa s).length c24) (Br (FQ me pa s))) (by repeat constructor) rfl b hb).resolve_right id⟩
theorem VP : ∀ t ∈ DK.map (·.1), ¬ Y0 3 NZ (Am 47 t) ∧ ¬ Y0 4 J9 (Am 47 t) := by decide +kernel
theorem VQ {fl : List Fg} : ∀ {k : Nat} {x : Fg}, fl[k]? = some x → (Ac fl)[2 * k]? = some x.f.nm ∧ (Ac fl)[2 * k + 1]? = some (eT x.f.kd) := by
 unfold Ac AE
 induction fl with
 | nil => intro k x h; cases h
 | cons y r ih =>
   intro k x h
   rw [List.map_cons, List.flatMap_cons]
   cases k with
   | zero => injection h with h; subst h; exact ⟨rfl, rfl⟩
   | succ k =>
     obtain ⟨h1, h2⟩ := ih (k := k) (x := x) h
     rw [show 2 * (k + 1) = 2 * k + 2 by omega]
     exact ⟨h1, h2⟩
theorem Ot (fl : List Fg) : (Ac fl).length = 2 * fl.length := by
 unfold Ac AE
 induction fl with
 | nil => rfl
 | cons y r ih => rw [List.map_cons, List.flatMap_cons, List.length_append, ih, List.length_cons]; simp; omega
theorem VR : AU jz = (0, []) := by
 unfold AU Ao
 rw [show jz.ns = [] from rfl, List.mergeSort_nil]; rfl
theorem Ic {v : JV} (h : Om v) : (AU v).1 = 0 := by
 have key : ∀ (ns : List (List UInt8)) (acc : List B5), (∀ nm ∈ ns, nm ∈ v.ns) → (CC v ns acc).1 = 0 := by
  intro ns
  induction ns with
  | nil => intro acc _; rfl
  | cons nm r ih =>
    intro acc hm
    obtain ⟨y, x, hy, hx, _⟩ := h.2 nm (hm nm (.head _))
    unfold CC
    rw [hy]
    simp only [Option.getD_some]
    rw [hx, if_neg (fun h => h rfl)]
    exact ih _ (fun n hn => hm n (.tail _ hn))
 exact key _ _ (fun nm hn => (List.mergeSort_perm v.ns _).mem_iff.1 hn)
theorem L3 : ∀ x ∈ DK, (Eu (Ac x.2)).length ≤ 1200000 := by
 intro x hx
 have h : ∀ y ∈ DK.map (fun x => (Eu (Ac x.2)).length), y ≤ 1200000 := by decide +kernel
 exact h _ (List.mem_map.2 ⟨x, hx, rfl⟩)
structure rJ (fl : List Fg) (r : JV) : Prop where
 k : r.k = 6
 n : r.ns.length = fl.length
 f : ∀ x ∈ fl, ∃ y, CI r x.f.nm = some y ∧ JG x.f y = 0 ∧ (y.k = 3 → ∃ m : Int, -9223372036854775808 ≤ m ∧ m ≤ 9223372036854775807 ∧ y.t = Lib.itoa m) ∧ (x.f.kd = 2 → Om y ∧ y.ns.length ≤ 1000)
theorem Nc (W0 : World) (k : Nat) (pa : List UInt8) (fl : List Fg) (hx : DK[k]? = some (pa, fl)) (q : Option Addr) (cap : Nat) (s : List UInt8) (ht : EB W0 q cap s) (v r : JV) (hpj : PJ 3 v r s) (hok : Cp 3 0 v) (hgi : Lq 3 v) (h64 : s.length ≤ 65536) (hz : rJ fl r) (w0 : World) (hold : AQ W0 w0) :
 Bb Tryz.prog 59 [.agg [.string (tx Cf), .string (tx pa), .slice q s.length cap, .bool false].toArray] w0
  (fun p : Option Addr × Nat => .tuple [.agg (AB (Bj (AE fl) ((k : Int) + 1) r).2 (.slice p.1 (Bj (AE fl) ((k : Int) + 1) r).2.fx.length p.2)).toArray, .int .i64 0].toArray)
  (fun p => oR 139 4 p.1 (Bj (AE fl) ((k : Int) + 1) r).2.fx p.2 Az) ∧ (Bj (AE fl) ((k : Int) + 1) r).1 = 0 := by
 have hk12 : k < 12 := (List.getElem?_eq_some_iff.1 hx).1
 have hxm := List.mem_of_getElem? hx
 have hgx := Hm _ hxm
 have hpl : pa.length ≤ 20 := QL _ hxm
 have hfn : fl.length ≤ 1000 := hgx.n
 obtain ⟨_, _, hnh⟩ := Je pa (List.mem_map.2 ⟨_, hxm, rfl⟩)
 obtain ⟨hw1, hw2⟩ := VP pa (List.mem_map.2 ⟨_, hxm, rfl⟩)
 have hpw : CP (Am 47 pa) = (CQ 0, false) := by unfold CP; rw [if_neg hw1, if_neg hw2]
 have hpath := QH pa (by omega)
 rw [hpw] at hpath
 have hfz : ∀ x ∈ fl, mV x.f := fun x h => VD _ hxm x.f (List.mem_map.2 ⟨x, h, rfl⟩)
 have hfo : ∀ x ∈ fl, x.f.ok := fun x h => Cm hxm x.f (List.mem_map.2 ⟨x, h, rfl⟩)
 have hwl := Ot fl
 obtain ⟨cc, fxv, hb, hfx0⟩ : ∃ cc fxv, CB (AE fl) r (CQ ((k : Int) + 1)) jz = (0, cc, fxv) ∧ (AU fxv).1 = 0 := by
  have key : ∀ (l : List Fg), (∀ x ∈ l, x ∈ fl) → ∀ (c : Cd) (fx : JV), (AU fx).1 = 0 → ∃ cc fxv, CB (AE l) r c fx = (0, cc, fxv) ∧ (AU fxv).1 = 0 := by
   intro l
   induction l with
   | nil => intro _ c fx h; exact ⟨c, fx, rfl, h⟩
   | cons x l ih =>
     intro hm c fx h
     obtain ⟨y, h1, h2, _, h4⟩ := hz.f x (hm x (.head _))
     have hst := Hk (fl := x :: l) (k := 0) (c := c) (fx := fx) rfl h1
     rw [if_neg (fun h => h h2)] at hst
     rw [show AE (x :: l) = AE ((x :: l).drop 0) from rfl, hst]
     refine ih (fun z hz => hm z (.tail _ hz)) _ _ ?_
     split
     · rename_i hk2; exact Ic (h4 hk2).1
     · exact h
  exact key fl (fun x h => h) _ jz (by rw [VR])
 have hbf : Bj (AE fl) ((k : Int) + 1) r = (0, { cc with fx := (AU fxv).2 }) := by
  unfold Bj
  rw [hb]
  simp only
  rw [if_neg (fun h => h rfl), if_neg (by rw [hz.n]; unfold AE; rw [List.length_map]; omega), if_neg (fun h => h hfx0)]
 rw [hbf]
 refine ⟨?_, rfl⟩
 have hcut := Lw 32 (Eu (Ac fl)) (L3 _ hxm)
 rw [Jk _ hxm] at hcut
 refine Ew Ai Tryz.func59 Tryz.ntmps59 hold ?_
 intro a hS
 refine Wh 2 hS ?_
 refine Lo (Bx ?_); intro b1
 refine Lo (Al ?_); intro b2
 refine Wn 6 ?_
 refine Lo (Al ?_); intro b4
 refine Lo (Sa ?_)
 refine Wn 6 ?_
 refine Lo (cP YP (fun _ => hpath _) ?_)
 refine Wn 3 ?_
 refine Lo (Al ?_); intro b5
 refine Lo (Sa ?_)
 refine Wn 8 ?_
 refine Ie 25 false rfl rfl ?_
 refine Wn 6 ?_
 refine Ie 29 false rfl (decide_eq_false (fun h => hnh (Bn (b := Jc) h))) ?_
 refine Wn 5 ?_
 refine Lo (cN V3 (fun _ => F4 _) ?_); intro x44
 refine Wn 15 ?_
 intro a w hS
 refine AW (γ := Nat) (fun i a w => St 128 Ai w0 a w [(9, .int .i64 (i : Int)), (8, .int .i64 (if k < i then (k : Int) else -1)), (7, .slice (some ⟨x44, 0, none⟩) 12 12), (1, .pointer (some ⟨b1, 0, none⟩)), (2, .pointer (some ⟨b2, 0, none⟩)), (4, .pointer (some ⟨b4, 0, none⟩)), (5, .pointer (some ⟨b5, 0, none⟩))] [.blk x44 DM 128, .blk b1 [.string (tx Cf), .string (tx pa), .slice q s.length cap, .bool false] 51, .blk b2 (AB (CQ 0) (.slice none 0 0)) 48, .blk b4 (AB (CQ 0) (.slice none 0 0)) 48, .blk b5 (AB (CQ 0) (.slice none 0 0)) 48, AG W0] ∧ i ≤ 12) (fun i => 12 - i) 0 ⟨hS.sp, Nat.zero_le _⟩ ?_
 intro i a w hI
 obtain ⟨hS, hi⟩ := hI
 refine Wh 9 hS ?_
 refine iD (fun hc48 => ?_) fun hc48 => ?_
 ·
  have hi12 : i < 12 := by omega
  obtain ⟨xi, hxi⟩ := Hn hi12
  have hki : tx xi.1 = tx pa ↔ i = k := ⟨fun h => P9 hxi hx (Bn h), fun h => by subst h; rw [hx] at hxi; injection hxi with hxi; rw [← hxi]⟩
  refine Wn 5 ?_
  refine Dr 8 [] [.blk x44 DM 128, .blk b1 [.string (tx Cf), .string (tx pa), .slice q s.length cap, .bool false] 51] ?_
  refine ZR 4 ?_
  refine Zy rfl (AI rfl Af.1 (fun w hh => by have := AR (hh (.blk x44 DM 128) (by repeat constructor)) (Dl hxi 0 _ rfl); rw [show i * 3 + 0 = 0 + i * 3 by omega] at this; exact this)) ?_
  refine ZR 3 ?_
  refine Wn 2 ?_
  refine iD (fun hc58 => ?_) fun hc58 => ?_
  ·
   have hik : i = k := hki.1 hc58
   subst hik
   refine Wn 11 ?_
   intro a w hS
   exact ⟨i + 1, by omega, by rw [if_pos (Nat.lt_succ_self i)]; exact hS.sp, by omega⟩
  have hik : i ≠ k := fun h => hc58 (hki.2 h)
  refine Wn 8 ?_
  have e : (if k < i then (k : Int) else -1) = if k < i + 1 then (k : Int) else -1 := by
   by_cases h : k < i
   · rw [if_pos h, if_pos (by omega)]
   · rw [if_neg h, if_neg (by omega)]
  intro a w hS
  rw [e] at hS
  exact ⟨i + 1, by omega, hS.sp, by omega⟩
 obtain rfl : i = 12 := by omega
 intro a w hS
 rw [if_pos hk12] at hS
 refine Wq 1 hS ?_; intro a hS
 refine AH (AH (Aj ?_))
 refine Wh 8 hS ?_
 refine Ie 61 false rfl (decide_eq_false (by omega)) ?_
 refine Wn 11 ?_
 refine Ie 65 false rfl (decide_eq_false (fun h => h rfl)) ?_
 refine Wn 7 ?_
 refine Lo (cN gY (fun hS => Ue W0 q cap 3 v r s ht hpj hok hgi h64 _ hS.od) ?_); intro x70
 obtain ⟨xj, hxv⟩ := x70
 intro a w hS
 simp only at hS
 obtain ⟨lx, nx, ⟨a1, a2, a3, rfl⟩, ⟨a4, a5, a6, rfl⟩, hcs⟩ := DZ.four (hS.gg (X := Be 3 xj))
 have hnl : a5 = r.ns.length := by
  have h1 := hS.gg (X := Be 3 xj)
  have h1 : DZ 3 xj.v xj.cs w := h1
  obtain ⟨_, _, _, _, _, e, _⟩ := U9 h1
  rw [hcs, hxv] at e
  injection e with _ e; injection e with _ e; injection e with _ e; injection e with e _; injection e with _ e _
 rw [hcs, hxv] at hS
 refine Wh 4 hS ?_
 refine Lo (Al ?_); intro b10
 refine Lo (Sa ?_)
 refine Wn 11 ?_
 refine Ie 75 false rfl rfl ?_
 refine Wn 11 ?_
 refine Ie 79 false rfl (decide_eq_false (fun h => h (by have := hz.k; omega))) ?_
 refine Wn 9 ?_
 refine Xp (AI rfl Af.1 (fun w hh => by have := AR (hh (.blk x44 DM 128) (by repeat constructor)) (Dl hx 2 _ rfl); rw [show k * 3 + 2 = 0 + k * 3 + 2 by omega] at this; exact this)) ?_
 refine Lo (cN V4 (fun _ => hcut _) ?_); intro x86
 obtain ⟨qw, cw⟩ := x86
 intro a w hS
 simp only at hS
 refine Wh 9 hS ?_
 refine Xp (AI rfl El.1 (fun w hh => by have := AR (hh (.blk x44 DM 128) (by repeat constructor)) (Dl hx 1 _ rfl); rw [show k * 3 + 1 = 0 + k * 3 + 1 by omega] at this; exact this)) ?_
 refine Wn 1 ?_
 refine Lo (Sa ?_)
 refine Wn 5 ?_
 intro a w hS
 obtain ⟨W1, rfl⟩ : ∃ W, W = w := ⟨_, rfl⟩
 have hj1 : DZ 3 r xj.cs W1 := by have h1 := hS.gg (X := Be 3 xj); have h1 : DZ 3 xj.v xj.cs W1 := h1; rw [hxv] at h1; exact h1
 rw [hcs] at hj1
 refine Wq 4 hS ?_; intro a hS
 refine AW (γ := Nat × Cd × JV × Option Addr × Nat) (fun G a w => St 128 Ai w0 a w [(14, .int .i64 ((2 * G.1 : Nat) : Int)), (13, .slice qw (Ac fl).length cw), (10, .pointer (some ⟨b10, 0, none⟩)), (2, .pointer (some ⟨b2, 0, none⟩)), (4, .pointer (some ⟨b4, 0, none⟩)), (5, .pointer (some ⟨b5, 0, none⟩))] [oR 139 4 G.2.2.2.1 (AU G.2.2.1).2 G.2.2.2.2 Az, oR 9 1 qw (Ac fl) cw AM, .blk b10 [.int .i64 (r.k : Int), .string (tx r.t), .slice a1 a2 a3, .slice a4 a5 a6] 132, Be 3 xj, .blk b2 (AB (CQ 0) (.slice none 0 0)) 48, .blk b4 (AB (CQ 0) (.slice none 0 0)) 48, .blk b5 (AB G.2.1 (.slice G.2.2.2.1 (AU G.2.2.1).2.length G.2.2.2.2)) 48, AG W0] ∧ G.1 ≤ fl.length ∧ CB (AE (fl.drop G.1)) r G.2.1 G.2.2.1 = (0, cc, fxv)) (fun G => fl.length - G.1) (0, CQ ((k : Int) + 1), jz, none, 0) ⟨by simp only [VR]; exact ((hS.own_nil 139 4).sq).pk, Nat.zero_le _, hb⟩ ?_
 intro G a w hI
 obtain ⟨fi, c2, fx2, qf, cf⟩ := G
 obtain ⟨hS, hfi, hgo⟩ := hI
 simp only at hS hfi hgo
 refine Wh 9 hS ?_
 refine iD (fun hc96 => ?_) fun hc96 => ?_
 ·
  have hfl : fi < fl.length := by omega
  obtain ⟨fg, hfg⟩ : ∃ x, fl[fi]? = some x := ⟨_, List.getElem?_eq_getElem hfl⟩
  have hfm := List.mem_of_getElem? hfg
  obtain ⟨y, hy1, hy2, hy3, hy4⟩ := hz.f fg hfm
  obtain ⟨hz1, hz2⟩ := VQ hfg
  have hst := Hk (fl := fl) (k := fi) (c := c2) (fx := fx2) hfg hy1
  rw [if_neg (fun h => h hy2), hgo] at hst
  intro a w hS
  obtain ⟨g, rfl⟩ := Dv (hS.gg (X := oR 9 1 qw (Ac fl) cw AM)) (by omega)
  refine Wh 5 hS ?_
  refine Dr 18 [16] [.blk b5 (AB c2 (.slice qf (AU fx2).2.length cf)) 48, .blk b10 [.int .i64 (r.k : Int), .string (tx r.t), .slice a1 a2 a3, .slice a4 a5 a6] 132, oR 9 1 (some ⟨g, 0, none⟩) (Ac fl) cw AM] ?_
  refine ZR 5 ?_
  refine Zy rfl (AI rfl Af.1 (fun w hh => Aq (hh (oR 9 1 (some ⟨g, 0, none⟩) (Ac fl) cw AM) (by repeat constructor)) hz1)) ?_
  refine ZR 3 ?_
  intro a w hS
  rw [show ((2 * fi : Nat) : Int) + 1 = ((2 * fi + 1 : Nat) : Int) by omega] at hS
  refine Un hS (ZR 1 ?_)
  refine Zy rfl (AI rfl Af.1 (fun w hh => Aq (hh (oR 9 1 (some ⟨g, 0, none⟩) (Ac fl) cw AM) (by repeat constructor)) hz2)) ?_
  intro a w hS
  refine Ek (j := 11) (js := [15]) (by kernel_rfl) ⟨?_, ?_, trivial⟩
  ·
   refine Ey (i := 11) rfl (Ab a hS.sl) (listed' := (tf 12 6)) rfl (EY hS (.cons rfl (.cons rfl (.cons rfl (.cons rfl .nil)))) YQ rfl (NY w 0 r y [.int .i64 (r.k : Int), .string (tx r.t), .slice a1 a2 a3, .slice a4 a5 a6] fg.f (hfo fg hfm) (hfz fg hfm) c2 qf (AU fx2).2.length cf hy1 hy2 hy3 hy4 (by rw [hz.n]; omega) _ (by have h1 := hS.gg (X := Be 3 xj); have h1 : DZ 3 xj.v xj.cs w := h1; rw [hcs, hxv] at h1; exact h1) (Ax w)) ?_); intro x111 a w hS
   obtain ⟨q111, c111⟩ := x111
   simp only at hS
   obtain ⟨z1, z2, z3, hfv⟩ : ∃ z1 z2 z3, Lx fg.f (.slice qf (AU fx2).2.length cf) (MB fg.f y).length (q111, c111) = .slice z1 z2 z3 := by unfold Lx; split <;> exact ⟨_, _, _, rfl⟩
   rw [hfv] at hS
   refine Bc hS (AP (by repeat constructor) (AP (by repeat constructor) (AP (by repeat constructor) Ay))) ?_
   refine Un hS (ZR 3 ?_)
   refine Z0 rfl (Al ?_); intro b15
   refine Za ?_
   refine Z0 rfl (Sa ?_)
   refine Zl ?_
   refine ZR 1 ?_
   refine Wn 9 ?_
   refine Ie 115 false rfl rfl ?_
   refine Wn 5 ?_
   refine Lo (Sa ?_)
   refine Wn 8 ?_
   intro a w hS
   rw [show ((2 * fi : Nat) : Int) + 2 = ((2 * (fi + 1) : Nat) : Int) by omega] at hS
   by_cases hk2 : fg.f.kd = 2
   ·
    have e1 : MB fg.f y = (AU y).2 := by unfold MB; rw [if_pos hk2]
    have e2 : Lx fg.f (.slice qf (AU fx2).2.length cf) (MB fg.f y).length (q111, c111) = .slice q111 (AU y).2.length c111 := by unfold Lx; rw [if_pos hk2, e1]
    rw [← hfv, e2, e1] at hS
    rw [if_pos hk2] at hst
    exact ⟨(fi + 1, G7 fg.f y c2, y, q111, c111), by show fl.length - (fi + 1) < fl.length - fi; omega, hS.sp, hfl, hst.symm⟩
   ·
    have e2 : Lx fg.f (.slice qf (AU fx2).2.length cf) (MB fg.f y).length (q111, c111) = .slice qf (AU fx2).2.length cf := by unfold Lx; rw [if_neg hk2]
    rw [← hfv, e2] at hS
    rw [if_neg hk2] at hst
    exact ⟨(fi + 1, G7 fg.f y c2, fx2, qf, cf), by show fl.length - (fi + 1) < fl.length - fi; omega, hS.sp, hfl, hst.symm⟩
  refine Ey (i := 15) rfl (Ab a hS.sl) (listed' := [true, true, true, true, true, true, true, true, true, true, true, false, false, false, false, true, false, false]) rfl (Fp hS ZK.1 rfl ?_); intro a w b15 hS
  refine Bc hS (AP (by repeat constructor) (AP (by repeat constructor) (AP (by repeat constructor) Ay))) ?_
  refine Un hS (Zz 11 _ rfl (cN YQ (@fun a w hS => NY w 0 r y [.int .i64 (r.k : Int), .string (tx r.t), .slice a1 a2 a3, .slice a4 a5 a6] fg.f (hfo fg hfm) (hfz fg hfm) c2 qf (AU fx2).2.length cf hy1 hy2 hy3 hy4 (by rw [hz.n]; omega) _ (by have h1 := hS.gg (X := Be 3 xj); have h1 : DZ 3 xj.v xj.cs w := h1; rw [hcs, hxv] at h1; exact h1) (Ax w)) ?_)); intro x111
  obtain ⟨q111, c111⟩ := x111
  intro a w hS
  simp only at hS
  obtain ⟨z1, z2, z3, hfv⟩ : ∃ z1 z2 z3, Lx fg.f (.slice qf (AU fx2).2.length cf) (MB fg.f y).length (q111, c111) = .slice z1 z2 z3 := by unfold Lx; split <;> exact ⟨_, _, _, rfl⟩
  rw [hfv] at hS
  refine Un hS (Za ?_)
  refine Zv 12 _ rfl ExA.go ?_
  refine Zv 13 _ rfl ExA.go ?_
  refine Zv 14 (tf 16 2) rfl ExA.go ?_
  refine Z0 rfl (Sa ?_)
  refine Zl ?_
  refine ZR 1 ?_
  refine Wn 9 ?_
  refine Ie 115 false rfl rfl ?_
  refine Wn 5 ?_
  refine Lo (Sa ?_)
  refine Wn 8 ?_
  intro a w hS
  rw [show ((2 * fi : Nat) : Int) + 2 = ((2 * (fi + 1) : Nat) : Int) by omega] at hS
  by_cases hk2 : fg.f.kd = 2
  ·
   have e1 : MB fg.f y = (AU y).2 := by unfold MB; rw [if_pos hk2]
   have e2 : Lx fg.f (.slice qf (AU fx2).2.length cf) (MB fg.f y).length (q111, c111) = .slice q111 (AU y).2.length c111 := by unfold Lx; rw [if_pos hk2, e1]
   rw [← hfv, e2, e1] at hS
   rw [if_pos hk2] at hst
   exact ⟨(fi + 1, G7 fg.f y c2, y, q111, c111), by show fl.length - (fi + 1) < fl.length - fi; omega, hS.sp, hfl, hst.symm⟩
  ·
   have e2 : Lx fg.f (.slice qf (AU fx2).2.length cf) (MB fg.f y).length (q111, c111) = .slice qf (AU fx2).2.length cf := by unfold Lx; rw [if_neg hk2]
   rw [← hfv, e2] at hS
   rw [if_neg hk2] at hst
   exact ⟨(fi + 1, G7 fg.f y c2, fx2, qf, cf), by show fl.length - (fi + 1) < fl.length - fi; omega, hS.sp, hfl, hst.symm⟩
 obtain rfl : fi = fl.length := by omega
 rw [List.drop_length] at hgo
 obtain ⟨rfl, rfl⟩ : c2 = cc ∧ fx2 = fxv := by
  have hgo : ((0 : Int), c2, fx2) = (0, cc, fxv) := hgo
  injection hgo with _ hgo; injection hgo with h1 h2; exact ⟨h1, h2⟩
 refine Wn 1 ?_
 intro a w hS
 refine AH (AH (Aj ?_))
 refine Wh 9 hS ?_
 refine Xp (Nn rfl rfl (by omega)) ?_
 refine Wn 3 ?_
 refine Ie 125 false rfl (decide_eq_false (by have := hz.n; omega)) ?_
 refine Wn 6 ?_
 refine Lo (Sa ?_)
 refine Wn 4 ?_
 intro a w hS
 refine Rm hS Tryz.results59 ?_
 exact ⟨(qf, cf), rfl, hS.chg, hS.ok (oR 139 4 qf (AU fx2).2 cf Az) (by repeat constructor), fun b hb => (hS.mine (oR 139 4 qf (AU fx2).2 cf Az) (by repeat constructor) rfl b hb).resolve_right id⟩
theorem Hs {v : JV} : ∀ (names : List (List UInt8)) (acc : List B5), (CC v names acc).1 = 0 → ∃ xs, (CC v names acc).2 = acc ++ xs ∧ xs.length = names.length ∧ ∀ (i : Nat) (nm : List UInt8) (x : B5), names[i]? = some nm → xs[i]? = some x → BJ nm ((CI v nm).getD jz) = (0, x)
 | [], acc, _ => ⟨[], by simp [CC], rfl, fun i nm x h => by cases h⟩
 | nm :: r, acc, h => by
   unfold CC at h ⊢
   split at h
   · rename_i h1; exact absurd h h1
   ·
    rename_i h1
    rw [if_neg h1]
    obtain ⟨xs, e1, e2, e3⟩ := Hs r _ h
    refine ⟨(BJ nm ((CI v nm).getD jz)).2 :: xs, by rw [e1]; simp, by simp [e2], fun i n x hn hx => ?_⟩
    cases i with
    | zero =>
      obtain rfl : nm = n := by simpa using hn
      obtain rfl : _ = x := Option.some.inj hx
      exact Prod.ext (Classical.not_not.1 h1) rfl
    | succ i => exact e3 i n x (by simpa using hn) (by simpa using hx)
theorem Ku : ∀ (fs : List B5) (ns : List (List UInt8)) (l : List JV), (∀ x ∈ fs, ∃ y, Bu x = some y) → (ns ++ fs.map B5.nm).Pairwise (· < ·) → ∃ v, BN fs ns l = some v
 | [], ns, l, _, _ => ⟨_, rfl⟩
 | x :: r, ns, l, hy, hp => by
   obtain ⟨y, hxy⟩ := hy x (.head _)
   have hp2 : ((ns ++ [x.nm]) ++ r.map B5.nm).Pairwise (· < ·) := by simpa using hp
   obtain ⟨v, hv⟩ := Ku r (ns ++ [x.nm]) (l ++ [y]) (fun z hz => hy z (.tail _ hz)) hp2
   refine ⟨v, ?_⟩
   unfold BN
   rw [hxy]
   simp only
   cases hg : ns.getLast? with
   | none => rw [if_pos rfl]; exact hv
   | some p =>
     have hlt : p < x.nm := (List.pairwise_append.1 hp).2.2 p (List.mem_of_getLast? hg) x.nm (.head _)
     simp only [decide_eq_true_eq]
     rw [if_pos hlt]; exact hv
theorem R9 {ns : List (List UInt8)} (h : ns.Nodup) : (Ao ns).Pairwise (· < ·) := by
 have hs : (Ao ns).Pairwise (· ≤ ·) := by
  have := List.pairwise_mergeSort (le := fun x y : List UInt8 => decide (x ≤ y)) (fun a b c h1 h2 => by simp only [decide_eq_true_eq] at *; exact List.le_trans h1 h2) (fun a b => by simp only [Bool.or_eq_true, decide_eq_true_eq]; exact List.le_total a b) ns
  exact this.imp (fun h => by simpa using h)
 have hn : (Ao ns).Nodup := ((List.mergeSort_perm _ _).nodup_iff).2 h
 refine List.Pairwise.imp₂ (fun a b h1 h2 => ?_) hs hn
 rcases List.le_iff_lt_or_eq.1 h1 with h3 | h3
 · exact h3
 · exact absurd h3 h2
theorem Ig : ∀ (fs : List Fd) (c : Cd) (ns : List (List UInt8)) (l : List JV), (∀ f ∈ fs, f.ok) → fs.Pairwise FS → (∀ f ∈ fs, ∃ y, (Av f c).1 = some y) → ∃ v c', DJ fs c ns l = some (v, c')
 | [], c, ns, l, _, _, _ => ⟨_, _, rfl⟩
 | f :: fs, c, ns, l, hok, hp, hy => by
   obtain ⟨hp1, hp2⟩ := List.pairwise_cons.1 hp
   obtain ⟨y, hv⟩ := hy f (.head _)
   obtain ⟨v, c', h⟩ := Ig fs (Av f c).2 (ns ++ [f.nm]) (l ++ [y]) (fun g hg => hok g (.tail _ hg)) hp2 (fun g hg => by
     rw [JZ (hok f (.head _)) (hok g (.tail _ hg)) (hp1 g hg)]
     exact hy g (.tail _ hg))
   refine ⟨v, c', ?_⟩
   unfold DJ
   cases hc : Av f c with
   | mk o c1 =>
     rw [hc] at hv h
     simp only at hv
     subst hv
     exact h
theorem L4 (i : Nat) : ∀ (fs : List Fd) (c : Cd), ((BO fs c).t i = [] ∨ (BO fs c).t i = c.t i) ∧ ((∃ f ∈ fs, f.kd = 0 ∧ f.off = i) → (BO fs c).t i = [])
 | [], c => ⟨.inr rfl, fun ⟨f, h, _⟩ => (by cases h)⟩
 | f :: fs, c => by
   obtain ⟨h1, h2⟩ := L4 i fs (Av f c).2
   have hv : (Av f c).2.t i = c.t i ∨ (Av f c).2.t i = [] := by
    unfold Av
    split
    ·
     show (if i = f.off then [] else c.t i) = _ ∨ (if i = f.off then [] else c.t i) = _
     split
     · exact .inr rfl
     · exact .inl rfl
    · split <;> exact .inl rfl
   refine ⟨?_, fun ⟨g, hg1, hg2, hg3⟩ => ?_⟩
   ·
    show (BO fs (Av f c).2).t i = [] ∨ (BO fs (Av f c).2).t i = c.t i
    rcases h1 with h1 | h1
    · exact .inl h1
    ·
     rcases hv with hv | hv
     · exact .inr (h1.trans hv)
     · exact .inl (h1.trans hv)
   ·
    show (BO fs (Av f c).2).t i = []
    rcases List.mem_cons.1 hg1 with rfl | hg1
    ·
     have hz : (Av g c).2.t i = [] := by
      unfold Av
      rw [if_pos hg2]
      show (if i = g.off then [] else c.t i) = []
      rw [if_pos hg3.symm]
     rcases h1 with h1 | h1
     · exact h1
     · exact h1.trans hz
    · exact h2 ⟨g, hg1, hg2, hg3⟩
theorem L5 (i : Nat) : ∀ (fs : List Fd) (c : Cd), ((BO fs c).n i = 0 ∨ (BO fs c).n i = c.n i) ∧ ((∃ f ∈ fs, f.kd = 1 ∧ f.off = i) → (BO fs c).n i = 0)
 | [], c => ⟨.inr rfl, fun ⟨f, h, _⟩ => (by cases h)⟩
 | f :: fs, c => by
   obtain ⟨h1, h2⟩ := L5 i fs (Av f c).2
   have hv : (Av f c).2.n i = c.n i ∨ (Av f c).2.n i = 0 := by
    unfold Av
    split
    · exact .inl rfl
    ·
     split
     ·
      show (if i = f.off then 0 else c.n i) = _ ∨ (if i = f.off then 0 else c.n i) = _
      split
      · exact .inr rfl
      · exact .inl rfl
     · exact .inl rfl
   refine ⟨?_, fun ⟨g, hg1, hg2, hg3⟩ => ?_⟩
   ·
    show (BO fs (Av f c).2).n i = 0 ∨ (BO fs (Av f c).2).n i = c.n i
    rcases h1 with h1 | h1
    · exact .inl h1
    ·
     rcases hv with hv | hv
     · exact .inr (h1.trans hv)
     · exact .inl (h1.trans hv)
   ·
    show (BO fs (Av f c).2).n i = 0
    rcases List.mem_cons.1 hg1 with rfl | hg1
    ·
     have hz : (Av g c).2.n i = 0 := by
      unfold Av
      rw [if_neg (by omega), if_pos hg2]
      show (if i = g.off then 0 else c.n i) = 0
      rw [if_pos hg3.symm]
     rcases h1 with h1 | h1
     · exact h1
     · exact h1.trans hz
    · exact h2 ⟨g, hg1, hg2, hg3⟩
theorem QM : ∀ (fs : List Fd) (c : Cd), (∀ f ∈ fs, f.ok) → ((BO fs c).fx = [] ∨ (BO fs c).fx = c.fx) ∧ ((∃ f ∈ fs, f.kd = 2) → (BO fs c).fx = [])
 | [], c, _ => ⟨.inr rfl, fun ⟨f, h, _⟩ => (by cases h)⟩
 | f :: fs, c, hok => by
   obtain ⟨h1, h2⟩ := QM fs (Av f c).2 (fun g hg => hok g (.tail _ hg))
   have hv : (Av f c).2.fx = c.fx ∨ (Av f c).2.fx = [] := by
    unfold Av
    split
    · exact .inl rfl
    ·
     split
     · exact .inl rfl
     · exact .inr rfl
   refine ⟨?_, fun ⟨g, hg1, hg2⟩ => ?_⟩
   ·
    show (BO fs (Av f c).2).fx = [] ∨ (BO fs (Av f c).2).fx = c.fx
    rcases h1 with h1 | h1
    · exact .inl h1
    ·
     rcases hv with hv | hv
     · exact .inr (h1.trans hv)
     · exact .inl (h1.trans hv)
   ·
    show (BO fs (Av f c).2).fx = []
    rcases List.mem_cons.1 hg1 with rfl | hg1
    ·
     have hz : (Av g c).2.fx = [] := by
      unfold Av
      rw [if_neg (by omega), if_neg (by omega)]
     rcases h1 with h1 | h1
     · exact h1
     · exact h1.trans hz
    · exact h2 ⟨g, hg1, hg2⟩
def A5 (x : B5) : JV := if x.ty = 1 then DI (Lib.itoa x.n) else if x.ty = 2 then .mk (if x.n = 1 then 2 else 1) [] [] [] else Fb x.s
def SA (fs : List B5) : JV := FD (fs.map fun x => (x.nm, A5 x))
def B9 (f : Fd) (c : Cd) : JV := if f.kd = 0 then Fb (c.t f.off) else if f.kd = 1 then DI (Lib.itoa (c.n f.off)) else SA c.fx
def vR (c : Cd) (fs : List Fd) : JV := FD (fs.map fun f => (f.nm, B9 f c))
theorem VS {x : B5} {y : JV} (h : Bu x = some y) : A5 x = y := by
 unfold Bu at h
 unfold A5
 split at h
 ·
  rename_i h1
  rw [if_pos h1]
  split at h
  · injection h
  · cases h
 ·
  rename_i h1
  rw [if_neg h1]
  split at h
  ·
   rename_i h2
   rw [if_pos h2]
   split at h
   · injection h
   · cases h
  ·
   rename_i h2
   rw [if_neg h2]
   split at h
   · injection h
   · cases h
theorem L6 {α β : Type} {f : α → β} : ∀ {l : List α} {ys : List β}, ys.length = l.length → (∀ (i : Nat) (x : α) (y : β), l[i]? = some x → ys[i]? = some y → f x = y) → ys = l.map f
 | [], [], _, _ => rfl
 | [], _ :: _, h, _ => by cases h
 | _ :: _, [], h, _ => by cases h
 | x :: l, y :: ys, h, hh => by rw [List.map_cons, hh 0 x y rfl rfl, L6 (l := l) (ys := ys) (by simpa using h) (fun i a b ha hb => hh (i + 1) a b ha hb)]
theorem DX {α : Type} (l : List α) (f : α → List UInt8) (g : α → JV) : FD (l.map fun x => (f x, g x)) = .mk 6 [] (l.map f) (l.map g) := by unfold FD; rw [List.map_map, List.map_map]; rfl
theorem VT {fs : List B5} {y : JV} (h : BN fs [] [] = some y) : SA fs = y := by
 obtain ⟨ys, h1, h2, h3⟩ := ER fs [] [] y h
 unfold SA
 rw [DX, h1, L6 h2 (f := A5) (fun i x y hx hy => VS (h3 i x y hx hy))]; rfl
theorem Xz {f : Fd} {c : Cd} {y : JV} (h : (Av f c).1 = some y) : B9 f c = y := by
 unfold Av at h
 unfold B9
 split at h
 ·
  rename_i h1
  rw [if_pos h1]
  simp only at h
  split at h
  · injection h
  · cases h
 ·
  rename_i h1
  rw [if_neg h1]
  split at h
  ·
   rename_i h2
   rw [if_pos h2]; injection h
  ·
   rename_i h2
   rw [if_neg h2]; exact VT h
theorem HP {fs : List Fd} {c : Cd} {v : JV} {c' : Cd} (hok : ∀ f ∈ fs, f.ok) (hap : fs.Pairwise FS) (h : DJ fs c [] [] = some (v, c')) : v = vR c fs ∧ c' = BO fs c := by
 obtain ⟨vals, h1, h2, h3, h4⟩ := FB fs c [] [] v c' hok hap h
 refine ⟨?_, h3⟩
 unfold vR
 rw [DX, h2, L6 h1 (f := fun f => B9 f c) (fun i f y hf hy => Xz (h4 i f y hf hy))]; rfl
theorem Jp {x : B5} (n : Nat) (hb : -9223372036854775808 ≤ x.n ∧ x.n ≤ 9223372036854775807) (hs : NU x) : Lq (n + 1) (A5 x) ∧ Fy (n + 1) (A5 x) ∧ BY (n + 1) (A5 x) ≤ 1802 := by
 have hi := Bp hb.1 hb.2
 have hq := C0 x.s
 have hs2 := hs.2
 unfold A5
 split
 · exact ⟨⟨by decide, by decide, fun _ => ⟨x.n, hb.1, hb.2, rfl⟩, fun h => absurd h (by decide)⟩, ⟨by omega, Nat.zero_le _, (fun x h => by cases h), Nat.zero_le _, (fun x h => by cases h)⟩, by show (Lib.itoa x.n).length ≤ 1802; omega⟩
 ·
  split
  ·
   split
   · exact ⟨⟨by decide, by decide, fun h => absurd h (by decide), fun h => absurd h (by decide)⟩, ⟨Nat.zero_le _, Nat.zero_le _, (fun x h => by cases h), Nat.zero_le _, (fun x h => by cases h)⟩, (by decide : (B0.getD 2 []).length ≤ 1802)⟩
   · exact ⟨⟨by decide, by decide, fun h => absurd h (by decide), fun h => absurd h (by decide)⟩, ⟨Nat.zero_le _, Nat.zero_le _, (fun x h => by cases h), Nat.zero_le _, (fun x h => by cases h)⟩, (by decide : (B0.getD 1 []).length ≤ 1802)⟩
  · exact ⟨⟨by decide, by decide, fun h => absurd h (by decide), fun h => absurd h (by decide)⟩, ⟨by show x.s.length ≤ 1100000; omega, Nat.zero_le _, (fun x h => by cases h), Nat.zero_le _, (fun x h => by cases h)⟩, Nat.le_trans hq (show 6 * x.s.length + 2 ≤ 1802 by omega)⟩
theorem Y2 {n : Nat} {ps : List (List UInt8 × JV)} (h : ∀ p ∈ ps, Lq n p.2) : Lq (n + 1) (FD ps) := ⟨by decide, by decide, fun h => absurd h (by decide), fun _ => ⟨by rw [List.length_map, List.length_map], fun x hx => by obtain ⟨p, hp, rfl⟩ := List.mem_map.1 hx; exact h p hp⟩⟩
theorem cL {fs : List B5} (hb : NV fs) (hs : EQ fs) : Lq 2 (SA fs) ∧ Fy 2 (SA fs) ∧ BY 2 (SA fs) ≤ 410000 := by
 have hl := hs.1
 unfold SA
 refine ⟨Y2 fun p hp => ?_, P8.2 ⟨by rw [List.length_map]; omega, fun p hp => ?_⟩, ?_⟩
 · obtain ⟨x, hx, rfl⟩ := List.mem_map.1 hp; exact (Jp 0 (hb x hx) (hs.2 x hx)).1
 · obtain ⟨x, hx, rfl⟩ := List.mem_map.1 hp; exact ⟨by have := (hs.2 x hx).1; show x.nm.length ≤ 1000000; omega, (Jp 0 (hb x hx) (hs.2 x hx)).2.1⟩
 ·
  have e : BY 2 (FD (fs.map fun x => (x.nm, A5 x))) ≤ _ := (IZ 1 _).1
  have e2 : Hp 1 (fs.map fun x => (x.nm, A5 x)) ≤ (fs.map fun x => (x.nm, A5 x)).length * (1802 + 2 + 1802) := by
   unfold Hp
   refine U0 _ (1802 + 2 + 1802) _ fun p hp => ?_
   obtain ⟨x, hx, rfl⟩ := List.mem_map.1 hp
   have h2 : (AV x.nm).length ≤ 1802 := Nat.le_trans (C0 x.nm) (by have := (hs.2 x hx).1; omega)
   exact Nat.add_le_add (Nat.add_le_add h2 (Nat.le_refl 2)) (Jp 0 (hb x hx) (hs.2 x hx)).2.2
  rw [List.length_map] at e2
  omega
theorem L7 {f : Fd} {c : Cd} (hf : f.ok) (hc : c.ok) (hx : NV c.fx) (hs : EQ c.fx) : Lq 2 (B9 f c) ∧ Fy 2 (B9 f c) ∧ BY 2 (B9 f c) ≤ VE c f := by
 unfold B9 VE
 rcases hf.kd with h1 | h1 | h1
 ·
  rw [if_pos h1, if_pos h1]
  have ho := hf.t h1
  exact ⟨⟨by decide, by decide, fun h => absurd h (by decide), fun h => absurd h (by decide)⟩, ⟨hc.t f.off ho.1 ho.2, Nat.zero_le _, (fun x h => by cases h), Nat.zero_le _, (fun x h => by cases h)⟩, C0 (c.t f.off)⟩
 ·
  rw [if_neg (by omega), if_pos h1, if_neg (by omega)]
  obtain ⟨n0, n1⟩ := hc.n f.off (hf.n h1).1 (hf.n h1).2
  have hi := Bp n0 n1
  exact ⟨⟨by decide, by decide, fun _ => ⟨_, n0, n1, rfl⟩, fun h => absurd h (by decide)⟩, ⟨Nat.le_trans hi (by decide), Nat.zero_le _, (fun x h => by cases h), Nat.zero_le _, (fun x h => by cases h)⟩, Nat.le_trans hi (by decide)⟩
 ·
  rw [if_neg (by omega), if_neg (by omega), if_neg (by omega)]
  exact cL hx hs
theorem kR {c : Cd} {k : Nat} {x : List UInt8 × List Fg} (hc : c.ok) (hfx : NV c.fx) (hs : EQ c.fx) (ht : KA c ≤ 1048576) (hx : DK[k]? = some x) : Lq 3 (vR c (AE x.2)) ∧ Fy 3 (vR c (AE x.2)) ∧ BY 3 (vR c (AE x.2)) ≤ 9000000 := by
 have hm := List.mem_of_getElem? hx
 obtain ⟨hl5, hnm⟩ := VG _ hm
 have hok := Cm hm
 unfold vR
 refine ⟨Y2 fun p hp => ?_, P8.2 ⟨by rw [List.length_map]; omega, fun p hp => ?_⟩, ?_⟩
 · obtain ⟨f, hf, rfl⟩ := List.mem_map.1 hp; exact (L7 (hok f hf) hc hfx hs).1
 · obtain ⟨f, hf, rfl⟩ := List.mem_map.1 hp; exact ⟨by have := hnm f hf; show f.nm.length ≤ 1000000; omega, (L7 (hok f hf) hc hfx hs).2.1⟩
 ·
  have e : BY 3 (FD ((AE x.2).map fun f => (f.nm, B9 f c))) ≤ _ := (IZ 2 _).1
  have e2 : Hp 2 ((AE x.2).map fun f => (f.nm, B9 f c)) ≤ ((AE x.2).map fun f => 40 + VE c f).sum := by
   unfold Hp
   rw [List.map_map]
   refine Lz _ _ _ _ rfl fun i f g hf hg => ?_
   rw [hf] at hg; injection hg with hg; subst hg
   have hfm := List.mem_of_getElem? hf
   have hq : (AV f.nm).length ≤ 38 := Nat.le_trans (C0 f.nm) (by have := hnm f hfm; omega)
   exact Nat.add_le_add (Nat.add_le_add hq (Nat.le_refl 2)) (L7 (hok f hfm) hc hfx hs).2.2
  have e3 : ∀ l : List Fd, (l.map fun f => 40 + VE c f).sum = l.length * 40 + (l.map (VE c)).sum := by
   intro l
   induction l with
   | nil => rfl
   | cons f l ih => rw [List.map_cons, List.sum_cons, ih, List.map_cons, List.sum_cons, List.length_cons]; omega
  have e4 := e3 (AE x.2)
  have e5 := VH c hx
  omega
theorem HQ {n k : Nat} {t s : List UInt8} {z : JV} (h : PJ (n + 1) (.mk k t [] []) z s) (hk : k ≠ 6) (ht : k < 3 → t = []) : z = .mk k t [] [] := by
 rcases h with ⟨rfl, rfl, _⟩ | ⟨rfl, rfl, _⟩ | ⟨h, rfl, _⟩ | ⟨h, _⟩
 · rfl
 · rfl
 · rw [ht h]
 · exact absurd h hk
theorem Ou {n : Nat} {x : B5} {z : JV} {s : List UInt8} (h : PJ (n + 1) (A5 x) z s) : z = A5 x := by
 unfold A5 at h ⊢
 split at h
 · rename_i h1; rw [if_pos h1]; exact HQ h (by decide) (fun h => absurd h (by decide))
 ·
  rename_i h1
  rw [if_neg h1]
  split at h
  · rename_i h2; rw [if_pos h2]; exact HQ h (by split <;> decide) (fun _ => rfl)
  · rename_i h2; rw [if_neg h2]; exact HQ h (by decide) (fun h => absurd h (by decide))
theorem QN {n : Int} (h0 : -9223372036854775808 ≤ n) (h1 : n ≤ 9223372036854775807) : BR (DI (Lib.itoa n)) = (n, 0) := by
 unfold BR; rw [Fj h0 h1]; rfl
theorem X0 {x : B5} (nm : List UInt8) (hb : -9223372036854775808 ≤ x.n ∧ x.n ≤ 9223372036854775807) : (∃ z, BJ nm (A5 x) = (0, z)) ∧ ((A5 x).k = 3 → ∃ m : Int, -9223372036854775808 ≤ m ∧ m ≤ 9223372036854775807 ∧ (A5 x).t = Lib.itoa m) := by
 unfold A5
 split
 · exact ⟨⟨_, by unfold BJ; rw [if_pos (show (DI (Lib.itoa x.n)).k = 3 from rfl), QN hb.1 hb.2]⟩, fun _ => ⟨x.n, hb.1, hb.2, rfl⟩⟩
 ·
  split
  ·
   split
   · exact ⟨⟨_, rfl⟩, fun h => absurd h (by decide)⟩
   · exact ⟨⟨_, rfl⟩, fun h => absurd h (by decide)⟩
  · exact ⟨⟨_, rfl⟩, fun h => absurd h (show ¬ (4 : Nat) = 3 by decide)⟩
theorem SB {nm : List UInt8} {y : JV} {x : B5} (h : BJ nm y = (0, x)) : x.nm = nm ∧ ∃ z, Bu x = some z := by
 unfold BJ at h
 split at h
 · injection h with _ h; subst h; exact ⟨rfl, _, rfl⟩
 ·
  split at h
  · injection h with _ h; subst h; exact ⟨rfl, _, rfl⟩
  ·
   split at h
   ·
    injection h with _ h; subst h
    split
    · exact ⟨rfl, _, rfl⟩
    · exact ⟨rfl, _, rfl⟩
   · injection h with h; exact absurd h (by decide)
theorem X1 {o : JV} (h : Om o) : ∃ y, BN (AU o).2 [] [] = some y := by
 obtain ⟨xs, e1, e2, e3⟩ := Hs (v := o) (Ao o.ns) [] (Ic h)
 have e1 : (AU o).2 = xs := by have h : (AU o).2 = [] ++ xs := e1; simpa using h
 rw [e1]
 have hall : ∀ (i : Nat) (x : B5), xs[i]? = some x → ∃ nm, (Ao o.ns)[i]? = some nm ∧ x.nm = nm ∧ ∃ z, Bu x = some z := fun i x hx => by
  obtain ⟨nm, hn⟩ : ∃ nm, (Ao o.ns)[i]? = some nm := ⟨_, List.getElem?_eq_getElem (by have := (List.getElem?_eq_some_iff.1 hx).1; omega)⟩
  exact ⟨nm, hn, SB (e3 i nm x hn hx)⟩
 refine Ku xs [] [] (fun x hx => ?_) ?_
 ·
  obtain ⟨i, hi⟩ := List.getElem?_of_mem hx
  obtain ⟨_, _, _, h⟩ := hall i x hi
  exact h
 ·
  rw [List.nil_append, show xs.map B5.nm = Ao o.ns from (L6 (f := B5.nm) (l := xs) (ys := Ao o.ns) e2.symm (fun i x nm hx hn => by obtain ⟨nm2, h1, h2, _⟩ := hall i x hx; rw [hn] at h1; injection h1 with h1; rw [h2, h1])).symm]
  exact R9 h.1
structure Jq (c d : Cd) : Prop where
 fx : c.fx = d.fx
 kind : c.kind = d.kind
 t : ∀ i, 1 ≤ i → i ≤ 6 → c.t i = d.t i
 n : ∀ i, 7 ≤ i → i ≤ 13 → c.n i = d.n i
theorem Y3 (i : Nat) (c : Cd) : ∀ (fs : List Fd) (cc : Cd), (∃ f ∈ fs, f.kd = 0 ∧ f.off = i) ∨ (Dy fs c cc).t i = cc.t i
 | [], cc => .inr rfl
 | f :: fs, cc => by
   by_cases h : f.kd = 0 ∧ f.off = i
   · exact .inl ⟨f, .head _, h⟩
   ·
    rcases Y3 i c fs (EA f c cc) with ⟨g, h1, h2⟩ | h1
    · exact .inl ⟨g, .tail _ h1, h2⟩
    ·
     refine .inr (h1.trans ?_)
     unfold EA
     split
     ·
      rename_i h0
      unfold Cd.putT
      simp only
      rw [if_neg (fun e => h ⟨h0, e.symm⟩)]
     · split <;> rfl
theorem Y4 (i : Nat) (c : Cd) : ∀ (fs : List Fd) (cc : Cd), (∃ f ∈ fs, f.kd = 1 ∧ f.off = i) ∨ (Dy fs c cc).n i = cc.n i
 | [], cc => .inr rfl
 | f :: fs, cc => by
   by_cases h : f.kd = 1 ∧ f.off = i
   · exact .inl ⟨f, .head _, h⟩
   ·
    rcases Y4 i c fs (EA f c cc) with ⟨g, h1, h2⟩ | h1
    · exact .inl ⟨g, .tail _ h1, h2⟩
    ·
     refine .inr (h1.trans ?_)
     unfold EA
     split
     · rfl
     ·
      split
      ·
       rename_i h0
       unfold Cd.putN
       simp only
       rw [if_neg (fun e => h ⟨h0, e.symm⟩)]
      · rfl
theorem Ov {c d : Cd} (h : ∀ fv, AB d fv = AB c fv) : (∀ i, 1 ≤ i → i ≤ 6 → c.t i = d.t i) ∧ ∀ i, 7 ≤ i → i ≤ 13 → c.n i = d.n i := by
 have h := h .nilIface
 constructor
 ·
  intro i h1 h2
  have e1 := LY c .nilIface ⟨h1, h2⟩
  have e2 := LY d .nilIface ⟨h1, h2⟩
  rw [h, e1] at e2
  injection e2 with e2; injection e2 with e2
  exact Bn e2
 ·
  intro i h1 h2
  have e1 := LZ c .nilIface ⟨h1, h2⟩
  have e2 := LZ d .nilIface ⟨h1, h2⟩
  rw [h, e1] at e2
  injection e2 with e2; injection e2
theorem Nd {fs : List Fd} {c : Cd} (hok : ∀ f ∈ fs, f.ok) : ((∀ i, 1 ≤ i → i ≤ 6 → c.t i = (Dy fs c (CQ c.kind)).t i) ∧ (∀ i, 7 ≤ i → i ≤ 13 → c.n i = (Dy fs c (CQ c.kind)).n i) ∧ ((∀ f ∈ fs, f.kd ≠ 2) → c.fx = [])) ↔ CD (BO fs c) := by
 constructor
 ·
  rintro ⟨h1, h2, h3⟩
  have ht : ∀ i, 1 ≤ i → i ≤ 6 → (BO fs c).t i = [] := fun i a b => by
   rcases Y3 i c fs (CQ c.kind) with h | h
   · exact (L4 i fs c).2 h
   ·
    rcases (L4 i fs c).1 with h4 | h4
    · exact h4
    · rw [h4, h1 i a b, h]; rfl
  have hn : ∀ i, 7 ≤ i → i ≤ 13 → (BO fs c).n i = 0 := fun i a b => by
   rcases Y4 i c fs (CQ c.kind) with h | h
   · exact (L5 i fs c).2 h
   ·
    rcases (L5 i fs c).1 with h4 | h4
    · exact h4
    · rw [h4, h2 i a b, h]; rfl
  have hf : (BO fs c).fx = [] := by
   by_cases h : ∃ f ∈ fs, f.kd = 2
   · exact (QM fs c hok).2 h
   ·
    rw [Hq c fs c hok (fun f hf h2 => h ⟨f, hf, h2⟩)]
    exact h3 (fun f hf h2 => h ⟨f, hf, h2⟩)
  exact ⟨ht 1 (by omega) (by omega), ht 2 (by omega) (by omega), ht 3 (by omega) (by omega), ht 4 (by omega) (by omega), ht 5 (by omega) (by omega), ht 6 (by omega) (by omega), hf, hn 7 (by omega) (by omega), hn 8 (by omega) (by omega), hn 9 (by omega) (by omega), hn 10 (by omega) (by omega), hn 11 (by omega) (by omega), hn 12 (by omega) (by omega), hn 13 (by omega) (by omega)⟩
 ·
  intro he
  obtain ⟨h1, h2⟩ := Ov (fun fv => R5 hok he fv)
  refine ⟨h1, h2, fun h => ?_⟩
  have hf : (BO fs c).fx = [] := he.2.2.2.2.2.2.1
  rw [Hq c fs c hok h] at hf
  exact hf
theorem kS {c : Cd} {k : Nat} {path : List UInt8} {fl : List Fg} {r : JV} {s : List UInt8} (hc : c.ok) (hfx : NV c.fx) (hs : EQ c.fx) (hx : DK[k]? = some (path, fl)) (hk : (k : Int) + 1 = c.kind) (hok : Cp 3 0 (vR c (AE fl))) (hp : PJ 3 (vR c (AE fl)) r s) :
 rJ fl r ∧ (Bj (AE fl) ((k : Int) + 1) r).2.fx.length ≤ 1000 ∧ (Jq c (Bj (AE fl) ((k : Int) + 1) r).2 ↔ ∃ v c', DJ (AE fl) c [] [] = some (v, c') ∧ CD c') := by
 have hm := List.mem_of_getElem? hx
 have hfo : ∀ f ∈ AE fl, f.ok := Cm hm
 have hap : (AE fl).Pairwise FS := Ds _ hm
 have hnd : ((AE fl).map Fd.nm).Nodup := Up _ hm
 have hvr : vR c (AE fl) = .mk 6 [] ((AE fl).map Fd.nm) ((AE fl).map fun f => B9 f c) := DX _ _ _
 have hgv : ∀ f ∈ AE fl, CI (vR c (AE fl)) f.nm = some (B9 f c) := fun f hf => by
  unfold vR
  exact Ls (by rw [List.map_map]; exact hnd) (List.mem_map.2 ⟨f, hf, rfl⟩)
 have hgr : ∀ f ∈ AE fl, ∃ y t, CI r f.nm = some y ∧ PJ 2 (B9 f c) y t := fun f hf => by
  have h := hgv f hf
  rw [hvr] at h hp
  obtain ⟨y, t, h1, h2⟩ := (P7 (nm := f.nm) hnd (by rw [List.length_map, List.length_map]) hp).1 _ h
  exact ⟨y, t, h1, h2⟩
 have hkids : ∀ f ∈ AE fl, Cp 2 1 (B9 f c) := fun f hf => by
  rw [hvr] at hok
  exact (hok.2.2 rfl).2.2.2.2.2 _ (List.mem_map.2 ⟨f, hf, rfl⟩)
 have hleaf : ∀ f ∈ AE fl, f.kd ≠ 2 → ∀ y t, PJ 2 (B9 f c) y t → y = B9 f c := fun f hf h2 y t h => by
  unfold B9 at h ⊢
  split at h
  · rename_i h0; rw [if_pos h0]; exact HQ h (by decide) (fun h => absurd h (by decide))
  ·
   rename_i h0
   rw [if_neg h0]
   split at h
   · rename_i h1; rw [if_pos h1]; exact HQ h (by decide) (fun h => absurd h (by decide))
   ·
    rename_i h1
    rcases (hfo f hf).kd with h | h | h
    · exact absurd h h0
    · exact absurd h h1
    · exact absurd h h2
 have hnb : ∀ f ∈ AE fl, f.kd = 1 → BR (B9 f c) = (c.n f.off, 0) := fun f hf h1 => by
  unfold B9
  rw [if_neg (by omega), if_pos h1]
  obtain ⟨n0, n1⟩ := hc.n f.off ((hfo f hf).n h1).1 ((hfo f hf).n h1).2
  exact QN n0 n1
 have hfxo : ∀ f ∈ AE fl, f.kd = 2 → ∀ y t, PJ 2 (B9 f c) y t → y.k = 6 ∧ Om y ∧ y.ns.length ≤ 1000 := fun f hf h2 y t h => by
  have ho := hkids f hf
  have e : B9 f c = .mk 6 [] (c.fx.map B5.nm) (c.fx.map A5) := by unfold B9; rw [if_neg (by omega), if_neg (by omega)]; exact DX _ _ _
  rw [e] at h ho
  obtain ⟨_, hol, _, hol2, hnd2, _⟩ := ho.2.2 rfl
  rcases (show _ ∨ _ ∨ _ ∨ _ from h) with ⟨h2, _⟩ | ⟨h2, _⟩ | ⟨h2, _⟩ | ⟨_, ms, hpm, hst, hmm, rfl, _⟩
  · exact absurd h2 (by decide)
  · exact absurd h2 (by decide)
  · exact absurd h2 (by decide)
  have hperm : (ms.map (·.n)).Perm (c.fx.map B5.nm) := by
   have e := hpm.map (·.1)
   rwa [List.map_map, List.map_fst_zip (by omega)] at e
  have hnd3 : (ms.map (·.n)).Nodup := hperm.nodup_iff.2 hnd2
  refine ⟨rfl, ⟨hnd3, fun nm hn => ?_⟩, by have := hperm.length_eq; show (ms.map (·.n)).length ≤ 1000; omega⟩
  obtain ⟨m, hm1, rfl⟩ := List.mem_map.1 (show nm ∈ ms.map (·.n) from hn)
  have hz := (hpm.mem_iff).1 (List.mem_map.2 ⟨m, hm1, rfl⟩)
  rw [List.zip_map'] at hz
  obtain ⟨x, hx, hxe⟩ := List.mem_map.1 hz
  injection hxe with e1 e2
  have hr := hmm m hm1
  rw [← e2] at hr
  have hz2 := Ou hr
  obtain ⟨⟨z, hz3⟩, hz4⟩ := X0 m.n (hfx x hx)
  refine ⟨A5 x, z, ?_, hz3, hz4⟩
  have := Ls (ps := ms.map fun m => (m.n, m.r)) (nm := m.n) (y := m.r) (by rw [List.map_map]; exact hnd3) (List.mem_map.2 ⟨m, hm1, rfl⟩)
  rw [show FD (ms.map fun m => (m.n, m.r)) = .mk 6 [] (ms.map (·.n)) (ms.map (·.r)) from DX _ _ _, hz2] at this
  exact this
 have hrk : r.k = 6 ∧ r.ns.length = fl.length := by
  rw [hvr] at hp
  rcases (show _ ∨ _ ∨ _ ∨ _ from hp) with ⟨h2, _⟩ | ⟨h2, _⟩ | ⟨h2, _⟩ | ⟨_, ms, hpm, hst, hmm, rfl, _⟩
  · exact absurd h2 (by decide)
  · exact absurd h2 (by decide)
  · exact absurd h2 (by decide)
  refine ⟨rfl, ?_⟩
  have e := hpm.length_eq
  rw [List.length_map, List.length_zip, List.length_map, List.length_map, Nat.min_self] at e
  show (ms.map (·.n)).length = fl.length
  rw [List.length_map, e]; unfold AE; rw [List.length_map]
 have hall : ∀ f ∈ AE fl, ∃ y, CI r f.nm = some y ∧ JG f y = 0 ∧ (f.kd = 2 → Om y ∧ y.ns.length ≤ 1000) ∧ (y.k = 3 → ∃ m : Int, -9223372036854775808 ≤ m ∧ m ≤ 9223372036854775807 ∧ y.t = Lib.itoa m) ∧ (∀ cc, G7 f y cc = EA f c cc) ∧ ∃ t, PJ 2 (B9 f c) y t := fun f hf => by
  obtain ⟨y, t, h1, h2⟩ := hgr f hf
  refine ⟨y, h1, ?_⟩
  rcases (hfo f hf).kd with h | h | h
  ·
   obtain rfl := hleaf f hf (by omega) y t h2
   refine ⟨?_, fun h => by omega, ?_, ?_, t, h2⟩
   · unfold JG B9; rw [if_pos h, if_pos h]; rfl
   · unfold B9; rw [if_pos h]; exact fun h => absurd h (show ¬ (4 : Nat) = 3 by decide)
   · intro cc; unfold G7 EA B9; rw [if_pos h, if_pos h, if_pos h]; rfl
  ·
   obtain rfl := hleaf f hf (by omega) y t h2
   have hi := hnb f hf h
   obtain ⟨n0, n1⟩ := hc.n f.off ((hfo f hf).n h).1 ((hfo f hf).n h).2
   refine ⟨?_, fun h => by omega, ?_, ?_, t, h2⟩
   · unfold JG; rw [if_neg (by omega), if_pos h, hi]
   · unfold B9; rw [if_neg (by omega), if_pos h]; exact fun _ => ⟨_, n0, n1, rfl⟩
   · intro cc; unfold G7 EA; rw [if_neg (by omega), if_pos h, if_neg (by omega), if_pos h, hi]
  ·
   obtain ⟨h3, h4⟩ := hfxo f hf h y t h2
   refine ⟨?_, fun _ => h4, fun h => by omega, ?_, t, h2⟩
   · unfold JG; rw [if_neg (by omega), if_neg (by omega), if_pos h3]
   · intro cc; unfold G7 EA; rw [if_neg (by omega), if_neg (by omega), if_neg (by omega), if_neg (by omega)]
 refine ⟨⟨hrk.1, hrk.2, fun x hxl => ?_⟩, ?_⟩
 ·
  obtain ⟨y, h1, h2, h3, h4, _⟩ := hall x.f (List.mem_map.2 ⟨x, hxl, rfl⟩)
  exact ⟨y, h1, h2, h4, h3⟩
 ·
  obtain ⟨b1, b2⟩ := R2 (fs := AE fl) (v := r) (c := c) (fun f hf => by obtain ⟨y, h1, h2, _, _, h5, _⟩ := hall f hf; exact ⟨y, h1, h2, h5⟩) (CQ ((k : Int) + 1)) jz
  have hlen : ¬ (AE fl).length < r.ns.length := by rw [hrk.2]; unfold AE; rw [List.length_map]; omega
  have hD : ∀ X, AU (CB (AE fl) r (CQ ((k : Int) + 1)) jz).2.2 = (0, X) → (Bj (AE fl) ((k : Int) + 1) r).2 = { Dy (AE fl) c (CQ ((k : Int) + 1)) with fx := X } := fun X hX => by
   unfold Bj
   rw [if_neg (fun h => h b1), if_neg hlen, if_neg (by rw [hX]; exact fun h => h rfl), hX, b2]
  have hps := Nd (c := c) hfo
  rw [← hk] at hps
  have hkd := F5 c (AE fl) (CQ ((k : Int) + 1))
  have hv0 : ∀ f ∈ AE fl, f.kd ≠ 2 → ∃ y, (Av f c).1 = some y := fun f hf h2 => by
   rcases (hfo f hf).kd with h | h | h
   ·
    refine ⟨Fb (c.t f.off), ?_⟩
    unfold Av
    rw [if_pos h]
    have ho := hkids f hf
    unfold B9 at ho
    rw [if_pos h] at ho
    simp only
    rw [if_pos (show Lib.validD (c.t f.off) = true from ho.2.1 rfl)]
   · unfold Av; rw [if_neg (by omega), if_pos h]; exact ⟨_, rfl⟩
   · exact absurd h h2
  by_cases h2 : ∃ f ∈ AE fl, f.kd = 2
  ·
   obtain ⟨g, hg, hg2⟩ := h2
   obtain ⟨o, ho1, _, ho3, _, _, t, ho6⟩ := hall g hg
   have hvo : B9 g c = SA c.fx := by unfold B9; rw [if_neg (by omega), if_neg (by omega)]
   rw [hvo] at ho6
   have hone : ∀ f ∈ AE fl, f.kd = 2 → f = g := fun f hf hf2 => Classical.byContradiction fun hne => by
    obtain ⟨i, hi, rfl⟩ := List.mem_iff_getElem.1 hf
    obtain ⟨j, hj, rfl⟩ := List.mem_iff_getElem.1 hg
    have hpw := List.pairwise_iff_getElem.1 hap
    rcases Nat.lt_trichotomy i j with h | h | h
    · rcases hpw i j hi hj h with h | h <;> omega
    · subst h; exact hne rfl
    · rcases hpw j i hj hi h with h | h <;> omega
   obtain ⟨hfo1, _⟩ := ho3 hg2
   have hX : AU (CB (AE fl) r (CQ ((k : Int) + 1)) jz).2.2 = (0, (AU o).2) := by
    have hz : AU o = (0, (AU o).2) := Prod.ext (Ic hfo1) rfl
    rcases Jo (X := (AU o).2) (v := r) (AE fl) (fun f hf => by
      obtain ⟨y, q1, q2, _⟩ := hall f hf
      refine ⟨y, q1, q2, fun hf2 => ?_⟩
      obtain rfl := hone f hf hf2
      rw [ho1] at q1; injection q1 with q1; rw [← q1]; exact hz) (CQ ((k : Int) + 1)) jz with ⟨h, _⟩ | h
    · exact absurd hg2 (h g hg)
    · exact h
   rw [hD _ hX]
   refine ⟨by show (AU o).2.length ≤ 1000; obtain ⟨xs, e1, e2, _⟩ := Hs (v := o) (Ao o.ns) [] (Ic hfo1); have e1 : (AU o).2 = [] ++ xs := e1; rw [e1, List.nil_append, e2]; have := (List.mergeSort_perm o.ns (fun x y => decide (x ≤ y))).length_eq; have h1 := (ho3 hg2).2; unfold Ao; omega, ?_⟩
   constructor
   ·
    intro hsm
    have hfx2 : c.fx = (AU o).2 := hsm.fx
    have hem : CD (BO (AE fl) c) := hps.1 ⟨hsm.t, hsm.n, fun h => absurd hg2 (h g hg)⟩
    obtain ⟨v, c', hv⟩ := Ig (AE fl) c [] [] hfo hap (fun f hf => by
      by_cases hf2 : f.kd = 2
      · obtain ⟨y, hy⟩ := X1 hfo1
        rw [← hfx2] at hy
        unfold Av; rw [if_neg (by omega), if_neg (by omega)]; exact ⟨y, hy⟩
      · exact hv0 f hf hf2)
    exact ⟨v, c', hv, by rw [(HP hfo hap hv).2]; exact hem⟩
   ·
    rintro ⟨v, c', hv, hem⟩
    obtain ⟨vals, h1, h3, h4, h5⟩ := FB (AE fl) c [] [] v c' hfo hap hv
    rw [h4] at hem
    obtain ⟨q1, q2, _⟩ := hps.2 hem
    obtain ⟨i, hi⟩ := List.getElem?_of_mem hg
    have hil := (List.getElem?_eq_some_iff.1 hi).1
    obtain ⟨y, hy⟩ : ∃ y, vals[i]? = some y := ⟨_, List.getElem?_eq_getElem (by omega)⟩
    have hvy := h5 i g y hi hy
    have hfj : BN c.fx [] [] = some y := by unfold Av at hvy; rw [if_neg (by omega), if_neg (by omega)] at hvy; exact hvy
    have hback := Na hfx hfj (n := 0) (by rw [← VT hfj]; exact ho6)
    exact ⟨by show c.fx = (AU o).2; rw [hback], by rw [← hk]; exact hkd.symm, q1, q2⟩
  ·
   have h2 : ∀ f ∈ AE fl, f.kd ≠ 2 := fun f hf h => h2 ⟨f, hf, h⟩
   have hX : AU (CB (AE fl) r (CQ ((k : Int) + 1)) jz).2.2 = (0, []) := by
    rcases Jo (X := []) (v := r) (AE fl) (fun f hf => by
      obtain ⟨y, q1, q2, _⟩ := hall f hf
      exact ⟨y, q1, q2, fun hf2 => absurd hf2 (h2 f hf)⟩) (CQ ((k : Int) + 1)) jz with ⟨_, h⟩ | h
    · rw [h, VR]
    · exact h
   rw [hD _ hX]
   refine ⟨Nat.zero_le _, ?_⟩
   constructor
   ·
    intro hsm
    have hem : CD (BO (AE fl) c) := hps.1 ⟨hsm.t, hsm.n, fun _ => hsm.fx⟩
    obtain ⟨v, c', hv⟩ := Ig (AE fl) c [] [] hfo hap (fun f hf => hv0 f hf (h2 f hf))
    exact ⟨v, c', hv, by rw [(HP hfo hap hv).2]; exact hem⟩
   ·
    rintro ⟨v, c', hv, hem⟩
    rw [(HP hfo hap hv).2] at hem
    obtain ⟨q1, q2, q3⟩ := hps.2 hem
    exact ⟨q3 h2, by rw [← hk]; exact hkd.symm, q1, q2⟩
section
theorem cO (p r : B5) (w : World) : (Op.equalIn (9999 + 1) 139 (.agg (Az p).toArray) (.agg (Az r).toArray)).run Tryz.prog w = .ok (decide (tx p.nm = tx r.nm ∧ p.ty = r.ty ∧ p.n = r.n ∧ tx p.s = tx r.s)) w := by
 have hk : Tryz.prog.plainKey 3 = true := by kernel_rfl
 have hs : Tryz.prog.plainKey 9 = true := by kernel_rfl
 have p0 : ∀ (b : B5) w, (part 9 #[.string (tx b.nm), .int .i64 b.ty, .int .i64 b.n, .string (tx b.s)] 0).run Tryz.prog w = .ok (.string (tx b.nm)) w := fun b w => run_part_plain w hs rfl
 have p1 : ∀ (b : B5) w, (part 3 #[.string (tx b.nm), .int .i64 b.ty, .int .i64 b.n, .string (tx b.s)] 1).run Tryz.prog w = .ok (.int .i64 b.ty) w := fun b w => run_part_plain w hk rfl
 have p2 : ∀ (b : B5) w, (part 3 #[.string (tx b.nm), .int .i64 b.ty, .int .i64 b.n, .string (tx b.s)] 2).run Tryz.prog w = .ok (.int .i64 b.n) w := fun b w => run_part_plain w hk rfl
 have p3 : ∀ (b : B5) w, (part 9 #[.string (tx b.nm), .int .i64 b.ty, .int .i64 b.n, .string (tx b.s)] 3).run Tryz.prog w = .ok (.string (tx b.s)) w := fun b w => run_part_plain w hs rfl
 have q : ∀ a c w, (Op.equalIn 9999 3 (.int .i64 a) (.int .i64 c)).run Tryz.prog w = .ok (a == c) w := fun a c w => run_equalIn_int w 9998 3 .i64 .i64 a c Tryz.underlying3
 have qs : ∀ a c w, (Op.equalIn 9999 9 (.string a) (.string c)).run Tryz.prog w = .ok (a.toList == c.toList) w := fun a c w => run_equalIn_string w 9998 9 a c Tryz.underlying9
 unfold Az
 rw [run_equalIn_agg w 9999 139 _ _ (by kernel_rfl) (by kernel_rfl)]
 have hf : (Tryz.prog.fieldsOf 139) = #[⟨ "Name", 9, 0, false, "", "", 0⟩, ⟨ "Type", 3, 1, false, "", "", 16⟩, ⟨ "N", 3, 2, false, "", "", 24⟩, ⟨ "S", 9, 3, false, "", "", 32⟩] := by kernel_rfl
 rw [hf]
 simp only [Op.eqFields, Sem.run_bind, p0, p1, p2, p3, q, qs, KD, Result.andThen_ok, Sem.run_ite, Sem.run_pure]
 by_cases h1 : tx p.nm = tx r.nm <;> by_cases h2 : p.ty = r.ty <;> by_cases h3 : p.n = r.n <;> by_cases h4 : tx p.s = tx r.s <;> simp [h1, h2, h3, h4]
section
variable {n : NN} {F0 : Nat → Prop} {w0 w : World} {a : Act} {L : List (Nat × Value)} {Γ : List AT} {dst : Option Nat} {ty t' : Nat} {pos : String} {af : Array Edge} {g : Option (Nat × Bool)} {x y : Operand}
instance (p r : B5) : Decidable (p = r) := decidable_of_iff (p.nm = r.nm ∧ p.ty = r.ty ∧ p.n = r.n ∧ p.s = r.s) ⟨fun ⟨h1, h2, h3, h4⟩ => by cases p; cases r; simp only at h1 h2 h3 h4; rw [h1, h2, h3, h4], fun h => by subst h; exact ⟨rfl, rfl, rfl, rfl⟩⟩
theorem SC : Tryz.prog.eqGuardType Tryz.prog.depth 139 = false := by kernel_rfl
theorem X2 {p r : B5} (hx : ev L x = some (.agg (Az p).toArray)) (hy : ev L y = some (.agg (Az r).toArray)) : Ex Tryz.prog n a L Γ ⟨dst, .binOp .neq 139 x y t', ty, pos, af, g⟩ (.bool (decide (p ≠ r))) := fun hs w _ => by
 have h := run_neq_struct (P := Tryz.prog) w 139 (Az p).toArray (Az r).toArray
 rw [cO] at h
 have e : decide (p ≠ r) = !decide (tx p.nm = tx r.nm ∧ p.ty = r.ty ∧ p.n = r.n ∧ tx p.s = tx r.s) := by
  rw [← decide_not]
  refine decide_eq_decide.2 (not_congr ⟨fun h => by subst h; exact ⟨rfl, rfl, rfl, rfl⟩, fun ⟨h1, h2, h3, h4⟩ => ?_⟩)
  obtain ⟨a1, a2, a3, a4⟩ := p
  obtain ⟨b1, b2, b3, b4⟩ := r
  have h1 := Bn h1
  have h4 := Bn h4
  simp only at h1 h2 h3 h4
  rw [h1, h2, h3, h4]
 rw [e]
 simp [execOp, hs.ev hx, hs.ev hy, run_eqGuard_agg w .neq 139 x y _ _ SC, h, Result.andThen]
end
open Classical in
noncomputable def HR (c d : Cd) : Bool := decide (Jq c d)
open Classical in
theorem F6 {c d : Cd} : HR c d = true ↔ Jq c d := by unfold HR; exact decide_eq_true_iff
theorem QO (W0 : World) (c d : Cd) (fa wa : Option Addr) (fc wc : Nat) (hc : c.fx.length ≤ 1000) (hd : d.fx.length ≤ 1000) (hF : D9 W0 fa c.fx) (hW : D9 W0 wa d.fx) (w0 : World) (ho : AQ W0 w0) : Ae Tryz.prog 60 [.agg (AB c (.slice fa c.fx.length fc)).toArray, .agg (AB d (.slice wa d.fx.length wc)).toArray] w0 (.bool (HR c d)) := by
 refine Ew Ai Tryz.func60 Tryz.ntmps60 ho ?_
 intro a hS
 refine Wh 2 hS ?_
 refine Lo (Bx ?_); intro b2
 refine Lo (Bx ?_); intro b3
 refine Wn 15 ?_
 refine iD (fun hc13 => ?_) fun hc13 => ?_
 ·
  refine Wn 7 ?_
  intro a w hS
  refine Ro hS Tryz.results60 ?_
  exact ⟨by rw [show HR c d = false from Bool.eq_false_iff.2 (fun h => by have := (F6.1 h).fx; exact hc13 (by rw [this]))], hS.chg⟩
 have hlen : c.fx.length = d.fx.length := by omega
 refine Wn 9 ?_
 intro a w hS
 refine AW (γ := Nat) (fun k a w => St 129 Ai w0 a w [(5, .int .i64 (k : Int)), (2, .pointer (some ⟨b2, 0, none⟩)), (3, .pointer (some ⟨b3, 0, none⟩))] [.blk b2 (AB c (.slice fa c.fx.length fc)) 48, .blk b3 (AB d (.slice wa d.fx.length wc)) 48, AG W0] ∧ k ≤ c.fx.length ∧ ∀ j, j < k → c.fx[j]? = d.fx[j]?) (fun k => c.fx.length - k) 0 ⟨hS.sp, Nat.zero_le _, fun j hj => by omega⟩ ?_
 intro k a w hI
 obtain ⟨hS, hk, heq⟩ := hI
 refine Wh 10 hS ?_
 refine iD (fun hc18 => ?_) fun hc18 => ?_
 ·
  have hkn : k < c.fx.length := by omega
  obtain ⟨x, hx⟩ : ∃ x, c.fx[k]? = some x := ⟨_, List.getElem?_eq_getElem hkn⟩
  obtain ⟨y, hy⟩ : ∃ y, d.fx[k]? = some y := ⟨_, List.getElem?_eq_getElem (by omega)⟩
  obtain ⟨nb, no, rfl, hcx⟩ := hF.c (fun e => by rw [e] at hkn; exact absurd hkn (Nat.not_lt_zero _))
  obtain ⟨nb2, no2, rfl, hcy⟩ := hW.c (fun e => by have h0 : d.fx.length = 0 := (by rw [e]; rfl); omega)
  refine Wn 5 ?_
  refine Dr 11 [] [.blk b2 (AB c (.slice (some ⟨nb, no, none⟩) c.fx.length fc)) 48, .blk b3 (AB d (.slice (some ⟨nb2, no2, none⟩) d.fx.length wc)) 48, AG W0] ?_
  refine ZR 1 ?_
  refine Zy rfl (AI rfl Gi.1 (fun w hh => AR (k := 14) (hh (.blk b2 (AB c (.slice (some ⟨nb, no, none⟩) c.fx.length fc)) 48) (by repeat constructor)) rfl)) ?_
  refine ZR 1 ?_
  refine Zx rfl (BI rfl rfl LE.1 EH.1 hkn) ?_
  refine Zy rfl (BV (l := Az x) rfl Gk.1 EH.1 (fun w hh j u hj => AF (hh (AG W0) (by repeat constructor)) (hcx k x hx j u hj))) ?_
  refine ZR 1 ?_
  refine Zy rfl (AI rfl Gi.1 (fun w hh => AR (k := 14) (hh (.blk b3 (AB d (.slice (some ⟨nb2, no2, none⟩) d.fx.length wc)) 48) (by repeat constructor)) rfl)) ?_
  refine ZR 2 ?_
  refine Zy rfl (BV (l := Az y) rfl Gk.1 EH.1 (fun w hh j u hj => AF (hh (AG W0) (by repeat constructor)) (hcy k y hy j u hj))) ?_
  refine Zx rfl (X2 rfl rfl) ?_
  refine Wn 2 ?_
  refine iD (fun hc31 => ?_) fun hc31 => ?_
  ·
   refine Wn 6 ?_
   intro a w hS
   refine AD (AC (AC (AD (AC ?_))))
   refine Ro hS Tryz.results60 ?_
   exact ⟨by rw [show HR c d = false from Bool.eq_false_iff.2 (fun h => by have := (F6.1 h).fx; rw [this] at hx; rw [hx] at hy; injection hy with hy; exact hc31 hy)], hS.chg⟩
  refine Wn 8 ?_
  intro a w hS
  exact ⟨k + 1, by omega, hS.sp, by omega, fun j hj => by
    rcases Nat.lt_or_ge j k with h1 | h1
    · exact heq j h1
    · obtain rfl : j = k := by omega
      rw [hx, hy, Classical.not_not.1 hc31]⟩
 have hfx : c.fx = d.fx := List.ext_getElem? fun j => by
  rcases Nat.lt_or_ge j k with h1 | h1
  · exact heq j h1
  · rw [List.getElem?_eq_none (by omega), List.getElem?_eq_none (by omega)]
 refine Wn 1 ?_
 intro a w hS
 refine AH (AH (Aj ?_))
 refine Wh 9 hS ?_
 refine Lm 6 43 (.bool ((decide (tx (c.t 1) = tx (d.t 1)) && decide (tx (c.t 2) = tx (d.t 2))))) ?_ ?_
 ·
  intro hcM43
  refine Gd 37 ?_ ?_ <;> intro hg37
  ·
   refine Wn 6 ?_
   exact Et 7 43 37 hcM43 rfl (by rw [decide_eq_true hg37]; rfl) hg37
  refine Wn 6 ?_
  exact Ef 7 43 37 hcM43 rfl (by rw [decide_eq_false hg37]; rfl) hg37
 ·
  refine Wn 1 ?_
  refine Lm 6 50 (.bool (((decide (tx (c.t 1) = tx (d.t 1)) && decide (tx (c.t 2) = tx (d.t 2))) && decide (tx (c.t 3) = tx (d.t 3))))) ?_ ?_
  ·
   intro hcM50
   refine Gs 44 ?_ ?_ <;> intro hg44
   ·
    refine Wn 6 ?_
    exact Eb 7 50 44 hcM50 rfl (by rw [hg44, Bool.true_and]) hg44
   refine Wn 6 ?_
   exact Eb 7 50 44 hcM50 rfl (by rw [hg44]; rfl) hg44
  ·
   refine Wn 1 ?_
   refine Lm 6 57 (.bool ((((decide (tx (c.t 1) = tx (d.t 1)) && decide (tx (c.t 2) = tx (d.t 2))) && decide (tx (c.t 3) = tx (d.t 3))) && decide (tx (c.t 4) = tx (d.t 4))))) ?_ ?_
   ·
    intro hcM57
    refine Gs 51 ?_ ?_ <;> intro hg51
    ·
     refine Wn 6 ?_
     exact Eb 7 57 51 hcM57 rfl (by rw [hg51, Bool.true_and]) hg51
    refine Wn 6 ?_
    exact Eb 7 57 51 hcM57 rfl (by rw [hg51]; rfl) hg51
   ·
    refine Wn 1 ?_
    refine Lm 6 64 (.bool (((((decide (tx (c.t 1) = tx (d.t 1)) && decide (tx (c.t 2) = tx (d.t 2))) && decide (tx (c.t 3) = tx (d.t 3))) && decide (tx (c.t 4) = tx (d.t 4))) && decide (tx (c.t 5) = tx (d.t 5))))) ?_ ?_
    ·
     intro hcM64
     refine Gs 58 ?_ ?_ <;> intro hg58
     ·
      refine Wn 6 ?_
      exact Eb 7 64 58 hcM64 rfl (by rw [hg58, Bool.true_and]) hg58
     refine Wn 6 ?_
     exact Eb 7 64 58 hcM64 rfl (by rw [hg58]; rfl) hg58
    ·
     refine Wn 1 ?_
     refine Lm 6 71 (.bool ((((((decide (tx (c.t 1) = tx (d.t 1)) && decide (tx (c.t 2) = tx (d.t 2))) && decide (tx (c.t 3) = tx (d.t 3))) && decide (tx (c.t 4) = tx (d.t 4))) && decide (tx (c.t 5) = tx (d.t 5))) && decide (tx (c.t 6) = tx (d.t 6))))) ?_ ?_
     ·
      intro hcM71
      refine Gs 65 ?_ ?_ <;> intro hg65
      ·
       refine Wn 6 ?_
       exact Eb 7 71 65 hcM71 rfl (by rw [hg65, Bool.true_and]) hg65
      refine Wn 6 ?_
      exact Eb 7 71 65 hcM71 rfl (by rw [hg65]; rfl) hg65
     ·
      refine Wn 7 ?_
      refine Lm 6 79 (.bool (((((((decide (tx (c.t 1) = tx (d.t 1)) && decide (tx (c.t 2) = tx (d.t 2))) && decide (tx (c.t 3) = tx (d.t 3))) && decide (tx (c.t 4) = tx (d.t 4))) && decide (tx (c.t 5) = tx (d.t 5))) && decide (tx (c.t 6) = tx (d.t 6))) && decide (c.kind = d.kind)))) ?_ ?_
      ·
       intro hcM79
       refine Gs 73 ?_ ?_ <;> intro hg73
       ·
        refine Wn 6 ?_
        exact Eb 7 79 73 hcM79 rfl (by rw [hg73, Bool.true_and]) hg73
       refine Wn 6 ?_
       exact Eb 7 79 73 hcM79 rfl (by rw [hg73]; rfl) hg73
      ·
       refine Wn 1 ?_
       refine Lm 6 86 (.bool ((((((((decide (tx (c.t 1) = tx (d.t 1)) && decide (tx (c.t 2) = tx (d.t 2))) && decide (tx (c.t 3) = tx (d.t 3))) && decide (tx (c.t 4) = tx (d.t 4))) && decide (tx (c.t 5) = tx (d.t 5))) && decide (tx (c.t 6) = tx (d.t 6))) && decide (c.kind = d.kind)) && decide (c.n 7 = d.n 7)))) ?_ ?_
       ·
        intro hcM86
        refine Gs 80 ?_ ?_ <;> intro hg80
        ·
         refine Wn 6 ?_
         exact Eb 7 86 80 hcM86 rfl (by rw [hg80, Bool.true_and]) hg80
        refine Wn 6 ?_
        exact Eb 7 86 80 hcM86 rfl (by rw [hg80]; rfl) hg80
       ·
        refine Wn 1 ?_
        refine Lm 6 93 (.bool (((((((((decide (tx (c.t 1) = tx (d.t 1)) && decide (tx (c.t 2) = tx (d.t 2))) && decide (tx (c.t 3) = tx (d.t 3))) && decide (tx (c.t 4) = tx (d.t 4))) && decide (tx (c.t 5) = tx (d.t 5))) && decide (tx (c.t 6) = tx (d.t 6))) && decide (c.kind = d.kind)) && decide (c.n 7 = d.n 7)) && decide (c.n 8 = d.n 8)))) ?_ ?_
        ·
         intro hcM93
         refine Gs 87 ?_ ?_ <;> intro hg87
         ·
          refine Wn 6 ?_
          exact Eb 7 93 87 hcM93 rfl (by rw [hg87, Bool.true_and]) hg87
         refine Wn 6 ?_
         exact Eb 7 93 87 hcM93 rfl (by rw [hg87]; rfl) hg87
        ·
         refine Wn 1 ?_
         refine Lm 6 100 (.bool ((((((((((decide (tx (c.t 1) = tx (d.t 1)) && decide (tx (c.t 2) = tx (d.t 2))) && decide (tx (c.t 3) = tx (d.t 3))) && decide (tx (c.t 4) = tx (d.t 4))) && decide (tx (c.t 5) = tx (d.t 5))) && decide (tx (c.t 6) = tx (d.t 6))) && decide (c.kind = d.kind)) && decide (c.n 7 = d.n 7)) && decide (c.n 8 = d.n 8)) && decide (c.n 9 = d.n 9)))) ?_ ?_
         ·
          intro hcM100
          refine Gs 94 ?_ ?_ <;> intro hg94
          ·
           refine Wn 6 ?_
           exact Eb 7 100 94 hcM100 rfl (by rw [hg94, Bool.true_and]) hg94
          refine Wn 6 ?_
          exact Eb 7 100 94 hcM100 rfl (by rw [hg94]; rfl) hg94
         ·
          refine Wn 1 ?_
          refine Lm 6 107 (.bool (((((((((((decide (tx (c.t 1) = tx (d.t 1)) && decide (tx (c.t 2) = tx (d.t 2))) && decide (tx (c.t 3) = tx (d.t 3))) && decide (tx (c.t 4) = tx (d.t 4))) && decide (tx (c.t 5) = tx (d.t 5))) && decide (tx (c.t 6) = tx (d.t 6))) && decide (c.kind = d.kind)) && decide (c.n 7 = d.n 7)) && decide (c.n 8 = d.n 8)) && decide (c.n 9 = d.n 9)) && decide (c.n 10 = d.n 10)))) ?_ ?_
          ·
           intro hcM107
           refine Gs 101 ?_ ?_ <;> intro hg101
           ·
            refine Wn 6 ?_
            exact Eb 7 107 101 hcM107 rfl (by rw [hg101, Bool.true_and]) hg101
           refine Wn 6 ?_
           exact Eb 7 107 101 hcM107 rfl (by rw [hg101]; rfl) hg101
          ·
           refine Wn 1 ?_
           refine Lm 6 114 (.bool ((((((((((((decide (tx (c.t 1) = tx (d.t 1)) && decide (tx (c.t 2) = tx (d.t 2))) && decide (tx (c.t 3) = tx (d.t 3))) && decide (tx (c.t 4) = tx (d.t 4))) && decide (tx (c.t 5) = tx (d.t 5))) && decide (tx (c.t 6) = tx (d.t 6))) && decide (c.kind = d.kind)) && decide (c.n 7 = d.n 7)) && decide (c.n 8 = d.n 8)) && decide (c.n 9 = d.n 9)) && decide (c.n 10 = d.n 10)) && decide (c.n 11 = d.n 11)))) ?_ ?_
           ·
            intro hcM114
            refine Gs 108 ?_ ?_ <;> intro hg108
            ·
             refine Wn 6 ?_
             exact Eb 7 114 108 hcM114 rfl (by rw [hg108, Bool.true_and]) hg108
            refine Wn 6 ?_
            exact Eb 7 114 108 hcM114 rfl (by rw [hg108]; rfl) hg108
           ·
            refine Wn 1 ?_
            refine Lm 6 121 (.bool (((((((((((((decide (tx (c.t 1) = tx (d.t 1)) && decide (tx (c.t 2) = tx (d.t 2))) && decide (tx (c.t 3) = tx (d.t 3))) && decide (tx (c.t 4) = tx (d.t 4))) && decide (tx (c.t 5) = tx (d.t 5))) && decide (tx (c.t 6) = tx (d.t 6))) && decide (c.kind = d.kind)) && decide (c.n 7 = d.n 7)) && decide (c.n 8 = d.n 8)) && decide (c.n 9 = d.n 9)) && decide (c.n 10 = d.n 10)) && decide (c.n 11 = d.n 11)) && decide (c.n 12 = d.n 12)))) ?_ ?_
            ·
             intro hcM121
             refine Gs 115 ?_ ?_ <;> intro hg115
             ·
              refine Wn 6 ?_
              exact Eb 7 121 115 hcM121 rfl (by rw [hg115, Bool.true_and]) hg115
             refine Wn 6 ?_
             exact Eb 7 121 115 hcM121 rfl (by rw [hg115]; rfl) hg115
            ·
             refine Wn 1 ?_
             refine Lm 6 128 (.bool ((((((((((((((decide (tx (c.t 1) = tx (d.t 1)) && decide (tx (c.t 2) = tx (d.t 2))) && decide (tx (c.t 3) = tx (d.t 3))) && decide (tx (c.t 4) = tx (d.t 4))) && decide (tx (c.t 5) = tx (d.t 5))) && decide (tx (c.t 6) = tx (d.t 6))) && decide (c.kind = d.kind)) && decide (c.n 7 = d.n 7)) && decide (c.n 8 = d.n 8)) && decide (c.n 9 = d.n 9)) && decide (c.n 10 = d.n 10)) && decide (c.n 11 = d.n 11)) && decide (c.n 12 = d.n 12)) && decide (c.n 13 = d.n 13)))) ?_ ?_
             ·
              intro hcM128
              refine Gs 122 ?_ ?_ <;> intro hg122
              ·
               refine Wn 6 ?_
               exact Eb 7 128 122 hcM128 rfl (by rw [hg122, Bool.true_and]) hg122
              refine Wn 6 ?_
              exact Eb 7 128 122 hcM128 rfl (by rw [hg122]; rfl) hg122
             ·
              refine Wn 4 ?_
              intro a w hS
              refine Ro hS Tryz.results60 ?_
              refine ⟨?_, hS.chg⟩
              rw [show (((((((((((((decide (tx (c.t 1) = tx (d.t 1)) && decide (tx (c.t 2) = tx (d.t 2))) && decide (tx (c.t 3) = tx (d.t 3))) && decide (tx (c.t 4) = tx (d.t 4))) && decide (tx (c.t 5) = tx (d.t 5))) && decide (tx (c.t 6) = tx (d.t 6))) && decide (c.kind = d.kind)) && decide (c.n 7 = d.n 7)) && decide (c.n 8 = d.n 8)) && decide (c.n 9 = d.n 9)) && decide (c.n 10 = d.n 10)) && decide (c.n 11 = d.n 11)) && decide (c.n 12 = d.n 12)) && decide (c.n 13 = d.n 13)) = HR c d by
                rw [Bool.eq_iff_iff, F6]
                simp only [Bool.and_eq_true, decide_eq_true_eq]
                constructor
                · rintro ⟨⟨⟨⟨⟨⟨⟨⟨⟨⟨⟨⟨⟨h1, h2⟩, h3⟩, h4⟩, h5⟩, h6⟩, hk⟩, n7⟩, n8⟩, n9⟩, n10⟩, n11⟩, n12⟩, n13⟩
                  refine ⟨hfx, hk, fun i a b => ?_, fun i a b => ?_⟩
                  · obtain rfl | rfl | rfl | rfl | rfl | rfl : i = 1 ∨ i = 2 ∨ i = 3 ∨ i = 4 ∨ i = 5 ∨ i = 6 := by omega
                    all_goals (apply Bn; assumption)
                  · obtain rfl | rfl | rfl | rfl | rfl | rfl | rfl : i = 7 ∨ i = 8 ∨ i = 9 ∨ i = 10 ∨ i = 11 ∨ i = 12 ∨ i = 13 := by omega
                    all_goals assumption
                · intro h
                  have t := fun i a b => congrArg tx (h.t i a b)
                  exact ⟨⟨⟨⟨⟨⟨⟨⟨⟨⟨⟨⟨⟨t 1 (by omega) (by omega), t 2 (by omega) (by omega)⟩, t 3 (by omega) (by omega)⟩, t 4 (by omega) (by omega)⟩, t 5 (by omega) (by omega)⟩, t 6 (by omega) (by omega)⟩, h.kind⟩, h.n 7 (by omega) (by omega)⟩, h.n 8 (by omega) (by omega)⟩, h.n 9 (by omega) (by omega)⟩, h.n 10 (by omega) (by omega)⟩, h.n 11 (by omega) (by omega)⟩, h.n 12 (by omega) (by omega)⟩, h.n 13 (by omega) (by omega)⟩]
end
section
theorem Ow (pa : List UInt8) (hs : pa.length ≤ 1200000) (hnh : pa ≠ Jc) (hnr : ∀ (k : Nat) (x : List UInt8 × List Fg), DK[k]? = some x → x.1 ≠ pa) (w0 : World) :
 Ae Tryz.prog 59 [.agg [.string (tx L2), .string (tx pa), .slice none 0 0, .bool false].toArray] w0 (.tuple [.agg (AB (if (CP (Am 47 pa)).2 then (CP (Am 47 pa)).1 else CQ 0) (.slice none 0 0)).toArray, .int .i64 (if (CP (Am 47 pa)).2 then 0 else 31)].toArray) := by
 obtain ⟨pw, hpw⟩ : ∃ p, CP (Am 47 pa) = p := ⟨_, rfl⟩
 have hpath := QH pa hs
 rw [hpw] at hpath ⊢
 refine Eo Ai Tryz.func59 Tryz.ntmps59 ?_
 intro a hS
 refine Wh 2 hS ?_
 refine Lo (Bx ?_); intro b1
 refine Lo (Al ?_); intro b2
 refine Wn 6 ?_
 refine Lo (Al ?_); intro b4
 refine Lo (Sa ?_)
 refine Wn 6 ?_
 refine Lo (cP YP (fun _ => hpath _) ?_)
 refine Wn 3 ?_
 refine Lo (Al ?_); intro b5
 refine Lo (Sa ?_)
 refine Wn 8 ?_
 refine Lm 4 29 (.bool (pw.2)) ?_ ?_
 ·
  intro hcM29
  refine Gs 25 ?_ ?_ <;> intro hg25
  ·
   refine Wn 4 ?_
   exact Eb 5 29 25 hcM29 rfl (hg25.symm) hg25
  refine Wn 4 ?_
  exact Eb 5 29 25 hcM29 rfl (by rw [hg25]; exact decide_eq_false (fun h => hnh (Bn (b := Jc) h))) hg25
 ·
  refine Wn 2 ?_
  refine iB (fun hc29 => ?_) fun hc29 => ?_
  ·
   refine Wn 8 ?_
   refine Ie 32 false rfl (decide_eq_false (fun h => h rfl)) ?_
   refine Wn 12 ?_
   refine Ie 37 false rfl rfl ?_
   refine Wn 11 ?_
   refine Ie 41 false rfl (decide_eq_false (fun h => hnh (Bn (b := Jc) h))) ?_
   refine Wn 6 ?_
   refine Lo (Sa ?_)
   refine Wn 5 ?_
   intro a w hS
   refine Rm hS Tryz.results59 ?_
   exact ⟨by rw [if_pos hc29, if_pos hc29], hS.chg⟩
  refine Wn 4 ?_
  refine Lo (cN V3 (fun _ => F4 _) ?_); intro x44
  refine Wn 15 ?_
  intro a w hS
  refine AW (γ := Nat) (fun i a w => St 128 Ai w0 a w [(9, .int .i64 (i : Int)), (8, .int .i64 (-1)), (7, .slice (some ⟨x44, 0, none⟩) 12 12), (1, .pointer (some ⟨b1, 0, none⟩)), (2, .pointer (some ⟨b2, 0, none⟩)), (4, .pointer (some ⟨b4, 0, none⟩))] [.blk x44 DM 128, .blk b1 [.string (tx L2), .string (tx pa), .slice none 0 0, .bool false] 51, .blk b2 (AB (CQ 0) (.slice none 0 0)) 48, .blk b4 (AB (CQ 0) (.slice none 0 0)) 48] ∧ i ≤ 12) (fun i => 12 - i) 0 ⟨hS.sp, Nat.zero_le _⟩ ?_
  intro i a w hI
  obtain ⟨hS, hi⟩ := hI
  refine Wh 9 hS ?_
  refine iD (fun hc48 => ?_) fun hc48 => ?_
  ·
   have hi12 : i < 12 := by omega
   obtain ⟨xi, hxi⟩ := Hn hi12
   refine Wn 5 ?_
   refine Dr 8 [] [.blk x44 DM 128, .blk b1 [.string (tx L2), .string (tx pa), .slice none 0 0, .bool false] 51] ?_
   refine ZR 4 ?_
   refine Zy rfl (AI rfl Af.1 (fun w hh => by have := AR (hh (.blk x44 DM 128) (by repeat constructor)) (Dl hxi 0 _ rfl); rw [show i * 3 + 0 = 0 + i * 3 by omega] at this; exact this)) ?_
   refine ZR 3 ?_
   refine Wn 2 ?_
   refine Ie 58 false rfl (decide_eq_false (fun h => hnr i xi hxi (Bn h))) ?_
   refine Wn 9 ?_
   intro a w hS
   exact ⟨i + 1, by omega, hS.sp, by omega⟩
  refine Wn 1 ?_
  intro a w hS
  refine AH (AH (Aj ?_))
  refine Wh 8 hS ?_
  refine Ie 61 true rfl (by decide) ?_
  refine Wn 4 ?_
  refine Lo (Sa ?_)
  refine Wn 5 ?_
  intro a w hS
  refine Rm hS Tryz.results59 ?_
  exact ⟨by rw [if_neg (by rw [hc29]; decide), if_neg (by rw [hc29]; decide)], hS.chg⟩
section
variable {P : Program} {n : NN} {a : Act} {L : List (Nat × Value)} {Γ : List AT} {dst : Option Nat} {ty : Nat} {pos : String} {af : Array Edge} {g : Option (Nat × Bool)}
theorem kT {t t' : TypeId} {x y : Operand} {i j : List UInt8} (hx : ev L x = some (.string (tx i))) (hy : ev L y = some (.string (tx j))) : Ex P n a L Γ ⟨dst, .binOp .geq t x y t', ty, pos, af, g⟩ (.bool (!decide (i < j))) := fun hs w hh => by
 have e : Op.bytesLess (tx i).toList (tx j).toList = decide (i < j) := by rw [ByteArray.toList_eq, ByteArray.toList_eq, FH, FH, HH]
 simp only [execOp, hs.ev hx, hs.ev hy, eqGuard, binOp, Op.stringOp, ← e]
 rfl
end
def IG (x : B5) : Prop := (((x.ty < 1 ∨ 3 < x.ty) ∨ (x.ty = 3 ∧ x.n ≠ 0)) ∨ (x.ty ≠ 3 ∧ tx x.s ≠ ⟨#[]⟩)) ∨ ((x.ty = 2 ∧ x.n ≠ 0) ∧ x.n ≠ 1)
instance (x : B5) : Decidable (IG x) := by unfold IG; exact inferInstance
theorem Nf (x : B5) : IG x ↔ Bu x = none := by
 have hs : tx x.s ≠ ⟨#[]⟩ ↔ x.s ≠ [] := not_congr EN
 unfold IG Bu
 rw [hs]
 by_cases h1 : x.ty = 1
 ·
  rw [if_pos h1]
  by_cases h : x.s = [] <;> simp [h, h1]
 ·
  rw [if_neg h1]
  by_cases h2 : x.ty = 2
  ·
   rw [if_pos h2]
   by_cases h : x.s = []
   ·
    by_cases h0 : x.n = 0 ∨ x.n = 1
    · rw [if_pos ⟨h, h0⟩]; simp [h, h2] <;> omega
    · rw [if_neg (fun h => h0 h.2)]; simp [h, h2] <;> omega
   · rw [if_neg (fun h2 => h h2.1)]; simp [h, h2]
  ·
   rw [if_neg h2]
   by_cases h3 : x.ty = 3
   ·
    by_cases h0 : x.n = 0
    · rw [if_pos ⟨h3, h0⟩]; simp [h3, h0]
    · rw [if_neg (fun h => h0 h.2)]; simp [h3, h0]
   · rw [if_neg (fun h => h3 h.1)]; simp <;> omega
def II (c : Cd) (fs : List Fd) : Prop := ∃ v c', DJ fs c [] [] = some (v, c') ∧ CD c'
theorem X3 {c : Cd} {fs : List Fd} (hok : ∀ f ∈ fs, f.ok) (hap : fs.Pairwise FS) {f : Fd} (hf : f ∈ fs) (h2 : f.kd = 2) (h : BN c.fx [] [] = none) : ¬ II c fs := fun ⟨v, c', hv, _⟩ => by
 obtain ⟨vals, h1, _, _, h5⟩ := FB fs c [] [] v c' hok hap hv
 obtain ⟨i, hi⟩ := List.getElem?_of_mem hf
 have hil := (List.getElem?_eq_some_iff.1 hi).1
 obtain ⟨y, hy⟩ : ∃ y, vals[i]? = some y := ⟨_, List.getElem?_eq_getElem (by omega)⟩
 have := h5 i f y hi hy
 unfold Av at this
 rw [if_neg (by omega), if_neg (by omega), h] at this
 cases this
def Cn (fs : List Fd) : Bool := fs.any fun f => f.kd == 2
theorem Jr {fs : List Fd} : Cn fs = true ↔ ∃ f ∈ fs, f.kd = 2 := by unfold Cn; rw [List.any_eq_true]; simp
theorem SD {c : Cd} {fs : List Fd} (hok : ∀ f ∈ fs, f.ok) (hap : fs.Pairwise FS) (hv : ∀ f ∈ fs, f.kd = 0 → Lib.validD (c.t f.off) = true) (hfx : Cn fs = true → ∃ y, BN c.fx [] [] = some y) :
 Jq c { Dy fs c (CQ c.kind) with fx := if Cn fs then c.fx else [] } ↔ II c fs := by
 have hps := Nd (c := c) hok
 have hkd := F5 c fs (CQ c.kind)
 constructor
 ·
  intro h
  have hem : CD (BO fs c) := hps.1 ⟨h.t, h.n, fun hno => by
    have h3 := h.fx
    have hs : Cn fs = false := Bool.eq_false_iff.2 (fun h => by obtain ⟨f, h1, h2⟩ := Jr.1 h; exact hno f h1 h2)
    simp only [hs] at h3
    exact h3⟩
  obtain ⟨v, c', h2⟩ := Ig fs c [] [] hok hap (fun f hf => by
    unfold Av
    rcases (hok f hf).kd with h | h | h
    · rw [if_pos h]; simp only; rw [if_pos (hv f hf h)]; exact ⟨_, rfl⟩
    · rw [if_neg (by omega), if_pos h]; exact ⟨_, rfl⟩
    · rw [if_neg (by omega), if_neg (by omega)]; exact hfx (Jr.2 ⟨f, hf, h⟩))
  exact ⟨v, c', h2, by rw [(HP hok hap h2).2]; exact hem⟩
 ·
  rintro ⟨v, c', h2, hem⟩
  rw [(HP hok hap h2).2] at hem
  obtain ⟨q1, q2, q3⟩ := hps.2 hem
  refine ⟨?_, hkd.symm, q1, q2⟩
  show c.fx = if Cn fs then c.fx else []
  by_cases hs : Cn fs = true
  · rw [if_pos hs]
  · rw [if_neg hs]; exact q3 (fun f hf h => hs (Jr.2 ⟨f, hf, h⟩))
theorem VU (fs : List Fd) (f : Fd) (c cc : Cd) : Dy (fs ++ [f]) c cc = EA f c (Dy fs c cc) := by unfold Dy; rw [List.foldl_append]; rfl
theorem VV {fl : List Fg} {k : Nat} {x : Fg} (h : fl[k]? = some x) : AE (fl.take (k + 1)) = AE (fl.take k) ++ [x.f] := by unfold AE; rw [BG h, List.map_append]; rfl
open Classical in
noncomputable def Js (c : Cd) (fs : List Fd) : Bool := decide (II c fs)
open Classical in
theorem HS {c : Cd} {fs : List Fd} : Js c fs = true ↔ II c fs := by unfold Js; exact decide_eq_true_iff
theorem VW (W0 : World) (k : Nat) (pa : List UInt8) (fl : List Fg) (hx : DK[k]? = some (pa, fl)) (c : Cd) (hkd : (k : Int) + 1 = c.kind) (fa : Option Addr) (fc : Nat) (hF : D9 W0 fa c.fx) (h110 : c.fx.length ≤ 110) (hlen : ∀ i, 1 ≤ i → i ≤ 6 → (c.t i).length ≤ 1100000) (hfs : ∀ x ∈ c.fx, x.nm.length ≤ 300 ∧ x.s.length ≤ 300)
 (hv : ∀ f ∈ AE fl, f.kd = 0 → Lib.validD (c.t f.off) = true) (hfv : ∀ f ∈ AE fl, f.kd = 2 → ∀ x ∈ c.fx, Lib.validD x.nm = true ∧ (¬ IG x → Lib.validD x.s = true)) (w0 : World) (hold : AQ W0 w0) :
 Ae Tryz.prog 58 [.agg (AB c (.slice fa c.fx.length fc)).toArray] w0 (.bool (Js c (AE fl))) := by
 have hk12 : k < 12 := (List.getElem?_eq_some_iff.1 hx).1
 have hxm := List.mem_of_getElem? hx
 have hfo : ∀ f ∈ AE fl, f.ok := Cm hxm
 have hap : (AE fl).Pairwise FS := Ds _ hxm
 have hfz := VD _ hxm
 have hoff := U7 _ hxm
 have hwl := Ot fl
 have hfn : fl.length ≤ 1000 := (Hm _ hxm).n
 have hcut := Lw 32 (Eu (Ac fl)) (L3 _ hxm)
 rw [Jk _ hxm] at hcut
 refine Ew Ai Tryz.func58 Tryz.ntmps58 hold ?_
 intro a hS
 refine Wh 2 hS ?_
 refine Lo (Bx ?_); intro b1
 refine Wn 5 ?_
 refine Lo (cN V3 (fun _ => F4 _) ?_); intro x14
 refine Wn 9 ?_
 intro a w hS
 rw [show c.kind - 1 = (k : Int) by omega] at hS
 refine Wh 2 hS ?_
 refine Xp (AI rfl Af.1 (fun w hh => by have := AR (hh (.blk x14 DM 128) (by repeat constructor)) (Dl hx 2 _ rfl); rw [show k * 3 + 2 = 0 + k * 3 + 2 by omega] at this; exact this)) ?_
 refine Lo (cN V4 (fun _ => hcut _) ?_); intro x22
 obtain ⟨qw, cw⟩ := x22
 intro a w hS
 simp only at hS
 refine Wh 8 hS ?_
 refine Lo (Al ?_); intro b5
 refine Lo (Sa ?_)
 refine Wn 9 ?_
 intro a w hS
 refine AW (γ := Nat × Option Addr × Nat × Nat) (fun G a w => St 168 Ai w0 a w [(6, .int .i64 ((2 * G.1 : Nat) : Int)), (4, .slice qw (Ac fl).length cw), (1, .pointer (some ⟨b1, 0, none⟩)), (5, .pointer (some ⟨b5, 0, none⟩))] [oR 9 1 qw (Ac fl) cw AM, .blk b1 (AB c (.slice fa c.fx.length fc)) 48, .blk b5 (AB (Dy (AE (fl.take G.1)) c (CQ c.kind)) (.slice G.2.1 G.2.2.1 G.2.2.2)) 48, AG W0] ∧ G.1 ≤ fl.length ∧ G.2.2.1 = (if Cn (AE (fl.take G.1)) then c.fx else []).length ∧ D9 W0 G.2.1 (if Cn (AE (fl.take G.1)) then c.fx else []) ∧ (Cn (AE (fl.take G.1)) = true → ∃ y, BN c.fx [] [] = some y)) (fun G => fl.length - G.1) (0, none, 0, 0) ⟨hS.sp, Nat.zero_le _, rfl, ⟨fun h => absurd rfl h⟩, fun h => by cases h⟩ ?_
 intro G a w hI
 obtain ⟨fi, qf, mf, cf⟩ := G
 obtain ⟨hS, hfi, hmf, hqF, hsn⟩ := hI
 simp only at hS hfi hmf hqF hsn
 refine Wh 9 hS ?_
 refine iD (fun hc29 => ?_) fun hc29 => ?_
 ·
  have hfl : fi < fl.length := by omega
  obtain ⟨fg, hfg⟩ : ∃ x, fl[fi]? = some x := ⟨_, List.getElem?_eq_getElem hfl⟩
  have hfm : fg.f ∈ AE fl := List.mem_map.2 ⟨fg, List.mem_of_getElem? hfg, rfl⟩
  obtain ⟨hz1, hz2⟩ := VQ hfg
  obtain ⟨k0, k1⟩ := VC fg.f.kd
  have htk := VV hfg
  have hfd := hfo _ hfm
  obtain ⟨ho0, ho1⟩ := hoff _ hfm
  intro a w hS
  obtain ⟨g, rfl⟩ := Dv (hS.gg (X := oR 9 1 qw (Ac fl) cw AM)) (by omega)
  obtain ⟨d2, hd2⟩ : ∃ d, Dy (AE (fl.take fi)) c (CQ c.kind) = d := ⟨_, rfl⟩
  have hnx : Dy (AE (fl.take (fi + 1))) c (CQ c.kind) = EA fg.f c d2 := by rw [htk, VU, hd2]
  have hsx : Cn (AE (fl.take (fi + 1))) = (Cn (AE (fl.take fi)) || (fg.f.kd == 2)) := by rw [htk]; unfold Cn; rw [List.any_append]; simp
  rw [hd2] at hS
  refine Wq 9 hS ?_; intro a hS
  rw [show ((2 * fi : Nat) : Int) + 1 = ((2 * fi + 1 : Nat) : Int) by omega] at hS
  refine Wh 1 hS ?_
  refine Xp (AI rfl Af.1 (fun w hh => Aq (hh (oR 9 1 (some ⟨g, 0, none⟩) (Ac fl) cw AM) (by repeat constructor)) hz2)) ?_
  refine Wn 9 ?_
  refine iD (fun hc126 => ?_) fun hc126 => ?_
  ·
   have hk0 : fg.f.kd = 0 := k0.1 hc126
   have hto := hfd.t hk0
   have hns2 : (fg.f.kd == 2) = false := by rw [hk0]; rfl
   refine Wn 1 ?_
   refine Dr 7 [] [.blk b1 (AB c (.slice fa c.fx.length fc)) 48, oR 9 1 (some ⟨g, 0, none⟩) (Ac fl) cw AM] ?_
   refine ZR 4 ?_
   refine Zy rfl (AI rfl Af.1 (fun w hh => Aq (hh (oR 9 1 (some ⟨g, 0, none⟩) (Ac fl) cw AM) (by repeat constructor)) hz1)) ?_
   refine Z0 rfl (cP fZ (fun _ => QF c fa c.fx.length fc (tx fg.f.nm) _) ?_)
   intro a w hS
   rw [ho0 hk0] at hS
   refine Un hS (Za ?_)
   refine ZR 1 ?_
   refine Wn 5 ?_
   refine Lo (cP MN (fun _ => Fm (c.t fg.f.off) (hlen _ hto.1 hto.2) _) ?_)
   intro a w hS
   rw [hv _ hfm hk0] at hS
   refine Wh 10 hS ?_
   refine Ie 137 false rfl rfl ?_
   refine Wn 3 ?_
   refine Dr 8 [7] [.blk b5 (AB d2 (.slice qf mf cf)) 48, oR 9 1 (some ⟨g, 0, none⟩) (Ac fl) cw AM] ?_
   refine ZR 4 ?_
   refine Zy rfl (AI rfl Af.1 (fun w hh => Aq (hh (oR 9 1 (some ⟨g, 0, none⟩) (Ac fl) cw AM) (by repeat constructor)) hz1)) ?_
   refine ZR 1 ?_
   refine Z0 rfl (cP YN (fun _ => H7 d2 qf mf cf (tx fg.f.nm) (c.t fg.f.off) _) ?_)
   intro a w hS
   rw [(hfz _ hfm).t hk0, show d2.putT fg.f.off (c.t fg.f.off) = EA fg.f c d2 by unfold EA; rw [if_pos hk0]] at hS
   refine Un hS (Za ?_)
   refine Z0 rfl (Sa ?_)
   refine Zl ?_
   refine Wn 9 ?_
   have hq := hns2
   intro a w hS
   rw [show ((2 * fi : Nat) : Int) + 2 = ((2 * (fi + 1) : Nat) : Int) by omega] at hS
   refine ⟨(fi + 1, qf, mf, cf), by show fl.length - (fi + 1) < fl.length - fi; omega, by show St _ _ _ _ _ _ [_, _, .blk b5 (AB (Dy (AE (fl.take (fi + 1))) c (CQ c.kind)) (.slice qf mf cf)) _, _]; rw [hnx]; exact hS.sp, hfl, ?_, ?_, ?_⟩
   · show mf = (if Cn (AE (fl.take (fi + 1))) then c.fx else []).length; rw [hsx, hq, Bool.or_false]; exact hmf
   · show D9 W0 qf (if Cn (AE (fl.take (fi + 1))) then c.fx else []); rw [hsx, hq, Bool.or_false]; exact hqF
   · show Cn (AE (fl.take (fi + 1))) = true → _; rw [hsx, hq, Bool.or_false]; exact hsn
  refine Wn 6 ?_
  refine iD (fun hc145 => ?_) fun hc145 => ?_
  ·
   have hk1 : fg.f.kd = 1 := k1.1 hc145
   have hns2 : (fg.f.kd == 2) = false := by rw [hk1]; rfl
   refine Dr 13 [12] [.blk b1 (AB c (.slice fa c.fx.length fc)) 48, .blk b5 (AB d2 (.slice qf mf cf)) 48, oR 9 1 (some ⟨g, 0, none⟩) (Ac fl) cw AM] ?_
   refine ZR 4 ?_
   refine Zy rfl (AI rfl Af.1 (fun w hh => Aq (hh (oR 9 1 (some ⟨g, 0, none⟩) (Ac fl) cw AM) (by repeat constructor)) hz1)) ?_
   refine ZR 4 ?_
   refine Zy rfl (AI rfl Af.1 (fun w hh => Aq (hh (oR 9 1 (some ⟨g, 0, none⟩) (Ac fl) cw AM) (by repeat constructor)) hz1)) ?_
   refine Z0 rfl (cP gB (fun _ => Kq c fa c.fx.length fc (tx fg.f.nm) _) ?_)
   intro a w hS
   rw [ho1 hk1] at hS
   refine Un hS (Za ?_)
   refine Z0 rfl (cP YO (fun _ => GG d2 qf mf cf (tx fg.f.nm) (c.n fg.f.off) _) ?_)
   intro a w hS
   rw [(hfz _ hfm).n hk1, show d2.putN fg.f.off (c.n fg.f.off) = EA fg.f c d2 by unfold EA; rw [if_neg (by omega), if_pos hk1]] at hS
   refine Un hS (Za ?_)
   refine Z0 rfl (Sa ?_)
   refine Zl ?_
   refine Wn 9 ?_
   have hq := hns2
   intro a w hS
   rw [show ((2 * fi : Nat) : Int) + 2 = ((2 * (fi + 1) : Nat) : Int) by omega] at hS
   refine ⟨(fi + 1, qf, mf, cf), by show fl.length - (fi + 1) < fl.length - fi; omega, by show St _ _ _ _ _ _ [_, _, .blk b5 (AB (Dy (AE (fl.take (fi + 1))) c (CQ c.kind)) (.slice qf mf cf)) _, _]; rw [hnx]; exact hS.sp, hfl, ?_, ?_, ?_⟩
   · show mf = (if Cn (AE (fl.take (fi + 1))) then c.fx else []).length; rw [hsx, hq, Bool.or_false]; exact hmf
   · show D9 W0 qf (if Cn (AE (fl.take (fi + 1))) then c.fx else []); rw [hsx, hq, Bool.or_false]; exact hqF
   · show Cn (AE (fl.take (fi + 1))) = true → _; rw [hsx, hq, Bool.or_false]; exact hsn
  have hk2 : fg.f.kd = 2 := by
   have h0 : fg.f.kd ≠ 0 := fun h => hc126 (k0.2 h)
   have h1 : fg.f.kd ≠ 1 := fun h => hc145 (k1.2 h)
   rcases hfd.kd with h | h | h <;> omega
  have hfv2 := hfv _ hfm hk2
  refine Wn 7 ?_
  intro a w hS
  refine AW (γ := Nat) (fun j a w => St 168 Ai w0 a w [(9, .int .i64 (j : Int)), (6, .int .i64 ((2 * fi : Nat) : Int)), (4, .slice (some ⟨g, 0, none⟩) (Ac fl).length cw), (1, .pointer (some ⟨b1, 0, none⟩)), (5, .pointer (some ⟨b5, 0, none⟩))] [oR 9 1 (some ⟨g, 0, none⟩) (Ac fl) cw AM, .blk b1 (AB c (.slice fa c.fx.length fc)) 48, .blk b5 (AB d2 (.slice qf mf cf)) 48, AG W0] ∧ j ≤ c.fx.length ∧ ∃ ys, BN c.fx [] [] = BN (c.fx.drop j) (A4 c.fx j) ys) (fun j => c.fx.length - j) 0 ⟨hS.sp, Nat.zero_le _, [], rfl⟩ ?_
  intro j a w hI
  obtain ⟨hS, hj, ys, hgo⟩ := hI
  refine Wh 10 hS ?_
  refine iD (fun hc41 => ?_) fun hc41 => ?_
  ·
   have hjn : j < c.fx.length := by omega
   obtain ⟨x, hx2⟩ : ∃ x, c.fx[j]? = some x := ⟨_, List.getElem?_eq_getElem hjn⟩
   have hxm2 := List.mem_of_getElem? hx2
   obtain ⟨hvn, hvs⟩ := hfv2 x hxm2
   obtain ⟨hln, hls⟩ := hfs x hxm2
   obtain ⟨nb, no, rfl, hcx⟩ := hF.c (fun e => by rw [e] at hjn; exact absurd hjn (Nat.not_lt_zero _))
   rw [H5 hx2] at hgo
   obtain ⟨p, hp⟩ : ∃ p, c.fx[j - 1]? = some p := ⟨_, List.getElem?_eq_getElem (by omega)⟩
   have hpc := hcx _ p hp 0 (.string (tx p.nm)) rfl
   refine Wn 7 ?_
   refine Xp (AI rfl Gi.1 (fun w hh => AR (k := 14) (hh (.blk b1 (AB c (.slice (some ⟨nb, no, none⟩) c.fx.length fc)) 48) (by repeat constructor)) rfl)) ?_
   refine Wn 1 ?_
   refine Xp (BI rfl rfl LE.1 EH.1 hjn) ?_
   refine Xp (BV (l := Az x) rfl Gk.1 EH.1 (fun w hh i u hi => AF (hh (AG W0) (by repeat constructor)) (hcx j x hx2 i u hi))) ?_
   intro a w hS
   unfold Az at hS
   refine Un hS (Lo (Al ?_)); intro b10
   refine Lo (Sa ?_)
   refine Wn 8 ?_
   refine Lm 4 56 (.bool (decide (x.ty < 1 ∨ 3 < x.ty))) ?_ ?_
   ·
    intro hcM56
    refine Gd 52 ?_ ?_ <;> intro hg52
    ·
     refine Wn 4 ?_
     exact Et 5 56 52 hcM56 rfl ((decide_eq_true (.inl hg52)).symm) hg52
    refine Wn 4 ?_
    exact Ef 5 56 52 hcM56 rfl (decide_eq_decide.2 (by omega)) hg52
   ·
    refine Wn 1 ?_
    refine Lm 9 66 (.bool (decide ((x.ty < 1 ∨ 3 < x.ty) ∨ (x.ty = 3 ∧ x.n ≠ 0)))) ?_ ?_
    ·
     intro hcM66
     refine Gd 57 ?_ ?_ <;> intro hg57
     ·
      refine Wn 9 ?_
      exact Et 10 66 57 hcM66 rfl ((decide_eq_true (.inl hg57)).symm) hg57
     refine Wn 4 ?_
     refine Lm 4 65 (.bool (decide (x.ty = 3 ∧ x.n ≠ 0))) ?_ ?_
     ·
      intro hcM65
      refine Gd 61 ?_ ?_ <;> intro hg61
      ·
       refine Wn 4 ?_
       exact Et 5 65 61 hcM65 rfl (decide_eq_decide.2 ⟨fun h => ⟨hg61, h⟩, fun h => h.2⟩) hg61
      refine Wn 4 ?_
      exact Ef 5 65 61 hcM65 rfl ((decide_eq_false (fun h => hg61 h.1)).symm) hg61
     ·
      refine Wn 1 ?_
      exact Ef 7 66 57 hcM66 rfl (decide_eq_decide.2 ⟨.inr, fun h => h.resolve_left hg57⟩) hg57
    ·
     refine Wn 1 ?_
     refine Lm 9 76 (.bool (decide (((x.ty < 1 ∨ 3 < x.ty) ∨ (x.ty = 3 ∧ x.n ≠ 0)) ∨ (x.ty ≠ 3 ∧ tx x.s ≠ ⟨#[]⟩)))) ?_ ?_
     ·
      intro hcM76
      refine Gd 67 ?_ ?_ <;> intro hg67
      ·
       refine Wn 9 ?_
       exact Et 10 76 67 hcM76 rfl ((decide_eq_true (.inl hg67)).symm) hg67
      refine Wn 4 ?_
      refine Lm 4 75 (.bool (decide (x.ty ≠ 3 ∧ tx x.s ≠ ⟨#[]⟩))) ?_ ?_
      ·
       intro hcM75
       refine Gd 71 ?_ ?_ <;> intro hg71
       ·
        refine Wn 4 ?_
        exact Et 5 75 71 hcM75 rfl (decide_eq_decide.2 ⟨fun h => ⟨hg71, h⟩, fun h => h.2⟩) hg71
       refine Wn 4 ?_
       exact Ef 5 75 71 hcM75 rfl ((decide_eq_false (fun h => hg71 h.1)).symm) hg71
      ·
       refine Wn 1 ?_
       exact Ef 7 76 67 hcM76 rfl (decide_eq_decide.2 ⟨.inr, fun h => h.resolve_left hg67⟩) hg67
     ·
      refine Wn 1 ?_
      refine Lm 14 91 (.bool (decide (IG x))) ?_ ?_
      ·
       intro hcM91
       refine Gd 77 ?_ ?_ <;> intro hg77
       ·
        refine Wn 14 ?_
        exact Et 15 91 77 hcM91 rfl ((decide_eq_true (.inl hg77)).symm) hg77
       refine Wn 4 ?_
       refine Lm 4 85 (.bool (decide (x.ty = 2 ∧ x.n ≠ 0))) ?_ ?_
       ·
        intro hcM85
        refine Gd 81 ?_ ?_ <;> intro hg81
        ·
         refine Wn 4 ?_
         exact Et 5 85 81 hcM85 rfl (decide_eq_decide.2 ⟨fun h => ⟨hg81, h⟩, fun h => h.2⟩) hg81
        refine Wn 4 ?_
        exact Ef 5 85 81 hcM85 rfl ((decide_eq_false (fun h => hg81 h.1)).symm) hg81
       ·
        refine Wn 1 ?_
        refine Lm 4 90 (.bool (decide ((x.ty = 2 ∧ x.n ≠ 0) ∧ x.n ≠ 1))) ?_ ?_
        ·
         intro hcM90
         refine Gd 86 ?_ ?_ <;> intro hg86
         ·
          refine Wn 4 ?_
          exact Et 5 90 86 hcM90 rfl (decide_eq_decide.2 ⟨fun h => ⟨hg86, h⟩, fun h => h.2⟩) hg86
         refine Wn 4 ?_
         exact Ef 5 90 86 hcM90 rfl ((decide_eq_false (fun h => hg86 h.1)).symm) hg86
        ·
         refine Wn 1 ?_
         exact Ef 9 91 77 hcM91 rfl (decide_eq_decide.2 ⟨.inr, fun h => h.resolve_left hg77⟩) hg77
      ·
       refine Wn 7 ?_
       refine Lo (cP MN (fun _ => Fm x.nm (by omega) _) ?_)
       intro a w hS
       rw [hvn] at hS
       refine Wh 7 hS ?_
       refine Lo (cP MN (fun _ => Fm x.s (by omega) _) ?_)
       refine Wn 4 ?_
       refine Dr 25 [] [.blk b1 (AB c (.slice (some ⟨nb, no, none⟩) c.fx.length fc)) 48, .blk b10 [.string (tx x.nm), .int .i64 x.ty, .int .i64 x.n, .string (tx x.s)] 139, AG W0] ?_
       refine ZR 2 ?_
       intro a w hS
       refine CG 20 (tf 5 20) 102 (.bool (decide (IG x))) hS ?_ ?_
       ·
        intro hcM102
        refine Un hS (Gd 99 ?_ ?_) <;> intro hg99
        ·
         refine ZR 3 ?_
         exact Et 4 102 99 hcM102 rfl ((decide_eq_true hg99).symm) hg99
        refine ZR 3 ?_
        exact Ef 4 102 99 hcM102 rfl ((decide_eq_false hg99).symm) hg99
       ·
        intro a w hS
        refine Un hS (ZR 1 ?_)
        intro a w hS
        refine CG 16 (tf 9 16) 106 (.bool (decide (IG x))) hS ?_ ?_
        ·
         intro hcM106
         refine Un hS (Gd 103 ?_ ?_) <;> intro hg103
         ·
          refine ZR 3 ?_
          exact Et 4 106 103 hcM106 rfl ((decide_eq_true hg103).symm) hg103
         refine ZR 3 ?_
         exact Ef 4 106 103 hcM106 rfl (by rw [hvs hg103]; exact (decide_eq_false hg103).symm) hg103
        ·
         intro a w hS
         refine Un hS (ZR 1 ?_)
         intro a w hS
         refine CG 0 (tf 25 0) 122 (.bool ((decide (IG x) || Cy (A4 c.fx j) x.nm))) hS ?_ ?_
         ·
          intro hcM122
          refine Un hS (Gd 107 ?_ ?_) <;> intro hg107
          ·
           refine ZR 15 ?_
           exact Et 16 122 107 hcM122 rfl (by rw [decide_eq_true hg107]; rfl) hg107
          refine ZR 3 ?_
          intro a w hS
          refine CG 1 (tf 24 1) 121 (.bool (Cy (A4 c.fx j) x.nm)) hS ?_ ?_
          ·
           intro hcM121
           refine Un hS (Gd 110 ?_ ?_) <;> intro hg110
           ·
            have hlast : (A4 c.fx j).getLast? = some p.nm := by
             unfold A4
             rw [List.getLast?_map, List.getLast?_take, if_neg (by omega), hp]; rfl
            refine ZR 1 ?_
            refine Zy rfl (AI rfl Gi.1 (fun w hh => AR (k := 14) (hh (.blk b1 (AB c (.slice (some ⟨nb, no, none⟩) c.fx.length fc)) 48) (by repeat constructor)) rfl)) ?_
            refine ZR 2 ?_
            intro a w hS
            rw [show (j : Int) - 1 = ((j - 1 : Nat) : Int) by omega] at hS
            refine Un hS (ZR 2 ?_)
            refine Zy rfl (AI rfl Af.1 (fun w hh => AF (hh (AG W0) (by repeat constructor)) hpc)) ?_
            refine ZR 2 ?_
            refine Zx rfl (kT rfl rfl) ?_
            refine ZR 1 ?_
            exact Et 12 121 110 hcM121 rfl (by unfold Cy; rw [hlast]) hg110
           refine ZR 11 ?_
           exact Ef 12 121 110 hcM121 rfl (by symm; unfold Cy; rw [show j = 0 by omega]; rfl) hg110
          ·
           intro a w hS
           refine Un hS (ZR 1 ?_)
           exact Ef 6 122 107 hcM122 rfl (by rw [decide_eq_false hg107]; rfl) hg107
         ·
          intro a w hS
          refine Wh 2 hS ?_
          refine iB (fun hc122 => ?_) fun hc122 => ?_
          ·
           refine Wn 6 ?_
           intro a w hS
           refine AD (AC (AC (AD (AC (AD (AD (AC (AC (AD (AC ?_))))))))))
           refine Ro hS Tryz.results58 ?_
           have hnone : BN c.fx [] [] = none := by
            rw [hgo]
            rw [Bool.or_eq_true, decide_eq_true_eq] at hc122
            rcases hc122 with h | h
            · rw [(Nf x).1 h]
            ·
             cases Bu x with
             | none => rfl
             | some y => simp only; rw [if_pos h]
           exact ⟨by rw [show Js c (AE fl) = false from Bool.eq_false_iff.2 (fun h => X3 hfo hap hfm hk2 hnone (HS.1 h))], hS.chg⟩
          refine Wn 8 ?_
          obtain ⟨hb1, hb2⟩ : ¬ IG x ∧ Cy (A4 c.fx j) x.nm = false := by
           rw [Bool.or_eq_false_iff, decide_eq_false_iff_not] at hc122; exact hc122
          obtain ⟨y, hy⟩ : ∃ y, Bu x = some y := by
           cases h : Bu x with
           | none => exact absurd ((Nf x).2 h) hb1
           | some y => exact ⟨y, rfl⟩
          intro a w hS
          refine ⟨j + 1, by omega, hS.sp, by omega, ys ++ [y], ?_⟩
          rw [hgo, hy]
          simp only
          rw [if_neg (by rw [hb2]; decide)]
          unfold A4
          rw [BG hx2, List.map_append]; rfl
  have hfj : ∃ y, BN c.fx [] [] = some y := by
   rw [hgo, List.drop_of_length_le (by omega)]; exact ⟨_, rfl⟩
  refine Wn 1 ?_
  intro a w hS
  refine AH (AH (Aj ?_))
  refine Wh 5 hS ?_
  refine Lo (Sb ?_)
  refine Wn 9 ?_
  have hq := hfj
  intro a w hS
  rw [show ((2 * fi : Nat) : Int) + 2 = ((2 * (fi + 1) : Nat) : Int) by omega] at hS
  have hput : EA fg.f c d2 = d2 := by unfold EA; rw [if_neg (by omega), if_neg (by omega)]
  have hse : Cn (AE (fl.take (fi + 1))) = true := by rw [hsx, hk2]; simp
  refine ⟨(fi + 1, fa, c.fx.length, fc), by show fl.length - (fi + 1) < fl.length - fi; omega, by show St _ _ _ _ _ _ [_, _, .blk b5 (AB (Dy (AE (fl.take (fi + 1))) c (CQ c.kind)) (.slice fa c.fx.length fc)) _, _]; rw [hnx, hput]; exact hS.sp, hfl, ?_, ?_, ?_⟩
  · show c.fx.length = (if Cn (AE (fl.take (fi + 1))) then c.fx else []).length; rw [hse, if_pos rfl]
  · show D9 W0 fa (if Cn (AE (fl.take (fi + 1))) then c.fx else []); rw [hse, if_pos rfl]; exact hF
  · exact fun _ => hq
 obtain rfl : fi = fl.length := by omega
 intro a w hS
 rw [List.take_length] at hS hmf hqF hsn
 obtain ⟨D, hD⟩ : ∃ D : Cd, D = { Dy (AE fl) c (CQ c.kind) with fx := if Cn (AE fl) then c.fx else [] } := ⟨_, rfl⟩
 have hDc : ∀ v, AB (Dy (AE fl) c (CQ c.kind)) v = AB D v := fun v => by rw [hD]; rfl
 have hDf : D.fx = if Cn (AE fl) then c.fx else [] := by rw [hD]
 have hDl : D.fx.length ≤ 1000 := by rw [hDf]; split; omega; exact Nat.zero_le _
 rw [← hDf] at hmf hqF
 subst hmf
 rw [hDc] at hS
 have hiff := SD hfo hap hv hsn
 rw [← hD] at hiff
 refine Wq 1 hS ?_; intro a hS
 refine AH (AH (Aj ?_))
 refine Wh 5 hS ?_
 refine Lo (cP gD (fun hS => QO W0 c D fa qf fc cf (by omega) hDl hF hqF _ hS.od) ?_)
 refine Wn 1 ?_
 refine Lm 5 167 (.bool (HR c D)) ?_ ?_
 ·
  intro hcM167
  refine Gs 162 ?_ ?_ <;> intro hg162
  ·
   refine Wn 5 ?_
   exact Eb 6 167 162 hcM167 rfl (by rw [hg162]; exact decide_eq_true (by omega)) hg162
  refine Wn 5 ?_
  exact Eb 6 167 162 hcM167 rfl (hg162.symm) hg162
 ·
  refine Wn 4 ?_
  intro a w hS
  refine Ro hS Tryz.results58 ?_
  exact ⟨by rw [show HR c D = Js c (AE fl) from Bool.eq_iff_iff.2 (by rw [F6, HS]; exact hiff)], hS.chg⟩
end
def rK (c : Cd) (good : Prop) : Type := (Option Addr × Nat) × { d : Int × Cd // ((d.1 = 0 ∧ Jq c d.2) ↔ good) ∧ d.2.fx.length ≤ 1000 }
def mW (c : Cd) (good : Prop) (x : rK c good) : Value := .tuple [.agg (AB x.2.1.2 (.slice x.1.1 x.2.1.2.fx.length x.1.2)).toArray, .int .i64 x.2.1.1].toArray
def mX (c : Cd) (good : Prop) (x : rK c good) : AT := oR 139 4 x.1.1 x.2.1.2.fx x.1.2 Az
theorem cQ (W0 : World) (c : Cd) (hc : c.ok) (hfx : NV c.fx) (hs : EQ c.fx) (k : Nat) (pa : List UInt8) (fl : List Fg) (hx : DK[k]? = some (pa, fl)) (hk : (k : Int) + 1 = c.kind) (q : Option Addr) (cap : Nat) (s : List UInt8) (ht : EB W0 q cap s) (r : JV) (hp : PJ 3 (vR c (AE fl)) r s) (hok : Cp 3 0 (vR c (AE fl))) (hgi : Lq 3 (vR c (AE fl))) (h64 : s.length ≤ 65536) (w0 : World) (hold : AQ W0 w0) :
 Bb Tryz.prog 59 [.agg [.string (tx Cf), .string (tx pa), .slice q s.length cap, .bool false].toArray] w0 (mW c (II c (AE fl))) (mX c (II c (AE fl))) := by
 obtain ⟨h1, h2, h3⟩ := kS hc hfx hs hx hk hok hp
 obtain ⟨h4, h5⟩ := Nc W0 k pa fl hx q cap s ht _ r hp hok hgi h64 h1 w0 hold
 refine h4.mono ?_
 rintro e w' ⟨p, he, q1, q2, q3⟩
 exact ⟨(p, ⟨(0, _), ⟨⟨fun h => h3.1 h.2, fun h => ⟨rfl, h3.2 h⟩⟩, h2⟩⟩), he, q1, q2, q3⟩
theorem SE {c : Cd} (hk : c.kind = 13 ∨ c.kind = 14) : Jq c (if c.kind = 14 then ((CQ 14).putT 1 (c.t 1)).putN 8 (c.n 8) else (CQ 13).putN 11 (c.n 11)) ↔ CD (Db c) := by
 rcases hk with hk | hk
 ·
  have hk14 : ¬ c.kind = 14 := by omega
  unfold Db
  rw [if_neg hk14, if_neg hk14]
  constructor
  ·
   intro h
   have t := h.t
   have n := h.n
   have hf : c.fx = [] := h.fx
   exact ⟨t 1 (by omega) (by omega), t 2 (by omega) (by omega), t 3 (by omega) (by omega), t 4 (by omega) (by omega), t 5 (by omega) (by omega), t 6 (by omega) (by omega), hf, n 7 (by omega) (by omega), n 8 (by omega) (by omega), n 9 (by omega) (by omega), n 10 (by omega) (by omega), rfl, n 12 (by omega) (by omega), n 13 (by omega) (by omega)⟩
  ·
   rintro ⟨t1, t2, t3, t4, t5, t6, hf, n7, n8, n9, n10, _, n12, n13⟩
   refine ⟨hf, hk, fun i a b => ?_, fun i a b => ?_⟩
   ·
    obtain rfl | rfl | rfl | rfl | rfl | rfl : i = 1 ∨ i = 2 ∨ i = 3 ∨ i = 4 ∨ i = 5 ∨ i = 6 := by omega
    all_goals assumption
   ·
    obtain rfl | rfl | rfl | rfl | rfl | rfl | rfl : i = 7 ∨ i = 8 ∨ i = 9 ∨ i = 10 ∨ i = 11 ∨ i = 12 ∨ i = 13 := by omega
    all_goals first | assumption | rfl
 ·
  unfold Db
  rw [if_pos hk, if_pos hk]
  constructor
  ·
   intro h
   have t := h.t
   have n := h.n
   have hf : c.fx = [] := h.fx
   exact ⟨rfl, t 2 (by omega) (by omega), t 3 (by omega) (by omega), t 4 (by omega) (by omega), t 5 (by omega) (by omega), t 6 (by omega) (by omega), hf, n 7 (by omega) (by omega), rfl, n 9 (by omega) (by omega), n 10 (by omega) (by omega), n 11 (by omega) (by omega), n 12 (by omega) (by omega), n 13 (by omega) (by omega)⟩
  ·
   rintro ⟨_, t2, t3, t4, t5, t6, hf, n7, _, n9, n10, n11, n12, n13⟩
   refine ⟨hf, hk, fun i a b => ?_, fun i a b => ?_⟩
   ·
    obtain rfl | rfl | rfl | rfl | rfl | rfl : i = 1 ∨ i = 2 ∨ i = 3 ∨ i = 4 ∨ i = 5 ∨ i = 6 := by omega
    all_goals first | assumption | rfl
   ·
    obtain rfl | rfl | rfl | rfl | rfl | rfl | rfl : i = 7 ∨ i = 8 ∨ i = 9 ∨ i = 10 ∨ i = 11 ∨ i = 12 ∨ i = 13 := by omega
    all_goals first | assumption | rfl
theorem SF {a b : List UInt8} : 2 ≤ (Am 47 (a ++ 47 :: b)).length := by
 induction a with
 | nil => rw [List.nil_append, show Am 47 (47 :: b) = [] :: Am 47 b from if_pos rfl, List.length_cons]; have := List.length_pos_iff.2 (NX 47 b); omega
 | cons x r ih =>
   rw [List.cons_append]
   unfold Am
   split
   · rw [List.length_cons]; omega
   ·
    split
    · rename_i e; rw [e] at ih; exact absurd ih (by decide)
    · rename_i w ws e; rw [e] at ih; exact ih
theorem Kv (n : Int) : ∀ x ∈ Lib.itoa n, x ≠ (47 : UInt8) := fun x hx e => by
 subst e
 by_cases hn : n < 0
 ·
  have e : Lib.itoa n = 45 :: Lib.decDigits n.natAbs := if_pos hn
  rw [e] at hx
  rcases List.mem_cons.1 hx with h | h
  · cases h
  · exact absurd (of_decide_eq_true (Em _ _ h)) (by decide)
 ·
  have e : Lib.itoa n = Lib.decDigits n.toNat := if_neg hn
  rw [e] at hx
  exact absurd (of_decide_eq_true (Em _ _ hx)) (by decide)
theorem SG {c : Cd} (hc : c.ok) (hk : c.kind = 13 ∨ c.kind = 14) : (((if (CP (Am 47 (Au c).1)).2 then (0 : Int) else 31) = 0 ∧ Jq c (if (CP (Am 47 (Au c).1)).2 then (CP (Am 47 (Au c).1)).1 else CQ 0)) ↔ (Au c).2 = true) ∧ (if (CP (Am 47 (Au c).1)).2 then (CP (Am 47 (Au c).1)).1 else CQ 0).fx = [] := by
 have hsc := SE hk
 have hfx0 : ∀ ws, (if (CP ws).2 then (CP ws).1 else CQ 0).fx = [] := fun ws => by
  have h1 : (CP ws).1.fx = [] := by unfold CP; split; rfl; split <;> rfl
  split
  · exact h1
  · rfl
 refine ⟨?_, hfx0 _⟩
 rcases hk with hk | hk
 ·
  have hk14 : ¬ c.kind = 14 := by omega
  rw [if_neg hk14] at hsc
  obtain ⟨n0, n1⟩ := hc.n 11 (by omega) (by omega)
  have hpa : (Au c).1 = [] ++ 47 :: (NZ ++ 47 :: Lib.itoa (c.n 11)) := by unfold Au; rw [if_neg hk14]; rfl
  have hw : Am 47 (Au c).1 = [[], NZ, Lib.itoa (c.n 11)] := by
   rw [hpa, Ci (fun x h => by cases h), Ci (by decide), ES (Kv _)]
  have hpw : CP [[], NZ, Lib.itoa (c.n 11)] = ((CQ 13).putN 11 (c.n 11), true) := by
   unfold CP
   rw [if_pos ⟨⟨rfl, rfl⟩, rfl⟩, show ([[], NZ, Lib.itoa (c.n 11)] : List (List UInt8)).getD 2 [] = Lib.itoa (c.n 11) from rfl, GX n0 n1]
  rw [hw, hpw]
  rw [if_pos rfl, if_pos rfl, show (Au c).2 = Es (Db c) by unfold Au; rw [if_neg hk14], Fl, ← hsc]
  exact ⟨fun h => h.2, fun h => ⟨rfl, h⟩⟩
 ·
  rw [if_pos hk] at hsc
  obtain ⟨n0, n1⟩ := hc.n 8 (by omega) (by omega)
  have hpa : (Au c).1 = [] ++ 47 :: (J9 ++ 47 :: (c.t 1 ++ 47 :: Lib.itoa (c.n 8))) := by unfold Au; rw [if_pos hk]; simp [J9]
  have h2 : (Au c).2 = (Ba (c.t 1) && Es (Db c)) := by unfold Au; rw [if_pos hk]
  rw [h2, Bool.and_eq_true, Fl, ← hsc]
  by_cases h47 : (47 : UInt8) ∈ c.t 1
  ·
   have hn : Ba (c.t 1) = false := by
    unfold Ba
    rw [Bool.and_eq_false_iff]; right
    rw [Bool.not_eq_false', List.any_eq_true]
    exact ⟨47, h47, by decide⟩
   obtain ⟨a, b, hab, hna⟩ := List.append_of_mem h47 |>.elim fun a h => h.elim fun b h => (⟨a, b, h, trivial⟩ : ∃ a b, c.t 1 = a ++ 47 :: b ∧ True)
   have h5 : 5 ≤ (Am 47 (Au c).1).length := by
    rw [hpa, Ci (fun x h => by cases h), Ci (by decide), List.length_cons, List.length_cons, hab]
    have : 3 ≤ (Am 47 (a ++ 47 :: b ++ 47 :: Lib.itoa (c.n 8))).length := by
     clear hna hab h2 hpa hsc hn
     induction a with
     | nil =>
       rw [List.nil_append, List.cons_append, show Am 47 (47 :: (b ++ 47 :: Lib.itoa (c.n 8))) = [] :: Am 47 (b ++ 47 :: Lib.itoa (c.n 8)) from if_pos rfl, List.length_cons]
       have := SF (a := b) (b := Lib.itoa (c.n 8)); omega
     | cons x r ih =>
       rw [List.cons_append, List.cons_append]
       unfold Am
       split
       · rw [List.length_cons]; omega
       ·
        split
        · rename_i e; rw [e] at ih; exact absurd ih (by decide)
        · rename_i w ws e; rw [e] at ih; exact ih
    omega
   have hpw : CP (Am 47 (Au c).1) = (CQ 0, false) := by
    unfold CP
    rw [if_neg (fun h => by have := h.1.1; omega), if_neg (fun h => by have := h.1.1; omega)]
   rw [hpw, hn]
   simp
  ·
   have hw : Am 47 (Au c).1 = [[], J9, c.t 1, Lib.itoa (c.n 8)] := by
    rw [hpa, Ci (fun x h => by cases h), Ci (by decide), Ci (fun x h e => h47 (by rw [← e]; exact h)), ES (Kv _)]
   have hpw : CP [[], J9, c.t 1, Lib.itoa (c.n 8)] = (((CQ 14).putT 1 (c.t 1)).putN 8 (c.n 8), Ba (c.t 1)) := by
    unfold CP
    rw [if_neg (fun h => absurd h.1.1 (show ¬ (4 : Nat) = 3 by decide)), if_pos ⟨⟨rfl, rfl⟩, rfl⟩, show ([[], J9, c.t 1, Lib.itoa (c.n 8)] : List (List UInt8)).getD 3 [] = Lib.itoa (c.n 8) from rfl, show ([[], J9, c.t 1, Lib.itoa (c.n 8)] : List (List UInt8)).getD 2 [] = c.t 1 from rfl, GX n0 n1]
    rfl
   rw [hw, hpw]
   simp only
   cases Ba (c.t 1) <;> simp
theorem Ox {c : Cd} (hk : c.kind = 13 ∨ c.kind = 14) : (Au c).1 ≠ Jc ∧ ∀ (k : Nat) (x : List UInt8 × List Fg), DK[k]? = some x → x.1 ≠ (Au c).1 := by
 have h : Lib.hasPrefix (Au c).1 IF = true ∨ Lib.hasPrefix (Au c).1 Jb = true := by
  rcases hk with hk | hk
  ·
   left
   have hk14 : ¬ c.kind = 14 := by omega
   unfold Au; rw [if_neg hk14]
   exact (QK IF (Lib.itoa (c.n 11))).1
  ·
   right
   unfold Au; rw [if_pos hk]
   have := (QK Jb (c.t 1 ++ [47] ++ Lib.itoa (c.n 8))).1
   simpa [Jb] using this
 constructor
 ·
  intro e
  rw [e, Hr.1, Hr.2] at h
  rcases h with h | h <;> cases h
 ·
  intro k x hx e
  obtain ⟨h1, h2, _⟩ := Je x.1 (List.mem_map.2 ⟨_, List.mem_of_getElem? hx, rfl⟩)
  rw [e] at h1 h2
  rw [h1, h2] at h
  rcases h with h | h <;> cases h
theorem SH {c : Cd} (hc : c.ok) : (Au c).1.length ≤ 1200000 := by
 unfold Au
 split
 ·
  obtain ⟨n0, n1⟩ := hc.n 8 (by omega) (by omega)
  have h2 := Bp n0 n1
  have h1 := hc.t 1 (by omega) (by omega)
  simp only [List.length_append, List.length_cons, List.length_nil]
  omega
 ·
  obtain ⟨n0, n1⟩ := hc.n 11 (by omega) (by omega)
  have h2 := Bp n0 n1
  simp only [List.length_append, List.length_cons, List.length_nil]
  omega
theorem Y5 (c : Cd) (hc : c.ok) (hk : c.kind = 13 ∨ c.kind = 14) (w0 : World) :
 Bb Tryz.prog 59 [.agg [.string (tx L2), .string (tx (Au c).1), .slice none 0 0, .bool false].toArray] w0 (mW c ((Au c).2 = true)) (mX c ((Au c).2 = true)) := by
 obtain ⟨h1, h2⟩ := Ox hk
 obtain ⟨h3, h4⟩ := SG hc hk
 have h := Ow (Au c).1 (SH hc) h1 h2 w0
 generalize (if (CP (Am 47 (Au c).1)).2 then (CP (Am 47 (Au c).1)).1 else CQ 0) = D at h h3 h4
 generalize (if (CP (Am 47 (Au c).1)).2 then (0 : Int) else 31) = e at h h3
 refine h.mono ?_
 rintro en w' ⟨he, hch⟩
 refine ⟨((none, 0), ⟨(e, D), h3, by rw [h4]; exact Nat.zero_le _⟩), ?_, hch, ?_, fun b hb => ?_⟩
 ·
  show en = Ending.returned (Value.tuple [.agg (AB D (.slice none D.fx.length 0)).toArray, .int .i64 e].toArray)
  rw [h4]; exact he
 ·
  show (AJ _ 4 (.slice none D.fx.length 0) D.fx.length (D.fx.flatMap Az)).ok w'
  rw [h4]; exact LA w' 139 4
 ·
  have hb : (oR 139 4 none D.fx 0 Az).F b := hb
  simp [AJ, AT.F, Value.ownBlock] at hb
theorem Kw {c : Cd} {k : Nat} {pa : List UInt8} {fl : List Fg} (hx : DK[k]? = some (pa, fl)) (hk : (k : Int) + 1 = c.kind) : Xf c ↔ II c (AE fl) ∧ Cp 3 0 (vR c (AE fl)) := by
 have hm := List.mem_of_getElem? hx
 constructor
 ·
  rintro ⟨k2, p2, fl2, v, c', hx2, hk2, h3, h4, h5⟩
  obtain rfl : k2 = k := by omega
  rw [hx] at hx2; injection hx2 with hx2; injection hx2 with _ hx2; subst hx2
  obtain ⟨rfl, _⟩ := HP (Cm hm) (Ds _ hm) h3
  exact ⟨⟨_, c', h3, h4⟩, h5⟩
 ·
  rintro ⟨⟨v, c', h3, h4⟩, h5⟩
  obtain ⟨rfl, _⟩ := HP (Cm hm) (Ds _ hm) h3
  exact ⟨k, pa, fl, _, c', hx, hk, h3, h4, h5⟩
def KB (c : Cd) (e : Int) : Prop := Xh c e ∧ ∀ me pa s, ¬ QJ c me pa s
theorem Y6 {c : Cd} {me pa s : List UInt8} {k : Nat} {pa2 : List UInt8} {fl : List Fg} (hx : DK[k]? = some (pa2, fl)) (hk : (k : Int) + 1 = c.kind) (h : QJ c me pa s) : II c (AE fl) ∧ Cp 3 0 (vR c (AE fl)) ∧ BY 3 (vR c (AE fl)) ≤ 32768 := by
 have hk12 : k < 12 := (List.getElem?_eq_some_iff.1 hx).1
 rcases h with ⟨_, v, r, k2, fl2, c', h⟩ | ⟨_, hk2, _⟩
 ·
  have hk2 := h.kd
  obtain rfl : k2 = k := by omega
  have hx2 := h.x
  rw [hx] at hx2; injection hx2 with hx2; injection hx2 with _ hx2; subst hx2
  have hm := List.mem_of_getElem? hx
  obtain ⟨rfl, _⟩ := HP (Cm hm) (Ds _ hm) h.q
  have hl : s.length = BY 3 (vR c (AE fl)) := FG _ _ _ _ h.p
  have hn := h.n
  exact ⟨⟨_, c', h.q, h.e⟩, h.f, by omega⟩
 · omega
theorem SI {c : Cd} (h : ¬ (1 ≤ c.kind ∧ c.kind ≤ 14)) : KB c 7 := ⟨.inl ⟨rfl, h⟩, fun me pa s ho => by
  rcases ho with ⟨_, v, r, k2, fl2, c', h2⟩ | ⟨_, hk2, _⟩
  · have hk12 : k2 < 12 := (List.getElem?_eq_some_iff.1 h2.x).1
    have := h2.kd
    omega
  · omega⟩
theorem Ht {c : Cd} {k : Nat} {pa : List UInt8} {fl : List Fg} (hx : DK[k]? = some (pa, fl)) (hk : (k : Int) + 1 = c.kind) (h : ¬ (II c (AE fl) ∧ Cp 3 0 (vR c (AE fl)))) : KB c 10 := by
 have hk12 : k < 12 := (List.getElem?_eq_some_iff.1 hx).1
 exact ⟨.inr ⟨by omega, .inl ⟨rfl, fun hg => h ((Kw hx hk).1 hg)⟩⟩, fun me pa s ho => by
   obtain ⟨h1, h2, _⟩ := Y6 hx hk ho
   exact h ⟨h1, h2⟩⟩
theorem Kx {c : Cd} {k : Nat} {pa : List UInt8} {fl : List Fg} (hx : DK[k]? = some (pa, fl)) (hk : (k : Int) + 1 = c.kind) (h1 : II c (AE fl)) (h2 : Cp 3 0 (vR c (AE fl))) (h3 : 32768 < BY 3 (vR c (AE fl))) : KB c 8 := by
 have hk12 : k < 12 := (List.getElem?_eq_some_iff.1 hx).1
 exact ⟨.inr ⟨by omega, .inr ⟨rfl, (Kw hx hk).2 ⟨h1, h2⟩⟩⟩, fun me pa s ho => by
   have : BY 3 (vR c (AE fl)) ≤ 32768 := (Y6 hx hk ho).2.2
   omega⟩
theorem Ng {c : Cd} (hk : c.kind = 13 ∨ c.kind = 14) (h : ¬ (Au c).2 = true) : KB c 10 := by
 refine ⟨.inr ⟨by omega, .inl ⟨rfl, NL fun j hj => by omega⟩⟩, fun me pa s ho => ?_⟩
 rcases ho with ⟨_, v, r, k2, fl2, c', h2⟩ | ⟨_, _, _, h2, _⟩
 ·
  have hk12 : k2 < 12 := (List.getElem?_eq_some_iff.1 h2.x).1
  have := h2.kd
  omega
 · exact h h2
theorem cT {c : Cd} {k : Nat} {pa s : List UInt8} {fl : List Fg} {r : JV} (hx : DK[k]? = some (pa, fl)) (hk : (k : Int) + 1 = c.kind) (h1 : II c (AE fl)) (h2 : Cp 3 0 (vR c (AE fl))) (hp : PJ 3 (vR c (AE fl)) r s) (hn : s.length ≤ 32768) : QJ c Cf pa s := by
 have hm := List.mem_of_getElem? hx
 obtain ⟨v, c', h3, h4⟩ := h1
 obtain ⟨rfl, _⟩ := HP (Cm hm) (Ds _ hm) h3
 exact .inl ⟨rfl, _, r, k, fl, c', hx, hk, h3, h4, h2, hp, hn⟩
def qK (c : Cd) : Type := { x : (Option Addr × Nat) × List UInt8 × List UInt8 × List UInt8 // QJ c x.2.1 x.2.2.1 x.2.2.2 } ⊕ { e : Int // e ≠ 0 ∧ KB c e }
def rL (c : Cd) : qK c → Value
 | .inl x => .tuple [.agg [.string (tx x.1.2.1), .string (tx x.1.2.2.1), .slice x.1.1.1 x.1.2.2.2.length x.1.1.2, .bool false].toArray, .int .i64 0].toArray
 | .inr e => .tuple [.agg [.string ⟨#[]⟩, .string ⟨#[]⟩, .slice none 0 0, .bool false].toArray, .int .i64 e.1].toArray
def mY (c : Cd) : qK c → AT
 | .inl x => Ly (.slice x.1.1.1 x.1.2.2.2.length x.1.1.2) (Br x.1.2.2.2)
 | .inr _ => A7
theorem VX (x : B5) : A5 x = .mk (A5 x).k (A5 x).t [] [] := by unfold A5; split; rfl; split <;> rfl
theorem L8 : ∀ w, (Ly (.slice none 0 0) []).ok w := fun w => ⟨fun b h => (by cases h), fun w' _ => .inl ⟨rfl, _, _, rfl⟩⟩
theorem X4 {n : Nat} {v : JV} (r : qH n v) : ∃ (q : Option Addr) (m c : Nat) (e : Int), rH n v r = .tuple [.slice q m c, .int .i64 e].toArray ∧
 ((e = 0 ∧ ∃ x : { x : (Nat × Nat) × JV × List UInt8 // Cp n 0 v ∧ PJ n v x.2.1 x.2.2 ∧ x.2.2.length ≤ 65536 ∧ x.2.2.length ≤ x.1.2 }, r = .inl x ∧ q = some ⟨x.1.1.1, 0, none⟩ ∧ m = x.1.2.2.length ∧ c = x.1.1.2) ∨ (e ≠ 0 ∧ ((e ≠ 8 ∧ ¬ Cp n 0 v) ∨ (e = 8 ∧ Cp n 0 v ∧ 65536 < BY n v)))) := by
 rcases r with x | x
 · exact ⟨_, _, _, 0, rfl, .inl ⟨rfl, x, rfl, rfl, rfl, rfl⟩⟩
 · exact ⟨none, 0, 0, x.1, rfl, .inr x.2⟩
theorem QP {c : Cd} {fs : List Fd} (h : Cp 3 0 (vR c fs)) {f : Fd} (hf : f ∈ fs) : Cp 2 1 (B9 f c) := by
 have e : vR c fs = .mk 6 [] (fs.map Fd.nm) (fs.map fun f => B9 f c) := DX _ _ _
 rw [e] at h
 exact (h.2.2 rfl).2.2.2.2.2 _ (List.mem_map.2 ⟨f, hf, rfl⟩)
theorem VY {c : Cd} {fs : List Fd} (h : Cp 3 0 (vR c fs)) : (∀ f ∈ fs, f.kd = 0 → Lib.validD (c.t f.off) = true) ∧ ∀ f ∈ fs, f.kd = 2 → ∀ x ∈ c.fx, Lib.validD x.nm = true ∧ (¬ IG x → Lib.validD x.s = true) := by
 constructor
 ·
  intro f hf h0
  have ho := QP h hf
  unfold B9 at ho
  rw [if_pos h0] at ho
  exact ho.2.1 rfl
 ·
  intro f hf h2 x hx
  have ho := QP h hf
  have e : B9 f c = .mk 6 [] (c.fx.map B5.nm) (c.fx.map A5) := by unfold B9; rw [if_neg (by omega), if_neg (by omega)]; exact DX _ _ _
  rw [e] at ho
  obtain ⟨h1, _, _, _, _, h6⟩ := ho.2.2 rfl
  refine ⟨h1 _ (List.mem_map.2 ⟨x, hx, rfl⟩), fun hb => ?_⟩
  have h7 := h6 _ (List.mem_map.2 ⟨x, hx, rfl⟩)
  unfold IG at hb
  by_cases h3 : x.ty = 3
  ·
   unfold A5 at h7
   rw [if_neg (by omega), if_neg (by omega)] at h7
   exact h7.2.1 rfl
  ·
   have hs : tx x.s = ⟨#[]⟩ := Classical.byContradiction fun h => hb (.inl (.inr ⟨h3, h⟩))
   rw [EN.1 hs]; rfl
theorem VZ {W0 w : World} {fa : Option Addr} {fs : List B5} (h : D9 W0 fa fs) (ho : AQ W0 w) : D9 w fa fs := ⟨fun hne => by
  obtain ⟨nb, no, e, h1⟩ := h.c hne
  exact ⟨nb, no, e, fun i x hx j u hu => AF ho (h1 i x hx j u hu)⟩⟩
theorem Jt {E m : Nat} {q : Option Addr} {c : Nat} {fs : List B5} {w : World} (h : (AJ E 4 (.slice q m c) fs.length (fs.flatMap Az)).ok w) : D9 w q fs := ⟨fun hne => by
  have h2 := Fw (enc := Az) (fun _ => rfl) h
  rcases h2 with ⟨h3, _⟩ | ⟨b, off, c', _, e, hr, _⟩
  · exact absurd (List.map_eq_nil_iff.1 h3) hne
  · injection e with e _ _
    refine ⟨b, off, e, fun i x hx j u hu => ?_⟩
    exact hr i (Az x) (by rw [List.getElem?_map, hx]; rfl) j u hu⟩
theorem Ju (W0 : World) (c : Cd) (hc : c.ok) (hfx : NV c.fx) (hs : EQ c.fx) (htt : KA c ≤ 1048576) (fa : Option Addr) (fc : Nat) (hF : D9 W0 fa c.fx) (w0 : World) (hold : AQ W0 w0) :
 Bb Tryz.prog 17 [.agg (AB c (.slice fa c.fx.length fc)).toArray] w0 (rL c) (mY c) := by
 have h110 := hs.1
 refine Ew Ai Tryz.func17 Tryz.ntmps17 hold ?_
 intro a hS
 refine Wh 2 hS ?_
 refine Lo (Bx ?_); intro b1
 refine Lo (Al ?_); intro b2
 refine Wn 10 ?_
 refine Lm 4 24 (.bool (decide (c.kind < 1 ∨ 14 < c.kind))) ?_ ?_
 ·
  intro hcM24
  refine Gd 20 ?_ ?_ <;> intro hg20
  ·
   refine Wn 4 ?_
   exact Et 5 24 20 hcM24 rfl ((decide_eq_true (.inl hg20)).symm) hg20
  refine Wn 4 ?_
  exact Ef 5 24 20 hcM24 rfl (decide_eq_decide.2 ⟨.inr, fun h => h.resolve_left hg20⟩) hg20
 ·
  refine Wn 2 ?_
  refine iD (fun hc24 => ?_) fun hc24 => ?_
  ·
   refine Wn 3 ?_
   refine Lo (Sa ?_)
   refine Wn 5 ?_
   intro a w hS
   refine Rm hS Tryz.results17 ?_
   exact ⟨.inr ⟨7, by decide, SI (by omega)⟩, rfl, hS.chg, AL _, fun b h => h.elim⟩
  refine Wn 5 ?_
  refine Lo (Al ?_); intro b4
  refine Lo (Sa ?_)
  refine Wn 2 ?_
  intro a w hS
  refine C1 (fun a w => ∃ (me pa s : List UInt8) (q : Option Addr) (cap : Nat) (good : Prop), St 188 Ai w0 a w [(4, .pointer (some ⟨b4, 0, none⟩)), (1, .pointer (some ⟨b1, 0, none⟩)), (2, .pointer (some ⟨b2, 0, none⟩))] [.blk b4 [.string (tx me), .string (tx pa), .slice q s.length cap, .bool false] 51, Ly (.slice q s.length cap) (Br s), .blk b1 (AB c (.slice fa c.fx.length fc)) 48, .blk b2 [.string ⟨#[]⟩, .string ⟨#[]⟩, .slice none 0 0, .bool false] 51, AG W0] ∧ (∀ w', CL (.slice q s.length cap) (Br s) w' → Bb Tryz.prog 59 [.agg [.string (tx me), .string (tx pa), .slice q s.length cap, .bool false].toArray] w' (mW c good) (mX c good)) ∧ (good → s.length ≤ 32768 → QJ c me pa s) ∧ (¬ good → KB c 10) ∧ (good → 32768 < s.length → KB c 8)) ?_ ?_
  ·
   refine Wh 13 hS ?_
   refine iD (fun hc148 => ?_) fun hc148 => ?_
   ·
    have hk13 : c.kind = 13 := hc148
    have hk14 : ¬ c.kind = 14 := by omega
    have hz := hc.n 11 (by omega) (by omega)
    have hpe : [47, 105, 110, 118, 111, 105, 99, 101, 115, 47] ++ Lib.itoa (c.n 11) = (Au c).1 := by unfold Au; rw [if_neg hk14]
    have h20 := Bp hz.1 hz.2
    refine Wn 3 ?_
    refine Lo (cN ZY (fun _ => LH (c.n 11) hz _) ?_); intro x152
    refine Lo (cP ZZ (fun hS => FN (c.n 11) hz x152.1.1 x152.1.2 _ (hS.ok (J1 (c.n 11) x152.1.1) (by repeat constructor))) ?_)
    refine Xp (DL (i := [47, 105, 110, 118, 111, 105, 99, 101, 115, 47]) rfl rfl (by simp only [List.length_cons, List.length_nil]; omega)) ?_
    intro a w hS
    rw [hpe] at hS
    refine Wh 1 hS ?_
    refine Lo (Sb ?_)
    refine Wn 2 ?_
    intro a w hS
    exact ⟨L2, (Au c).1, [], none, 0, (Au c).2 = true, ((hS.more (Y := Ly (.slice none 0 0) []) (L8 w) (fun b h => by cases h)).sq).pk, fun w' _ => Y5 c hc (.inl hk13) w', fun h _ => .inr ⟨rfl, .inl hk13, rfl, h, rfl⟩, fun h => Ng (.inl hk13) h, fun _ h => absurd h (by decide)⟩
   refine Wn 6 ?_
   refine iD (fun hc156 => ?_) fun hc156 => ?_
   ·
    have hk14 : c.kind = 14 := hc156
    have hz := hc.n 8 (by omega) (by omega)
    have hpe : [47, 98, 97, 108, 97, 110, 99, 101, 115, 47] ++ c.t 1 ++ [47] ++ Lib.itoa (c.n 8) = (Au c).1 := by unfold Au; rw [if_pos hk14]
    have h20 := Bp hz.1 hz.2
    have h1l := hc.t 1 (by omega) (by omega)
    refine Dr 11 [10] [.blk b1 (AB c (.slice fa c.fx.length fc)) 48] ?_
    refine ZR 2 ?_
    refine Zx rfl (DL (i := [47, 98, 97, 108, 97, 110, 99, 101, 115, 47]) rfl rfl (by simp only [List.length_cons, List.length_nil]; omega)) ?_
    refine Zx rfl (DL (j := [47]) rfl rfl (by simp only [List.length_append, List.length_cons, List.length_nil]; omega)) ?_
    refine ZR 2 ?_
    refine Z0 rfl (cN ZY (fun _ => LH (c.n 8) hz _) ?_); intro x164
    refine Za ?_
    refine Z0 rfl (cP ZZ (fun hS => FN (c.n 8) hz x164.1.1 x164.1.2 _ (hS.ok (J1 (c.n 8) x164.1.1) (by repeat constructor))) ?_)
    refine Za ?_
    refine Zx rfl (DL rfl rfl (by simp only [List.length_append, List.length_cons, List.length_nil]; omega)) ?_
    intro a w hS
    rw [hpe] at hS
    refine Un hS (ZR 1 ?_)
    refine Z0 rfl (Sb ?_)
    refine Zl ?_
    refine Wn 2 ?_
    intro a w hS
    exact ⟨L2, (Au c).1, [], none, 0, (Au c).2 = true, ((hS.more (Y := Ly (.slice none 0 0) []) (L8 w) (fun b h => by cases h)).sq).pk, fun w' _ => Y5 c hc (.inr hk14) w', fun h _ => .inr ⟨rfl, .inr hk14, rfl, h, rfl⟩, fun h => Ng (.inr hk14) h, fun _ h => absurd h (by decide)⟩
   obtain ⟨k, hkd, hk12⟩ : ∃ k : Nat, (k : Int) + 1 = c.kind ∧ k < 12 := ⟨(c.kind - 1).toNat, by omega, by omega⟩
   obtain ⟨⟨pa, fl⟩, hx⟩ := Hn hk12
   have hxm := List.mem_of_getElem? hx
   have hfo : ∀ f ∈ AE fl, f.ok := Cm hxm
   have hoff := U7 _ hxm
   have hwl := Ot fl
   have hfn : fl.length ≤ 1000 := (Hm _ hxm).n
   have hcut := Lw 32 (Eu (Ac fl)) (L3 _ hxm)
   rw [Jk _ hxm] at hcut
   obtain ⟨g1, g2, g3⟩ := kR hc hfx hs htt hx
   simp only at g1 g2 g3
   refine Wn 2 ?_
   refine Lo (cN V3 (fun _ => F4 _) ?_); intro x29
   refine Wn 6 ?_
   refine Lo (Sb ?_)
   refine Wn 8 ?_
   intro a w hS
   rw [show c.kind - 1 = (k : Int) by omega] at hS
   refine Wh 2 hS ?_
   refine Xp (AI rfl Af.1 (fun w hh => by have := AR (hh (.blk x29 DM 128) (by repeat constructor)) (Dl hx 0 _ rfl); rw [show k * 3 + 0 = 0 + k * 3 by omega] at this; exact this)) ?_
   refine Wn 1 ?_
   refine Lo (Sb ?_)
   refine Wn 8 ?_
   intro a w hS
   rw [show c.kind - 1 = (k : Int) by omega] at hS
   refine Wh 2 hS ?_
   refine Xp (AI rfl Af.1 (fun w hh => by have := AR (hh (.blk x29 DM 128) (by repeat constructor)) (Dl hx 2 _ rfl); rw [show k * 3 + 2 = 0 + k * 3 + 2 by omega] at this; exact this)) ?_
   refine Lo (cN V4 (fun _ => hcut _) ?_); intro x46
   obtain ⟨qw, cw⟩ := x46
   intro a w hS
   simp only at hS
   refine Wh 6 hS ?_
   refine Lo (Al ?_); intro b7
   refine Lo (Sa ?_)
   refine Wn 9 ?_
   intro a w hS
   refine AW (γ := List JX × (Option Addr × Nat) × (Option Addr × Nat)) (fun G a w => St 188 Ai w0 a w [(8, .int .i64 ((2 * G.1.length : Nat) : Int)), (6, .slice qw (Ac fl).length cw), (7, .pointer (some ⟨b7, 0, none⟩)), (4, .pointer (some ⟨b4, 0, none⟩)), (1, .pointer (some ⟨b1, 0, none⟩)), (2, .pointer (some ⟨b2, 0, none⟩))] [oR 132 4 G.2.1.1 G.1 G.2.1.2 JX.cs, oR 9 1 G.2.2.1 (Ce fl G.1.length) G.2.2.2 AM, As 2 G.1, .blk b7 [.int .i64 6, .string ⟨#[]⟩, .slice G.2.1.1 G.1.length G.2.1.2, .slice G.2.2.1 (Ce fl G.1.length).length G.2.2.2] 132, oR 9 1 qw (Ac fl) cw AM, .blk b1 (AB c (.slice fa c.fx.length fc)) 48, .blk b4 [.string (tx Cf), .string (tx pa), .slice none 0 0, .bool false] 51, .blk b2 [.string ⟨#[]⟩, .string ⟨#[]⟩, .slice none 0 0, .bool false] 51, AG W0] ∧ G.1.length ≤ fl.length ∧ G.1.map JX.v = (fl.take G.1.length).map fun x => B9 x.f c) (fun G => fl.length - G.1.length) ([], (none, 0), (none, 0)) ⟨((((hS.own_nil 9 1).own_nil 132 4).more (Y := As 2 []) (D5 (fun x hx => by cases hx)) (fun b ⟨x, hx, _⟩ => by cases hx)).sq).pk, Nat.zero_le _, rfl⟩ ?_
   intro G a w hI
   obtain ⟨kids, ⟨ql, cl⟩, ⟨qn, cn⟩⟩ := G
   obtain ⟨hS, hfi, hkv⟩ := hI
   simp only at hS hfi hkv
   obtain ⟨ns, hns⟩ : ∃ ns, Ce fl kids.length = ns := ⟨_, rfl⟩
   have hnl : ns.length = kids.length := by rw [← hns]; unfold Ce; rw [List.length_map, List.length_take]; omega
   rw [hns] at hS
   refine Wh 9 hS ?_
   refine iD (fun hc51 => ?_) fun hc51 => ?_
   ·
    have hfl : kids.length < fl.length := by omega
    obtain ⟨fg, hfg⟩ : ∃ x, fl[kids.length]? = some x := ⟨_, List.getElem?_eq_getElem hfl⟩
    have hfm : fg.f ∈ AE fl := List.mem_map.2 ⟨fg, List.mem_of_getElem? hfg, rfl⟩
    obtain ⟨hz1, hz2⟩ := VQ hfg
    obtain ⟨k0, k1⟩ := VC fg.f.kd
    have hfd := hfo _ hfm
    obtain ⟨ho0, ho1⟩ := hoff _ hfm
    have hnn : Ce fl (kids.length + 1) = ns ++ [fg.f.nm] := by rw [F3 hfg, hns]
    intro a w hS
    obtain ⟨g, rfl⟩ := Dv (hS.gg (X := oR 9 1 qw (Ac fl) cw AM)) (by omega)
    refine Wq 9 hS ?_; intro a hS
    rw [show ((2 * kids.length : Nat) : Int) + 1 = ((2 * kids.length + 1 : Nat) : Int) by omega] at hS
    refine Wh 1 hS ?_
    refine Xp (AI rfl Af.1 (fun w hh => Aq (hh (oR 9 1 (some ⟨g, 0, none⟩) (Ac fl) cw AM) (by repeat constructor)) hz2)) ?_
    refine Wn 9 ?_
    refine iD (fun hc101 => ?_) fun hc101 => ?_
    ·
     have hk0 : fg.f.kd = 0 := k0.1 hc101
     have hto := hfd.t hk0
     have hvz : B9 fg.f c = Fb (c.t fg.f.off) := by unfold B9; rw [if_pos hk0]
     intro a w hS
     obtain ⟨xj, hxj, hxl⟩ : ∃ xj : JX, xj = E9 4 (c.t fg.f.off) ∧ ∀ w, (Be 2 xj).ok w := ⟨_, rfl, CH 1 4 _⟩
     have hxv : xj.v = B9 fg.f c := by rw [hxj, hvz]; rfl
     have hxF : ∀ b, (Be 2 xj).F b → False := fun b hb => by subst hxj; exact hb
     refine Un hS (Dr 14 [13] [.blk b7 [.int .i64 6, .string ⟨#[]⟩, .slice ql kids.length cl, .slice qn ns.length cn] 132, .blk b1 (AB c (.slice fa c.fx.length fc)) 48, oR 9 1 (some ⟨g, 0, none⟩) (Ac fl) cw AM] ?_)
     refine ZR 4 ?_
     refine Zy rfl (AI rfl Af.1 (fun w hh => Aq (hh (oR 9 1 (some ⟨g, 0, none⟩) (Ac fl) cw AM) (by repeat constructor)) hz1)) ?_
     refine ZR 4 ?_
     refine Zy rfl (AI rfl Af.1 (fun w hh => Aq (hh (oR 9 1 (some ⟨g, 0, none⟩) (Ac fl) cw AM) (by repeat constructor)) hz1)) ?_
     refine Z0 rfl (cP fZ (fun _ => QF c fa c.fx.length fc (tx fg.f.nm) _) ?_)
     intro a w hS
     rw [ho0 hk0] at hS
     refine Un hS (Za ?_)
     refine Z0 rfl (cP gA (fun _ => Kb (tx (c.t fg.f.off)) _) ?_)
     refine Za ?_
     refine Z0 rfl (cN Sz (@fun a w hS => E7 w 6 [] ql qn cl cn ns kids fg.f.nm (E9 4 (c.t fg.f.off)) 4 (tx (c.t fg.f.off)) none none 0 0 0 0 rfl (by omega) (by omega) (DV (hS.gg (X := oR 132 4 ql kids cl JX.cs)) JX.len rfl) (DV (hS.gg (X := oR 9 1 qn ns cn AM)) (fun _ => rfl) rfl) _ (Ax w)) ?_); intro x115
     obtain ⟨⟨ql2, cl2⟩, qn2, cn2⟩ := x115
     intro a w hS
     rw [← hxj] at hS
     simp only at hS
     replace hS := (hS.pk (Γ' := [C5 (oR 132 4 ql2 (kids ++ [xj]) cl2 JX.cs) (oR 9 1 qn2 (ns ++ [fg.f.nm]) cn2 AM), As 2 kids, .blk b7 [.int .i64 6, .string ⟨#[]⟩, .slice ql kids.length cl, .slice qn ns.length cn] 132, oR 9 1 (some ⟨g, 0, none⟩) (Ac fl) cw AM, .blk b1 (AB c (.slice fa c.fx.length fc)) 48, .blk b4 [.string (tx Cf), .string (tx pa), .slice none 0 0, .bool false] 51, .blk b2 [.string ⟨#[]⟩, .string ⟨#[]⟩, .slice none 0 0, .bool false] 51, AG W0])).unduo
     refine Un hS (Za ?_)
     refine Z0 rfl (Sa ?_)
     refine Zl ?_
     refine Wn 9 ?_
     have hl1 : (kids ++ [xj]).length = kids.length + 1 := by simp
     have hv2 : (kids ++ [xj]).map JX.v = (fl.take (kids ++ [xj]).length).map fun x => B9 x.f c := by rw [hl1, BG hfg, List.map_append, List.map_append, hkv, List.map_singleton, hxv]; rfl
     intro a w hS
     replace hS := CA ((hS.more (Y := Be 2 xj) (hxl w) hxF).pk (Γ' := [Be 2 xj, As 2 kids, oR 132 4 ql2 (kids ++ [xj]) cl2 JX.cs, oR 9 1 qn2 (ns ++ [fg.f.nm]) cn2 AM, .blk b7 [.int .i64 6, .string ⟨#[]⟩, .slice ql2 (kids ++ [xj]).length cl2, .slice qn2 (ns ++ [fg.f.nm]).length cn2] 132, oR 9 1 (some ⟨g, 0, none⟩) (Ac fl) cw AM, .blk b1 (AB c (.slice fa c.fx.length fc)) 48, .blk b4 [.string (tx Cf), .string (tx pa), .slice none 0 0, .bool false] 51, .blk b2 [.string ⟨#[]⟩, .string ⟨#[]⟩, .slice none 0 0, .bool false] 51, AG W0]))
     rw [← hnn, ← hl1, show ((2 * kids.length : Nat) : Int) + 2 = ((2 * (kids ++ [xj]).length : Nat) : Int) by rw [hl1]; omega] at hS
     exact ⟨(kids ++ [xj], (ql2, cl2), (qn2, cn2)), by show fl.length - (kids ++ [xj]).length < fl.length - kids.length; omega, hS.sp, by show (kids ++ [xj]).length ≤ fl.length; omega, hv2⟩
    refine Wn 6 ?_
    refine iD (fun hc116 => ?_) fun hc116 => ?_
    ·
     have hk1 : fg.f.kd = 1 := k1.1 hc116
     have hno := hfd.n hk1
     have hz := hc.n fg.f.off hno.1 hno.2
     have hvz : B9 fg.f c = DI (Lib.itoa (c.n fg.f.off)) := by unfold B9; rw [if_neg (by omega), if_pos hk1]
     intro a w hS
     obtain ⟨xj, hxj, hxl⟩ : ∃ xj : JX, xj = E9 3 (Lib.itoa (c.n fg.f.off)) ∧ ∀ w, (Be 2 xj).ok w := ⟨_, rfl, CH 1 3 _⟩
     have hxv : xj.v = B9 fg.f c := by rw [hxj, hvz]; rfl
     have hxF : ∀ b, (Be 2 xj).F b → False := fun b hb => by subst hxj; exact hb
     refine Un hS (Dr 14 [13] [.blk b7 [.int .i64 6, .string ⟨#[]⟩, .slice ql kids.length cl, .slice qn ns.length cn] 132, .blk b1 (AB c (.slice fa c.fx.length fc)) 48, oR 9 1 (some ⟨g, 0, none⟩) (Ac fl) cw AM] ?_)
     refine ZR 4 ?_
     refine Zy rfl (AI rfl Af.1 (fun w hh => Aq (hh (oR 9 1 (some ⟨g, 0, none⟩) (Ac fl) cw AM) (by repeat constructor)) hz1)) ?_
     refine ZR 4 ?_
     refine Zy rfl (AI rfl Af.1 (fun w hh => Aq (hh (oR 9 1 (some ⟨g, 0, none⟩) (Ac fl) cw AM) (by repeat constructor)) hz1)) ?_
     refine Z0 rfl (cP gB (fun _ => Kq c fa c.fx.length fc (tx fg.f.nm) _) ?_)
     intro a w hS
     rw [ho1 hk1] at hS
     refine Un hS (Za ?_)
     refine Z0 rfl (cP gC (fun _ => JK (c.n fg.f.off) hz _) ?_)
     refine Za ?_
     refine Z0 rfl (cN Sz (@fun a w hS => E7 w 6 [] ql qn cl cn ns kids fg.f.nm (E9 3 (Lib.itoa (c.n fg.f.off))) 3 (tx (Lib.itoa (c.n fg.f.off))) none none 0 0 0 0 rfl (by omega) (by omega) (DV (hS.gg (X := oR 132 4 ql kids cl JX.cs)) JX.len rfl) (DV (hS.gg (X := oR 9 1 qn ns cn AM)) (fun _ => rfl) rfl) _ (Ax w)) ?_); intro x130
     obtain ⟨⟨ql2, cl2⟩, qn2, cn2⟩ := x130
     intro a w hS
     rw [← hxj] at hS
     simp only at hS
     replace hS := (hS.pk (Γ' := [C5 (oR 132 4 ql2 (kids ++ [xj]) cl2 JX.cs) (oR 9 1 qn2 (ns ++ [fg.f.nm]) cn2 AM), As 2 kids, .blk b7 [.int .i64 6, .string ⟨#[]⟩, .slice ql kids.length cl, .slice qn ns.length cn] 132, oR 9 1 (some ⟨g, 0, none⟩) (Ac fl) cw AM, .blk b1 (AB c (.slice fa c.fx.length fc)) 48, .blk b4 [.string (tx Cf), .string (tx pa), .slice none 0 0, .bool false] 51, .blk b2 [.string ⟨#[]⟩, .string ⟨#[]⟩, .slice none 0 0, .bool false] 51, AG W0])).unduo
     refine Un hS (Za ?_)
     refine Z0 rfl (Sa ?_)
     refine Zl ?_
     refine Wn 9 ?_
     have hl1 : (kids ++ [xj]).length = kids.length + 1 := by simp
     have hv2 : (kids ++ [xj]).map JX.v = (fl.take (kids ++ [xj]).length).map fun x => B9 x.f c := by rw [hl1, BG hfg, List.map_append, List.map_append, hkv, List.map_singleton, hxv]; rfl
     intro a w hS
     replace hS := CA ((hS.more (Y := Be 2 xj) (hxl w) hxF).pk (Γ' := [Be 2 xj, As 2 kids, oR 132 4 ql2 (kids ++ [xj]) cl2 JX.cs, oR 9 1 qn2 (ns ++ [fg.f.nm]) cn2 AM, .blk b7 [.int .i64 6, .string ⟨#[]⟩, .slice ql2 (kids ++ [xj]).length cl2, .slice qn2 (ns ++ [fg.f.nm]).length cn2] 132, oR 9 1 (some ⟨g, 0, none⟩) (Ac fl) cw AM, .blk b1 (AB c (.slice fa c.fx.length fc)) 48, .blk b4 [.string (tx Cf), .string (tx pa), .slice none 0 0, .bool false] 51, .blk b2 [.string ⟨#[]⟩, .string ⟨#[]⟩, .slice none 0 0, .bool false] 51, AG W0]))
     rw [← hnn, ← hl1, show ((2 * kids.length : Nat) : Int) + 2 = ((2 * (kids ++ [xj]).length : Nat) : Int) by rw [hl1]; omega] at hS
     exact ⟨(kids ++ [xj], (ql2, cl2), (qn2, cn2)), by show fl.length - (kids ++ [xj]).length < fl.length - kids.length; omega, hS.sp, by show (kids ++ [xj]).length ≤ fl.length; omega, hv2⟩
    have hk2 : fg.f.kd = 2 := by
     have h0 : fg.f.kd ≠ 0 := fun h => hc101 (k0.2 h)
     have h1 : fg.f.kd ≠ 1 := fun h => hc116 (k1.2 h)
     rcases hfd.kd with h | h | h <;> omega
    have hvz : B9 fg.f c = SA c.fx := by unfold B9; rw [if_neg (by omega), if_neg (by omega)]
    refine Wn 3 ?_
    refine Lo (Al ?_); intro b9
    refine Lo (Sa ?_)
    refine Wn 9 ?_
    intro a w hS
    refine AW (γ := List JX × (Option Addr × Nat) × (Option Addr × Nat)) (fun H a w => St 188 Ai w0 a w [(10, .int .i64 (H.1.length : Int)), (9, .pointer (some ⟨b9, 0, none⟩)), (8, .int .i64 ((2 * kids.length : Nat) : Int)), (6, .slice (some ⟨g, 0, none⟩) (Ac fl).length cw), (7, .pointer (some ⟨b7, 0, none⟩)), (4, .pointer (some ⟨b4, 0, none⟩)), (1, .pointer (some ⟨b1, 0, none⟩)), (2, .pointer (some ⟨b2, 0, none⟩))] [oR 132 4 H.2.1.1 H.1 H.2.1.2 JX.cs, oR 9 1 H.2.2.1 (A4 c.fx H.1.length) H.2.2.2 AM, As 1 H.1, .blk b9 [.int .i64 6, .string ⟨#[]⟩, .slice H.2.1.1 H.1.length H.2.1.2, .slice H.2.2.1 (A4 c.fx H.1.length).length H.2.2.2] 132, oR 132 4 ql kids cl JX.cs, oR 9 1 qn ns cn AM, As 2 kids, .blk b7 [.int .i64 6, .string ⟨#[]⟩, .slice ql kids.length cl, .slice qn ns.length cn] 132, oR 9 1 (some ⟨g, 0, none⟩) (Ac fl) cw AM, .blk b1 (AB c (.slice fa c.fx.length fc)) 48, .blk b4 [.string (tx Cf), .string (tx pa), .slice none 0 0, .bool false] 51, .blk b2 [.string ⟨#[]⟩, .string ⟨#[]⟩, .slice none 0 0, .bool false] 51, AG W0] ∧ H.1.length ≤ c.fx.length ∧ H.1.map JX.v = (c.fx.take H.1.length).map A5) (fun H => c.fx.length - H.1.length) ([], (none, 0), (none, 0)) ⟨((((hS.own_nil 9 1).own_nil 132 4).more (Y := As 1 []) (D5 (fun x hx => by cases hx)) (fun b ⟨x, hx, _⟩ => by cases hx)).sq).pk, Nat.zero_le _, rfl⟩ ?_
    intro H a w hI
    obtain ⟨kids2, ⟨ql2, cl2⟩, ⟨qn2, cn2⟩⟩ := H
    obtain ⟨hS, hfj, hkv2⟩ := hI
    simp only at hS hfj hkv2
    obtain ⟨ns2, hns2⟩ : ∃ ns, A4 c.fx kids2.length = ns := ⟨_, rfl⟩
    have hnl2 : ns2.length = kids2.length := by rw [← hns2]; unfold A4; rw [List.length_map, List.length_take]; omega
    rw [hns2] at hS
    refine Wh 10 hS ?_
    refine iD (fun hc64 => ?_) fun hc64 => ?_
    ·
     have hjn : kids2.length < c.fx.length := by omega
     obtain ⟨x, hx2⟩ : ∃ x, c.fx[kids2.length]? = some x := ⟨_, List.getElem?_eq_getElem hjn⟩
     have hxm2 := List.mem_of_getElem? hx2
     obtain ⟨nb, no, rfl, hcx⟩ := hF.c (fun e => by rw [e] at hjn; exact absurd hjn (Nat.not_lt_zero _))
     have hxb := hfx x hxm2
     have hnn2 : A4 c.fx (kids2.length + 1) = ns2 ++ [x.nm] := by unfold A4; rw [BG hx2, List.map_append]; unfold A4 at hns2; rw [hns2]; rfl
     intro a w hS
     obtain ⟨xj, hxj, hxl⟩ : ∃ xj : JX, xj = E9 (A5 x).k (A5 x).t ∧ ∀ w, (Be 1 xj).ok w := ⟨_, rfl, CH 0 _ _⟩
     have hxv : xj.v = A5 x := by rw [hxj]; exact (VX x).symm
     have hxF : ∀ b, (Be 1 xj).F b → False := fun b hb => by subst hxj; exact hb
     refine Wh 7 hS ?_
     refine Xp (AI rfl Gi.1 (fun w hh => AR (k := 14) (hh (.blk b1 (AB c (.slice (some ⟨nb, no, none⟩) c.fx.length fc)) 48) (by repeat constructor)) rfl)) ?_
     refine Wn 1 ?_
     refine Xp (BI rfl rfl LE.1 EH.1 hjn) ?_
     refine Xp (BV (l := Az x) rfl Gk.1 EH.1 (fun w hh i u hi => AF (hh (AG W0) (by repeat constructor)) (hcx _ x hx2 i u hi))) ?_
     intro a w hS
     unfold Az at hS
     refine Un hS (Lo (Al ?_)); intro b11
     refine Lo (Sa ?_)
     refine Wn 6 ?_
     refine Lo (cP gA (fun _ => Kb (tx x.s) _) ?_)
     refine Lo (Al ?_); intro b12
     refine Lo (Sa ?_)
     refine Wn 10 ?_
     refine iD (fun hc77 => ?_) fun hc77 => ?_
     ·
      have hz1 : A5 x = DI (Lib.itoa x.n) := by unfold A5; rw [if_pos hc77]
      refine Wn 3 ?_
      refine Lo (cP gC (fun _ => JK x.n hxb _) ?_)
      refine Lo (Sa ?_)
      refine Wn 2 ?_
      intro a w hS
      refine C1 (fun a w => St 188 Ai w0 a w [(12, .pointer (some ⟨b12, 0, none⟩)), (11, .pointer (some ⟨b11, 0, none⟩)), (10, .int .i64 (kids2.length : Int)), (9, .pointer (some ⟨b9, 0, none⟩)), (8, .int .i64 ((2 * kids.length : Nat) : Int)), (6, .slice (some ⟨g, 0, none⟩) (Ac fl).length cw), (7, .pointer (some ⟨b7, 0, none⟩)), (4, .pointer (some ⟨b4, 0, none⟩)), (1, .pointer (some ⟨b1, 0, none⟩)), (2, .pointer (some ⟨b2, 0, none⟩))] [.blk b12 [.int .i64 ((A5 x).k : Int), .string (tx (A5 x).t), .slice none 0 0, .slice none 0 0] 132, .blk b11 [.string (tx x.nm), .int .i64 x.ty, .int .i64 x.n, .string (tx x.s)] 139, oR 132 4 ql2 kids2 cl2 JX.cs, oR 9 1 qn2 ns2 cn2 AM, As 1 kids2, .blk b9 [.int .i64 6, .string ⟨#[]⟩, .slice ql2 kids2.length cl2, .slice qn2 ns2.length cn2] 132, oR 132 4 ql kids cl JX.cs, oR 9 1 qn ns cn AM, As 2 kids, .blk b7 [.int .i64 6, .string ⟨#[]⟩, .slice ql kids.length cl, .slice qn ns.length cn] 132, oR 9 1 (some ⟨g, 0, none⟩) (Ac fl) cw AM, .blk b1 (AB c (.slice (some ⟨nb, no, none⟩) c.fx.length fc)) 48, .blk b4 [.string (tx Cf), .string (tx pa), .slice none 0 0, .bool false] 51, .blk b2 [.string ⟨#[]⟩, .string ⟨#[]⟩, .slice none 0 0, .bool false] 51, AG W0]) ?_ ?_
      ·
       refine Wh 7 hS ?_
       refine iD (fun hc83 => ?_) fun hc83 => ?_
       ·
        have hz2 : A5 x = .mk (if x.n = 1 then 2 else 1) [] [] [] := by unfold A5; rw [if_neg (by omega), if_pos hc83]
        refine Wn 3 ?_
        refine Lo (Sa ?_)
        refine Wn 9 ?_
        refine iD (fun hc87 => ?_) fun hc87 => ?_
        ·
         have hz3 : A5 x = .mk 2 [] [] [] := by rw [hz2, if_pos hc87]
         refine Wn 2 ?_
         refine Lo (Sb ?_)
         refine Wn 1 ?_
         exfalso; omega
        have hz4 : A5 x = .mk 1 [] [] [] := by rw [hz2, if_neg hc87]
        refine Wn 1 ?_
        exfalso; omega
       refine Wn 1 ?_
       intro a w hS
       rw [hz1]; exact hS.sp
      intro a w hS
      refine Wh 5 hS ?_
      refine Lo (cN Sz (@fun a w hS => E7 w 6 [] ql2 qn2 cl2 cn2 ns2 kids2 x.nm (E9 (A5 x).k (A5 x).t) ((A5 x).k : Int) (tx (A5 x).t) none none 0 0 0 0 rfl (by omega) (by omega) (DV (hS.gg (X := oR 132 4 ql2 kids2 cl2 JX.cs)) JX.len rfl) (DV (hS.gg (X := oR 9 1 qn2 ns2 cn2 AM)) (fun _ => rfl) rfl) _ (Ax w)) ?_); intro x93
      obtain ⟨⟨ql3, cl3⟩, qn3, cn3⟩ := x93
      intro a w hS
      rw [← hxj] at hS
      simp only at hS
      replace hS := (hS.pk (Γ' := [C5 (oR 132 4 ql3 (kids2 ++ [xj]) cl3 JX.cs) (oR 9 1 qn3 (ns2 ++ [x.nm]) cn3 AM), As 1 kids2, .blk b9 [.int .i64 6, .string ⟨#[]⟩, .slice ql2 kids2.length cl2, .slice qn2 ns2.length cn2] 132, oR 132 4 ql kids cl JX.cs, oR 9 1 qn ns cn AM, As 2 kids, .blk b7 [.int .i64 6, .string ⟨#[]⟩, .slice ql kids.length cl, .slice qn ns.length cn] 132, oR 9 1 (some ⟨g, 0, none⟩) (Ac fl) cw AM, .blk b1 (AB c (.slice (some ⟨nb, no, none⟩) c.fx.length fc)) 48, .blk b4 [.string (tx Cf), .string (tx pa), .slice none 0 0, .bool false] 51, .blk b2 [.string ⟨#[]⟩, .string ⟨#[]⟩, .slice none 0 0, .bool false] 51, AG W0])).unduo
      refine Un hS (Lo (Sa ?_))
      refine Wn 8 ?_
      intro a w hS
      replace hS := CA ((hS.more (Y := Be 1 xj) (hxl w) hxF).pk (Γ' := [Be 1 xj, As 1 kids2, oR 132 4 ql3 (kids2 ++ [xj]) cl3 JX.cs, oR 9 1 qn3 (ns2 ++ [x.nm]) cn3 AM, .blk b9 [.int .i64 6, .string ⟨#[]⟩, .slice ql3 (kids2 ++ [xj]).length cl3, .slice qn3 (ns2 ++ [x.nm]).length cn3] 132, oR 132 4 ql kids cl JX.cs, oR 9 1 qn ns cn AM, As 2 kids, .blk b7 [.int .i64 6, .string ⟨#[]⟩, .slice ql kids.length cl, .slice qn ns.length cn] 132, oR 9 1 (some ⟨g, 0, none⟩) (Ac fl) cw AM, .blk b1 (AB c (.slice (some ⟨nb, no, none⟩) c.fx.length fc)) 48, .blk b4 [.string (tx Cf), .string (tx pa), .slice none 0 0, .bool false] 51, .blk b2 [.string ⟨#[]⟩, .string ⟨#[]⟩, .slice none 0 0, .bool false] 51, AG W0]))
      have hl1 : (kids2 ++ [xj]).length = kids2.length + 1 := by simp
      rw [← hnn2] at hS
      rw [show (kids2.length : Int) + 1 = ((kids2 ++ [xj]).length : Int) by rw [hl1]; omega, ← hl1] at hS
      exact ⟨(kids2 ++ [xj], (ql3, cl3), (qn3, cn3)), by show c.fx.length - (kids2 ++ [xj]).length < c.fx.length - kids2.length; omega, hS.sp, by show (kids2 ++ [xj]).length ≤ c.fx.length; omega, by show (kids2 ++ [xj]).map JX.v = (c.fx.take (kids2 ++ [xj]).length).map A5; rw [hl1, BG hx2, List.map_append, List.map_append, hkv2, List.map_singleton, hxv]; rfl⟩
     refine Wn 2 ?_
     intro a w hS
     refine C1 (fun a w => St 188 Ai w0 a w [(12, .pointer (some ⟨b12, 0, none⟩)), (11, .pointer (some ⟨b11, 0, none⟩)), (10, .int .i64 (kids2.length : Int)), (9, .pointer (some ⟨b9, 0, none⟩)), (8, .int .i64 ((2 * kids.length : Nat) : Int)), (6, .slice (some ⟨g, 0, none⟩) (Ac fl).length cw), (7, .pointer (some ⟨b7, 0, none⟩)), (4, .pointer (some ⟨b4, 0, none⟩)), (1, .pointer (some ⟨b1, 0, none⟩)), (2, .pointer (some ⟨b2, 0, none⟩))] [.blk b12 [.int .i64 ((A5 x).k : Int), .string (tx (A5 x).t), .slice none 0 0, .slice none 0 0] 132, .blk b11 [.string (tx x.nm), .int .i64 x.ty, .int .i64 x.n, .string (tx x.s)] 139, oR 132 4 ql2 kids2 cl2 JX.cs, oR 9 1 qn2 ns2 cn2 AM, As 1 kids2, .blk b9 [.int .i64 6, .string ⟨#[]⟩, .slice ql2 kids2.length cl2, .slice qn2 ns2.length cn2] 132, oR 132 4 ql kids cl JX.cs, oR 9 1 qn ns cn AM, As 2 kids, .blk b7 [.int .i64 6, .string ⟨#[]⟩, .slice ql kids.length cl, .slice qn ns.length cn] 132, oR 9 1 (some ⟨g, 0, none⟩) (Ac fl) cw AM, .blk b1 (AB c (.slice (some ⟨nb, no, none⟩) c.fx.length fc)) 48, .blk b4 [.string (tx Cf), .string (tx pa), .slice none 0 0, .bool false] 51, .blk b2 [.string ⟨#[]⟩, .string ⟨#[]⟩, .slice none 0 0, .bool false] 51, AG W0]) ?_ ?_
     ·
      refine Wh 7 hS ?_
      refine iD (fun hc83 => ?_) fun hc83 => ?_
      ·
       have hz2 : A5 x = .mk (if x.n = 1 then 2 else 1) [] [] [] := by unfold A5; rw [if_neg (by omega), if_pos hc83]
       refine Wn 3 ?_
       refine Lo (Sa ?_)
       refine Wn 9 ?_
       refine iD (fun hc87 => ?_) fun hc87 => ?_
       ·
        have hz3 : A5 x = .mk 2 [] [] [] := by rw [hz2, if_pos hc87]
        refine Wn 2 ?_
        refine Lo (Sb ?_)
        refine Wn 1 ?_
        intro a w hS
        rw [hz3]; exact hS.sp
       have hz4 : A5 x = .mk 1 [] [] [] := by rw [hz2, if_neg hc87]
       refine Wn 1 ?_
       intro a w hS
       rw [hz4]; exact hS.sp
      refine Wn 1 ?_
      intro a w hS
      rw [show A5 x = Fb x.s by unfold A5; rw [if_neg (by assumption), if_neg (by assumption)]]
      exact hS.sp
     intro a w hS
     refine Wh 5 hS ?_
     refine Lo (cN Sz (@fun a w hS => E7 w 6 [] ql2 qn2 cl2 cn2 ns2 kids2 x.nm (E9 (A5 x).k (A5 x).t) ((A5 x).k : Int) (tx (A5 x).t) none none 0 0 0 0 rfl (by omega) (by omega) (DV (hS.gg (X := oR 132 4 ql2 kids2 cl2 JX.cs)) JX.len rfl) (DV (hS.gg (X := oR 9 1 qn2 ns2 cn2 AM)) (fun _ => rfl) rfl) _ (Ax w)) ?_); intro x93
     obtain ⟨⟨ql3, cl3⟩, qn3, cn3⟩ := x93
     intro a w hS
     rw [← hxj] at hS
     simp only at hS
     replace hS := (hS.pk (Γ' := [C5 (oR 132 4 ql3 (kids2 ++ [xj]) cl3 JX.cs) (oR 9 1 qn3 (ns2 ++ [x.nm]) cn3 AM), As 1 kids2, .blk b9 [.int .i64 6, .string ⟨#[]⟩, .slice ql2 kids2.length cl2, .slice qn2 ns2.length cn2] 132, oR 132 4 ql kids cl JX.cs, oR 9 1 qn ns cn AM, As 2 kids, .blk b7 [.int .i64 6, .string ⟨#[]⟩, .slice ql kids.length cl, .slice qn ns.length cn] 132, oR 9 1 (some ⟨g, 0, none⟩) (Ac fl) cw AM, .blk b1 (AB c (.slice (some ⟨nb, no, none⟩) c.fx.length fc)) 48, .blk b4 [.string (tx Cf), .string (tx pa), .slice none 0 0, .bool false] 51, .blk b2 [.string ⟨#[]⟩, .string ⟨#[]⟩, .slice none 0 0, .bool false] 51, AG W0])).unduo
     refine Un hS (Lo (Sa ?_))
     refine Wn 8 ?_
     intro a w hS
     replace hS := CA ((hS.more (Y := Be 1 xj) (hxl w) hxF).pk (Γ' := [Be 1 xj, As 1 kids2, oR 132 4 ql3 (kids2 ++ [xj]) cl3 JX.cs, oR 9 1 qn3 (ns2 ++ [x.nm]) cn3 AM, .blk b9 [.int .i64 6, .string ⟨#[]⟩, .slice ql3 (kids2 ++ [xj]).length cl3, .slice qn3 (ns2 ++ [x.nm]).length cn3] 132, oR 132 4 ql kids cl JX.cs, oR 9 1 qn ns cn AM, As 2 kids, .blk b7 [.int .i64 6, .string ⟨#[]⟩, .slice ql kids.length cl, .slice qn ns.length cn] 132, oR 9 1 (some ⟨g, 0, none⟩) (Ac fl) cw AM, .blk b1 (AB c (.slice (some ⟨nb, no, none⟩) c.fx.length fc)) 48, .blk b4 [.string (tx Cf), .string (tx pa), .slice none 0 0, .bool false] 51, .blk b2 [.string ⟨#[]⟩, .string ⟨#[]⟩, .slice none 0 0, .bool false] 51, AG W0]))
     have hl1 : (kids2 ++ [xj]).length = kids2.length + 1 := by simp
     rw [← hnn2] at hS
     rw [show (kids2.length : Int) + 1 = ((kids2 ++ [xj]).length : Int) by rw [hl1]; omega, ← hl1] at hS
     exact ⟨(kids2 ++ [xj], (ql3, cl3), (qn3, cn3)), by show c.fx.length - (kids2 ++ [xj]).length < c.fx.length - kids2.length; omega, hS.sp, by show (kids2 ++ [xj]).length ≤ c.fx.length; omega, by show (kids2 ++ [xj]).map JX.v = (c.fx.take (kids2 ++ [xj]).length).map A5; rw [hl1, BG hx2, List.map_append, List.map_append, hkv2, List.map_singleton, hxv]; rfl⟩
    have hk2l : kids2.length = c.fx.length := by omega
    rw [hk2l, List.take_length] at hkv2
    have hns3 : ns2 = c.fx.map B5.nm := by rw [← hns2, hk2l]; unfold A4; rw [List.take_length]
    have hfz : JV.mk 6 [] ns2 (kids2.map JX.v) = SA c.fx := by rw [hkv2, hns3]; exact (DX _ _ _).symm
    intro a w hS
    replace hS := Eg (d := 1) (k := 6) (t := []) (ns := ns2) (kids := kids2) (hS.pk (Γ' := [oR 132 4 ql2 kids2 cl2 JX.cs, oR 9 1 qn2 ns2 cn2 AM, As 1 kids2, .blk b9 [.int .i64 6, .string ⟨#[]⟩, .slice ql2 kids2.length cl2, .slice qn2 ns2.length cn2] 132, oR 132 4 ql kids cl JX.cs, oR 9 1 qn ns cn AM, As 2 kids, .blk b7 [.int .i64 6, .string ⟨#[]⟩, .slice ql kids.length cl, .slice qn ns.length cn] 132, oR 9 1 (some ⟨g, 0, none⟩) (Ac fl) cw AM, .blk b1 (AB c (.slice fa c.fx.length fc)) 48, .blk b4 [.string (tx Cf), .string (tx pa), .slice none 0 0, .bool false] 51, .blk b2 [.string ⟨#[]⟩, .string ⟨#[]⟩, .slice none 0 0, .bool false] 51, AG W0]))
    obtain ⟨FX, hFX⟩ : ∃ F : Nat → Prop, (fun b => (Value.slice ql2 kids2.length cl2).ownBlock = some b ∨ (Value.slice qn2 ns2.length cn2).ownBlock = some b ∨ LR kids2 b) = F := ⟨_, rfl⟩
    rw [hFX, hfz] at hS
    obtain ⟨xj, hxj⟩ : ∃ xj : JX, xj = ⟨SA c.fx, [.int .i64 6, .string ⟨#[]⟩, .slice ql2 kids2.length cl2, .slice qn2 ns2.length cn2], FX, rfl, rfl⟩ := ⟨_, rfl⟩
    have hxv : xj.v = B9 fg.f c := by rw [hxj]; exact hvz.symm
    have hxe : Be 2 xj = .any FX (DZ (1 + 1) (SA c.fx) [.int .i64 ((6 : Nat) : Int), .string (tx []), .slice ql2 kids2.length cl2, .slice qn2 ns2.length cn2]) true := by rw [hxj]; rfl
    rw [← hxe] at hS
    refine Wq 1 hS ?_; intro a hS
    refine AH (AH (Aj ?_))
    refine nT ?_
    refine Un hS (Dr 8 [7] [.blk b7 [.int .i64 6, .string ⟨#[]⟩, .slice ql kids.length cl, .slice qn ns.length cn] 132, .blk b9 [.int .i64 6, .string ⟨#[]⟩, .slice ql2 kids2.length cl2, .slice qn2 ns2.length cn2] 132, oR 9 1 (some ⟨g, 0, none⟩) (Ac fl) cw AM] ?_)
    refine ZR 4 ?_
    refine Zy rfl (AI rfl Af.1 (fun w hh => Aq (hh (oR 9 1 (some ⟨g, 0, none⟩) (Ac fl) cw AM) (by repeat constructor)) hz1)) ?_
    refine ZR 1 ?_
    refine Z0 rfl (cN Sz (@fun a w hS => (E7 w 6 [] ql qn cl cn ns kids fg.f.nm ⟨SA c.fx, [.int .i64 6, .string ⟨#[]⟩, .slice ql2 kids2.length cl2, .slice qn2 ns2.length cn2], FX, rfl, rfl⟩ 6 ⟨#[]⟩ ql2 qn2 kids2.length cl2 ns2.length cn2 rfl (by omega) (by omega) (DV (hS.gg (X := oR 132 4 ql kids cl JX.cs)) JX.len rfl) (DV (hS.gg (X := oR 9 1 qn ns cn AM)) (fun _ => rfl) rfl) _ (Ax w))) ?_); intro x100
    obtain ⟨⟨ql4, cl4⟩, qn4, cn4⟩ := x100
    intro a w hS
    rw [← hxj] at hS
    simp only at hS
    replace hS := (hS.pk (Γ' := [C5 (oR 132 4 ql4 (kids ++ [xj]) cl4 JX.cs) (oR 9 1 qn4 (ns ++ [fg.f.nm]) cn4 AM), Be 2 xj, As 2 kids, .blk b7 [.int .i64 6, .string ⟨#[]⟩, .slice ql kids.length cl, .slice qn ns.length cn] 132, .blk b9 [.int .i64 6, .string ⟨#[]⟩, .slice ql2 kids2.length cl2, .slice qn2 ns2.length cn2] 132, oR 9 1 (some ⟨g, 0, none⟩) (Ac fl) cw AM, .blk b1 (AB c (.slice fa c.fx.length fc)) 48, .blk b4 [.string (tx Cf), .string (tx pa), .slice none 0 0, .bool false] 51, .blk b2 [.string ⟨#[]⟩, .string ⟨#[]⟩, .slice none 0 0, .bool false] 51, AG W0])).unduo
    refine Un hS (Za ?_)
    refine Z0 rfl (Sa ?_)
    refine Zl ?_
    refine Wn 9 ?_
    have hl1 : (kids ++ [xj]).length = kids.length + 1 := by simp
    have hv2 : (kids ++ [xj]).map JX.v = (fl.take (kids ++ [xj]).length).map fun x => B9 x.f c := by rw [hl1, BG hfg, List.map_append, List.map_append, hkv, List.map_singleton, hxv]; rfl
    intro a w hS
    replace hS := CA (hS.pk (Γ' := [Be 2 xj, As 2 kids, oR 132 4 ql4 (kids ++ [xj]) cl4 JX.cs, oR 9 1 qn4 (ns ++ [fg.f.nm]) cn4 AM, .blk b7 [.int .i64 6, .string ⟨#[]⟩, .slice ql4 (kids ++ [xj]).length cl4, .slice qn4 (ns ++ [fg.f.nm]).length cn4] 132, oR 9 1 (some ⟨g, 0, none⟩) (Ac fl) cw AM, .blk b1 (AB c (.slice fa c.fx.length fc)) 48, .blk b4 [.string (tx Cf), .string (tx pa), .slice none 0 0, .bool false] 51, .blk b2 [.string ⟨#[]⟩, .string ⟨#[]⟩, .slice none 0 0, .bool false] 51, AG W0]))
    rw [← hnn, ← hl1, show ((2 * kids.length : Nat) : Int) + 2 = ((2 * (kids ++ [xj]).length : Nat) : Int) by rw [hl1]; omega] at hS
    exact ⟨(kids ++ [xj], (ql4, cl4), (qn4, cn4)), by show fl.length - (kids ++ [xj]).length < fl.length - kids.length; omega, hS.sp, by show (kids ++ [xj]).length ≤ fl.length; omega, hv2⟩
   have hkl : kids.length = fl.length := by omega
   rw [hkl, List.take_length] at hkv
   have hvR : JV.mk 6 [] ns (kids.map JX.v) = vR c (AE fl) := by
    rw [hkv, ← hns, hkl]
    unfold Ce vR
    rw [List.take_length, DX]
    unfold AE
    rw [List.map_map, List.map_map]; rfl
   intro a w hS
   replace hS := Eg (d := 2) (k := 6) (t := []) (ns := ns) (kids := kids) (hS.pk (Γ' := [oR 132 4 ql kids cl JX.cs, oR 9 1 qn ns cn AM, As 2 kids, .blk b7 [.int .i64 6, .string ⟨#[]⟩, .slice ql kids.length cl, .slice qn ns.length cn] 132, .blk b1 (AB c (.slice fa c.fx.length fc)) 48, .blk b4 [.string (tx Cf), .string (tx pa), .slice none 0 0, .bool false] 51, .blk b2 [.string ⟨#[]⟩, .string ⟨#[]⟩, .slice none 0 0, .bool false] 51, AG W0]))
   have hj : DZ 3 (.mk 6 [] ns (kids.map JX.v)) [.int .i64 6, .string ⟨#[]⟩, .slice ql kids.length cl, .slice qn ns.length cn] w := hS.get (.head _)
   rw [hvR] at hj
   refine Wq 1 hS ?_; intro a hS
   refine AH (AH (Aj ?_))
   refine Wq 4 hS ?_; intro a hS
   refine Aa (PA hS oB (U6 3 (vR c (AE fl)) _ _ g1 g2 hj g3) ?_); intro x133
   obtain ⟨pq, pm, pc, pe, hpv, hpc⟩ := X4 x133
   intro a w hS
   rw [hpv] at hS
   refine Wh 14 hS ?_
   refine iD (fun hc137 => ?_) fun hc137 => ?_
   ·
    obtain ⟨hok, h65⟩ : Cp 3 0 (vR c (AE fl)) ∧ 65536 < BY 3 (vR c (AE fl)) := by
     rcases hpc with ⟨h, _⟩ | ⟨_, ⟨h, _⟩ | ⟨_, h⟩⟩
     · omega
     · exact absurd hc137 h
     · exact h
    obtain ⟨hv1, hv2⟩ := VY hok
    refine Wn 4 ?_
    refine Lo (cP oC (fun hS => VW W0 k pa fl hx c hkd fa fc hF h110 hc.t hs.2 hv1 hv2 _ hS.od) ?_)
    refine Wn 3 ?_
    refine iB (fun hc140 => ?_) fun hc140 => ?_
    ·
     refine Wn 3 ?_
     refine Lo (Sa ?_)
     refine Wn 4 ?_
     intro a w hS
     refine AC (AC (AD (AC ?_)))
     refine Rm hS Tryz.results17 ?_
     exact ⟨.inr ⟨10, by decide, Ht hx hkd (fun h => by rw [HS.2 h.1] at hc140; exact absurd hc140 (by decide))⟩, rfl, hS.chg, AL _, fun b h => h.elim⟩
    refine Wn 5 ?_
    refine Lo (Sa ?_)
    refine Wn 4 ?_
    intro a w hS
    refine AC (AD (AC ?_))
    refine Rm hS Tryz.results17 ?_
    exact ⟨.inr ⟨8, by decide, Kx hx hkd (HS.1 (by simpa using hc140)) hok (by omega)⟩, rfl, hS.chg, AL _, fun b h => h.elim⟩
   refine Wn 9 ?_
   refine iD (fun hc144 => ?_) fun hc144 => ?_
   ·
    refine Wn 3 ?_
    refine Lo (Sa ?_)
    refine Wn 4 ?_
    intro a w hS
    refine AC (AD (AC ?_))
    refine Rm hS Tryz.results17 ?_
    have hno : ¬ Cp 3 0 (vR c (AE fl)) := by
     rcases hpc with ⟨h, _⟩ | ⟨_, ⟨_, h⟩ | ⟨h, _⟩⟩
     · exact absurd h hc144
     · exact h
     · exact absurd h hc137
    exact ⟨.inr ⟨10, by decide, Ht hx hkd (fun h => hno h.2)⟩, rfl, hS.chg, AL _, fun b h => h.elim⟩
   obtain ⟨⟨⟨⟨pb, pcap⟩, pr, ps⟩, ho1, ho2, ho3, ho4⟩, rfl, rfl, rfl, rfl⟩ : ∃ x : { x : (Nat × Nat) × JV × List UInt8 // Cp 3 0 (vR c (AE fl)) ∧ PJ 3 (vR c (AE fl)) x.2.1 x.2.2 ∧ x.2.2.length ≤ 65536 ∧ x.2.2.length ≤ x.1.2 }, x133 = .inl x ∧ pq = some ⟨x.1.1.1, 0, none⟩ ∧ pm = x.1.2.2.length ∧ pc = x.1.1.2 := by
    rcases hpc with ⟨_, h⟩ | ⟨h, _⟩
    · exact h
    · exact absurd (Classical.not_not.1 hc144) h
   intro a w hS
   simp only at ho1 ho2 ho3 ho4 hS
   have hpl := FG _ _ _ _ ho2
   have hps : ps ≠ [] := by obtain ⟨y, rr, e, _⟩ := P6 ho2 g1; rw [e]; simp
   refine Wq 3 hS ?_; intro a hS
   have hby := Ll (hS.gg (X := Gb 5 pb (Br ps))) ho4
   have hbn : Br ps ≠ [] := fun e => hps (List.eq_nil_of_length_eq_zero (by rw [← Ap, e]; rfl))
   replace hS := hS.swap (X := Gb 5 pb (Br ps)) (Y := Ly (.slice (some ⟨pb, 0, none⟩) ps.length pc) (Br ps)) (by repeat constructor) (Y1 hby hbn) (fun b hb => by have hb : (Value.slice (some ⟨pb, 0, none⟩) ps.length pc).ownBlock = some b := hb; show b = pb; simpa [Value.ownBlock, eq_comm] using hb) rfl
   refine Wh 2 hS ?_
   refine Lo (Sb ?_)
   refine Wn 2 ?_
   intro a w hS
   exact ⟨Cf, pa, ps, some ⟨pb, 0, none⟩, pc, II c (AE fl), hS.sp, fun w' hw' => cQ w' c hc hfx hs k pa fl hx hkd _ _ ps ⟨hw', by omega⟩ pr ho2 ho1 g1 ho3 w' (Ax w'), fun h hn => cT hx hkd h ho1 ho2 hn, fun h => Ht hx hkd (fun h2 => h h2.1), fun h hn => Kx hx hkd h ho1 (by omega)⟩
  intro a w hS
  obtain ⟨me, pa, s, q, cap, good, hS, hbind, hg1, hg2, hg3⟩ := hS
  refine Wh 3 hS ?_
  refine Lo (cN oD (fun hS => hbind _ (hS.gg (X := Ly (.slice q s.length cap) (Br s)))) ?_); intro x170
  obtain ⟨⟨q170, c170⟩, ⟨⟨e, D⟩, hd1, hd2⟩⟩ := x170
  intro a w hS
  unfold mW mX at hS
  simp only at hS hd1 hd2
  refine Wh 3 hS ?_
  refine Lo (Al ?_); intro b15
  refine Lo (Sa ?_)
  refine Wn 9 ?_
  refine Lm 5 180 (.bool ((decide (e ≠ 0) || !HR c D))) ?_ ?_
  ·
   intro hcM180
   refine Gd 175 ?_ ?_ <;> intro hg175
   ·
    refine Wn 5 ?_
    exact Et 6 180 175 hcM180 rfl (by rw [decide_eq_true hg175]; rfl) hg175
   refine Wn 2 ?_
   refine Lg (cP gD (@fun a w hS => QO w c D fa q170 fc c170 (by omega) hd2 (VZ hF hS.od) (Jt (hS.ok (oR 139 4 q170 D.fx c170 Az) (by repeat constructor))) _ (Ax w)) ?_)
   refine Wn 2 ?_
   exact Ef 6 180 175 hcM180 rfl (by rw [decide_eq_false hg175]; rfl) hg175
  ·
   refine Wn 2 ?_
   refine iB (fun hc180 => ?_) fun hc180 => ?_
   ·
    refine Wn 3 ?_
    refine Lo (Sa ?_)
    refine Wn 5 ?_
    intro a w hS
    refine Rm hS Tryz.results17 ?_
    have hng : ¬ good := fun h => by
     obtain ⟨h1, h2⟩ := hd1.2 h
     rw [decide_eq_false (fun h => h h1), F6.2 h2] at hc180
     exact absurd hc180 (by decide)
    exact ⟨.inr ⟨10, by decide, hg2 hng⟩, rfl, hS.chg, AL _, fun b h => h.elim⟩
   have hgd : good := hd1.1 (by
     rw [Bool.or_eq_false_iff, decide_eq_false_iff_not, Bool.not_eq_false'] at hc180
     exact ⟨Classical.not_not.1 hc180.1, F6.1 hc180.2⟩)
   refine Wn 11 ?_
   refine iD (fun hc185 => ?_) fun hc185 => ?_
   ·
    refine Wn 3 ?_
    refine Lo (Sa ?_)
    refine Wn 5 ?_
    intro a w hS
    refine Rm hS Tryz.results17 ?_
    exact ⟨.inr ⟨8, by decide, hg3 hgd (by omega)⟩, rfl, hS.chg, AL _, fun b h => h.elim⟩
   refine Wn 5 ?_
   refine Lo (Sa ?_)
   refine Wn 4 ?_
   intro a w hS
   refine Rm hS Tryz.results17 ?_
   exact ⟨.inl ⟨((q, cap), me, pa, s), hg1 hgd (by omega)⟩, rfl, hS.chg, hS.ok (Ly (.slice q s.length cap) (Br s)) (by repeat constructor), fun b hb => (hS.mine (Ly (.slice q s.length cap) (Br s)) (by repeat constructor) rfl b hb).resolve_right id⟩
def SJ (c : Cd) (me pa s : List UInt8) (e : Int) : Prop := (e = 0 ∧ QJ c me pa s) ∨ (e ≠ 0 ∧ KB c e ∧ me = [] ∧ pa = [] ∧ s = [])
theorem Va {c : Cd} {e e' : Int} (h : Xh c e) (h' : Xh c e') : e' = e := by
 rcases h with ⟨rfl, h⟩ | ⟨h, ⟨rfl, h2⟩ | ⟨rfl, h2⟩⟩ <;> rcases h' with ⟨rfl, h'⟩ | ⟨h', ⟨rfl, h2'⟩ | ⟨rfl, h2'⟩⟩
 all_goals first | rfl | contradiction
theorem L9 {c : Cd} {me pa s me' pa' s' : List UInt8} {e e' : Int} (h : SJ c me pa s e) (h' : SJ c me' pa' s' e') : me' = me ∧ pa' = pa ∧ s' = s ∧ e' = e := by
 rcases h with ⟨rfl, h⟩ | ⟨_, h, rfl, rfl, rfl⟩ <;> rcases h' with ⟨rfl, h'⟩ | ⟨_, h', rfl, rfl, rfl⟩
 ·
  obtain ⟨h1, h2, h3⟩ := Xy h h'
  exact ⟨h1, h2, h3, rfl⟩
 · exact absurd h (h'.2 _ _ _)
 · exact absurd h' (h.2 _ _ _)
 · exact ⟨rfl, rfl, rfl, Va h.1 h'.1⟩
theorem Vb {c : Cd} {e : Int} (h : NK c e) : KB c e := ⟨h.1, fun _ _ _ hq => R7 hq h⟩
def Oy (me pa s : List UInt8) (e : Int) : List UInt8 := if e = 0 then FQ me pa s else []
theorem cU {c : Cd} (x : mT c) : ∃ (me pa s : List UInt8) (q : Option Addr) (cp : Nat) (e : Int), mU c x = .tuple [.agg [.string (tx me), .string (tx pa), .slice q s.length cp, .bool false].toArray, .int .i64 e].toArray ∧
 (∀ w, (eR c x).φ w → CL (.slice q s.length cp) (Br s) w) ∧ SJ c me pa s e := by
 rcases x with ⟨⟨⟨pb, cap⟩, path, s⟩, ⟨v, r, k, fl, c', h⟩, hcp⟩ | ⟨p, h1, h2, h3⟩ | ⟨e, h1, h2⟩
 · exact ⟨Cf, path, s, _, cap, 0, rfl, fun w hw => Ll hw hcp, .inl ⟨rfl, .inl ⟨rfl, v, r, k, fl, c', h⟩⟩⟩
 · exact ⟨L2, p, [], _, _, 0, rfl, fun w _ => .inl ⟨rfl, _, _, rfl⟩, .inl ⟨rfl, .inr ⟨rfl, h1, h2, h3, rfl⟩⟩⟩
 · exact ⟨[], [], [], _, _, e, rfl, fun w _ => .inl ⟨rfl, _, _, rfl⟩, .inr ⟨h1, Vb h2, rfl, rfl, rfl⟩⟩
theorem Vc {c : Cd} (x : qK c) : ∃ (me pa s : List UInt8) (q : Option Addr) (cp : Nat) (e : Int), rL c x = .tuple [.agg [.string (tx me), .string (tx pa), .slice q s.length cp, .bool false].toArray, .int .i64 e].toArray ∧
 (∀ w, (mY c x).φ w → CL (.slice q s.length cp) (Br s) w) ∧ SJ c me pa s e := by
 rcases x with ⟨⟨⟨q, cp⟩, me, pa, s⟩, h⟩ | ⟨e, h1, h2⟩
 · exact ⟨me, pa, s, q, cp, 0, rfl, fun w hw => hw, .inl ⟨rfl, h⟩⟩
 · exact ⟨[], [], [], _, _, e, rfl, fun w _ => .inl ⟨rfl, _, _, rfl⟩, .inr ⟨h1, h2, rfl, rfl, rfl⟩⟩
theorem cV {c : Cd} (x : qI c) : ∃ (l me pa s : List UInt8) (q : Option Addr) (cp : Nat) (e : Int), rI c x = .tuple [.slice q l.length cp, .int .i64 e].toArray ∧ l = Oy me pa s e ∧
 (∀ w, (qJ c x).φ w → CL (.slice q l.length cp) (Br l) w) ∧ SJ c me pa s e := by
 rcases x with ⟨⟨⟨q, cp⟩, me, pa, s⟩, h, _⟩ | ⟨e, h1, h2⟩
 · exact ⟨FQ me pa s, me, pa, s, q, cp, 0, rfl, rfl, fun w hw => hw, .inl ⟨rfl, h⟩⟩
 · exact ⟨[], [], [], [], _, _, e, rfl, (if_neg h1).symm, fun w _ => .inl ⟨rfl, _, _, rfl⟩, .inr ⟨h1, Vb h2, rfl, rfl, rfl⟩⟩
def qL (c : Cd) : Type := { x : (Option Addr × Nat) × (List UInt8 × List UInt8 × List UInt8) × Int // SJ c x.2.1.1 x.2.1.2.1 x.2.1.2.2 x.2.2 }
def qM {c : Cd} (x : qL c) : List UInt8 := Oy x.1.2.1.1 x.1.2.1.2.1 x.1.2.1.2.2 x.1.2.2
def rM (c : Cd) (x : qL c) : Value := .tuple [.slice x.1.1.1 (qM x).length x.1.1.2, .int .i64 x.1.2.2].toArray
def qN (c : Cd) (x : qL c) : AT := Ly (.slice x.1.1.1 (qM x).length x.1.1.2) (Br (qM x))
theorem SK (W0 : World) (c : Cd) (hc : c.ok) (hfx : NV c.fx) (hs : EQ c.fx) (htt : KA c ≤ 1048576) (fa : Option Addr) (fc : Nat) (hF : D9 W0 fa c.fx) (w0 : World) (hold : AQ W0 w0) :
 Bb Tryz.prog 19 [.agg (AB c (.slice fa c.fx.length fc)).toArray] w0 (rM c) (qN c) := by
 refine Ew Ai Tryz.func19 Tryz.ntmps19 hold ?_
 intro a hS
 refine Wh 2 hS ?_
 refine Lo (Bx ?_); intro b1
 refine Wn 7 ?_
 refine Lo (cN fG (fun hS => Ju W0 c hc hfx hs htt fa fc hF _ hS.od) ?_); intro x8
 obtain ⟨me, pa, s, q, cp, e, hrv, hby, hrc⟩ := Vc x8
 intro a w hS
 rw [hrv] at hS
 refine Wh 3 hS ?_
 refine Lo (Al ?_); intro b4
 refine Lo (Sa ?_)
 refine Wn 10 ?_
 refine iD (fun hc12 => ?_) fun hc12 => ?_
 ·
  refine Wn 9 ?_
  intro a w hS
  refine Rm hS Tryz.results19 ?_
  obtain ⟨he0, h2, rfl, rfl, rfl⟩ : e ≠ 0 ∧ KB c e ∧ me = [] ∧ pa = [] ∧ s = [] := hrc.resolve_left fun h => hc12 h.1
  have hb : Oy [] [] [] e = [] := if_neg he0
  refine ⟨⟨((none, 0), ([], [], []), e), .inr ⟨he0, h2, rfl, rfl, rfl⟩⟩, ?_, hS.chg, ?_, ?_⟩
  · show _ = Ending.returned (Value.tuple [.slice none (Oy [] [] [] e).length 0, .int .i64 e].toArray); rw [hb]; rfl
  · show (Ly (.slice none (Oy [] [] [] e).length 0) (Br (Oy [] [] [] e))).ok _; rw [hb]; exact L8 _
  · intro b hb; cases hb
 obtain ⟨rfl, hq⟩ : e = 0 ∧ QJ c me pa s := hrc.resolve_right fun h => hc12 h.1
 obtain ⟨l1, l2, l3⟩ := Ib hc hq
 have hll : (DR me pa).length = me.length + 1 + pa.length + 1 := by unfold DR; simp only [List.length_append, List.length_cons, List.length_nil]
 have hlne : Br (DR me pa) ≠ [] := fun e => by have := congrArg List.length e; rw [Ap, hll] at this; simp at this
 refine Wn 6 ?_
 refine Xp (DL (j := [32]) rfl rfl (by simp only [List.length_cons, List.length_nil]; omega)) ?_
 refine Wn 2 ?_
 refine Xp (DL rfl rfl (by simp only [List.length_append, List.length_cons, List.length_nil]; omega)) ?_
 refine Xp (DL (j := [10]) rfl rfl (by simp only [List.length_append, List.length_cons, List.length_nil]; omega)) ?_
 intro a w hS
 rw [show me ++ [32] ++ pa ++ [10] = DR me pa from rfl] at hS
 refine Aa (Jl hS rfl (by rw [BA, hll]; omega) Tryz.underlying9 AZ.1 C7.1 rfl ?_)
 intro b21 c21 a w hc21 hm21 hS
 rw [show CE (tx (DR me pa)) = Br (DR me pa) from rfl] at hS hc21
 refine Wq 2 hS ?_; intro a hS
 refine Aa (Kr (l := Br (DR me pa)) (ys := Br s) hS rfl rfl AZ.1 BL.1 HX.1 KI.1 rfl (by repeat constructor) hm21 hc21 (Ap s) (hby _ (hS.gg (X := mY c x8))) hlne (by rw [Ap, hll]; omega) (fun _ => (by repeat constructor)) ?_)
 intro q24 c24 a w hc24 hS
 have eb : Br (DR me pa) ++ Br s = Br (FQ me pa s) := (List.map_append ..).symm
 have el : (Br (DR me pa)).length + s.length = (FQ me pa s).length := by rw [Ap]; exact (List.length_append ..).symm
 rw [eb, el] at hS
 rw [el] at hc24
 refine Wh 5 hS ?_
 intro a w hS
 refine Rm hS Tryz.results19 ?_
 exact ⟨⟨((q24, c24), (me, pa, s), 0), .inl ⟨rfl, hq⟩⟩, rfl, hS.chg, hS.ok (Ly (.slice q24 (FQ me pa s).length c24) (Br (FQ me pa s))) (by repeat constructor), fun b hb => (hS.mine (Ly (.slice q24 (FQ me pa s).length c24) (Br (FQ me pa s))) (by repeat constructor) rfl b hb).resolve_right id⟩
theorem X5 (va vb : Value) (l : List Int) (hl : l.length ≤ 1000000) (w0 : World) (h1 : CL va l w0) (h2 : CL vb l w0) : Ae Tryz.prog 21 [va, vb] w0 (.bool true) := by
 obtain ⟨qa, ca, rfl⟩ := h1.shape
 obtain ⟨qb, cb, rfl⟩ := h2.shape
 refine Ew Ai Tryz.func21 Tryz.ntmps21 (Ax w0) ?_
 intro a hS
 refine Wh 15 hS ?_
 refine Ie 10 false rfl (decide_eq_false (by omega)) ?_
 refine Wn 10 ?_
 intro a w hS
 refine AW (γ := Nat) (fun k a w => St 26 Ai w0 a w [(5, .int .i64 (k : Int)), (0, .slice qa l.length ca), (1, .slice qb l.length cb)] [AG w0] ∧ k ≤ l.length) (fun k => l.length - k) 0 ⟨hS.sq, Nat.zero_le _⟩ ?_
 intro k a w hI
 obtain ⟨hS, hk⟩ := hI
 refine Wh 9 hS ?_
 refine iD (fun hc14 => ?_) fun hc14 => ?_
 ·
  have hkl : k < l.length := by omega
  have hne : l ≠ [] := fun e => by rw [e] at hkl; exact absurd hkl (Nat.not_lt_zero _)
  obtain ⟨x, hx⟩ : ∃ x, l[k]? = some x := ⟨l[k], by simp⟩
  obtain ⟨b, off, c1, e1, _, hca⟩ := h1.some hne
  obtain ⟨b', off', c2, e2, _, hcb⟩ := h2.some hne
  injection e1 with e1 _ e3
  injection e2 with e2 _ e4
  subst e1; subst e2; subst e3; subst e4
  refine Wn 5 ?_
  refine Dr 9 [] [AG w0] ?_
  refine ZR 3 ?_
  refine Zy rfl (AI rfl BX.1 (fun w hh => by rw [Nat.mul_one]; exact AF (hh (AG w0) (by repeat constructor)) (hca _ _ hx))) ?_
  refine ZR 3 ?_
  refine Zy rfl (AI rfl BX.1 (fun w hh => by rw [Nat.mul_one]; exact AF (hh (AG w0) (by repeat constructor)) (hcb _ _ hx))) ?_
  refine ZR 1 ?_
  refine Wn 2 ?_
  refine Ie 25 false rfl (decide_eq_false (fun h => h rfl)) ?_
  refine Wn 9 ?_
  intro a w hS
  exact ⟨k + 1, by omega, hS.sq, by omega⟩
 refine Wn 1 ?_
 intro a w hS
 refine AH (AH (Aj ?_))
 refine Wh 7 hS ?_
 intro a w hS
 refine Ro hS Tryz.results21 ?_
 exact ⟨rfl, hS.chg⟩
theorem QQ (qa qb : Option Addr) (ca cb : Nat) (s : List UInt8) (hl : s.length ≤ 1000000) (w0 : World) (h1 : CL (.slice qa s.length ca) (Br s) w0) (h2 : CL (.slice qb s.length cb) (Br s) w0) : Ae Tryz.prog 21 [.slice qa s.length ca, .slice qb s.length cb] w0 (.bool true) :=
 X5 _ _ (Br s) (by rw [Ap]; exact hl) w0 h1 h2
theorem X6 (me pa : ByteArray) (qa qb : Option Addr) (ca cb : Nat) (s : List UInt8) (hl : s.length ≤ 1000000) (w0 : World) (h1 : CL (.slice qa s.length ca) (Br s) w0) (h2 : CL (.slice qb s.length cb) (Br s) w0) : Ae Tryz.prog 20 [.agg [.string me, .string pa, .slice qa s.length ca, .bool false].toArray, .agg [.string me, .string pa, .slice qb s.length cb, .bool false].toArray] w0 (.bool true) := by
 refine Ew Ai Tryz.func20 Tryz.ntmps20 (Ax w0) ?_
 intro a hS
 refine Wh 2 hS ?_
 refine Lo (Bx ?_); intro b2
 refine Lo (Bx ?_); intro b3
 refine Wn 11 ?_
 refine Ie 10 true rfl (decide_eq_true rfl) ?_
 refine Wn 7 ?_
 refine Ie 17 true rfl (decide_eq_true rfl) ?_
 refine Wn 4 ?_
 refine Xg (Y9 rfl rfl fB.1 rfl) ?_
 refine Wn 2 ?_
 refine Ie 24 true rfl (by rfl) ?_
 refine Wn 4 ?_
 refine Lg (cP fH (fun hS => QQ qa qb ca cb s hl _ (Ha (hS.gg (X := AG w0)) h1) (Ha (hS.gg (X := AG w0)) h2)) ?_)
 refine Wn 5 ?_
 intro a w hS
 refine Ro hS Tryz.results20 ?_
 exact ⟨rfl, hS.chg⟩
theorem Oz {fs : List B5} {k : Nat} {x : B5} (h : fs[k]? = some x) : (fs.take (k + 1)).flatMap Az = (fs.take k).flatMap Az ++ (Az x ++ []) := by
 rw [BG h, List.flatMap_append]; rfl
theorem Nh (W0 : World) (fa : Option Addr) (fc : Nat) (fs : List B5) (hn : fs.length ≤ 1000) (hF : D9 W0 fa fs) (w0 : World) (ho : AQ W0 w0) :
 Bb Tryz.prog 47 [.slice fa fs.length fc] w0 (fun v : Option Addr × Nat => .slice v.1 fs.length v.2) (fun v => oR 139 4 v.1 fs v.2 Az) := by
 refine Ew Ai Tryz.func47 Tryz.ntmps47 ho ?_
 intro a hS
 refine Wq 17 hS ?_; intro a hS
 refine AW (γ := Nat × Value) (fun G a w => St 36 Ai w0 a w [(4, .int .i64 (G.1 : Int)), (3, G.2), (0, .slice fa fs.length fc)] [AJ 139 4 G.2 G.1 ((fs.take G.1).flatMap Az), AG W0] ∧ G.1 ≤ fs.length) (fun G => fs.length - G.1) (0, .slice none 0 0) ⟨((hS.own_nil 139 4).sq).pk, Nat.zero_le _⟩ ?_
 intro G a w hI
 obtain ⟨k, lv⟩ := G
 obtain ⟨hS, hk⟩ := hI
 simp only at hS hk
 obtain ⟨ql, cl, rfl⟩ := AN (hS.gg (X := AJ 139 4 lv k ((fs.take k).flatMap Az)))
 refine Wh 9 hS ?_
 refine iD (fun hc8 => ?_) fun hc8 => ?_
 ·
  have hkn : k < fs.length := by omega
  obtain ⟨x, hx⟩ : ∃ x, fs[k]? = some x := ⟨_, List.getElem?_eq_getElem hkn⟩
  obtain ⟨nb, no, rfl, hcell⟩ := hF.c (fun e => by rw [e] at hkn; exact absurd hkn (Nat.not_lt_zero _))
  refine Wn 4 ?_
  refine Dr 25 [] [AG W0] ?_
  refine ZR 5 ?_
  refine Zy rfl (AI (v := .string (tx x.nm)) rfl Af.1 (fun w hh => AF (hh (AG W0) (by repeat constructor)) (hcell k x hx 0 _ rfl))) ?_
  refine ZR 4 ?_
  refine Zy rfl (AI (v := .int .i64 x.ty) rfl El.1 (fun w hh => AF (hh (AG W0) (by repeat constructor)) (hcell k x hx 1 _ rfl))) ?_
  refine ZR 4 ?_
  refine Zy rfl (AI (v := .int .i64 x.n) rfl El.1 (fun w hh => AF (hh (AG W0) (by repeat constructor)) (hcell k x hx 2 _ rfl))) ?_
  refine ZR 4 ?_
  refine Zy rfl (AI (v := .string (tx x.s)) rfl Af.1 (fun w hh => AF (hh (AG W0) (by repeat constructor)) (hcell k x hx 3 _ rfl))) ?_
  refine ZR 1 ?_
  refine Z0 rfl (Bz ?_); intro b33
  refine Za ?_
  refine Z0 rfl (A1 ?_); intro v34 hv34
  intro a w hS
  obtain ⟨q34, c34, rfl⟩ := AN (hS.gg (X := AJ 139 4 v34 (k + 1) _))
  refine Un hS (Za ?_)
  refine ZR 1 ?_
  refine Wn 8 ?_
  have e := Oz hx
  unfold Az at e
  intro a w hS
  refine ⟨(k + 1, .slice q34 (k + 1) c34), by show fs.length - (k + 1) < fs.length - k; omega, ?_, hkn⟩
  show St _ _ _ _ _ _ [AJ _ _ _ _ ((fs.take (k + 1)).flatMap Az), _]
  unfold Az
  rw [e]
  exact hS.sp
 obtain rfl : k = fs.length := by omega
 intro a w hS
 rw [List.take_length] at hS
 refine Wq 1 hS ?_; intro a hS
 refine AH (AH (Aj ?_))
 refine Wh 8 hS ?_
 intro a w hS
 refine Ro hS Tryz.results47 ?_
 exact ⟨(ql, cl), rfl, hS.chg, hS.ok (oR 139 4 ql fs cl Az) (by repeat constructor), fun b hb => (hS.mine (oR 139 4 ql fs cl Az) (by repeat constructor) rfl b hb).resolve_right id⟩
theorem Ni (W0 : World) (fa : Option Addr) (fc : Nat) (c : Cd) (hn : c.fx.length ≤ 1000) (hF : D9 W0 fa c.fx) (w0 : World) (ho : AQ W0 w0) :
 Bb Tryz.prog 16 [.agg (AB c (.slice fa c.fx.length fc)).toArray] w0 (fun v : Option Addr × Nat => .agg (AB c (.slice v.1 c.fx.length v.2)).toArray) (fun v => oR 139 4 v.1 c.fx v.2 Az) := by
 refine Ew Ai Tryz.func16 Tryz.ntmps16 ho ?_
 intro a hS
 refine Wh 2 hS ?_
 refine Lo (Bx ?_); intro b1
 refine Lo (Al ?_); intro b2
 refine Wn 3 ?_
 refine Dr 33 [32] [.blk b1 (AB c (.slice fa c.fx.length fc)) 24, AG W0] ?_
 refine ZR 30 ?_
 refine Z0 rfl (cN oA (fun hS => Nh W0 fa fc c.fx hn hF _ hS.od) ?_); intro x33
 obtain ⟨qv, cv⟩ := x33
 refine Za ?_
 refine ZR 1 ?_
 refine Z0 rfl (Sa ?_)
 refine Zl ?_
 refine Wn 3 ?_
 intro a w hS
 refine Ro hS Tryz.results16 ?_
 exact ⟨(qv, cv), rfl, hS.chg, hS.ok (oR 139 4 qv c.fx cv Az) (by repeat constructor), fun b hb => (hS.mine (oR 139 4 qv c.fx cv Az) (by repeat constructor) rfl b hb).resolve_right id⟩
theorem IJ (W0 : World) (hG : Gj W0) (c : Cd) (hc : c.ok) (hfx : NV c.fx) (htt : KA c ≤ 1048576) (fa : Option Addr) (fc : Nat) (hF : D9 W0 fa c.fx) (w0 : World) (hold : AQ W0 w0) :
 Ae Tryz.prog 5 [.agg (AB c (.slice fa c.fx.length fc)).toArray] w0 (.bool true) := by
 refine Ew Ai Tryz.func5 Tryz.ntmps5 hold ?_
 intro a hS
 refine Wh 2 hS ?_
 refine Lo (Bx ?_); intro b1
 refine Wn 5 ?_
 refine Lo (cP rP (fun hS => Rw W0 hG _ hS.od) ?_)
 refine Wn 9 ?_
 refine Ie 16 false rfl rfl ?_
 refine Wn 1 ?_
 refine Lg (cN rQ (fun hS => Xq W0 fa fc c hF _ hS.od) ?_); intro x18
 obtain ⟨bs, hbs⟩ := x18
 intro a w hS
 simp only at hS
 refine Wh 4 hS ?_
 refine iB (fun hc20 => ?_) fun hc20 => ?_
 ·
  refine Wn 8 ?_
  intro a w hS
  refine Ro hS Tryz.results5 ?_
  exact ⟨rfl, hS.chg⟩
 have hsmall : Uy c := hbs.1 (by cases bs with | true => rfl | false => exact absurd hc20 (by simp))
 have hfw := hsmall.1.1
 have hfl : c.fx.length ≤ 1000 := by have := hfw.1; omega
 refine Wn 5 ?_
 refine Lo (cN nH (fun hS => Ni W0 fa fc c hfl hF _ hS.od) ?_); intro x23
 obtain ⟨qv, cv⟩ := x23
 refine Lo (Al ?_); intro b4
 refine Lo (Sa ?_)
 refine Wn 5 ?_
 refine Lo (cN qR (fun hS => On W0 hG c hc hfx hfw htt fa fc hF _ hS.od) ?_); intro x26
 obtain ⟨m1, p1, s1, q1, k1, e1, hv1, hb1, ho1⟩ := cU x26
 intro a w hS
 rw [hv1] at hS
 refine Wh 3 hS ?_
 refine Lo (Al ?_); intro b5
 refine Lo (Sa ?_)
 refine Wn 6 ?_
 refine Lo (cN fG (@fun a w hS => Ju w c hc hfx hfw htt qv cv (Jt (hS.ok (oR 139 4 qv c.fx cv Az) (by repeat constructor))) w (Ax w)) ?_); intro x31
 obtain ⟨m2, p2, s2, q2, k2, e2, hv2, hb2, ho2⟩ := Vc x31
 intro a w hS
 rw [hv2] at hS
 obtain ⟨rfl, rfl, rfl, rfl⟩ := L9 ho1 ho2
 refine Wh 3 hS ?_
 refine Lo (Al ?_); intro b7
 refine Lo (Sa ?_)
 refine Wn 6 ?_
 refine Lo (cN nJ (fun hS => R8 W0 hG c hc fa fc ⟨hF.c, hfl, hfx⟩ _ hS.od fun _ _ _ _ hx h => ⟨NW hc hfx hx h, VI hc hfx hfw htt hx h⟩) ?_); intro x36
 obtain ⟨l3, m3, p3, s3, q3, k3, e3, hv3, hl3, hb3, ho3⟩ := cV x36
 intro a w hS
 rw [hv3] at hS
 obtain ⟨rfl, rfl, rfl, rfl⟩ := L9 ho2 ho3
 refine Wh 10 hS ?_
 refine Lo (cN nK (@fun a w hS => SK w c hc hfx hfw htt qv cv (Jt (hS.ok (oR 139 4 qv c.fx cv Az) (by repeat constructor))) w (Ax w)) ?_); intro x41
 intro a w hS
 obtain ⟨l4, q4, k4, e4, hv4, hb4, hl4, he4⟩ : ∃ (l : List UInt8) (q : Option Addr) (k : Nat) (e : Int), rM c x41 = .tuple [.slice q l.length k, .int .i64 e].toArray ∧ (∀ w, (qN c x41).φ w → CL (.slice q l.length k) (Br l) w) ∧ l = l3 ∧ e = e3 := by
  obtain ⟨⟨⟨q, k⟩, ⟨m, p, s⟩, e⟩, ho⟩ := x41
  obtain ⟨rfl, rfl, rfl, rfl⟩ := L9 ho3 ho
  exact ⟨_, q, k, _, rfl, fun _ h => h, hl3.symm, rfl⟩
 subst hl4 he4
 rw [hv4] at hS
 have hs3 : s3.length ≤ 1000000 := by
  rcases ho3 with ⟨_, h⟩ | ⟨_, _, _, _, h⟩
  · have := (Ib hc h).2.2; omega
  · rw [h]; exact Nat.zero_le _
 have hl3' : l4.length ≤ 1000000 := by
  rw [hl3]
  unfold Oy
  split
  ·
   rcases ho3 with ⟨_, h⟩ | ⟨h0, _⟩
   ·
    obtain ⟨a1, a2, a3⟩ := Ib hc h
    unfold FQ DR
    simp only [List.length_append, List.length_cons, List.length_nil]; omega
   · contradiction
  · exact Nat.zero_le _
 refine Wh 11 hS ?_
 refine Lo (cP nM (fun hS => X6 (tx m3) (tx p3) q1 q2 k1 k2 s3 hs3 _ (hb1 _ (hS.gg (X := eR c x26))) (hb2 _ (hS.gg (X := mY c x31)))) ?_)
 refine Wn 1 ?_
 refine Ie 47 true rfl rfl ?_
 refine Wn 1 ?_
 refine Lg (cP Vw (fun _ => Lu e4 _) ?_)
 refine Wn 4 ?_
 refine Ie 53 true rfl (decide_eq_true rfl) ?_
 refine Wn 2 ?_
 refine Lg (cP fH (fun hS => QQ q3 q4 k3 k4 l4 hl3' _ (hb3 _ (hS.gg (X := qJ c x36))) (hb4 _ (hS.gg (X := qN c x41)))) ?_)
 refine Wn 2 ?_
 refine Ie 58 true rfl rfl ?_
 refine Wn 1 ?_
 refine Lg (cP Vw (fun _ => Lu e4 _) ?_)
 refine Wn 7 ?_
 intro a w hS
 refine Ro hS Tryz.results5 ?_
 exact ⟨congrArg (fun b => Ending.returned (Value.bool b)) (decide_eq_true rfl), hS.chg⟩
theorem O0 {w : World} (h : w.ShapedOpen Tryz.prog) : ∃ m, w.cell? ⟨2, 0, none⟩ = some (.int .i64 m) :=
 cell_of_shapedOpen_int (zero := #[.int .i64 0]) h (of_decide_eq_true (by kernel_rfl)) (by kernel_rfl) (by kernel_rfl) (by kernel_rfl) (by kernel_rfl) Tryz.underlying3
open Go.Lib
def kU : Shelf.Ren := ⟨fun n => n, fun | 5 => 5 | 119 => 200 | 138 => 202 | 139 => 203 | n => n, fun | 3 => 0 | 4 => 1 | n => n⟩
theorem qO : U8Types Tryz.prog kU := ⟨by kernel_rfl, by kernel_rfl, by kernel_rfl, by kernel_rfl⟩
theorem qP : U8Extra Tryz.prog kU := ⟨by kernel_rfl, by kernel_rfl, by kernel_rfl, by kernel_rfl, by kernel_rfl, by kernel_rfl, by kernel_rfl⟩
theorem rN : Tryz.prog.globalNamed "strconv.ErrRange" = some 5 := by kernel_rfl
theorem Vd : "*" ++ "errors.errorString" = "*errors.errorString" := by decide
theorem kV (u : TypeId) (h : Tryz.prog.typeName? 3 u = some "*errors.errorString") : u = 313 :=
 typeName_ptr_named (nm := "errors.errorString") (by rw [Vd]; kernel_rfl) (by kernel_rfl) (by decide) u (by rw [Vd]; exact h)
theorem kW : Tryz.prog.globalNamed "internal/strconv.uint64pow10" = some 3 := by kernel_rfl
theorem X7 {W w : World} (ho : AQ W w) {g : Nat} {nm : String} {k : IntKind} {zs : List Int} (hg : Tryz.prog.globalNamed nm = some g) (h : TabIs Tryz.prog W nm k zs) : TabIs Tryz.prog w nm k zs := by
 unfold TabIs World.var? at *
 rw [hg] at h ⊢
 simp only [Option.bind_some] at h ⊢
 have hlt : g < W.heap.size := by
  rcases Nat.lt_or_ge g W.heap.size with h1 | h1
  · exact h1
  · rw [Array.getElem?_eq_none h1] at h; simp at h
 rw [ho.2 g hlt]; exact h
theorem Ve : (Rows.laid_internal_strconv_uint64pow10 : DataW Unit) = tabData .u64 pow10Tab := by kernel_rfl
theorem kX {W : World} (hsh : W.ShapedOpen Tryz.prog) (hl : laidMetH Tryz.prog Rows.frontFieldsUptoRow.laid W) : Gj W := by
 have hL : laidMet Tryz.prog Rows.frontFieldsUptoRow.laid W := by rwa [MakeChecks.laidMetH_plain _ _ _ (by kernel_rfl)] at hl
 refine ⟨?_, ?_, ?_, O0 hsh⟩
 · exact utf8Tabs_of_readsT qO qP (Lib.laidMet.reads hL (.tail _ (.tail _ (.tail _ (.tail _ (.tail _ (.tail _ (.head _)))))))) (Lib.laidMet.reads hL (.tail _ (.tail _ (.tail _ (.head _)))))
 ·
  obtain ⟨a1, s1, hv1, -, -, -⟩ := laid_sentinel (tp := 313) hL.tail.tail.tail.tail rN (ti := 111) (by kernel_rfl) Tryz.underlying111 kV Tryz.underlying313 Tryz.underlying315 rfl rfl Tryz.underlying9 (by kernel_rfl) (by kernel_rfl)
  exact ⟨_, by have h0 := World.var?_cell rN hv1 0; simpa using h0, .inr ⟨_, _, rfl⟩⟩
 ·
  have h2 : laidMet Tryz.prog (("internal/strconv.uint64pow10", Rows.laid_internal_strconv_uint64pow10) :: _) W := hL.tail.tail
  rw [Ve] at h2
  exact fun w ho => X7 ho kW (tabIs_of_head (n := 20) (t := 294) (e := 252) kW (by kernel_rfl) Tryz.underlying294 Tryz.underlying252 (by kernel_rfl) (by kernel_rfl) h2)
end Go.Proofs.YtlccmgeclhdegaaGreatDoor
namespace Go.Proofs.YtlccmgeclhdegaaGreatDoor.Open
set_option maxRecDepth 100000
open Go.ChangeShapes Go.WideShapes Go.Deep
section
variable {H : Type} {enc : TypeId × Value → H} {P : Program} {w : World} {base : Nat} {spare : Nat → Bool} {held : Bool}
theorem HT {t e : TypeId} {fs : Array Field} {fuel : Nat} {cs : List Value} {x : DataW H × List MemPlace} (ht : P.underlying t = some (.slice e)) (he : P.underlying e = some (.struct fs))
 (hone : oneCellFields P fs = true) (hC : P.cellsOf e = fs.size) (h : DataW.trod enc P w base spare held fuel t cs = some x) :
 (cs = [.slice none 0 0] ∧ x = (.nil, [])) ∨
 ∃ (a : Addr) (len cap m : Nat) (D : Nat → DataW H) (Pl : Nat → List MemPlace), cs = [.slice (some a) len cap] ∧ base ≤ a.block ∧ len ≤ cap ∧ cap ≤ maxLen ∧ m = (if spare a.block then cap else len) ∧
  x = (.slice ((List.range len).map D) ((List.range (m - len)).map fun j => D (len + j)), MemPlace.row a (m * fs.size) ++ (List.range m).flatMap Pl) ∧
  ∀ i, i < m → ∃ (ys : List (DataW H × List MemPlace)) (n : Nat), D i = .agg (ys.map (·.1)) ∧ Pl i = ys.flatMap (·.2) ∧ ys.length = fs.size ∧
   ∀ (j : Nat) (f : Field), fs[j]? = some f → ∃ (v : Value) (y : DataW H × List MemPlace), w.cell? (a.add (i * fs.size + j)) = some v ∧ ys[j]? = some y ∧ DataW.trod enc P w base spare held n f.type [v] = some y := by
 rcases open_slice ht h with h0 | ⟨a, len, cap, m, n, D, Pl, hcs, hb, hl, hm, hmm, hx, hi⟩
 · exact .inl h0
 ·
  refine .inr ⟨a, len, cap, m, D, Pl, hcs, hb, hl, hm, hmm, by rw [hC] at hx; exact hx, fun i him => ?_⟩
  obtain ⟨cs', hc, ht'⟩ := hi i him
  rw [hC] at hc
  obtain ⟨ys, n', hn', hy, hlen, hyl, hf⟩ := DataW.trod_struct he ht'
  obtain ⟨_, hcl, hat⟩ := World.cells?_some hc
  simp only [Prod.mk.injEq] at hy
  refine ⟨ys, n', hy.1, hy.2, hyl, fun j f hj => ?_⟩
  obtain ⟨ho, hk⟩ := hone_of hone j f hj
  have hjl : j < fs.size := (Array.getElem?_eq_some_iff.1 hj).1
  have hcell := hat j hjl
  have hv : cs'[j]? = some (cs'[j]'(by omega)) := List.getElem?_eq_getElem (by omega)
  have h1 := hf j f hj
  rw [ho, hk] at h1
  have hone' : (cs'.drop j).take 1 = [cs'[j]'(by omega)] := by
   rw [List.drop_eq_getElem_cons (by omega)]
   rfl
  rw [hone'] at h1
  have hys : ys[j]? = some (ys[j]'(by omega)) := List.getElem?_eq_getElem (by omega)
  refine ⟨_, _, ?_, hys, h1.trans hys⟩
  rw [← Go.Deep.add_add, hcell, hv]
end
section
variable {H : Type} {enc : TypeId × Value → H}
theorem Vf {a : Addr} (h : a.spot = none) (n : Nat) : a.add n = ⟨a.block, a.off + n, none⟩ := by
 unfold Addr.add
 split
 · next h0 => subst h0; cases a; simp_all
 · rfl
end
end Go.Proofs.YtlccmgeclhdegaaGreatDoor.Open
