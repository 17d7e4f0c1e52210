/- FrontBlanks: for every argument whose bulk is at most 1048576 the law returns true, and each argument reads afterwards as it read before. No other conditions. (text 5 of 5) -/
import Derived.Test.YtlccmgeclhdegaaGreatDoorLBkC4
import Derived.Handed
import Derived.SizedLaws
import Derived.Shelf.Vars
import Derived.KernelRfl
import Derived.Stop.LaidErr
import Derived.LaidLaws
import Derived.MakeChecks
import Derived.Lib.LaidU8T
import Derived.Lib.LaidTab
import Derived.Deep.Slices
import Derived.Deep.Fields
import Derived.ChangeSame
import Derived.OpenShut
import Derived.Lib.SmallJoins
import Derived.ProofKit
import Derived.ShutString
import Derived.ChangeOld
import Derived.Below
import Derived.LaidMore
import Derived.Lay
import Derived.SevenTiedAt
import Derived.Stop.Joined
import Derived.JoinedCond
import Derived.Deep.DeepHandedRow
import Derived.Test.YtlccmgeclhdegaaGreatDoorTie
import Derived.Test.YtlccmgeclhdegaaGreatDoorCards
namespace Go.Proofs.YtlccmgeclhdegaaGreatDoor
open Go.RowKit
def encI (x : Int) : List Value := fourJ 3 (tx (Lib.itoa x)) none 0 0 none 0 0
theorem ints_step {xs : List Int} {k : Nat} {x : Int} (h : xs[k]? = some x) : (xs.take (k + 1)).flatMap encI = (xs.take k).flatMap encI ++ (encI x ++ []) := by
 rw [take_next h, List.flatMap_append]; rfl
set_option maxRecDepth 100000 in
theorem fInts_N (W0 : World) (hG : Gj W0) (na : Option Addr) (nm nc : Nat) (b c : Nat) (xs : List Int) (hb : ∀ x ∈ xs, -9223372036854775808 ≤ x ∧ x ≤ 9223372036854775807) (hlen : xs.length ≤ 1000) (hx : ∀ (i : Nat) (x : Int), xs[i]? = some x → W0.cell? ⟨b, i, none⟩ = some (.int .i64 x)) (w0 : World) (ho : oldφ W0 w0) :
 NewC Tryz.prog 127 [.slice na nm nc, .slice (some ⟨b, 0, none⟩) xs.length c] w0 (fun v : Option Addr × Nat => .agg [.int .i64 6, .string ⟨#[]⟩, .slice v.1 xs.length v.2, .slice na nm nc].toArray) (fun v => ownA 37 4 (.slice v.1 xs.length v.2) xs.length (xs.flatMap encI)) := by
 refine c_enter [(0, .slice na nm nc), (1, .slice (some ⟨b, 0, none⟩) xs.length c)] [oldA W0] noB Tryz.func127 rfl Tryz.ntmps127 ⟨rfl, rfl, trivial⟩ rfl (okC (old_ok ho) okN) dis1 (mineC rfl mineN) ?_
 intro a hS
 refine cS (cR ?_)
 refine L_op (s_alloc hS ty_z37 rfl ?_); clear hS a; intro a w b4 hS
 refine nL (nT (cS (cR ?_)))
 refine L_e hS (e_assign rfl) rfl ?_; clear hS a; intro a hS
 refine nL (nT (cS (cS (cR ?_))))
 refine Rn hS (.m rfl <| .c (e_len rfl rfl ty_sl121) <| .m rfl .n) ?_; clear hS a; intro a hS
 refine nL (nT (wB ?_))
 skip
 refine c_loop (γ := Nat × Value) (fun G a w => St 23 noB w0 a w [(10, .int .i64 (G.1 : Int)), (9, .int .i64 (xs.length : Int)), (8, .slice (some ⟨b, 0, none⟩) xs.length c), (5, G.2), (0, .slice na nm nc), (4, .pointer (some ⟨b4, 0, none⟩))] [ownA 37 4 G.2 G.1 ((xs.take G.1).flatMap encI), .blk b4 zeroJ 37, oldA W0] ∧ G.1 ≤ xs.length) (fun G => xs.length - G.1) (0, .slice none 0 0) ⟨((hS.own_nil 37 4).slots (by repeat (first | exact trivial | refine ⟨rfl, ?_⟩))).pick (by repeat (first | exact Pick.nil | (refine Pick.cons (by repeat (first | exact Rem.head | apply Rem.tail)) ?_))), Nat.zero_le _⟩ ?_
 clear hS a; intro G a w hI
 obtain ⟨k, lv⟩ := G
 obtain ⟨hS, hk⟩ := hI
 simp only at hS hk
 obtain ⟨ql, cl, rfl⟩ := own_slice (hS.gg (X := ownA 37 4 lv k ((xs.take k).flatMap encI)))
 refine cS (cR ?_)
 refine L_e hS (e_bin rfl rfl rfl) rfl ?_; clear hS a; intro a hS
 refine nL (nT (cS ?_))
 (first | refine c_ifD hS rfl ?_ ?_ | refine c_if hS rfl ?_ ?_) <;> intro hc11
 ·
  have hkn : k < xs.length := by omega
  obtain ⟨y, hy⟩ : ∃ y, xs[k]? = some y := ⟨_, List.getElem?_eq_getElem hkn⟩
  have hyb := hb y (List.mem_of_getElem? hy)
  refine wS (nT (cS (wB (cS (cR ?_)))))
  refine Rn hS (.c (e_ixN rfl rfl ty_sl121 ty_sz3 (by omega)) <| .c (e_loadC rfl ty_sc3 (fun w hh => by rw [Nat.mul_one, Nat.zero_add]; exact old_cell (hh (oldA W0) (by repeat constructor)) (hx k y hy))) <| .a rfl .n) ?_; clear hS a; intro a hS
  refine nL (nT (cR ?_))
  refine Rn hS (.m rfl <| .m rfl .n) ?_; clear hS a; intro a hS
  refine L_op (s_callP hS (.cons rfl .nil) cf87 rfl (jOfInt_P W0 hG y hyb.1 hyb.2 _ (hS.gg (X := oldA W0))) ?_); clear hS a; intro a w hS
  unfold fourJ at hS
  refine L_op (s_bslice hS ty_sl34 ty_sz37 ty_z37 rfl rfl rfl rfl (.agg rfl rfl .nil) rfl ?_); clear hS a; intro a w b17 hS
  refine L_op (s_append1 hS rfl rfl ty_sl34 ty_sz37 ty_by37 ty_z37 rfl rfl rfl (by repeat constructor) (by repeat constructor) (by rfl) (by rfl) (fun _ => (by repeat constructor)) (by omega) ?_); clear hS a; intro v18 a w hv18 hS
  obtain ⟨q18, c18, rfl⟩ := own_slice (hS.gg (X := ownA 37 4 v18 (k + 1) _))
  refine L_e hS (e_assign rfl) rfl ?_; clear hS a; intro a hS
  refine nL (n_block (nT (cR ?_)))
  (first | refine L_e hS (e_binN rfl rfl rfl (by omega)) rfl ?_ | refine L_e hS (e_bin rfl rfl rfl) rfl ?_); clear hS a; intro a hS
  refine L_e hS (e_move rfl) rfl ?_; clear hS a; intro a hS
  refine nL ?_
  have e := ints_step hy
  unfold encI fourJ at e
  refine ⟨(k + 1, .slice q18 (k + 1) c18), by show xs.length - (k + 1) < xs.length - k; omega, ?_, hkn⟩
  show St _ _ _ _ _ _ [ownA _ _ _ _ ((xs.take (k + 1)).flatMap encI), _, _]
  unfold encI fourJ
  rw [e]
  exact (hS.slots (by repeat (first | exact trivial | refine ⟨rfl, ?_⟩))).pick (by repeat (first | exact Pick.nil | (refine Pick.cons (by repeat (first | exact Rem.head | apply Rem.tail)) ?_)))
 obtain rfl : k = xs.length := by omega
 rw [List.take_length] at hS
 refine wp_exit ?_
 refine x_then (x_then (x_hit ?_))
 refine nT (cS (cR ?_))
 refine Rn hS (.m rfl <| .m rfl .n) ?_; clear hS a; intro a hS
 refine L_op (s_callP hS (.cons rfl (.cons rfl .nil)) cf128 rfl (fObject_P na ql nm nc xs.length cl _) ?_); clear hS a; intro a w hS
 refine L_op (s_storeA hS rfl rfl ty_sz37 (by repeat constructor) (by rfl) (by rfl) (by rfl) ?_); clear hS; intro w hS
 refine nL (nT (wp_ret ?_))
 refine c_ret1 hS Tryz.results127 (.cellA rfl (by repeat constructor) ty_st37 ty_sz37 (by rfl)) ?_
 exact ⟨(ql, cl), rfl, hS.chg, hS.ok (ownA 37 4 (.slice ql xs.length cl) xs.length (xs.flatMap encI)) (by repeat constructor), fun b hb => (hS.mine (ownA 37 4 (.slice ql xs.length cl) xs.length (xs.flatMap encI)) (by repeat constructor) rfl b hb).resolve_right id⟩
theorem u8_keep {W w : World} (hU : Lib.Utf8Tabs 0 1 W) (h : oldφ W w) : Lib.Utf8Tabs 0 1 w :=
 ⟨fun c hc => old_cell h (hU.1 c hc), fun i hi => ⟨old_cell h (hU.2 i hi).1, old_cell h (hU.2 i hi).2⟩⟩
set_option maxRecDepth 100000 in
theorem fResponse_N (n : Nat) (v : JV) (cs : List Value) (st : Int) (cl : Bool) (w0 : World) (hU : Lib.Utf8Tabs 0 1 w0) (hg : goodV n v) (hsm : smV n v) (hj : JAt n v cs w0) (hl : lenJ n v ≤ 65536) (hok : okF n 0 v) :
 NewC Tryz.prog 66 [.int .i64 st, .agg cs.toArray, .bool cl] w0 (fun x : { x : (Nat × Nat) × JV × List UInt8 // PJ n v x.2.1 x.2.2 ∧ x.2.2.length ≤ x.1.2 } => .agg [.int .i64 st, .slice (some ⟨x.1.1.1, 0, none⟩) x.1.2.2.length x.1.1.2, .bool cl].toArray) (fun x => bbA 5 x.1.1.1 (bsI x.1.2.2)) := by
 obtain ⟨lv2, nv2, ⟨a1, a2, a3, rfl⟩, ⟨a4, a5, a6, rfl⟩, hrc⟩ := hj.four
 subst hrc
 refine c_enter [(0, .int .i64 st), (1, .agg [.int .i64 (v.k : Int), .string (tx v.t), .slice a1 a2 a3, .slice a4 a5 a6].toArray), (2, .bool cl)] [oldA w0] noB Tryz.func66 rfl Tryz.ntmps66 ⟨rfl, rfl, rfl, trivial⟩ rfl (okC (old_ok (old_refl _)) okN) dis1 (mineC rfl mineN) ?_
 intro a hS
 refine cS (cR ?_)
 refine L_op (s_boxA hS rfl rfl ?_); clear hS a; intro a w b4 hS
 refine L_op (s_alloc hS ty_z62 rfl ?_); clear hS a; intro a w b6 hS
 refine nL (nT (cS (cR ?_)))
 refine L_e hS (e_loadA rfl (by repeat constructor) ty_st37 ty_sz37 (by rfl)) rfl ?_; clear hS a; intro a hS
 refine L_op (s_callN hS (.cons rfl .nil) cf12 rfl (jPrint_N n v _ _ (u8_keep hU (hS.gg (X := oldA w0))) hg hsm (hj.old (hS.gg (X := oldA w0))) (by omega)) ?_); clear hS a; intro x11 a w hS
 rcases x11 with ⟨⟨⟨pb, pc⟩, pr, ps⟩, h1, h2, h3, h4⟩ | pe
 rotate_left
 · exact absurd (pe.2.2 hok) (by omega)
 rw [show prV n v (.inl ⟨((pb, pc), pr, ps), h1, h2, h3, h4⟩) = .tuple [.slice (some ⟨pb, 0, none⟩) ps.length pc, .int .i64 0].toArray from rfl, show prY n v (.inl ⟨((pb, pc), pr, ps), h1, h2, h3, h4⟩) = bbA 5 pb (bsI ps) from rfl] at hS
 refine Rn hS (.m rfl <| .c (e_extract rfl rfl) <| .c (e_extract rfl rfl) <| .a rfl <| .a rfl .n) ?_; clear hS a; intro a hS
 refine nL (nT (cS (cS (cR ?_))))
 refine Rn hS (.m rfl <| .c (e_bin rfl rfl rfl) .n) ?_; clear hS a; intro a hS
 refine nL (nT ?_)
 replace hS := hS.is (t := 15) (c := false) rfl (by decide)
 refine c_if_f hS rfl ?_
 refine wS (nT (cS (cR ?_)))
 refine Rn hS (.m rfl <| .m rfl <| .m rfl <| .c (e_build ty_z62 ty_pl62 (.one rfl rfl rfl (by repeat constructor) (.one rfl rfl rfl (by repeat constructor) (.one rfl rfl rfl (by repeat constructor) .nil)))) .n) ?_; clear hS a; intro a hS
 refine L_op (s_storeA hS rfl rfl ty_sz62 (by repeat constructor) (by rfl) (by rfl) (by rfl) ?_); clear hS; intro w hS
 refine nL (nT (wp_ret ?_))
 refine c_ret1 hS Tryz.results66 (.cellA rfl (by repeat constructor) ty_st62 ty_sz62 (by rfl)) ?_
 exact ⟨⟨((pb, pc), pr, ps), h2, h4⟩, rfl, hS.chg, hS.ok (bbA 5 pb (bsI ps)) (by repeat constructor), fun b hb => (hS.mine (bbA 5 pb (bsI ps)) (by repeat constructor) rfl b hb).resolve_right id⟩
def errN : List (List UInt8) := [[101, 114, 114, 111, 114], [112, 108, 97, 99, 101]]
def errJ (e p : Int) : JV := .mk 6 [] errN [jNum (Lib.itoa e), jNum (Lib.itoa p)]
theorem err_at {e p : Int} {ql : Option Addr} {cl b : Nat} {w : World} (h1 : (ownA 37 4 (.slice ql 2 cl) 2 ([e, p].flatMap encI)).ok w) (h2 : (Asn.blk b (errN.flatMap encS) 9).ok w) : JAt 2 (errJ e p) [.int .i64 6, .string ⟨#[]⟩, .slice ql 2 cl, .slice (some ⟨b, 0, none⟩) 2 2] w := by
 refine ⟨.slice ql 2 cl, .slice (some ⟨b, 0, none⟩) 2 2, [e, p].map encI, rfl, .inr ⟨b, 0, 2, by decide, rfl, row_of_flat (enc := encS) (xs := errN) (fun _ => rfl) (show w.heap[b]? = some (.cells (errN.flatMap encS).toArray 9 (0, 0)) from h2.now), h2.lt b rfl⟩, rw_of_own (xs := [e, p]) (fun _ => rfl) h1, rfl, ?_⟩
 intro i v r hv hr
 rcases i with _ | _ | i
 · cases hv; cases hr; exact (jx_leaf 0 3 _ w).now
 · cases hv; cases hr; exact (jx_leaf 0 3 _ w).now
 · cases hv
theorem itoa25 : Lib.itoa 25 = [50, 53] := by decide +kernel
theorem itoa0 : Lib.itoa 0 = [48] := by decide +kernel
theorem errJ_eq : errJ 25 0 = .mk 6 [] errN [jNum [50, 53], jNum [48]] := by unfold errJ; rw [itoa25, itoa0]
theorem num_good {t : List UInt8} (h : numLit t) (n : Nat) : goodV (n + 1) (jNum t) := ⟨by omega, by omega, fun _ => h, fun h => absurd h (by decide)⟩
theorem errJ_good : goodV 2 (errJ 25 0) := ⟨by omega, by omega, fun h => absurd h (by decide), fun _ x hx => by
  rcases List.mem_cons.1 hx with rfl | hx
  · exact num_good (itoa_lit (by omega) (by omega)) 0
  · obtain rfl := List.mem_singleton.1 hx; exact num_good (itoa_lit (by omega) (by omega)) 0⟩
theorem errJ_sm : smV 2 (errJ 25 0) := by
 rw [errJ_eq]
 refine ⟨by decide, by decide, by decide, by decide, fun x hx => ?_⟩
 rcases List.mem_cons.1 hx with rfl | hx
 · exact ⟨by decide, by decide, by decide, by decide, fun x h => by cases h⟩
 · obtain rfl := List.mem_singleton.1 hx; exact ⟨by decide, by decide, by decide, by decide, fun x h => by cases h⟩
theorem errJ_len : lenJ 2 (errJ 25 0) ≤ 65536 := by rw [errJ_eq]; decide +kernel
theorem errJ_ok : okF 2 0 (errJ 25 0) := by
 rw [errJ_eq]
 refine ⟨fun h => absurd h (by decide), fun h => absurd h (by decide), fun _ => ⟨by decide +kernel, rfl, by decide, by decide, by decide, fun x hx => ?_⟩⟩
 rcases List.mem_cons.1 hx with rfl | hx
 · exact ⟨fun _ => by decide +kernel, fun h => absurd h (by decide), fun h => absurd h (by decide)⟩
 · obtain rfl := List.mem_singleton.1 hx; exact ⟨fun _ => by decide +kernel, fun h => absurd h (by decide), fun h => absurd h (by decide)⟩
set_option maxRecDepth 100000 in
theorem fFailed25_N (W0 : World) (hG : Gj W0) (w0 : World) (ho : oldφ W0 w0) :
  NewC Tryz.prog 64 [.int .i64 25, .int .i64 0] w0 (fun x : { x : (Nat × Nat) × JV × List UInt8 // PJ 2 (errJ 25 0) x.2.1 x.2.2 ∧ x.2.2.length ≤ x.1.2 } => .agg [.int .i64 409, .slice (some ⟨x.1.1.1, 0, none⟩) x.1.2.2.length x.1.1.2, .bool false].toArray) (fun x => bbA 5 x.1.1.1 (bsI x.1.2.2)) := by
  refine c_enter [(0, .int .i64 25), (1, .int .i64 0)] [oldA W0] noB Tryz.func64 rfl Tryz.ntmps64 ⟨rfl, rfl, trivial⟩ rfl (okC (old_ok ho) okN) dis1 (mineC rfl mineN) ?_
  intro a hS
  refine cS (cR ?_)
  refine L_op (s_alloc hS ty_z62 rfl ?_); clear hS a; intro a w b4 hS
  refine nL (nT (cS (cR ?_)))
  refine L_e hS (e_move rfl) rfl ?_; clear hS a; intro a hS
  refine L_op (s_callP hS (.cons rfl .nil) cf126 rfl (fStatus25_P _) ?_); clear hS a; intro a w hS
  refine L_op (s_bslice hS ty_sl35 ty_sz9 ty_z9 rfl rfl rfl rfl (.one rfl rfl rfl (.one rfl rfl rfl .nil)) rfl ?_); clear hS a; intro a w b7 hS
  refine Rn hS (.m rfl <| .m rfl .n) ?_; clear hS a; intro a hS
  refine L_op (s_bslice hS ty_sl121 ty_sz3 ty_z3 rfl rfl rfl rfl (.one rfl rfl rfl (.one rfl rfl rfl .nil)) rfl ?_); clear hS a; intro a w b10 hS
  have hb10 := hS.gg (X := .blk b10 [.int .i64 25, .int .i64 0] 3)
  refine L_op (s_callN hS (.cons rfl (.cons rfl .nil)) cf127 rfl (fInts_N w (hG.keep (hS.gg (X := oldA W0))) (some ⟨b7, 0, none⟩) 2 2 b10 2 [25, 0] (by decide) (by decide) (fun i x hx => cell_of_blk hb10 (by
 rcases i with _ | _ | i
 · cases hx; rfl
 · cases hx; rfl
 · cases hx)) _ (old_refl w)) ?_); clear hS a; intro x11 a w hS
  obtain ⟨ql, cl⟩ := x11
  have hj := err_at (hS.ok (ownA 37 4 (.slice ql 2 cl) 2 ([25, 0].flatMap encI)) (by repeat constructor)) (hS.ok (.blk b7 (errN.flatMap encS) 9) (by repeat constructor))
  refine L_op (s_callN hS (.cons rfl (.cons rfl (.cons rfl .nil))) cf66 rfl (fResponse_N 2 (errJ 25 0) _ 409 false _ (hG.keep (hS.gg (X := oldA W0))).u8 errJ_good errJ_sm hj errJ_len errJ_ok) ?_); clear hS a; intro x12 a w hS
  refine L_op (s_storeA hS rfl rfl ty_sz62 (by repeat constructor) (by rfl) (by rfl) (by rfl) ?_); clear hS; intro w hS
  refine nL (nT (wp_ret ?_))
  refine c_ret1 hS Tryz.results64 (.cellA rfl (by repeat constructor) ty_st62 ty_sz62 (by rfl)) ?_
  exact ⟨x12, rfl, hS.chg, hS.ok (bbA 5 x12.1.1.1 (bsI x12.1.2.2)) (by repeat constructor), fun b hb => (hS.mine (bbA 5 x12.1.1.1 (bsI x12.1.2.2)) (by repeat constructor) rfl b hb).resolve_right id⟩
theorem rt_nodup : (rtG.map (·.1)).Nodup := by decide +kernel
theorem rt_asked : ∀ t ∈ rtG.map (·.1), Lib.hasPrefix t invP = false ∧ Lib.hasPrefix t balP = false ∧ t ≠ heaP := by decide +kernel
theorem rt_path {j k : Nat} {x y : List UInt8 × List Fg} (hj : rtG[j]? = some x) (hk : rtG[k]? = some y) (h : x.1 = y.1) : j = k := by
 have hj' : (rtG.map (·.1))[j]? = some x.1 := by rw [List.getElem?_map, hj]; rfl
 have hk' : (rtG.map (·.1))[k]? = some y.1 := by rw [List.getElem?_map, hk]; rfl
 obtain ⟨l1, e1⟩ := List.getElem?_eq_some_iff.1 hj'
 obtain ⟨l2, e2⟩ := List.getElem?_eq_some_iff.1 hk'
 exact (List.getElem_inj rt_nodup).1 (e1.trans (h.trans e2.symm))
def pathIs (t : ByteArray) (j : Nat) : Bool := match rtG[j]? with
 | some x => decide (tx x.1 = t)
 | none => false
theorem pathIs_some {t : ByteArray} {j : Nat} {x : List UInt8 × List Fg} (h : rtG[j]? = some x) : pathIs t j = decide (tx x.1 = t) := by unfold pathIs; rw [h]
theorem idx_path {k : Nat} {t : List UInt8} {fl : List Fg} (hx : rtG[k]? = some (t, fl)) {i : Int} (h : IdxOk (pathIs (tx t)) i) : i = k := by
 have hk : k < 12 := (List.getElem?_eq_some_iff.1 hx).1
 have hp : pathIs (tx t) k = true := by rw [pathIs_some hx]; exact decide_eq_true rfl
 rcases h with ⟨j, rfl, hj, hpj, _⟩ | ⟨_, hno⟩
 · obtain ⟨y, hy⟩ := rt_kth hj
   rw [pathIs_some hy] at hpj
   rw [rt_path hy hx (tx_inj' (of_decide_eq_true hpj))]
 · rw [hno k hk] at hp; cases hp
def bindP (fl : List Fg) (kd : Int) (l : List UInt8) : Int × Cd := match parseF l with
 | none => (10, zCd 0)
 | some v => if v.k = 6 then bindF (fdsOf fl) kd v else (13, zCd 0)
theorem bindP_none {fl : List Fg} {kd : Int} {l : List UInt8} (h : parseF l = none) : (bindP fl kd l).1 = 10 := by unfold bindP; rw [h]
theorem bindP_kind {fl : List Fg} {kd : Int} {l : List UInt8} {v : JV} (h : parseF l = some v) (hk : ¬ v.k = 6) : (bindP fl kd l).1 = 13 := by unfold bindP; rw [h]; simp only; rw [if_neg hk]
theorem bindP_some {fl : List Fg} {kd : Int} {l : List UInt8} {v : JV} (h : parseF l = some v) (hk : v.k = 6) : bindP fl kd l = bindF (fdsOf fl) kd v := by unfold bindP; rw [h]; simp only; rw [if_pos hk]
def BnR (r : Int × Cd) : Type := { _x : Value // r.1 = 0 } ⊕ { _u : Unit // r.1 ≠ 0 }
def bnV (r : Int × Cd) : BnR r → Value
 | .inl x => .tuple [.agg (cellsC r.2 x.1).toArray, .int .i64 0].toArray
 | .inr _ => .tuple [.agg (cellsC (zCd 0) (.slice none 0 0)).toArray, .int .i64 r.1].toArray
def bnY (r : Int × Cd) : BnR r → Asn
 | .inl x => ownA 160 4 x.1 r.2.fx.length (r.2.fx.flatMap encF)
 | .inr _ => none_
theorem pa_open {l : List UInt8} (r : PaR l) {w : World} (h : (paY l r).ok w) : ∃ (k : Int) (s : ByteArray) (a1 : Option Addr) (a2 a3 : Nat) (a4 : Option Addr) (a5 a6 : Nat) (p e : Int), paV l r = .tuple [.agg [.int .i64 k, .string s, .slice a1 a2 a3, .slice a4 a5 a6].toArray, .int .i64 p, .int .i64 e].toArray ∧
 ((e = 0 ∧ ∃ x : { x : JX // parseF l = some x.v }, r = .inl x ∧ x.1.cs = [.int .i64 k, .string s, .slice a1 a2 a3, .slice a4 a5 a6] ∧ k = (x.1.v.k : Int)) ∨ (e ≠ 0 ∧ parseF l = none)) := by
 rcases r with x | pe
 · obtain ⟨lv, nv, ⟨a1, a2, a3, rfl⟩, ⟨a4, a5, a6, rfl⟩, hcs⟩ := JAt.four (show (jxA 33 x.1).ok w from h).now
   exact ⟨_, _, a1, a2, a3, a4, a5, a6, 0, 0, by show Value.tuple [.agg x.1.cs.toArray, _, _].toArray = _; rw [hcs], .inl ⟨rfl, x, rfl, hcs, rfl⟩⟩
 · exact ⟨0, ⟨#[]⟩, none, 0, 0, none, 0, 0, pe.1.1, pe.1.2, rfl, .inr pe.2⟩
theorem bd_open {fs : List Fd} {kd : Int} {v : JV} (r : BdR fs kd v) {w : World} (h : (bdY fs kd v r).ok w) : ∃ (c : Cd) (a : Option Addr) (m cp : Nat) (e : Int), bdV fs kd v r = .tuple [.agg (cellsC c (.slice a m cp)).toArray, .int .i64 e].toArray ∧
 ((e = 0 ∧ ∃ x : { _x : Value // (bindF fs kd v).1 = 0 }, r = .inl x ∧ c = (bindF fs kd v).2 ∧ .slice a m cp = x.1) ∨ (e = (bindF fs kd v).1 ∧ e ≠ 0 ∧ c = zCd 0 ∧ a = none ∧ m = 0 ∧ cp = 0)) := by
 rcases r with x | x
 · obtain ⟨q, c, e⟩ := own_slice (show w.ownsRow 0 _ 4 x.1 (bindF fs kd v).2.fx.length _ from h.now)
   exact ⟨(bindF fs kd v).2, q, _, c, 0, by show Value.tuple [.agg (cellsC (bindF fs kd v).2 x.1).toArray, .int .i64 0].toArray = _; rw [e], .inl ⟨rfl, x, rfl, rfl, e.symm⟩⟩
 · exact ⟨_, none, 0, 0, _, rfl, .inr ⟨rfl, x.2, rfl, rfl, rfl, rfl⟩⟩
theorem txa_keep {W w : World} {q : Option Addr} {c : Nat} {l : List UInt8} (h : TxA W q c l) (ho : oldφ W w) : TxA w q c l := ⟨old_by ho h.lies, h.n⟩
set_option maxHeartbeats 4000000 in
set_option maxRecDepth 100000 in
theorem fBindPost_N (W0 : World) (hG : Gj W0) (kx : Nat) (t : List UInt8) (fl : List Fg) (hx : rtG[kx]? = some (t, fl)) (q : Option Addr) (cap : Nat) (l : List UInt8) (ht : TxA W0 q cap l) (hsm : ∀ v, parseF l = some v → smV 33 v) (cl : Bool) (w0 : World) (hold : oldφ W0 w0) :
 NewC Tryz.prog 14 [.agg [.string ⟨#[80, 79, 83, 84]⟩, .string (tx t), .slice q l.length cap, .bool cl].toArray] w0 (bnV (bindP fl ((kx : Int) + 1) l)) (bnY (bindP fl ((kx : Int) + 1) l)) := by
 have hln := ht.n
 obtain ⟨h1, h2, h3⟩ := rt_asked t (List.mem_map.2 ⟨_, List.mem_of_getElem? hx, rfl⟩)
 have hkx : kx < 12 := (List.getElem?_eq_some_iff.1 hx).1
 refine c_enter [(0, .agg [.string ⟨#[80, 79, 83, 84]⟩, .string (tx t), .slice q l.length cap, .bool cl].toArray)] [oldA W0] noB Tryz.func14 rfl Tryz.ntmps14 ⟨rfl, trivial⟩ rfl (okC (old_ok hold) okN) dis1 (mineC rfl mineN) ?_
 intro a hS
 refine cS (cR ?_)
 refine L_op (s_boxA hS rfl rfl ?_); clear hS a; intro a w b1 hS
 refine L_op (s_alloc hS ty_z24 rfl ?_); clear hS a; intro a w b2 hS
 refine L_e hS (e_assign rfl) rfl ?_; clear hS a; intro a hS
 refine nL (nT (cS (cR ?_)))
 obtain ⟨lo, hlo⟩ : ∃ lo, lo = w.heap.size := ⟨_, rfl⟩
 refine L_op (s_callN hS .nil cf26 rfl (fRoutes_L _ lo hlo) ?_); clear hS a; intro x11 a w hS
 obtain ⟨N, rb, f⟩ := x11
 refine L_e hS (e_assign rfl) rfl ?_; clear hS a; intro a hS
 refine nL (nT (cS (cR ?_)))
 refine Rn hS (.m rfl <| .c (e_makeFunc .nil (.cons rfl .nil)) .n) ?_; clear hS a; intro a hS
 have hcell := cell_of_blk (k := 1) (v := .string (tx t)) (hS.gg (X := .blk b1 [.string ⟨#[80, 79, 83, 84]⟩, .string (tx t), .slice q l.length cap, .bool cl] 29)) rfl
 have hrt : RtsAt lo rb f w := hS.gg (X := rtsA lo N rb f)
 refine L_op (s_callN hS (.cons rfl (.cons rfl .nil)) cf27 rfl (fIndexRt_N w lo rb f hrt 43 [.pointer (some ⟨b1, 0, none⟩)] (pathIs (tx t)) cf43 (fun j x w' hx ho => by rw [pathIs_some hx]; exact fBindF_P f j x b1 (tx t) w hcell w' ho) _ (old_refl w)) ?_); clear hS a; intro x14 a w hS
 obtain ⟨ix, hix⟩ := x14
 simp only at hS
 obtain rfl := idx_path hx hix
 refine L_e hS (e_assign rfl) rfl ?_; clear hS a; intro a hS
 refine nL (nT (cS (cR ?_)))
 (first | refine L_e hS (e_fa0 rfl ty_fo29_1) rfl ?_ | refine L_e hS (e_faK rfl ty_fo29_1) rfl ?_); clear hS a; intro a hS
 refine L_e hS (e_load rfl (by repeat constructor) ty_sc9 (by rfl)) rfl ?_; clear hS a; intro a hS
 refine L_op (s_callP hS (.cons rfl .nil) cf44 rfl (fAsked_P t h1 h2 _) ?_); clear hS a; intro a w hS
 rw [show decide (tx t = tx heaP) = false from decide_eq_false (fun e => h3 (tx_inj' e))] at hS
 refine Rn hS (.m rfl <| .c (e_extract rfl rfl) <| .c (e_extract rfl rfl) .n) ?_; clear hS a; intro a hS
 refine L_op (s_alloc hS ty_z24 rfl ?_); clear hS a; intro a w b6 hS
 refine L_op (s_storeA hS rfl rfl ty_sz24 (by repeat constructor) (by rfl) (by rfl) (by rfl) ?_); clear hS; intro w hS
 refine L_e hS (e_assign rfl) rfl ?_; clear hS a; intro a hS
 refine nL (nT (cS (wB (cS (cR ?_)))))
 refine Rn hS (.m rfl <| .c (e_bin rfl rfl rfl) <| .m rfl .n) ?_; clear hS a; intro a hS
 replace hS := hS.is (t := 24) (c := false) rfl (decide_eq_false (by omega))
 refine Rn hS (.t rfl rfl <| .t rfl rfl <| .c (e_pk rfl rfl) <| .a rfl .n) ?_; clear hS a; intro a hS
 refine nL (nT ?_)
 refine c_if_f hS rfl ?_
 refine cS (cR ?_)
 refine Rn hS (.m rfl <| .m rfl .n) ?_; clear hS a; intro a hS
 replace hS := hS.is (t := 31) (c := false) rfl (rfl)
 refine Rn hS (.t rfl rfl <| .t rfl rfl <| .t rfl rfl <| .c (e_pk rfl rfl) <| .m rfl <| .g rfl rfl (e_move rfl) <| .g rfl rfl (e_not rfl) <| .g rfl rfl (e_move rfl) .n) ?_; clear hS a; intro a hS
 (first | refine g_splitD (t := 39) hS rfl ?_ ?_ | refine g_split (t := 39) hS rfl ?_ ?_) <;> (clear hS; intro hg39 hS)
 ·
  (first | refine L_ge hS rfl rfl (e_fa0 rfl ty_fo29_0) rfl ?_ | refine L_ge hS rfl rfl (e_faK rfl ty_fo29_0) rfl ?_); clear hS a; intro a hS
  refine Rn hS (.g rfl rfl (e_load rfl (by repeat constructor) ty_sc9 (by rfl)) <| .g rfl rfl (e_binS rfl rfl rfl) <| .g rfl rfl (e_pk rfl rfl) <| .c (e_pk rfl rfl) <| .a rfl .n) ?_; clear hS a; intro a hS
  refine nL (nT ?_)
  replace hS := hS.is (t := 29) (c := false) rfl ((by rfl))
  refine c_if_f hS rfl ?_
  refine cS (cR ?_)
  refine Rn hS (.m rfl <| .m rfl .n) ?_; clear hS a; intro a hS
  replace hS := hS.is (t := 48) (c := false) rfl (rfl)
  refine Rn hS (.t rfl rfl <| .t rfl rfl <| .t rfl rfl <| .t rfl rfl <| .c (e_pk rfl rfl) <| .a rfl .n) ?_; clear hS a; intro a hS
  refine nL (nT ?_)
  refine c_if_f hS rfl ?_
  refine cS (cR ?_)
  (first | refine L_e hS (e_fa0 rfl ty_fo29_1) rfl ?_ | refine L_e hS (e_faK rfl ty_fo29_1) rfl ?_); clear hS a; intro a hS
  refine Rn hS (.c (e_load rfl (by repeat constructor) ty_sc9 (by rfl)) <| .c (e_binS rfl rfl rfl) <| .a rfl .n) ?_; clear hS a; intro a hS
  refine nL (nT ?_)
  replace hS := hS.is (t := 55) (c := false) rfl (decide_eq_false (fun e => h3 (tx_inj' e)))
  refine c_if_f hS rfl ?_
  refine cS (cR ?_)
  refine Rn hS (.m rfl <| .a rfl .n) ?_; clear hS a; intro a hS
  refine nL (nT ?_)
  replace hS := hS.is (t := 60) (c := false) rfl (rfl)
  refine c_if_f hS rfl ?_
  refine wS (n_block (nT (cS (cR ?_))))
  (first | refine L_e hS (e_fa0 rfl ty_fo29_2) rfl ?_ | refine L_e hS (e_faK rfl ty_fo29_2) rfl ?_); clear hS a; intro a hS
  refine L_e hS (e_load rfl (by repeat constructor) ty_sc27 (by rfl)) rfl ?_; clear hS a; intro a hS
  refine L_op (s_callN hS (.cons rfl .nil) cf11 rfl (jParse_N q cap l _ (hG.keep (hS.gg (X := oldA W0))).u8 (txa_keep ht (hS.gg (X := oldA W0)))) ?_); clear hS a; intro x66 a w hS
  obtain ⟨jk, js, a1, a2, a3, a4, a5, a6, pp, pe, hpv, hpc⟩ := pa_open x66 (hS.ok (paY l x66) (by repeat constructor))
  rw [hpv] at hS
  refine Rn hS (.m rfl <| .c (e_extract rfl rfl) <| .c (e_extract rfl rfl) <| .c (e_extract rfl rfl) .n) ?_; clear hS a; intro a hS
  refine L_op (s_alloc hS ty_z37 rfl ?_); clear hS a; intro a w b8 hS
  refine L_op (s_storeA hS rfl rfl ty_sz37 (by repeat constructor) (by rfl) (by rfl) (by rfl) ?_); clear hS; intro w hS
  refine Rn hS (.a rfl <| .a rfl .n) ?_; clear hS a; intro a hS
  refine nL (nT (cS (wB (cS (cR ?_)))))
  refine Rn hS (.m rfl <| .c (e_bin rfl rfl rfl) <| .a rfl .n) ?_; clear hS a; intro a hS
  refine nL (nT ?_)
  (first | refine c_ifD hS rfl ?_ ?_ | refine c_if hS rfl ?_ ?_) <;> intro hc70
  ·
   refine cS (cR ?_)
   refine L_e hS (e_build ty_z24 ty_pl24 .nil) rfl ?_; clear hS a; intro a hS
   refine L_op (s_storeA hS rfl rfl ty_sz24 (by repeat constructor) (by rfl) (by rfl) (by rfl) ?_); clear hS; intro w hS
   refine L_e hS (e_assign rfl) rfl ?_; clear hS a; intro a hS
   refine nL (nT (wp_ret ?_))
   refine r_block (r_then ?_)
   refine c_retN hS Tryz.results14 (.cons (.cellA rfl (by repeat constructor) ty_st24 ty_sz24 (by rfl)) (.cons (.tmp rfl) .nil)) rfl ?_
   have hn : parseF l = none := by
    rcases hpc with ⟨h, _⟩ | ⟨_, h⟩
    · exact absurd h hc70
    · exact h
   have he := bindP_none (fl := fl) (kd := (kx : Int) + 1) hn
   exact ⟨.inr ⟨(), by rw [he]; decide⟩, by show _ = Ending.returned (Value.tuple [.agg (cellsC (zCd 0) (.slice none 0 0)).toArray, .int .i64 (bindP fl ((kx : Int) + 1) l).1].toArray); rw [he]; rfl, hS.chg, none_ok _, fun b h => h.elim⟩
  have hpe : pe = 0 := Classical.not_not.1 hc70
  obtain ⟨xj, rfl, hxcs, rfl⟩ : ∃ x : { x : JX // parseF l = some x.v }, x66 = .inl x ∧ x.1.cs = [.int .i64 jk, .string js, .slice a1 a2 a3, .slice a4 a5 a6] ∧ jk = (x.1.v.k : Int) := by
   rcases hpc with ⟨_, h⟩ | ⟨h, _⟩
   · exact h
   · exact absurd hpe h
  rw [show paY l (.inl xj) = jxA 33 xj.1 from rfl] at hS
  refine cS (cR ?_)
  (first | refine L_e hS (e_fa0 rfl ty_fo37_0) rfl ?_ | refine L_e hS (e_faK rfl ty_fo37_0) rfl ?_); clear hS a; intro a hS
  refine Rn hS (.c (e_load rfl (by repeat constructor) ty_sc3 (by rfl)) <| .c (e_bin rfl rfl rfl) <| .a rfl .n) ?_; clear hS a; intro a hS
  refine nL (nT ?_)
  (first | refine c_ifD hS rfl ?_ ?_ | refine c_if hS rfl ?_ ?_) <;> intro hc74
  ·
   refine cS (cR ?_)
   refine L_e hS (e_build ty_z24 ty_pl24 .nil) rfl ?_; clear hS a; intro a hS
   refine L_op (s_storeA hS rfl rfl ty_sz24 (by repeat constructor) (by rfl) (by rfl) (by rfl) ?_); clear hS; intro w hS
   refine L_e hS (e_assign rfl) rfl ?_; clear hS a; intro a hS
   refine nL (nT (wp_ret ?_))
   refine r_block (r_then ?_)
   refine c_retN hS Tryz.results14 (.cons (.cellA rfl (by repeat constructor) ty_st24 ty_sz24 (by rfl)) (.cons (.tmp rfl) .nil)) rfl ?_
   have he := bindP_kind (fl := fl) (kd := (kx : Int) + 1) xj.2 (by omega)
   exact ⟨.inr ⟨(), by rw [he]; decide⟩, by show _ = Ending.returned (Value.tuple [.agg (cellsC (zCd 0) (.slice none 0 0)).toArray, .int .i64 (bindP fl ((kx : Int) + 1) l).1].toArray); rw [he]; rfl, hS.chg, none_ok _, fun b h => h.elim⟩
  have hk6 : xj.1.v.k = 6 := by omega
  have hbp := bindP_some (fl := fl) (kd := (kx : Int) + 1) xj.2 hk6
  refine wS (n_block (nT (cS ?_)))
  refine c_drawS [8] (by kernel_rfl) hS (sub_cons (X := rtsA lo N rb f) (by repeat constructor) (sub_cons (X := .blk b8 [.int .i64 (xj.1.v.k : Int), .string js, .slice a1 a2 a3, .slice a4 a5 a6] 37) (by repeat constructor) sub_nil)) ?_; clear hS; intro w hS
  simp only [List.length_cons, List.length_nil, Nat.zero_add, Nat.reduceAdd, List.replicate]
  refine Rz hS (sub_cons (by repeat constructor) (sub_cons (by repeat constructor) sub_nil)) (.o 0 (tf 1 9) rfl wN (e_move rfl) rfl <| .o 1 (tf 2 8) rfl wN (e_move rfl) rfl <| .o 2 (tf 3 7) rfl wN (e_ixN rfl rfl ty_sl78 ty_sz83 (by omega)) rfl <| .y 3 (tf 4 6) rfl wN (e_loadAC (l := [.string (tx t), .int .i64 ((kx : Int) + 1), .slice (some ⟨f kx, 0, none⟩) fl.length fl.length]) rfl ty_st83 ty_sz83 (fun w hh j u hj => rts_row (show RtsAt lo rb f w from hh (rtsA lo N rb f) (by repeat constructor)) hx j u hj)) rfl <| .y 4 (tf 5 5) rfl wN (e_loadA rfl (by repeat constructor) ty_st37 ty_sz37 (by rfl)) rfl .n) ?_; clear hS a; intro a hS
  refine Zo 5 (tf 6 4) hS rfl wN rfl (s_callN hS (.cons rfl (.cons rfl .nil)) cf45 rfl (fRouteBind_N w (hG.keep (hS.gg (X := oldA W0))) 31 (tx t) ((kx : Int) + 1) (f kx) 0 fl.length fl (rts_fds (show RtsAt lo rb f w from hS.gg (X := rtsA lo N rb f)) hx) xj.1.v _ w (by rw [← hxcs]; exact hS.gg (X := jxA 33 xj.1)) (hsm _ xj.2) (old_refl w)) ?_); clear hS a; intro x84 a w hS
  obtain ⟨c9, a9, m9, p9, e9, hbv, hbc⟩ := bd_open x84 (hS.ok (bdY (fdsOf fl) ((kx : Int) + 1) xj.1.v x84) (by repeat constructor))
  rw [hbv] at hS
  refine Z_and hS (sub_cons (by repeat constructor) (sub_cons (by repeat constructor) sub_nil)) ?_
  refine Ry hS (.o 6 (tf 7 3) rfl wN (e_extract rfl rfl) rfl <| .o 7 (tf 8 2) rfl wN (e_extract rfl rfl) rfl .n) ?_; clear hS a; intro a hS
  refine Zo 8 (tf 9 1) hS rfl wN rfl (s_storeA (l := cellsC c9 (.slice a9 m9 p9)) hS rfl rfl ty_sz24 (by repeat constructor) rfl rfl rfl ?_); clear hS; intro w hS
  refine Z_last (by simp) ?_
  refine Zt0 9 (tf 10 0) hS rfl want_none (e_assign rfl) rfl (by kernel_rfl) rfl ?_; clear hS a; intro a hS
  refine Z_done (by kernel_rfl) ?_
  refine nT (wp_ret ?_)
  refine c_retN hS Tryz.results14 (.cons (.cellA rfl (by repeat constructor) ty_st24 ty_sz24 (by rfl)) (.cons (.tmp rfl) .nil)) rfl ?_
  rcases hbc with ⟨rfl, x, rfl, rfl, hxe⟩ | ⟨rfl, h, rfl, rfl, rfl, rfl⟩
  · exact ⟨.inl ⟨x.1, by rw [hbp]; exact x.2⟩, by show _ = Ending.returned (Value.tuple [.agg (cellsC (bindP fl ((kx : Int) + 1) l).2 x.1).toArray, .int .i64 0].toArray); rw [hbp, ← hxe], hS.chg, by show (ownA 160 4 x.1 (bindP fl ((kx : Int) + 1) l).2.fx.length ((bindP fl ((kx : Int) + 1) l).2.fx.flatMap encF)).ok w; rw [hbp]; exact hS.ok (bdY (fdsOf fl) ((kx : Int) + 1) xj.1.v (.inl x)) (by repeat constructor), by
      show ∀ b, (ownA 160 4 x.1 (bindP fl ((kx : Int) + 1) l).2.fx.length ((bindP fl ((kx : Int) + 1) l).2.fx.flatMap encF)).F b → w0.heap.size ≤ b
      rw [hbp]
      exact fun b hb => (hS.mine (bdY (fdsOf fl) ((kx : Int) + 1) xj.1.v (.inl x)) (by repeat constructor) rfl b hb).resolve_right id⟩
  · exact ⟨.inr ⟨(), by rw [hbp]; exact h⟩, by show _ = Ending.returned (Value.tuple [.agg (cellsC (zCd 0) (.slice none 0 0)).toArray, .int .i64 (bindP fl ((kx : Int) + 1) l).1].toArray); rw [hbp], hS.chg, none_ok _, fun b h => h.elim⟩
 refine Rn hS (.t rfl rfl <| .t rfl rfl <| .t rfl rfl <| .g rfl rfl (e_pk rfl rfl) <| .c (e_pk rfl rfl) <| .a rfl .n) ?_; clear hS a; intro a hS
 refine nL (nT ?_)
 refine c_if_f hS rfl ?_
 refine cS (cR ?_)
 refine Rn hS (.m rfl <| .m rfl .n) ?_; clear hS a; intro a hS
 replace hS := hS.is (t := 48) (c := false) rfl (rfl)
 refine Rn hS (.t rfl rfl <| .t rfl rfl <| .t rfl rfl <| .t rfl rfl <| .c (e_pk rfl rfl) <| .a rfl .n) ?_; clear hS a; intro a hS
 refine nL (nT ?_)
 refine c_if_f hS rfl ?_
 refine cS (cR ?_)
 (first | refine L_e hS (e_fa0 rfl ty_fo29_1) rfl ?_ | refine L_e hS (e_faK rfl ty_fo29_1) rfl ?_); clear hS a; intro a hS
 refine Rn hS (.c (e_load rfl (by repeat constructor) ty_sc9 (by rfl)) <| .c (e_binS rfl rfl rfl) <| .a rfl .n) ?_; clear hS a; intro a hS
 refine nL (nT ?_)
 replace hS := hS.is (t := 55) (c := false) rfl (decide_eq_false (fun e => h3 (tx_inj' e)))
 refine c_if_f hS rfl ?_
 refine cS (cR ?_)
 refine Rn hS (.m rfl <| .a rfl .n) ?_; clear hS a; intro a hS
 refine nL (nT ?_)
 replace hS := hS.is (t := 60) (c := false) rfl (rfl)
 refine c_if_f hS rfl ?_
 refine wS (n_block (nT (cS (cR ?_))))
 (first | refine L_e hS (e_fa0 rfl ty_fo29_2) rfl ?_ | refine L_e hS (e_faK rfl ty_fo29_2) rfl ?_); clear hS a; intro a hS
 refine L_e hS (e_load rfl (by repeat constructor) ty_sc27 (by rfl)) rfl ?_; clear hS a; intro a hS
 refine L_op (s_callN hS (.cons rfl .nil) cf11 rfl (jParse_N q cap l _ (hG.keep (hS.gg (X := oldA W0))).u8 (txa_keep ht (hS.gg (X := oldA W0)))) ?_); clear hS a; intro x66 a w hS
 obtain ⟨jk, js, a1, a2, a3, a4, a5, a6, pp, pe, hpv, hpc⟩ := pa_open x66 (hS.ok (paY l x66) (by repeat constructor))
 rw [hpv] at hS
 refine Rn hS (.m rfl <| .c (e_extract rfl rfl) <| .c (e_extract rfl rfl) <| .c (e_extract rfl rfl) .n) ?_; clear hS a; intro a hS
 refine L_op (s_alloc hS ty_z37 rfl ?_); clear hS a; intro a w b8 hS
 refine L_op (s_storeA hS rfl rfl ty_sz37 (by repeat constructor) (by rfl) (by rfl) (by rfl) ?_); clear hS; intro w hS
 refine Rn hS (.a rfl <| .a rfl .n) ?_; clear hS a; intro a hS
 refine nL (nT (cS (wB (cS (cR ?_)))))
 refine Rn hS (.m rfl <| .c (e_bin rfl rfl rfl) <| .a rfl .n) ?_; clear hS a; intro a hS
 refine nL (nT ?_)
 (first | refine c_ifD hS rfl ?_ ?_ | refine c_if hS rfl ?_ ?_) <;> intro hc70
 ·
  refine cS (cR ?_)
  refine L_e hS (e_build ty_z24 ty_pl24 .nil) rfl ?_; clear hS a; intro a hS
  refine L_op (s_storeA hS rfl rfl ty_sz24 (by repeat constructor) (by rfl) (by rfl) (by rfl) ?_); clear hS; intro w hS
  refine L_e hS (e_assign rfl) rfl ?_; clear hS a; intro a hS
  refine nL (nT (wp_ret ?_))
  refine r_block (r_then ?_)
  refine c_retN hS Tryz.results14 (.cons (.cellA rfl (by repeat constructor) ty_st24 ty_sz24 (by rfl)) (.cons (.tmp rfl) .nil)) rfl ?_
  have hn : parseF l = none := by
   rcases hpc with ⟨h, _⟩ | ⟨_, h⟩
   · exact absurd h hc70
   · exact h
  have he := bindP_none (fl := fl) (kd := (kx : Int) + 1) hn
  exact ⟨.inr ⟨(), by rw [he]; decide⟩, by show _ = Ending.returned (Value.tuple [.agg (cellsC (zCd 0) (.slice none 0 0)).toArray, .int .i64 (bindP fl ((kx : Int) + 1) l).1].toArray); rw [he]; rfl, hS.chg, none_ok _, fun b h => h.elim⟩
 have hpe : pe = 0 := Classical.not_not.1 hc70
 obtain ⟨xj, rfl, hxcs, rfl⟩ : ∃ x : { x : JX // parseF l = some x.v }, x66 = .inl x ∧ x.1.cs = [.int .i64 jk, .string js, .slice a1 a2 a3, .slice a4 a5 a6] ∧ jk = (x.1.v.k : Int) := by
  rcases hpc with ⟨_, h⟩ | ⟨h, _⟩
  · exact h
  · exact absurd hpe h
 rw [show paY l (.inl xj) = jxA 33 xj.1 from rfl] at hS
 refine cS (cR ?_)
 (first | refine L_e hS (e_fa0 rfl ty_fo37_0) rfl ?_ | refine L_e hS (e_faK rfl ty_fo37_0) rfl ?_); clear hS a; intro a hS
 refine Rn hS (.c (e_load rfl (by repeat constructor) ty_sc3 (by rfl)) <| .c (e_bin rfl rfl rfl) <| .a rfl .n) ?_; clear hS a; intro a hS
 refine nL (nT ?_)
 (first | refine c_ifD hS rfl ?_ ?_ | refine c_if hS rfl ?_ ?_) <;> intro hc74
 ·
  refine cS (cR ?_)
  refine L_e hS (e_build ty_z24 ty_pl24 .nil) rfl ?_; clear hS a; intro a hS
  refine L_op (s_storeA hS rfl rfl ty_sz24 (by repeat constructor) (by rfl) (by rfl) (by rfl) ?_); clear hS; intro w hS
  refine L_e hS (e_assign rfl) rfl ?_; clear hS a; intro a hS
  refine nL (nT (wp_ret ?_))
  refine r_block (r_then ?_)
  refine c_retN hS Tryz.results14 (.cons (.cellA rfl (by repeat constructor) ty_st24 ty_sz24 (by rfl)) (.cons (.tmp rfl) .nil)) rfl ?_
  have he := bindP_kind (fl := fl) (kd := (kx : Int) + 1) xj.2 (by omega)
  exact ⟨.inr ⟨(), by rw [he]; decide⟩, by show _ = Ending.returned (Value.tuple [.agg (cellsC (zCd 0) (.slice none 0 0)).toArray, .int .i64 (bindP fl ((kx : Int) + 1) l).1].toArray); rw [he]; rfl, hS.chg, none_ok _, fun b h => h.elim⟩
 have hk6 : xj.1.v.k = 6 := by omega
 have hbp := bindP_some (fl := fl) (kd := (kx : Int) + 1) xj.2 hk6
 refine wS (n_block (nT (cS ?_)))
 refine c_drawS [8] (by kernel_rfl) hS (sub_cons (X := rtsA lo N rb f) (by repeat constructor) (sub_cons (X := .blk b8 [.int .i64 (xj.1.v.k : Int), .string js, .slice a1 a2 a3, .slice a4 a5 a6] 37) (by repeat constructor) sub_nil)) ?_; clear hS; intro w hS
 simp only [List.length_cons, List.length_nil, Nat.zero_add, Nat.reduceAdd, List.replicate]
 refine Rz hS (sub_cons (by repeat constructor) (sub_cons (by repeat constructor) sub_nil)) (.o 0 (tf 1 9) rfl wN (e_move rfl) rfl <| .o 1 (tf 2 8) rfl wN (e_move rfl) rfl <| .o 2 (tf 3 7) rfl wN (e_ixN rfl rfl ty_sl78 ty_sz83 (by omega)) rfl <| .y 3 (tf 4 6) rfl wN (e_loadAC (l := [.string (tx t), .int .i64 ((kx : Int) + 1), .slice (some ⟨f kx, 0, none⟩) fl.length fl.length]) rfl ty_st83 ty_sz83 (fun w hh j u hj => rts_row (show RtsAt lo rb f w from hh (rtsA lo N rb f) (by repeat constructor)) hx j u hj)) rfl <| .y 4 (tf 5 5) rfl wN (e_loadA rfl (by repeat constructor) ty_st37 ty_sz37 (by rfl)) rfl .n) ?_; clear hS a; intro a hS
 refine Zo 5 (tf 6 4) hS rfl wN rfl (s_callN hS (.cons rfl (.cons rfl .nil)) cf45 rfl (fRouteBind_N w (hG.keep (hS.gg (X := oldA W0))) 31 (tx t) ((kx : Int) + 1) (f kx) 0 fl.length fl (rts_fds (show RtsAt lo rb f w from hS.gg (X := rtsA lo N rb f)) hx) xj.1.v _ w (by rw [← hxcs]; exact hS.gg (X := jxA 33 xj.1)) (hsm _ xj.2) (old_refl w)) ?_); clear hS a; intro x84 a w hS
 obtain ⟨c9, a9, m9, p9, e9, hbv, hbc⟩ := bd_open x84 (hS.ok (bdY (fdsOf fl) ((kx : Int) + 1) xj.1.v x84) (by repeat constructor))
 rw [hbv] at hS
 refine Z_and hS (sub_cons (by repeat constructor) (sub_cons (by repeat constructor) sub_nil)) ?_
 refine Ry hS (.o 6 (tf 7 3) rfl wN (e_extract rfl rfl) rfl <| .o 7 (tf 8 2) rfl wN (e_extract rfl rfl) rfl .n) ?_; clear hS a; intro a hS
 refine Zo 8 (tf 9 1) hS rfl wN rfl (s_storeA (l := cellsC c9 (.slice a9 m9 p9)) hS rfl rfl ty_sz24 (by repeat constructor) rfl rfl rfl ?_); clear hS; intro w hS
 refine Z_last (by simp) ?_
 refine Zt0 9 (tf 10 0) hS rfl want_none (e_assign rfl) rfl (by kernel_rfl) rfl ?_; clear hS a; intro a hS
 refine Z_done (by kernel_rfl) ?_
 refine nT (wp_ret ?_)
 refine c_retN hS Tryz.results14 (.cons (.cellA rfl (by repeat constructor) ty_st24 ty_sz24 (by rfl)) (.cons (.tmp rfl) .nil)) rfl ?_
 rcases hbc with ⟨rfl, x, rfl, rfl, hxe⟩ | ⟨rfl, h, rfl, rfl, rfl, rfl⟩
 · exact ⟨.inl ⟨x.1, by rw [hbp]; exact x.2⟩, by show _ = Ending.returned (Value.tuple [.agg (cellsC (bindP fl ((kx : Int) + 1) l).2 x.1).toArray, .int .i64 0].toArray); rw [hbp, ← hxe], hS.chg, by show (ownA 160 4 x.1 (bindP fl ((kx : Int) + 1) l).2.fx.length ((bindP fl ((kx : Int) + 1) l).2.fx.flatMap encF)).ok w; rw [hbp]; exact hS.ok (bdY (fdsOf fl) ((kx : Int) + 1) xj.1.v (.inl x)) (by repeat constructor), by
     show ∀ b, (ownA 160 4 x.1 (bindP fl ((kx : Int) + 1) l).2.fx.length ((bindP fl ((kx : Int) + 1) l).2.fx.flatMap encF)).F b → w0.heap.size ≤ b
     rw [hbp]
     exact fun b hb => (hS.mine (bdY (fdsOf fl) ((kx : Int) + 1) xj.1.v (.inl x)) (by repeat constructor) rfl b hb).resolve_right id⟩
 · exact ⟨.inr ⟨(), by rw [hbp]; exact h⟩, by show _ = Ending.returned (Value.tuple [.agg (cellsC (zCd 0) (.slice none 0 0)).toArray, .int .i64 (bindP fl ((kx : Int) + 1) l).1].toArray); rw [hbp], hS.chg, none_ok _, fun b h => h.elim⟩
def resE : List Value := [.int .i64 25, .int .i64 0, .int .i64 0, .bool false, .int .i64 0, .int .i64 0, .int .i64 0, .int .i64 0, .string ⟨#[]⟩, .string ⟨#[]⟩, .slice none 0 0, .int .i64 0, .int .i64 0, .int .i64 0, .int .i64 0, .int .i64 0, .int .i64 0, .string ⟨#[]⟩, .int .i64 0, .int .i64 0, .slice none 0 0, .slice none 0 0]
set_option maxRecDepth 100000 in
theorem fAnswer25_N (W0 : World) (hG : Gj W0) (w0 : World) (ho : oldφ W0 w0) :
 NewC Tryz.prog 23 [.agg (cellsC (zCd 6) (.slice none 0 0)).toArray, .agg resE.toArray] w0 (fun x : { x : (Nat × Nat) × JV × List UInt8 // PJ 2 (errJ 25 0) x.2.1 x.2.2 ∧ x.2.2.length ≤ x.1.2 } => .agg [.int .i64 409, .slice (some ⟨x.1.1.1, 0, none⟩) x.1.2.2.length x.1.1.2, .bool false].toArray) (fun x => bbA 5 x.1.1.1 (bsI x.1.2.2)) := by
 refine c_enter [(0, .agg (cellsC (zCd 6) (.slice none 0 0)).toArray), (1, .agg resE.toArray)] [oldA W0] noB Tryz.func23 rfl Tryz.ntmps23 ⟨rfl, rfl, trivial⟩ rfl (okC (old_ok ho) okN) dis1 (mineC rfl mineN) ?_
 intro a hS
 refine cS (cR ?_)
 refine L_op (s_boxA hS rfl rfl ?_); clear hS a; intro a w b2 hS
 refine L_op (s_boxA hS rfl rfl ?_); clear hS a; intro a w b3 hS
 refine L_op (s_alloc hS ty_z62 rfl ?_); clear hS a; intro a w b4 hS
 refine nL (nT (cS (cS (cR ?_))))
 (first | refine L_e hS (e_fa0 rfl ty_fo72_0) rfl ?_ | refine L_e hS (e_faK rfl ty_fo72_0) rfl ?_); clear hS a; intro a hS
 refine Rn hS (.c (e_load rfl (by repeat constructor) ty_sc30 (by rfl)) <| .c (e_bin rfl rfl rfl) .n) ?_; clear hS a; intro a hS
 refine nL (nT ?_)
 replace hS := hS.is (t := 8) (c := true) rfl (by decide)
 refine c_if_t hS rfl ?_
 refine cS (cR ?_)
 (first | refine L_e hS (e_fa0 rfl ty_fo72_0) rfl ?_ | refine L_e hS (e_faK rfl ty_fo72_0) rfl ?_); clear hS a; intro a hS
 refine L_e hS (e_load rfl (by repeat constructor) ty_sc30 (by rfl)) rfl ?_; clear hS a; intro a hS
 (first | refine L_e hS (e_fa0 rfl ty_fo72_2) rfl ?_ | refine L_e hS (e_faK rfl ty_fo72_2) rfl ?_); clear hS a; intro a hS
 refine L_e hS (e_load rfl (by repeat constructor) ty_sc3 (by rfl)) rfl ?_; clear hS a; intro a hS
 refine L_op (s_callN hS (.cons rfl (.cons rfl .nil)) cf64 rfl (fFailed25_N W0 hG _ (hS.gg (X := oldA W0))) ?_); clear hS a; intro x13 a w hS
 refine L_op (s_storeA hS rfl rfl ty_sz62 (by repeat constructor) (by rfl) (by rfl) (by rfl) ?_); clear hS; intro w hS
 refine nL (nT (wp_ret (r_then ?_)))
 refine c_ret1 hS Tryz.results23 (.cellA rfl (by repeat constructor) ty_st62 ty_sz62 (by rfl)) ?_
 exact ⟨x13, rfl, hS.chg, hS.ok (bbA 5 x13.1.1.1 (bsI x13.1.2.2)) (by repeat constructor), fun b hb => (hS.mine (bbA 5 x13.1.1.1 (bsI x13.1.2.2)) (by repeat constructor) rfl b hb).resolve_right id⟩
theorem path03 : ∀ j, j < 12 → pathIs (tx [47, 105, 110, 118, 111, 105, 99, 101, 115, 47, 48, 51]) j = false := by decide +kernel
set_option maxRecDepth 100000 in
theorem fBind03_P (W0 : World) (hG : Gj W0) (w0 : World) (hold : oldφ W0 w0) :
 PureC Tryz.prog 14 [.agg [.string ⟨#[71, 69, 84]⟩, .string (tx [47, 105, 110, 118, 111, 105, 99, 101, 115, 47, 48, 51]), .slice none 0 0, .bool false].toArray] w0 (.tuple [.agg (cellsC (zCd 0) (.slice none 0 0)).toArray, .int .i64 31].toArray) := by
 refine c_enter [(0, .agg [.string ⟨#[71, 69, 84]⟩, .string (tx [47, 105, 110, 118, 111, 105, 99, 101, 115, 47, 48, 51]), .slice none 0 0, .bool false].toArray)] [oldA W0] noB Tryz.func14 rfl Tryz.ntmps14 ⟨rfl, trivial⟩ rfl (okC (old_ok hold) okN) dis1 (mineC rfl mineN) ?_
 intro a hS
 refine cS (cR ?_)
 refine L_op (s_boxA hS rfl rfl ?_); clear hS a; intro a w b1 hS
 refine L_op (s_alloc hS ty_z24 rfl ?_); clear hS a; intro a w b2 hS
 refine L_e hS (e_assign rfl) rfl ?_; clear hS a; intro a hS
 refine nL (nT (cS (cR ?_)))
 obtain ⟨lo, hlo⟩ : ∃ lo, lo = w.heap.size := ⟨_, rfl⟩
 refine L_op (s_callN hS .nil cf26 rfl (fRoutes_L _ lo hlo) ?_); clear hS a; intro x11 a w hS
 obtain ⟨N, rb, f⟩ := x11
 refine L_e hS (e_assign rfl) rfl ?_; clear hS a; intro a hS
 refine nL (nT (cS (cR ?_)))
 refine Rn hS (.m rfl <| .c (e_makeFunc .nil (.cons rfl .nil)) .n) ?_; clear hS a; intro a hS
 have hcell := cell_of_blk (k := 1) (v := .string (tx [47, 105, 110, 118, 111, 105, 99, 101, 115, 47, 48, 51])) (hS.gg (X := .blk b1 [.string ⟨#[71, 69, 84]⟩, .string (tx [47, 105, 110, 118, 111, 105, 99, 101, 115, 47, 48, 51]), .slice none 0 0, .bool false] 29)) rfl
 have hrt : RtsAt lo rb f w := hS.gg (X := rtsA lo N rb f)
 refine L_op (s_callN hS (.cons rfl (.cons rfl .nil)) cf27 rfl (fIndexRt_N w lo rb f hrt 43 [.pointer (some ⟨b1, 0, none⟩)] (pathIs (tx [47, 105, 110, 118, 111, 105, 99, 101, 115, 47, 48, 51])) cf43 (fun j x w' hx ho => by rw [pathIs_some hx]; exact fBindF_P f j x b1 (tx [47, 105, 110, 118, 111, 105, 99, 101, 115, 47, 48, 51]) w hcell w' ho) _ (old_refl w)) ?_); clear hS a; intro x14 a w hS
 obtain ⟨ix, hix⟩ := x14
 simp only at hS
 obtain rfl : ix = -1 := by
  rcases hix with ⟨j, _, hj, hp, _⟩ | ⟨h, _⟩
  · rw [path03 j hj] at hp; cases hp
  · exact h
 refine L_e hS (e_assign rfl) rfl ?_; clear hS a; intro a hS
 refine nL (nT (cS (cR ?_)))
 (first | refine L_e hS (e_fa0 rfl ty_fo29_1) rfl ?_ | refine L_e hS (e_faK rfl ty_fo29_1) rfl ?_); clear hS a; intro a hS
 refine L_e hS (e_load rfl (by repeat constructor) ty_sc9 (by rfl)) rfl ?_; clear hS a; intro a hS
 refine L_op (s_callP hS (.cons rfl .nil) cf44 rfl (fAsked03_P W0 hG _ (hS.gg (X := oldA W0))) ?_); clear hS a; intro a w hS
 refine Rn hS (.m rfl <| .c (e_extract rfl rfl) <| .c (e_extract rfl rfl) .n) ?_; clear hS a; intro a hS
 refine L_op (s_alloc hS ty_z24 rfl ?_); clear hS a; intro a w b6 hS
 refine L_op (s_storeA hS rfl rfl ty_sz24 (by repeat constructor) (by rfl) (by rfl) (by rfl) ?_); clear hS; intro w hS
 refine L_e hS (e_assign rfl) rfl ?_; clear hS a; intro a hS
 refine nL (nT (cS (wB (cS (cR ?_)))))
 refine Rn hS (.m rfl <| .c (e_bin rfl rfl rfl) <| .m rfl .n) ?_; clear hS a; intro a hS
 replace hS := hS.is (t := 24) (c := true) rfl (by decide)
 refine Rn hS (.g rfl rfl (e_move rfl) <| .g rfl rfl (e_not rfl) <| .c (e_pk rfl rfl) <| .a rfl .n) ?_; clear hS a; intro a hS
 refine nL (nT ?_)
 replace hS := hS.is (t := 21) (c := true) rfl (rfl)
 refine c_if_t hS rfl ?_
 refine cS (cR ?_)
 refine L_e hS (e_build ty_z24 ty_pl24 .nil) rfl ?_; clear hS a; intro a hS
 refine L_op (s_storeA hS rfl rfl ty_sz24 (by repeat constructor) (by rfl) (by rfl) (by rfl) ?_); clear hS; intro w hS
 refine L_e hS (e_assign rfl) rfl ?_; clear hS a; intro a hS
 refine nL (nT (wp_ret ?_))
 refine r_block (r_then ?_)
 refine c_retN hS Tryz.results14 (.cons (.cellA rfl (by repeat constructor) ty_st24 ty_sz24 (by rfl)) (.cons (.tmp rfl) .nil)) rfl ?_
 exact ⟨rfl, hS.chg⟩
def bodyE : List UInt8 := [123, 34, 97, 116, 34, 58, 53, 44, 34, 110, 117, 109, 98, 101, 114, 34, 58, 49, 44, 34, 117, 110, 105, 116, 115, 34, 58, 55, 125]
def payFl : List Fg := [fgNumber, fgUnits, fgAt]
theorem pay_rt : rtG[5]? = some ([47, 112, 97, 121, 109, 101, 110, 116, 115], payFl) := rfl
def bodyV : JV := .mk 6 [] [[97, 116], [110, 117, 109, 98, 101, 114], [117, 110, 105, 116, 115]] [jNum [53], jNum [49], jNum [55]]
theorem body_parsed : parseF bodyE = some bodyV := by kernel_rfl
theorem bodyV_sm : smV 33 bodyV := by
 refine ⟨by decide, by decide, by decide, by decide, fun x hx => ?_⟩
 rcases List.mem_cons.1 hx with rfl | hx
 · exact ⟨by decide, by decide, by decide, by decide, fun x h => by cases h⟩
 rcases List.mem_cons.1 hx with rfl | hx
 · exact ⟨by decide, by decide, by decide, by decide, fun x h => by cases h⟩
 obtain rfl := List.mem_singleton.1 hx
 exact ⟨by decide, by decide, by decide, by decide, fun x h => by cases h⟩
theorem body_bound : (bindP payFl 6 bodyE).1 = 0 ∧ (bindP payFl 6 bodyE).2.kind = 6 ∧ (bindP payFl 6 bodyE).2.n 12 = 7 ∧ (bindP payFl 6 bodyE).2.n 8 = 5 ∧ (bindP payFl 6 bodyE).2.n 11 = 1 := by
 rw [bindP_some body_parsed rfl]
 decide +kernel
def respE : List UInt8 := [123, 34, 101, 114, 114, 111, 114, 34, 58, 50, 53, 44, 34, 112, 108, 97, 99, 101, 34, 58, 48, 125]
theorem num_text {n : Nat} {t : List UInt8} {r : JV} {s : List UInt8} (h : PJ (n + 1) (jNum t) r s) : s = t := by
 rcases (show _ ∨ _ ∨ _ ∨ _ from h) with ⟨_, _, h⟩ | ⟨h, _⟩ | ⟨h, _⟩ | ⟨h, _⟩
 · exact h
 · exact absurd h (by decide)
 · exact absurd h (by decide)
 · exact absurd h (by decide)
theorem err_text {r : JV} {s : List UInt8} (h : PJ 2 (errJ 25 0) r s) : s = respE := by
 rw [errJ_eq] at h
 rcases (show _ ∨ _ ∨ _ ∨ _ from h) with ⟨h, _⟩ | ⟨h, _⟩ | ⟨h, _⟩ | ⟨_, ms, hp, hs, hm, _, ht⟩
 · exact absurd h (by decide)
 · exact absurd h (by decide)
 · exact absurd h (by decide)
 have hl : ms.length = 2 := by have := hp.length_eq; simpa [errN] using this
 match ms, hl with
 | [m1, m2], _ =>
   have hp1 : [(m1.n, m1.v), (m2.n, m2.v)].Perm [([101, 114, 114, 111, 114], jNum [50, 53]), ([112, 108, 97, 99, 101], jNum [48])] := hp
   have hle : m1.n ≤ m2.n := (List.pairwise_cons.1 hs).1 _ (.head _)
   have hm1 := hm m1 (.head _)
   have hm2 := hm m2 (.tail _ (.head _))
   have h1 := hp1.subset (.head _)
   rcases List.mem_cons.1 h1 with h1 | h1
   · rw [h1] at hp1
     have h2 := List.singleton_perm_singleton.1 hp1.cons_inv
     injection h1 with e1 e2
     injection h2 with e3 e4
     rw [e2] at hm1
     rw [e4] at hm2
     rw [ht]
     show 123 :: (((quoteL m1.n ++ 58 :: m1.t) ++ 44 :: ((quoteL m2.n ++ 58 :: m2.t) ++ [])) ++ [125]) = respE
     rw [num_text hm1, num_text hm2, e1, e3]
     decide +kernel
   · exfalso
     have h1 := List.mem_singleton.1 h1
     rw [h1] at hp1
     have h2 := List.singleton_perm_singleton.1 (hp1.trans (.swap _ _ _)).cons_inv
     injection h1 with e1 e2
     injection h2 with e3 e4
     rw [e1, e3] at hle
     exact absurd hle (by decide)
set_option maxRecDepth 100000 in
theorem lNum_P (x : Int) (w0 : World) : PureC Tryz.prog 10 [.int .i64 x] w0 (.int .i64 x) := by
 refine c_enter [(0, .int .i64 x)] [] noB Tryz.func10 rfl Tryz.ntmps10 ⟨rfl, trivial⟩ rfl (by simp) (by simp) (by simp) ?_
 intro a hS
 refine cS (cR ?_)
 refine L_e hS (e_assign rfl) rfl ?_; clear hS a; intro a hS
 refine nL (nT (cS (cR ?_)))
 refine Rn hS (.m rfl <| .a rfl .n) ?_; clear hS a; intro a hS
 refine nL (nT (wp_ret ?_))
 refine c_ret1 hS Tryz.results10 (.tmp rfl) ?_
 exact ⟨rfl, hS.chg⟩
theorem rk_by {b E : Nat} {l : List UInt8} {w : World} (h : (rkA b ((bsI l).map (Value.int .u8)) E).φ w) (hne : bsI l ≠ []) : ByAt (.slice (some ⟨b, 0, none⟩) l.length l.length) (bsI l) w := by
 obtain ⟨f, hf⟩ := h
 refine .inr ⟨b, 0, l.length, hne, by rw [bsI_len], by rw [bsI_len]; exact Nat.le_refl _, fun j x hj => ?_, (Array.getElem?_eq_some_iff.1 hf).1⟩
 rw [Nat.zero_add]
 unfold World.cell?
 rw [hf]
 simp only [List.getElem?_toArray, List.getElem?_map, hj]
 rfl
set_option maxRecDepth 100000 in
theorem frFirst_P (W0 : World) (hG : Gj W0) (w0 : World) (hold : oldφ W0 w0) : PureC Tryz.prog 7 [] w0 (.bool true) := by
 refine c_enter [] [oldA W0] noB Tryz.func7 rfl Tryz.ntmps7 trivial rfl (okC (old_ok hold) okN) dis1 (mineC rfl mineN) ?_
 intro a hS
 refine cS (cR ?_)
 refine L_e hS (e_assign rfl) rfl ?_; clear hS a; intro a hS
 refine nL (nT (cS (cR ?_)))
 refine L_op (s_bslice hS ty_sl27 ty_sz5 ty_z5 rfl rfl rfl rfl (.one rfl rfl rfl (.one rfl rfl rfl (.one rfl rfl rfl (.one rfl rfl rfl (.one rfl rfl rfl (.one rfl rfl rfl (.one rfl rfl rfl (.one rfl rfl rfl (.one rfl rfl rfl (.one rfl rfl rfl (.one rfl rfl rfl (.one rfl rfl rfl (.one rfl rfl rfl (.one rfl rfl rfl (.one rfl rfl rfl (.one rfl rfl rfl (.one rfl rfl rfl (.one rfl rfl rfl (.one rfl rfl rfl (.one rfl rfl rfl (.one rfl rfl rfl (.one rfl rfl rfl (.one rfl rfl rfl (.one rfl rfl rfl (.one rfl rfl rfl (.one rfl rfl rfl (.one rfl rfl rfl (.one rfl rfl rfl (.one rfl rfl rfl .nil))))))))))))))))))))))))))))) rfl ?_); clear hS a; intro a w b7 hS
 refine L_op (s_convConst hS rfl ty_sl27 ty_u5 rfl (by repeat constructor) ?_); clear hS a; intro a w hS
 refine L_e hS (e_build ty_z29 ty_pl29 (.one rfl rfl rfl (by repeat constructor) (.one rfl rfl rfl (by repeat constructor) (.one rfl rfl rfl (by repeat constructor) .nil)))) rfl ?_; clear hS a; intro a hS
 have htx : TxA w (some ⟨b7, 0, none⟩) 29 bodyE := ⟨rk_by (l := bodyE) (hS.gg (X := rkA b7 ((bsI bodyE).map (Value.int .u8)) 5)) (by decide), by decide⟩
 refine L_op (s_callN hS (.cons rfl .nil) cf14 rfl (fBindPost_N w (hG.keep (hS.gg (X := oldA W0))) 5 _ payFl pay_rt (some ⟨b7, 0, none⟩) 29 bodyE htx (fun v hv => by rw [body_parsed] at hv; injection hv with hv; rw [← hv]; exact bodyV_sm) false _ (old_refl w)) ?_); clear hS a; intro x10 a w hS
 rcases x10 with x10 | x10
 rotate_left
 · exact absurd body_bound.1 x10.2
 obtain ⟨qq, cq, hxe⟩ := own_slice (show w.ownsRow 0 _ 4 x10.1 (bindP payFl 6 bodyE).2.fx.length _ from (hS.ok (bnY (bindP payFl (((5 : Nat) : Int) + 1) bodyE) (.inl x10)) (by repeat constructor)).now)
 obtain ⟨_, hb2, hb3, hb4, hb5⟩ := body_bound
 rw [show bnV (bindP payFl (((5 : Nat) : Int) + 1) bodyE) (.inl x10) = .tuple [.agg (cellsC (bindP payFl 6 bodyE).2 x10.1).toArray, .int .i64 0].toArray from rfl, hxe] at hS
 generalize (bindP payFl 6 bodyE).2 = cc at hS hb2 hb3 hb4 hb5
 refine Rn hS (.m rfl <| .c (e_extract rfl rfl) <| .c (e_extract rfl rfl) .n) ?_; clear hS a; intro a hS
 refine L_op (s_alloc hS ty_z24 rfl ?_); clear hS a; intro a w b1 hS
 refine L_op (s_storeA (l := cellsC cc (.slice qq _ cq)) hS rfl rfl ty_sz24 (by repeat constructor) rfl rfl rfl ?_); clear hS; intro w hS
 refine L_e hS (e_assign rfl) rfl ?_; clear hS a; intro a hS
 refine nL (nT (cS (cR ?_)))
 refine L_e hS (e_build ty_z29 ty_pl29 (.one rfl rfl rfl (by repeat constructor) (.one rfl rfl rfl (by repeat constructor) .nil))) rfl ?_; clear hS a; intro a hS
 refine L_op (s_callP hS (.cons rfl .nil) cf14 rfl (fBind03_P W0 hG _ (hS.gg (X := oldA W0))) ?_); clear hS a; intro a w hS
 refine Rn hS (.m rfl <| .c (e_extract rfl rfl) <| .c (e_extract rfl rfl) .n) ?_; clear hS a; intro a hS
 refine L_op (s_alloc hS ty_z24 rfl ?_); clear hS a; intro a w b3 hS
 refine L_op (s_storeA hS rfl rfl ty_sz24 (by repeat constructor) (by rfl) (by rfl) (by rfl) ?_); clear hS; intro w hS
 refine L_e hS (e_assign rfl) rfl ?_; clear hS a; intro a hS
 refine nL (nT (cS (cR ?_)))
 refine Rn hS (.c (e_build ty_z24 ty_pl24 (.one rfl rfl rfl (by repeat constructor) .nil)) <| .c (e_build ty_z72 ty_pl72 (.one rfl rfl rfl (by repeat constructor) .nil)) .n) ?_; clear hS a; intro a hS
 refine L_op (s_callN hS (.cons rfl (.cons rfl .nil)) cf23 rfl (fAnswer25_N W0 hG _ (hS.gg (X := oldA W0))) ?_); clear hS a; intro x20 a w hS
 obtain ⟨⟨⟨pb, pc⟩, pr, ps⟩, hpj, hpc⟩ := x20
 obtain rfl := err_text hpj
 simp only at hS hpc
 refine L_op (s_alloc hS ty_z62 rfl ?_); clear hS a; intro a w b5 hS
 refine L_op (s_storeA hS rfl rfl ty_sz62 (by repeat constructor) (by rfl) (by rfl) (by rfl) ?_); clear hS; intro w hS
 refine nL (nT (cS (cR ?_)))
 (first | refine L_e hS (e_fa0 rfl ty_fo24_0) rfl ?_ | refine L_e hS (e_faK rfl ty_fo24_0) rfl ?_); clear hS a; intro a hS
 refine Rn hS (.c (e_load rfl (by repeat constructor) ty_sc3 (by rfl)) <| .c (e_bin rfl rfl rfl) <| .m rfl .n) ?_; clear hS a; intro a hS
 replace hS := hS.is (t := 24) (c := true) rfl (decide_eq_true hb2)
 (first | refine L_ge hS rfl rfl (e_fa0 rfl ty_fo24_12) rfl ?_ | refine L_ge hS rfl rfl (e_faK rfl ty_fo24_12) rfl ?_); clear hS a; intro a hS
 refine Rn hS (.g rfl rfl (e_load rfl (by repeat constructor) ty_sc3 (by rfl)) <| .g rfl rfl (e_bin rfl rfl rfl) <| .c (e_pk rfl rfl) <| .m rfl .n) ?_; clear hS a; intro a hS
 replace hS := hS.is (t := 29) (c := true) rfl (decide_eq_true hb3)
 (first | refine L_ge hS rfl rfl (e_fa0 rfl ty_fo24_8) rfl ?_ | refine L_ge hS rfl rfl (e_faK rfl ty_fo24_8) rfl ?_); clear hS a; intro a hS
 refine Rn hS (.g rfl rfl (e_load rfl (by repeat constructor) ty_sc3 (by rfl)) <| .g rfl rfl (e_bin rfl rfl rfl) <| .c (e_pk rfl rfl) <| .m rfl .n) ?_; clear hS a; intro a hS
 replace hS := hS.is (t := 34) (c := true) rfl (decide_eq_true hb4)
 (first | refine L_ge hS rfl rfl (e_fa0 rfl ty_fo24_11) rfl ?_ | refine L_ge hS rfl rfl (e_faK rfl ty_fo24_11) rfl ?_); clear hS a; intro a hS
 refine Rn hS (.g rfl rfl (e_load rfl (by repeat constructor) ty_sc3 (by rfl)) <| .g rfl rfl (e_bin rfl rfl rfl) <| .c (e_pk rfl rfl) <| .m rfl .n) ?_; clear hS a; intro a hS
 replace hS := hS.is (t := 39) (c := true) rfl (decide_eq_true hb5)
 refine L_ge hS rfl rfl (e_move rfl) rfl ?_; clear hS a; intro a hS
 refine L_go hS rfl rfl (s_callP hS (.cons rfl .nil) cf10 rfl (lNum_P _ _) ?_); clear hS a; intro a w hS
 refine Rn hS (.g rfl rfl (e_bin rfl rfl rfl) <| .c (e_pk rfl rfl) <| .m rfl .n) ?_; clear hS a; intro a hS
 replace hS := hS.is (t := 44) (c := true) rfl (rfl)
 refine L_ge hS rfl rfl (e_move rfl) rfl ?_; clear hS a; intro a hS
 refine L_go hS rfl rfl (s_callP hS (.cons rfl .nil) cf10 rfl (lNum_P _ _) ?_); clear hS a; intro a w hS
 refine Rn hS (.g rfl rfl (e_bin rfl rfl rfl) <| .c (e_pk rfl rfl) <| .m rfl .n) ?_; clear hS a; intro a hS
 replace hS := hS.is (t := 49) (c := true) rfl (rfl)
 (first | refine L_ge hS rfl rfl (e_fa0 rfl ty_fo62_0) rfl ?_ | refine L_ge hS rfl rfl (e_faK rfl ty_fo62_0) rfl ?_); clear hS a; intro a hS
 refine Rn hS (.g rfl rfl (e_load rfl (by repeat constructor) ty_sc3 (by rfl)) <| .g rfl rfl (e_bin rfl rfl rfl) <| .c (e_pk rfl rfl) <| .m rfl .n) ?_; clear hS a; intro a hS
 replace hS := hS.is (t := 54) (c := true) rfl (rfl)
 (first | refine L_ge hS rfl rfl (e_fa0 rfl ty_fo62_1) rfl ?_ | refine L_ge hS rfl rfl (e_faK rfl ty_fo62_1) rfl ?_); clear hS a; intro a hS
 refine Rn hS (.g rfl rfl (e_load rfl (by repeat constructor) ty_sc27 (by rfl)) <| .g rfl rfl (e_str (l := bsI respE) rfl ty_sl27 ty_u5 ty_u9 (fun w hh => bb_by (hh (bbA 5 pb (bsI respE)) (by repeat constructor)) (by rw [bsI_len]; exact hpc))) .n) ?_; clear hS a; intro a hS
 rw [str_bs] at hS
 refine Rn hS (.g rfl rfl (e_binS rfl rfl rfl) <| .c (e_pk rfl rfl) <| .m rfl .n) ?_; clear hS a; intro a hS
 replace hS := hS.is (t := 60) (c := true) rfl (by decide +kernel)
 (first | refine L_ge hS rfl rfl (e_fa0 rfl ty_fo62_2) rfl ?_ | refine L_ge hS rfl rfl (e_faK rfl ty_fo62_2) rfl ?_); clear hS a; intro a hS
 refine Rn hS (.g rfl rfl (e_load rfl (by repeat constructor) ty_sc4 (by rfl)) <| .g rfl rfl (e_not rfl) <| .c (e_pk rfl rfl) <| .a rfl .n) ?_; clear hS a; intro a hS
 refine nL (nT (wp_ret ?_))
 refine c_ret1 hS Tryz.results7 (.tmp rfl) ?_
 exact ⟨rfl, hS.chg⟩
structure FctC (W0 : World) (fa : Option Addr) (fs : List Fct) : Prop where
 c : fs ≠ [] → ∃ nb no, fa = some ⟨nb, no, none⟩ ∧ ∀ (i : Nat) (x : Fct), fs[i]? = some x → ∀ (j : Nat) (u : Value), (encF x)[j]? = some u → W0.cell? ⟨nb, no + i * 4 + j, none⟩ = some u
def fctSm (x : Fct) : Prop := x.nm.length ≤ 300 ∧ x.s.length ≤ 300
def fewFx (fs : List Fct) : Prop := fs.length ≤ 110 ∧ ∀ x ∈ fs, fctSm x
set_option maxRecDepth 100000 in
theorem fFew11_N (W0 : World) (fa : Option Addr) (fc : Nat) (fs : List Fct) (hF : FctC W0 fa fs) (w0 : World) (ho : oldφ W0 w0) :
 NewC Tryz.prog 68 [.slice fa fs.length fc] w0 (fun b : { b : Bool // b = true ↔ fewFx fs } => .bool b.1) (fun _ => none_) := by
 refine c_enter [(0, .slice fa fs.length fc)] [oldA W0] noB Tryz.func68 rfl Tryz.ntmps68 ⟨rfl, trivial⟩ rfl (okC (old_ok ho) okN) dis1 (mineC rfl mineN) ?_
 intro a hS
 refine cS (cR ?_)
 refine L_e hS (e_assign rfl) rfl ?_; clear hS a; intro a hS
 refine nL (nT (cS (cS (cR ?_))))
 refine L_e hS (e_assign rfl) rfl ?_; clear hS a; intro a hS
 refine nL (nT (wB ?_))
 skip
 refine c_loop (γ := Nat) (fun k a w => St 33 noB w0 a w [(3, .int .i64 (k : Int)), (0, .slice fa fs.length fc)] [oldA W0] ∧ k ≤ fs.length ∧ k ≤ 111 ∧ ∀ (j : Nat) (x : Fct), j < k → fs[j]? = some x → fctSm x) (fun k => fs.length - k) 0 ⟨hS.slots (by repeat (first | exact trivial | refine ⟨rfl, ?_⟩)), Nat.zero_le _, Nat.zero_le _, fun j _ hj => by omega⟩ ?_
 clear hS a; intro k a w hI
 obtain ⟨hS, hk, hk2, hno⟩ := hI
 refine cS (cS (cR ?_))
 refine Rn hS (.m rfl <| .m rfl <| .c (e_len rfl rfl ty_sl22) <| .c (e_bin rfl rfl rfl) <| .m rfl .n) ?_; clear hS a; intro a hS
 refine L_merge 3 11 (.bool (decide (k < fs.length ∧ k ≤ 110))) hS ?_ ?_
 · intro hcM11
   (first | refine g_splitD (t := 8) hS rfl ?_ ?_ | refine g_split (t := 8) hS rfl ?_ ?_) <;> (clear hS; intro hg8 hS)
   ·
    refine Rn hS (.g rfl rfl (e_move rfl) <| .g rfl rfl (e_bin rfl rfl rfl) <| .c (e_pk rfl rfl) .n) ?_; clear hS a; intro a hS
    exact hcM11 _ _ (hS.ends 4 11 8 rfl (congrArg Value.bool (by exact decide_eq_decide.2 ⟨fun h => ⟨by omega, by omega⟩, fun h => by omega⟩)) rfl rfl (by first | exact congrArg Value.bool (decide_eq_true hg8).symm | exact congrArg Value.bool hg8.symm | simp [hg8]) rfl)
   refine Rn hS (.t rfl rfl <| .t rfl rfl <| .c (e_pk rfl rfl) .n) ?_; clear hS a; intro a hS
   exact hcM11 _ _ (hS.ends 4 11 8 rfl (congrArg Value.bool (by exact (decide_eq_false (fun h => hg8 (by omega))).symm)) rfl rfl (by first | exact congrArg Value.bool (decide_eq_false hg8).symm | exact congrArg Value.bool hg8.symm | simp [hg8]) rfl)
 · clear hS a; intro a w hS
   simp only [List.drop_succ_cons, List.drop_zero]
   refine nL (nT ?_)
   (first | refine c_ifD hS rfl ?_ ?_ | refine c_if hS rfl ?_ ?_) <;> intro hc11
   ·
    obtain ⟨x, hx⟩ : ∃ x, fs[k]? = some x := ⟨_, List.getElem?_eq_getElem hc11.1⟩
    obtain ⟨nb, no, rfl, hcell⟩ := hF.c (fun e => by rw [e] at hc11; exact absurd hc11.1 (Nat.not_lt_zero _))
    have hz1 := tx_size x.nm
    have hz2 := tx_size x.s
    refine wS (nT (cS (wB (cS (cR ?_)))))
    refine Rn hS (.m rfl <| .m rfl <| .c (e_ixN rfl rfl ty_sl22 ty_sz160 (by omega)) .n) ?_; clear hS a; intro a hS
    (first | refine L_e hS (e_fa0 rfl ty_fo160_0) rfl ?_ | refine L_e hS (e_faK rfl ty_fo160_0) rfl ?_); clear hS a; intro a hS
    refine Rn hS (.c (e_loadC (v := .string (tx x.nm)) rfl ty_sc9 (fun w hh => old_cell (hh (oldA W0) (by repeat constructor)) (hcell k x hx 0 _ rfl))) <| .c (e_lenS rfl rfl ty_u9) <| .c (e_bin rfl rfl rfl) <| .m rfl .n) ?_; clear hS a; intro a hS
    refine L_merge 8 29 (.bool (decide (300 < x.nm.length ∨ 300 < x.s.length))) hS ?_ ?_
    · intro hcM29
      (first | refine g_splitD (t := 21) hS rfl ?_ ?_ | refine g_split (t := 21) hS rfl ?_ ?_) <;> (clear hS; intro hg21 hS)
      ·
       refine Rn hS (.f rfl rfl <| .f rfl rfl <| .f rfl rfl <| .f rfl rfl <| .f rfl rfl <| .f rfl rfl <| .f rfl rfl <| .c (e_pk rfl rfl) .n) ?_; clear hS a; intro a hS
       exact hcM29 _ _ (hS.ends 9 29 21 rfl (congrArg Value.bool (by exact (decide_eq_true (.inl (by omega))).symm)) rfl rfl (by first | exact congrArg Value.bool (decide_eq_true hg21).symm | exact congrArg Value.bool hg21.symm | simp [hg21]) rfl)
      refine Rn hS (.g rfl rfl (e_move rfl) <| .g rfl rfl (e_move rfl) <| .g rfl rfl (e_ixN rfl rfl ty_sl22 ty_sz160 (by omega)) .n) ?_; clear hS a; intro a hS
      (first | refine L_ge hS rfl rfl (e_fa0 rfl ty_fo160_3) rfl ?_ | refine L_ge hS rfl rfl (e_faK rfl ty_fo160_3) rfl ?_); clear hS a; intro a hS
      refine Rn hS (.g rfl rfl (e_loadC (v := .string (tx x.s)) rfl ty_sc9 (fun w hh => old_cell (hh (oldA W0) (by repeat constructor)) (hcell k x hx 3 _ rfl))) <| .g rfl rfl (e_lenS rfl rfl ty_u9) <| .g rfl rfl (e_bin rfl rfl rfl) <| .c (e_pk rfl rfl) .n) ?_; clear hS a; intro a hS
      exact hcM29 _ _ (hS.ends 9 29 21 rfl (congrArg Value.bool (by exact decide_eq_decide.2 ⟨fun h => .inr (by omega), fun h => by have := h.resolve_left (fun h => hg21 (by omega)); omega⟩)) rfl rfl (by first | exact congrArg Value.bool (decide_eq_false hg21).symm | exact congrArg Value.bool hg21.symm | simp [hg21]) rfl)
    · clear hS a; intro a w hS
      simp only [List.drop_succ_cons, List.drop_zero]
      refine nL (nT ?_)
      (first | refine c_ifD hS rfl ?_ ?_ | refine c_if hS rfl ?_ ?_) <;> intro hc29
      ·
       refine cS (cR ?_)
       refine L_e hS (e_assign rfl) rfl ?_; clear hS a; intro a hS
       refine nL (nT (wp_ret ?_))
       refine r_block (r_then (r_then (r_block (r_then ?_))))
       refine c_ret1 hS Tryz.results68 (.tmp rfl) ?_
       have hbad : ¬ fewFx fs := fun h => by have := h.2 x (List.mem_of_getElem? hx); unfold fctSm at this; omega
       exact ⟨⟨false, iff_of_false Bool.false_ne_true hbad⟩, rfl, hS.chg, none_ok _, fun b hb => hb.elim⟩
      refine wS (n_block (nT (cR ?_)))
      refine L_e hS (e_move rfl) rfl ?_; clear hS a; intro a hS
      (first | refine L_e hS (e_binN rfl rfl rfl (by omega)) rfl ?_ | refine L_e hS (e_bin rfl rfl rfl) rfl ?_); clear hS a; intro a hS
      refine L_e hS (e_assign rfl) rfl ?_; clear hS a; intro a hS
      refine nL ?_
      refine ⟨k + 1, by omega, hS.slots (by repeat (first | exact trivial | refine ⟨rfl, ?_⟩)), hc11.1, by omega, fun j y hj hy => ?_⟩
      by_cases e : j = k
      · subst e; rw [hx] at hy; cases hy; exact ⟨by omega, by omega⟩
      · exact hno j y (by omega) hy
   refine wp_exit ?_
   refine x_then (x_then (x_hit ?_))
   refine nT (cS (cR ?_))
   refine Rn hS (.m rfl <| .c (e_len rfl rfl ty_sl22) <| .c (e_bin rfl rfl rfl) <| .a rfl .n) ?_; clear hS a; intro a hS
   refine nL (nT (wp_ret ?_))
   refine c_ret1 hS Tryz.results68 (.tmp rfl) ?_
   refine ⟨⟨decide ((fs.length : Int) ≤ 110), ?_⟩, rfl, hS.chg, none_ok _, fun b hb => hb.elim⟩
   rw [decide_eq_true_iff]
   refine ⟨fun h => ⟨by omega, fun x hx => ?_⟩, fun h => by have := h.1; omega⟩
   obtain ⟨j, hj⟩ := List.getElem?_of_mem hx
   exact hno j x (by have := (List.getElem?_eq_some_iff.1 hj).1; omega) hj
def mnI (i j : Int) : Int := if j < i then j else i
section
variable {P : Program} {n : NN} {a : Act} {L : List (Nat × Value)} {Γ : List Asn} {dst : Option Nat} {ty : Nat} {pos : String} {af : Array Edge} {g : Option (Nat × Bool)}
theorem e_min2 {x y : Operand} {i j : Int} {k k' : IntKind} {ts : Array TypeId} (hx : ev L x = some (.int k i)) (hy : ev L y = some (.int k' j)) : Ex P n a L Γ ⟨dst, .call ⟨.builtin .min, #[x, y], ts⟩, ty, pos, af, g⟩ (.int k (mnI i j)) := fun hs w hh => by
 have h : ∀ t, (Builtin.min_ ts t #[.int k i, .int k' j]).run P w = .ok (.int k (mnI i j)) w := fun t => by rw [run_min_int2]; rfl
 simp [execOp, resolve, invoke, builtin, hs.ev hx, hs.ev hy, h]
end
theorem mn_c (u : Nat) : 0 ≤ mnI (u : Int) 30000 ∧ mnI (u : Int) 30000 ≤ 30000 := by
 unfold mnI; split <;> omega
def mnT (x : List UInt8) : Int := mnI ((tx x).size : Int) 30000
def sumT (c : Cd) : Int := mnI (0 + mnT (c.t 1) + mnT (c.t 2) + mnT (c.t 3) + mnT (c.t 4) + mnT (c.t 5) + mnT (c.t 6)) 60000
def fewC (c : Cd) : Prop := fewFx c.fx ∧ sumT c ≤ 30000
set_option maxRecDepth 100000 in
theorem fFew21_N (W0 : World) (fa : Option Addr) (fc : Nat) (c : Cd) (hF : FctC W0 fa c.fx) (b : Nat) (hc : ∀ (j : Nat) (v : Value), (cellsC c (.slice fa c.fx.length fc))[j]? = some v → W0.cell? ⟨b, 0 + 0 * 15 + j, none⟩ = some v) (w0 : World) (ho : oldφ W0 w0) :
 NewC Tryz.prog 24 [.slice (some ⟨b, 0, none⟩) 1 1, .int .i64 1] w0 (fun b : { b : Bool // b = true ↔ fewC c } => .bool b.1) (fun _ => none_) := by
 refine c_enter [(0, .slice (some ⟨b, 0, none⟩) 1 1), (1, .int .i64 1)] [oldA W0] noB Tryz.func24 rfl Tryz.ntmps24 ⟨rfl, rfl, trivial⟩ rfl (okC (old_ok ho) okN) dis1 (mineC rfl mineN) ?_
 intro a hS
 refine cS (cR ?_)
 refine L_e hS (e_assign rfl) rfl ?_; clear hS a; intro a hS
 refine nL (nT (cS (cR ?_)))
 refine L_e hS (e_assign rfl) rfl ?_; clear hS a; intro a hS
 refine nL (nT (cS (cS (cR ?_))))
 refine L_e hS (e_assign rfl) rfl ?_; clear hS a; intro a hS
 refine nL (nT (wB ?_))
 skip
 refine c_loop (γ := Nat × Int) (fun G a w => St 67 noB w0 a w [(6, .int .i64 (G.1 : Int)), (5, .int .i64 G.2), (0, .slice (some ⟨b, 0, none⟩) 1 1), (1, .int .i64 1)] [oldA W0] ∧ G.1 ≤ 1 ∧ (G.1 = 0 → G.2 = 0) ∧ (G.1 = 1 → G.2 = sumT c ∧ fewFx c.fx)) (fun G => 1 - G.1) (0, 0) ⟨hS.slots (by repeat (first | exact trivial | refine ⟨rfl, ?_⟩)), Nat.zero_le _, fun _ => rfl, fun h => by cases h⟩ ?_
 clear hS a; intro G a w hI
 obtain ⟨k, nn⟩ := G
 obtain ⟨hS, hk, h0, h1⟩ := hI
 simp only at hS hk h0 h1
 refine cS (cS (cR ?_))
 refine Rn hS (.m rfl <| .m rfl <| .c (e_len rfl rfl ty_sl74) <| .c (e_bin rfl rfl rfl) <| .m rfl .n) ?_; clear hS a; intro a hS
 refine L_merge 4 16 (.bool (decide (k = 0))) hS ?_ ?_
 · intro hcM16
   (first | refine g_splitD (t := 12) hS rfl ?_ ?_ | refine g_split (t := 12) hS rfl ?_ ?_) <;> (clear hS; intro hg12 hS)
   ·
    refine Rn hS (.g rfl rfl (e_move rfl) <| .g rfl rfl (e_move rfl) <| .g rfl rfl (e_bin rfl rfl rfl) <| .c (e_pk rfl rfl) .n) ?_; clear hS a; intro a hS
    exact hcM16 _ _ (hS.ends 5 16 12 rfl (congrArg Value.bool (by exact decide_eq_decide.2 ⟨fun h => by omega, fun h => by omega⟩)) rfl rfl (by first | exact congrArg Value.bool (decide_eq_true hg12).symm | exact congrArg Value.bool hg12.symm | simp [hg12]) rfl)
   refine Rn hS (.t rfl rfl <| .t rfl rfl <| .t rfl rfl <| .c (e_pk rfl rfl) .n) ?_; clear hS a; intro a hS
   exact hcM16 _ _ (hS.ends 5 16 12 rfl (congrArg Value.bool (by exact (decide_eq_false (fun h => hg12 (by omega))).symm)) rfl rfl (by first | exact congrArg Value.bool (decide_eq_false hg12).symm | exact congrArg Value.bool hg12.symm | simp [hg12]) rfl)
 · clear hS a; intro a w hS
   simp only [List.drop_succ_cons, List.drop_zero]
   refine nL (nT ?_)
   (first | refine c_ifD hS rfl ?_ ?_ | refine c_if hS rfl ?_ ?_) <;> intro hc16
   ·
    obtain rfl : k = 0 := hc16
    obtain rfl := h0 rfl
    have z1 := mn_c (tx (c.t 1)).size
    have z2 := mn_c (tx (c.t 2)).size
    have z3 := mn_c (tx (c.t 3)).size
    have z4 := mn_c (tx (c.t 4)).size
    have z5 := mn_c (tx (c.t 5)).size
    have z6 := mn_c (tx (c.t 6)).size
    refine wS (nT (cS (wB (cS (cR ?_)))))
    refine Rn hS (.m rfl <| .m rfl <| .c (e_ixN rfl rfl ty_sl74 ty_sz24 (by omega)) <| .c (e_loadAC (l := cellsC c (.slice fa c.fx.length fc)) rfl ty_st24 ty_sz24 (fun w hh j u hj => old_cell (hh (oldA W0) (by repeat constructor)) (hc j u hj))) .n) ?_; clear hS a; intro a hS
    refine L_op (s_alloc hS ty_z24 rfl ?_); clear hS a; intro a w b7 hS
    refine L_op (s_storeA hS rfl rfl ty_sz24 (by repeat constructor) (by rfl) (by rfl) (by rfl) ?_); clear hS; intro w hS
    refine nL (nT (cS (cR ?_)))
    refine L_e hS (e_move rfl) rfl ?_; clear hS a; intro a hS
    (first | refine L_e hS (e_fa0 rfl ty_fo24_1) rfl ?_ | refine L_e hS (e_faK rfl ty_fo24_1) rfl ?_); clear hS a; intro a hS
    refine Rn hS (.c (e_load rfl (by repeat constructor) ty_sc9 (by rfl)) <| .c (e_lenS rfl rfl ty_u9) <| .c (e_min2 rfl rfl) .n) ?_; clear hS a; intro a hS
    (first | refine L_e hS (e_binN rfl rfl rfl (by omega)) rfl ?_ | refine L_e hS (e_bin rfl rfl rfl) rfl ?_); clear hS a; intro a hS
    (first | refine L_e hS (e_fa0 rfl ty_fo24_2) rfl ?_ | refine L_e hS (e_faK rfl ty_fo24_2) rfl ?_); clear hS a; intro a hS
    refine Rn hS (.c (e_load rfl (by repeat constructor) ty_sc9 (by rfl)) <| .c (e_lenS rfl rfl ty_u9) <| .c (e_min2 rfl rfl) .n) ?_; clear hS a; intro a hS
    (first | refine L_e hS (e_binN rfl rfl rfl (by omega)) rfl ?_ | refine L_e hS (e_bin rfl rfl rfl) rfl ?_); clear hS a; intro a hS
    (first | refine L_e hS (e_fa0 rfl ty_fo24_3) rfl ?_ | refine L_e hS (e_faK rfl ty_fo24_3) rfl ?_); clear hS a; intro a hS
    refine Rn hS (.c (e_load rfl (by repeat constructor) ty_sc9 (by rfl)) <| .c (e_lenS rfl rfl ty_u9) <| .c (e_min2 rfl rfl) .n) ?_; clear hS a; intro a hS
    (first | refine L_e hS (e_binN rfl rfl rfl (by omega)) rfl ?_ | refine L_e hS (e_bin rfl rfl rfl) rfl ?_); clear hS a; intro a hS
    (first | refine L_e hS (e_fa0 rfl ty_fo24_4) rfl ?_ | refine L_e hS (e_faK rfl ty_fo24_4) rfl ?_); clear hS a; intro a hS
    refine Rn hS (.c (e_load rfl (by repeat constructor) ty_sc9 (by rfl)) <| .c (e_lenS rfl rfl ty_u9) <| .c (e_min2 rfl rfl) .n) ?_; clear hS a; intro a hS
    (first | refine L_e hS (e_binN rfl rfl rfl (by omega)) rfl ?_ | refine L_e hS (e_bin rfl rfl rfl) rfl ?_); clear hS a; intro a hS
    (first | refine L_e hS (e_fa0 rfl ty_fo24_5) rfl ?_ | refine L_e hS (e_faK rfl ty_fo24_5) rfl ?_); clear hS a; intro a hS
    refine Rn hS (.c (e_load rfl (by repeat constructor) ty_sc9 (by rfl)) <| .c (e_lenS rfl rfl ty_u9) <| .c (e_min2 rfl rfl) .n) ?_; clear hS a; intro a hS
    (first | refine L_e hS (e_binN rfl rfl rfl (by omega)) rfl ?_ | refine L_e hS (e_bin rfl rfl rfl) rfl ?_); clear hS a; intro a hS
    (first | refine L_e hS (e_fa0 rfl ty_fo24_6) rfl ?_ | refine L_e hS (e_faK rfl ty_fo24_6) rfl ?_); clear hS a; intro a hS
    refine Rn hS (.c (e_load rfl (by repeat constructor) ty_sc9 (by rfl)) <| .c (e_lenS rfl rfl ty_u9) <| .c (e_min2 rfl rfl) .n) ?_; clear hS a; intro a hS
    (first | refine L_e hS (e_binN rfl rfl rfl (by omega)) rfl ?_ | refine L_e hS (e_bin rfl rfl rfl) rfl ?_); clear hS a; intro a hS
    refine L_e hS (e_min2 rfl rfl) rfl ?_; clear hS a; intro a hS
    rw [show mnI (0 + mnI ((tx (c.t 1)).size : Int) 30000 + mnI ((tx (c.t 2)).size : Int) 30000 + mnI ((tx (c.t 3)).size : Int) 30000 + mnI ((tx (c.t 4)).size : Int) 30000 + mnI ((tx (c.t 5)).size : Int) 30000 + mnI ((tx (c.t 6)).size : Int) 30000) 60000 = sumT c from rfl] at hS
    refine L_e hS (e_assign rfl) rfl ?_; clear hS a; intro a hS
    refine nL (nT (cS (cR ?_)))
    (first | refine L_e hS (e_fa0 rfl ty_fo24_14) rfl ?_ | refine L_e hS (e_faK rfl ty_fo24_14) rfl ?_); clear hS a; intro a hS
    refine L_e hS (e_load rfl (by repeat constructor) ty_sc22 (by rfl)) rfl ?_; clear hS a; intro a hS
    refine L_op (s_callN hS (.cons rfl .nil) cf68 rfl (fFew11_N W0 fa fc c.fx hF _ (hS.gg (X := oldA W0))) ?_); clear hS a; intro x57 a w hS
    refine L_e hS (e_not rfl) rfl ?_; clear hS a; intro a hS
    refine nL (nT ?_)
    (first | refine c_ifD hS rfl ?_ ?_ | refine c_if hS rfl ?_ ?_) <;> intro hc58
    ·
     refine cS (cR ?_)
     refine L_e hS (e_assign rfl) rfl ?_; clear hS a; intro a hS
     refine nL (nT (wp_ret ?_))
     refine r_block (r_then (r_then (r_block (r_then ?_))))
     refine c_ret1 hS Tryz.results24 (.tmp rfl) ?_
     have hb : x57.1 = false := by simpa using hc58
     exact ⟨⟨false, iff_of_false Bool.false_ne_true (fun h => by rw [x57.2.2 h.1] at hb; cases hb)⟩, rfl, hS.chg, none_ok _, fun b hb => hb.elim⟩
    refine wS (n_block (nT (cR ?_)))
    refine L_e hS (e_move rfl) rfl ?_; clear hS a; intro a hS
    (first | refine L_e hS (e_binN rfl rfl rfl (by omega)) rfl ?_ | refine L_e hS (e_bin rfl rfl rfl) rfl ?_); clear hS a; intro a hS
    refine L_e hS (e_assign rfl) rfl ?_; clear hS a; intro a hS
    refine nL ?_
    have hb : x57.1 = true := by simpa using hc58
    have e1 : ((1 : Nat) : Int) = ((0 : Nat) : Int) + 1 := rfl
    refine ⟨(1, sumT c), (by decide : (1 : Nat) - 1 < 1 - 0), (by show St _ _ _ _ _ [(6, .int .i64 ((1 : Nat) : Int)), (5, .int .i64 (sumT c)), (0, .slice (some ⟨b, 0, none⟩) 1 1), (1, .int .i64 1)] [oldA W0]; rw [e1]; exact (hS.slots (by repeat (first | exact trivial | refine ⟨rfl, ?_⟩))).pick (by repeat (first | exact Pick.nil | (refine Pick.cons (by repeat (first | exact Rem.head | apply Rem.tail)) ?_)))), Nat.le_refl _, (fun h => absurd (show (1 : Nat) = 0 from h) (by decide)), fun _ => ⟨rfl, x57.2.1 hb⟩⟩
   obtain rfl : k = 1 := by omega
   obtain ⟨rfl, hfx⟩ := h1 rfl
   refine wp_exit ?_
   refine x_then (x_then (x_hit ?_))
   refine nT (cS (cR ?_))
   refine Rn hS (.m rfl <| .c (e_len rfl rfl ty_sl74) <| .m rfl <| .c (e_bin rfl rfl rfl) <| .m rfl .n) ?_; clear hS a; intro a hS
   replace hS := hS.is (t := 63) (c := true) rfl (decide_eq_true (by decide))
   refine Rn hS (.g rfl rfl (e_move rfl) <| .g rfl rfl (e_bin rfl rfl rfl) <| .c (e_pk rfl rfl) <| .a rfl .n) ?_; clear hS a; intro a hS
   refine nL (nT (wp_ret ?_))
   refine c_ret1 hS Tryz.results24 (.tmp rfl) ?_
   refine ⟨⟨decide (sumT c ≤ 30000), ?_⟩, rfl, hS.chg, none_ok _, fun b hb => hb.elim⟩
   rw [decide_eq_true_iff]
   exact ⟨fun h => ⟨hfx, h⟩, fun h => h.2⟩
end Go.Proofs.YtlccmgeclhdegaaGreatDoor
namespace Go.Proofs.YtlccmgeclhdegaaGreatDoor
open Go.RowKit
theorem FctC.keep {W w : World} {fa : Option Addr} {fs : List Fct} (h : FctC W fa fs) (ho : oldφ W w) : FctC w fa fs := ⟨fun hne => by
  obtain ⟨nb, no, e, hc⟩ := h.c hne
  exact ⟨nb, no, e, fun i x hx j u hu => old_cell ho (hc i x hx j u hu)⟩⟩
def smallC (c : Cd) : Prop := fewC c ∧ (c.t 6).length ≤ 10000
set_option maxRecDepth 100000 in
theorem frFew_N (W0 : World) (fa : Option Addr) (fc : Nat) (c : Cd) (hF : FctC W0 fa c.fx) (w0 : World) (ho : oldφ W0 w0) :
 NewC Tryz.prog 8 [.agg (cellsC c (.slice fa c.fx.length fc)).toArray] w0 (fun b : { b : Bool // b = true ↔ smallC c } => .bool b.1) (fun _ => none_) := by
 have hz := tx_size (c.t 6)
 refine c_enter [(0, .agg (cellsC c (.slice fa c.fx.length fc)).toArray)] [oldA W0] noB Tryz.func8 rfl Tryz.ntmps8 ⟨rfl, trivial⟩ rfl (okC (old_ok ho) okN) dis1 (mineC rfl mineN) ?_
 intro a hS
 refine cS (cR ?_)
 refine L_op (s_boxA hS rfl rfl ?_); clear hS a; intro a w b1 hS
 refine L_e hS (e_assign rfl) rfl ?_; clear hS a; intro a hS
 refine nL (nT (cS (cR ?_)))
 refine L_e hS (e_loadA rfl (by repeat constructor) ty_st24 ty_sz24 (by rfl)) rfl ?_; clear hS a; intro a hS
 refine L_op (s_bslice hS ty_sl74 ty_sz24 ty_z24 rfl rfl rfl rfl (.agg rfl rfl .nil) rfl ?_); clear hS a; intro a w b4 hS
 have hb4 := hS.gg (X := .blk b4 (cellsC c (.slice fa c.fx.length fc) ++ []) 24)
 refine L_op (s_callN hS (.cons rfl (.cons rfl .nil)) cf24 rfl (fFew21_N w fa fc c (hF.keep (hS.gg (X := oldA W0))) b4 (fun j v hv => cell_of_blk hb4 (by rw [List.append_nil, show 0 + 0 * 15 + j = j by omega]; exact hv)) _ (old_refl w)) ?_); clear hS a; intro x5 a w hS
 refine L_e hS (e_move rfl) rfl ?_; clear hS a; intro a hS
 (first | refine g_splitD (t := 6) hS rfl ?_ ?_ | refine g_split (t := 6) hS rfl ?_ ?_) <;> (clear hS; intro hg6 hS)
 ·
  (first | refine L_ge hS rfl rfl (e_fa0 rfl ty_fo24_6) rfl ?_ | refine L_ge hS rfl rfl (e_faK rfl ty_fo24_6) rfl ?_); clear hS a; intro a hS
  refine Rn hS (.g rfl rfl (e_load rfl (by repeat constructor) ty_sc9 (by rfl)) <| .g rfl rfl (e_lenS rfl rfl ty_u9) <| .g rfl rfl (e_bin rfl rfl rfl) <| .c (e_pk rfl rfl) <| .a rfl .n) ?_; clear hS a; intro a hS
  refine nL (nT (wp_ret ?_))
  refine c_ret1 hS Tryz.results8 (.tmp rfl) ?_
  first
   | exact ⟨⟨decide (((tx (c.t 6)).size : Int) ≤ 10000), by rw [decide_eq_true_iff]; exact ⟨fun h => ⟨x5.2.1 hg6, by omega⟩, fun h => by have := h.2; omega⟩⟩, rfl, hS.chg, none_ok _, fun b hb => hb.elim⟩
   | exact ⟨⟨false, iff_of_false Bool.false_ne_true (fun h => by rw [x5.2.2 h.1] at hg6; cases hg6)⟩, rfl, hS.chg, none_ok _, fun b hb => hb.elim⟩
 refine Rn hS (.t rfl rfl <| .t rfl rfl <| .t rfl rfl <| .t rfl rfl <| .c (e_pk rfl rfl) <| .a rfl .n) ?_; clear hS a; intro a hS
 refine nL (nT (wp_ret ?_))
 refine c_ret1 hS Tryz.results8 (.tmp rfl) ?_
 first
  | exact ⟨⟨decide (((tx (c.t 6)).size : Int) ≤ 10000), by rw [decide_eq_true_iff]; exact ⟨fun h => ⟨x5.2.1 hg6, by omega⟩, fun h => by have := h.2; omega⟩⟩, rfl, hS.chg, none_ok _, fun b hb => hb.elim⟩
  | exact ⟨⟨false, iff_of_false Bool.false_ne_true (fun h => by rw [x5.2.2 h.1] at hg6; cases hg6)⟩, rfl, hS.chg, none_ok _, fun b hb => hb.elim⟩
def FxB (fs : List Fct) : Prop := ∀ x ∈ fs, -9223372036854775808 ≤ x.n ∧ x.n ≤ 9223372036854775807
theorem fact_good {x : Fct} {y : JV} {n : Nat} (hb : -9223372036854775808 ≤ x.n ∧ x.n ≤ 9223372036854775807) (h : factJ x = some y) : goodV (n + 1) y := by
 unfold factJ at h
 split at h
 · split at h
   · injection h with h; rw [← h]; exact num_good (itoa_lit hb.1 hb.2) n
   · cases h
 · split at h
   · split at h
     · injection h with h
       rw [← h]
       split <;> exact ⟨by omega, by omega, fun h => absurd h (by decide), fun h => absurd h (by decide)⟩
     · cases h
   · split at h
     · injection h with h; rw [← h]; exact ⟨by omega, by omega, fun h => absurd h (by decide), fun h => absurd h (by decide)⟩
     · cases h
theorem factsJ_all : ∀ (fs : List Fct) (ns : List (List UInt8)) (l : List JV) (v : JV), factsJ fs ns l = some v → ∃ ys : List JV, v = .mk 6 [] (ns ++ fs.map Fct.nm) (l ++ ys) ∧ ys.length = fs.length ∧ ∀ (i : Nat) (x : Fct) (y : JV), fs[i]? = some x → ys[i]? = some y → factJ x = some y
 | [], ns, l, v, h => by
   injection h with h
   exact ⟨[], by rw [← h]; simp, rfl, fun i x y hx => by cases hx⟩
 | x :: r, ns, l, v, h => by
   unfold factsJ at h
   cases hx : factJ x with
   | none => rw [hx] at h; cases h
   | some y =>
     rw [hx] at h
     have hgo : factsJ r (ns ++ [x.nm]) (l ++ [y]) = some v := by
      simp only at h
      split at h
      · split at h
        · exact h
        · cases h
      · split at h
        · exact h
        · cases h
     obtain ⟨ys, h1, h2, h3⟩ := factsJ_all r _ _ v hgo
     refine ⟨y :: ys, by rw [h1]; simp, by simp [h2], fun i z w hz hw => ?_⟩
     cases i with
     | zero =>
       obtain rfl : x = z := by simpa using hz
       obtain rfl : y = w := by simpa using hw
       exact hx
     | succ i => exact h3 i z w (by simpa using hz) (by simpa using hw)
theorem val_good {f : Fd} {c : Cd} {y : JV} (hf : f.ok) (hc : c.ok) (hx : FxB c.fx) (h : (valC f c).1 = some y) : goodV 2 y := by
 unfold valC at h
 rcases hf.kd with h1 | h1 | h1
 · rw [if_pos h1] at h
   simp only at h
   split at h
   · injection h with h; rw [← h]; exact ⟨by omega, by omega, fun h => absurd h (by decide), fun h => absurd h (by decide)⟩
   · cases h
 · rw [if_neg (by omega), if_pos h1] at h
   injection h with h
   obtain ⟨n0, n1⟩ := hc.n f.off (hf.n h1).1 (hf.n h1).2
   rw [← h]; exact num_good (itoa_lit n0 n1) 1
 · rw [if_neg (by omega), if_neg (by omega)] at h
   obtain ⟨ys, h2, h3, h4⟩ := factsJ_all c.fx [] [] y h
   rw [h2]
   refine ⟨by omega, by omega, fun h => absurd h (by decide), fun _ z hz => ?_⟩
   obtain ⟨i, hi⟩ := List.getElem?_of_mem (show z ∈ ys by simpa using hz)
   have hil := (List.getElem?_eq_some_iff.1 hi).1
   obtain ⟨x, hxi⟩ : ∃ x, c.fx[i]? = some x := ⟨_, List.getElem?_eq_getElem (by omega)⟩
   exact fact_good (hx x (List.mem_of_getElem? hxi)) (h4 i x z hxi hi)
theorem req_good {c : Cd} {k : Nat} {x : List UInt8 × List Fg} {v : JV} {c' : Cd} (hc : c.ok) (hfx : FxB c.fx) (hx : rtG[k]? = some x) (h : reqL (fdsOf x.2) c [] [] = some (v, c')) : goodV 3 v := by
 have hm := List.mem_of_getElem? hx
 obtain ⟨vals, h1, h2, _, h4⟩ := reqL_all (fdsOf x.2) c [] [] v c' (rt_fdok hm) (rt_apart _ hm) h
 rw [h2]
 refine ⟨by omega, by omega, fun h => absurd h (by decide), fun _ z hz => ?_⟩
 obtain ⟨i, hi⟩ := List.getElem?_of_mem (show z ∈ vals by simpa using hz)
 have hil := (List.getElem?_eq_some_iff.1 hi).1
 obtain ⟨f, hf⟩ : ∃ f, (fdsOf x.2)[i]? = some f := ⟨_, List.getElem?_eq_getElem (by omega)⟩
 exact val_good (rt_fdok hm f (List.mem_of_getElem? hf)) hc hfx (h4 i f z hf hi)
theorem qB_le6 (c : UInt8) : (qB c).length ≤ 6 := by
 have h : ∀ n : Fin 256, (qB (UInt8.ofNat n.val)).length ≤ 6 := by decide +kernel
 have := h ⟨c.toNat, c.toNat_lt⟩
 simpa using this
theorem quote_le6 (l : List UInt8) : (quoteL l).length ≤ 6 * l.length + 2 := by
 have h : (l.flatMap qB).length ≤ 6 * l.length := by
  induction l with
  | nil => simp
  | cons c l ih =>
    rw [List.flatMap_cons, List.length_append, List.length_cons]
    have := qB_le6 c
    omega
 unfold quoteL
 rw [List.cons_append, List.length_cons, List.length_append]
 simp only [List.length_cons, List.length_nil]
 omega
theorem fact_sm {x : Fct} {y : JV} {n : Nat} (hb : -9223372036854775808 ≤ x.n ∧ x.n ≤ 9223372036854775807) (hs : fctSm x) (h : factJ x = some y) : smV (n + 1) y ∧ lenJ (n + 1) y ≤ 1802 := by
 have hi := itoa_len hb.1 hb.2
 have hq := quote_le6 x.s
 have hs2 := hs.2
 unfold factJ at h
 split at h
 · split at h
   · injection h with h
     rw [← h]
     exact ⟨⟨by omega, Nat.zero_le _, (fun x h => by cases h), Nat.zero_le _, (fun x h => by cases h)⟩, by show (Lib.itoa x.n).length ≤ 1802; omega⟩
   · cases h
 · split at h
   · split at h
     · injection h with h
       rw [← h]
       exact ⟨⟨Nat.zero_le _, Nat.zero_le _, (fun x h => by cases h), Nat.zero_le _, (fun x h => by cases h)⟩, by
         split
         · exact (by decide : (wordsJ.getD 2 []).length ≤ 1802)
         · exact (by decide : (wordsJ.getD 1 []).length ≤ 1802)⟩
     · cases h
   · split at h
     · injection h with h
       rw [← h]
       exact ⟨⟨by show x.s.length ≤ 1100000; omega, Nat.zero_le _, (fun x h => by cases h), Nat.zero_le _, (fun x h => by cases h)⟩, Nat.le_trans hq (show 6 * x.s.length + 2 ≤ 1802 by omega)⟩
     · cases h
theorem sum_le {α : Type} (f : α → Nat) (b : Nat) (l : List α) (h : ∀ x ∈ l, f x ≤ b) : (l.map f).sum ≤ l.length * b := by
 induction l with
 | nil => simp
 | cons x l ih =>
   rw [List.map_cons, List.sum_cons, List.length_cons, Nat.succ_mul]
   have := h x (.head _)
   have := ih (fun y hy => h y (.tail _ hy))
   omega
theorem facts_sm {fs : List Fct} {v : JV} (hb : FxB fs) (hs : fewFx fs) (h : factsJ fs [] [] = some v) : smV 2 v ∧ lenJ 2 v ≤ 410000 := by
 obtain ⟨ys, h1, h2, h3⟩ := factsJ_all fs [] [] v h
 have hl := hs.1
 have hall : ∀ p ∈ (fs.map Fct.nm).zip ys, p.1.length ≤ 300 ∧ smV 1 p.2 ∧ lenJ 1 p.2 ≤ 1802 := by
  intro p hp
  obtain ⟨i, hi⟩ := List.getElem?_of_mem hp
  rw [List.getElem?_zip_eq_some] at hi
  obtain ⟨hi1, hi2⟩ := hi
  rw [List.getElem?_map] at hi1
  obtain ⟨x, hx1, hx2⟩ := Option.map_eq_some_iff.1 hi1
  have hxm := List.mem_of_getElem? hx1
  have := fact_sm (n := 0) (hb x hxm) (hs.2 x hxm) (h3 i x p.2 hx1 hi2)
  exact ⟨by rw [← hx2]; exact (hs.2 x hxm).1, this.1, this.2⟩
 have hz : ((fs.map Fct.nm).zip ys).length ≤ 110 := by rw [List.length_zip, List.length_map]; omega
 rw [h1]
 simp only [List.nil_append]
 rw [objP_zip (by rw [List.length_map]; exact h2.symm)]
 refine ⟨sm_ps.2 ⟨by omega, fun p hp => ⟨by have := (hall p hp).1; omega, (hall p hp).2.1⟩⟩, ?_⟩
 have e : lenJ 2 (objP ((fs.map Fct.nm).zip ys)) ≤ _ := (lenJ_le 1 ((fs.map Fct.nm).zip ys)).1
 have e2 : lenP 1 ((fs.map Fct.nm).zip ys) ≤ ((fs.map Fct.nm).zip ys).length * (1802 + 2 + 1802) := by
  unfold lenP
  refine sum_le _ (1802 + 2 + 1802) _ fun p hp => ?_
  have h1 := hall p hp
  have h2 : (quoteL p.1).length ≤ 1802 := Nat.le_trans (quote_le6 p.1) (show 6 * p.1.length + 2 ≤ 1802 by omega)
  exact Nat.add_le_add (Nat.add_le_add h2 (Nat.le_refl 2)) h1.2.2
 omega
theorem sum_le2 {α β : Type} (f : α → Nat) (g : β → Nat) : ∀ (l : List α) (r : List β), l.length = r.length → (∀ (i : Nat) (x : α) (y : β), l[i]? = some x → r[i]? = some y → f x ≤ g y) → (l.map f).sum ≤ (r.map g).sum
 | [], [], _, _ => Nat.le_refl _
 | [], _ :: _, h, _ => by cases h
 | _ :: _, [], h, _ => by cases h
 | x :: l, y :: r, h, hh => by
   rw [List.map_cons, List.map_cons, List.sum_cons, List.sum_cons]
   exact Nat.add_le_add (hh 0 x y rfl rfl) (sum_le2 f g l r (by simpa using h) (fun i a b ha hb => hh (i + 1) a b (by simpa using ha) (by simpa using hb)))
def wgt (c : Cd) (f : Fd) : Nat := if f.kd = 0 then 6 * (c.t f.off).length + 2 else 410000
theorem val_sm {f : Fd} {c : Cd} {y : JV} (hf : f.ok) (hc : c.ok) (hx : FxB c.fx) (hs : fewFx c.fx) (h : (valC f c).1 = some y) : smV 2 y ∧ lenJ 2 y ≤ wgt c f := by
 unfold valC at h
 unfold wgt
 rcases hf.kd with h1 | h1 | h1
 · rw [if_pos h1] at h ⊢
   simp only at h
   have ho := hf.t h1
   split at h
   · injection h with h; rw [← h]
     exact ⟨⟨hc.t f.off ho.1 ho.2, Nat.zero_le _, (fun x h => by cases h), Nat.zero_le _, (fun x h => by cases h)⟩, quote_le6 (c.t f.off)⟩
   · cases h
 · rw [if_neg (by omega), if_pos h1] at h
   rw [if_neg (by omega)]
   injection h with h
   obtain ⟨n0, n1⟩ := hc.n f.off (hf.n h1).1 (hf.n h1).2
   have hi := itoa_len n0 n1
   rw [← h]
   exact ⟨⟨Nat.le_trans hi (by decide), Nat.zero_le _, (fun x h => by cases h), Nat.zero_le _, (fun x h => by cases h)⟩, Nat.le_trans hi (by decide)⟩
 · rw [if_neg (by omega), if_neg (by omega)] at h
   rw [if_neg (by omega)]
   exact facts_sm hx hs h
theorem rt_nms : ∀ x ∈ rtG, (fdsOf x.2).length ≤ 5 ∧ ∀ f ∈ fdsOf x.2, f.nm.length ≤ 6 := by
 intro x hx
 have h : ∀ y ∈ rtG.map (fun x => (fdsOf x.2).map Fd.nm), y.length ≤ 5 ∧ ∀ z ∈ y, z.length ≤ 6 := by decide +kernel
 obtain ⟨h1, h2⟩ := h _ (List.mem_map.2 ⟨x, hx, rfl⟩)
 exact ⟨by simpa using h1, fun f hf => h2 _ (List.mem_map.2 ⟨f, hf, rfl⟩)⟩
def totT (c : Cd) : Nat := (c.t 1).length + (c.t 2).length + (c.t 3).length + (c.t 4).length + (c.t 5).length + (c.t 6).length
def wgtB (b : Nat) (c : Cd) (f : Fd) : Nat := if f.kd = 0 then 6 * (c.t f.off).length + 2 else b
theorem rt_wgtB (b : Nat) (c : Cd) {k : Nat} {x : List UInt8 × List Fg} (hx : rtG[k]? = some x) : ((fdsOf x.2).map (wgtB b c)).sum ≤ 6 * totT c + 5 * b + 10 := by
 have hk : k < 12 := (List.getElem?_eq_some_iff.1 hx).1
 unfold totT
 rcases k with _ | _ | _ | _ | _ | _ | _ | _ | _ | _ | _ | _ | k
 case succ.succ.succ.succ.succ.succ.succ.succ.succ.succ.succ.succ => omega
 all_goals
  obtain rfl : _ = x := by injection hx
  simp [fdsOf, wgtB, fgSet, fgName, fgCur, fgKey, fgMeter, fgSource, fgText, fgAt, fgFrom, fgTo, fgQty, fgNumber, fgUnits, fgNano, fgFacts, fdSet, fdName, fdCur, fdKey, fdMeter, fdSource, fdText, fdAt, fdFrom, fdTo, fdQty, fdNumber, fdUnits, fdNano, fdFacts]
  try omega
theorem rt_wgt (c : Cd) {k : Nat} {x : List UInt8 × List Fg} (hx : rtG[k]? = some x) : ((fdsOf x.2).map (wgt c)).sum ≤ 6 * totT c + 2050010 := rt_wgtB 410000 c hx
theorem req_sm {c : Cd} {k : Nat} {x : List UInt8 × List Fg} {v : JV} {c' : Cd} (hc : c.ok) (hfx : FxB c.fx) (hs : fewFx c.fx) (ht : totT c ≤ 1048576) (hx : rtG[k]? = some x) (h : reqL (fdsOf x.2) c [] [] = some (v, c')) : smV 3 v ∧ lenJ 3 v ≤ 9000000 := by
 have hm := List.mem_of_getElem? hx
 obtain ⟨hl5, hnm⟩ := rt_nms _ hm
 obtain ⟨vals, h1, h2, _, h4⟩ := reqL_all (fdsOf x.2) c [] [] v c' (rt_fdok hm) (rt_apart _ hm) h
 simp only [List.nil_append] at h2
 have hlen : ((fdsOf x.2).map Fd.nm).length = vals.length := by rw [List.length_map]; exact h1.symm
 obtain ⟨ps, hps⟩ : ∃ ps, ((fdsOf x.2).map Fd.nm).zip vals = ps := ⟨_, rfl⟩
 rw [h2, objP_zip hlen, hps]
 have hpl : ps.length = (fdsOf x.2).length := by rw [← hps, List.length_zip, List.length_map]; omega
 have hat : ∀ (i : Nat) (p : List UInt8 × JV) (f : Fd), ps[i]? = some p → (fdsOf x.2)[i]? = some f → p.1 = f.nm ∧ (valC f c).1 = some p.2 := by
  intro i p f hp hf
  rw [← hps, List.getElem?_zip_eq_some] at hp
  obtain ⟨hp1, hp2⟩ := hp
  rw [List.getElem?_map, hf] at hp1
  injection hp1 with hp1
  exact ⟨hp1.symm, h4 i f p.2 hf hp2⟩
 constructor
 · refine sm_ps.2 ⟨by omega, fun p hp => ?_⟩
   obtain ⟨i, hi⟩ := List.getElem?_of_mem hp
   have hil := (List.getElem?_eq_some_iff.1 hi).1
   obtain ⟨f, hf⟩ : ∃ f, (fdsOf x.2)[i]? = some f := ⟨_, List.getElem?_eq_getElem (by omega)⟩
   obtain ⟨e1, e2⟩ := hat i p f hi hf
   have hfm := List.mem_of_getElem? hf
   refine ⟨by rw [e1]; have := hnm f hfm; omega, (val_sm (rt_fdok hm f hfm) hc hfx hs e2).1⟩
 · have e : lenJ 3 (objP ps) ≤ lenP 2 ps + 2 := (lenJ_le 2 ps).1
   have e2 : lenP 2 ps ≤ ((fdsOf x.2).map fun f => 40 + wgt c f).sum := by
    unfold lenP
    refine sum_le2 _ _ _ _ hpl fun i p f hp hf => ?_
    obtain ⟨e1, e2⟩ := hat i p f hp hf
    have hfm := List.mem_of_getElem? hf
    have h6 := hnm f hfm
    have hq : (quoteL p.1).length ≤ 38 := Nat.le_trans (quote_le6 p.1) (by rw [e1]; omega)
    exact Nat.add_le_add (Nat.add_le_add hq (Nat.le_refl 2)) (val_sm (rt_fdok hm f hfm) hc hfx hs e2).2
   have e3 : ∀ l : List Fd, (l.map fun f => 40 + wgt c f).sum = l.length * 40 + (l.map (wgt c)).sum := by
    intro l
    induction l with
    | nil => rfl
    | cons f l ih => rw [List.map_cons, List.sum_cons, ih, List.map_cons, List.sum_cons, List.length_cons]; omega
   have e4 := e3 (fdsOf x.2)
   have e5 := rt_wgt c hx
   omega
set_option maxHeartbeats 4000000 in
set_option maxRecDepth 100000 in
theorem fRequest_N (W0 : World) (hG : Gj W0) (c : Cd) (hc : c.ok) (fa : Option Addr) (fc : Nat) (hF : FctAt W0 fa c.fx) (w0 : World) (hold : oldφ W0 w0)
 (hb : ∀ (k : Nat) (x : List UInt8 × List Fg) (v : JV) (c' : Cd), rtG[k]? = some x → reqL (fdsOf x.2) c [] [] = some (v, c') → goodV 3 v ∧ smV 3 v ∧ lenJ 3 v ≤ 9000000) :
 NewC Tryz.prog 9 [.agg (cellsC c (.slice fa c.fx.length fc)).toArray] w0 (rqV c) (rqY c) := by
 have hfl0 := hF.n
 refine c_enter [(0, .agg (cellsC c (.slice fa c.fx.length fc)).toArray)] [oldA W0] noB Tryz.func9 rfl Tryz.ntmps9 ⟨rfl, trivial⟩ rfl (okC (old_ok hold) okN) dis1 (mineC rfl mineN) ?_
 intro a hS
 refine cS (cR ?_)
 refine L_op (s_boxA hS rfl rfl ?_); clear hS a; intro a w b1 hS
 refine L_op (s_alloc hS ty_z29 rfl ?_); clear hS a; intro a w b2 hS
 refine L_e hS (e_assign rfl) rfl ?_; clear hS a; intro a hS
 refine nL (nT (cS (cS (cR ?_))))
 have hcb : W0.heap.size ≤ b1 := Nat.le_trans hold.1 ((hS.mine (.blk b1 (cellsC c (.slice fa c.fx.length fc)) 24) (by repeat constructor) rfl b1 rfl).resolve_right id)
 (first | refine L_e hS (e_fa0 rfl ty_fo24_0) rfl ?_ | refine L_e hS (e_faK rfl ty_fo24_0) rfl ?_); clear hS a; intro a hS
 refine Rn hS (.c (e_load rfl (by repeat constructor) ty_sc3 (by rfl)) <| .c (e_bin rfl rfl rfl) <| .m rfl .n) ?_; clear hS a; intro a hS
 refine L_merge 4 22 (.bool (decide (c.kind = 13 ∨ c.kind = 14))) hS ?_ ?_
 · intro hcM22
   (first | refine g_splitD (t := 18) hS rfl ?_ ?_ | refine g_split (t := 18) hS rfl ?_ ?_) <;> (clear hS; intro hg18 hS)
   ·
    refine Rn hS (.f rfl rfl <| .f rfl rfl <| .f rfl rfl <| .c (e_pk rfl rfl) .n) ?_; clear hS a; intro a hS
    exact hcM22 _ _ (hS.ends 5 22 18 rfl (congrArg Value.bool (by exact (decide_eq_true (.inl hg18)).symm)) rfl rfl (by first | exact congrArg Value.bool (decide_eq_true hg18).symm | exact congrArg Value.bool hg18.symm | simp [hg18]) rfl)
   (first | refine L_ge hS rfl rfl (e_fa0 rfl ty_fo24_0) rfl ?_ | refine L_ge hS rfl rfl (e_faK rfl ty_fo24_0) rfl ?_); clear hS a; intro a hS
   refine Rn hS (.g rfl rfl (e_load rfl (by repeat constructor) ty_sc3 (by rfl)) <| .g rfl rfl (e_bin rfl rfl rfl) <| .c (e_pk rfl rfl) .n) ?_; clear hS a; intro a hS
   exact hcM22 _ _ (hS.ends 5 22 18 rfl (congrArg Value.bool (by exact decide_eq_decide.2 ⟨.inr, fun h => h.resolve_left hg18⟩)) rfl rfl (by first | exact congrArg Value.bool (decide_eq_false hg18).symm | exact congrArg Value.bool hg18.symm | simp [hg18]) rfl)
 · clear hS a; intro a w hS
   simp only [List.drop_succ_cons, List.drop_zero]
   refine nL (nT ?_)
   (first | refine c_ifD hS rfl ?_ ?_ | refine c_if hS rfl ?_ ?_) <;> intro hc22
   ·
    refine cS (cR ?_)
    refine L_op (s_callM hS (.cons rfl .nil) cf25 rfl (fPath_M W0 hG c hc fa fc (by omega) b1 hcb _ (hS.gg (X := oldA W0)) (hS.ok (.blk b1 (cellsC c (.slice fa c.fx.length fc)) 24) (by repeat constructor))) (fun x => (by repeat constructor)) rfl ?_); clear hS a; intro x24 a w hS
    refine Rn hS (.m rfl <| .c (e_extract rfl rfl) <| .c (e_extract rfl rfl) <| .a rfl <| .a rfl .n) ?_; clear hS a; intro a hS
    refine nL (nT (cS (cS (cR ?_))))
    refine Rn hS (.m rfl <| .c (e_not rfl) .n) ?_; clear hS a; intro a hS
    refine nL (nT ?_)
    (first | refine c_ifD hS rfl ?_ ?_ | refine c_if hS rfl ?_ ?_) <;> intro hc28
    ·
     refine cS (cR ?_)
     refine L_e hS (e_build ty_z29 ty_pl29 .nil) rfl ?_; clear hS a; intro a hS
     refine L_op (s_storeA hS rfl rfl ty_sz29 (by repeat constructor) (by rfl) (by rfl) (by rfl) ?_); clear hS; intro w hS
     refine L_e hS (e_assign rfl) rfl ?_; clear hS a; intro a hS
     refine nL (nT (wp_ret ?_))
     refine r_then (r_then ?_)
     refine c_retN hS Tryz.results9 (.cons (.cellA rfl (by repeat constructor) ty_st29 ty_sz29 (by rfl)) (.cons (.tmp rfl) .nil)) rfl ?_
     exact ⟨.inr (.inr ⟨10, by decide⟩), rfl, hS.chg, none_ok _, fun b h => h.elim⟩
    refine wS (nT (cS (cR ?_)))
    refine Rn hS (.m rfl <| .c (e_build ty_z29 ty_pl29 (.one rfl rfl rfl (by repeat constructor) (.one rfl rfl rfl (by repeat constructor) .nil))) .n) ?_; clear hS a; intro a hS
    refine L_op (s_storeA hS rfl rfl ty_sz29 (by repeat constructor) (by rfl) (by rfl) (by rfl) ?_); clear hS; intro w hS
    refine L_e hS (e_assign rfl) rfl ?_; clear hS a; intro a hS
    refine nL (nT (wp_ret (r_then ?_)))
    refine c_retN hS Tryz.results9 (.cons (.cellA rfl (by repeat constructor) ty_st29 ty_sz29 (by rfl)) (.cons (.tmp rfl) .nil)) rfl ?_
    exact ⟨.inr (.inl ⟨(pathF c).1, hc22⟩), rfl, hS.chg, none_ok _, fun b h => h.elim⟩
   refine wS (nT (cS (cR ?_)))
   obtain ⟨lo, hlo⟩ : ∃ lo, lo = w.heap.size := ⟨_, rfl⟩
   refine L_op (s_callN hS .nil cf26 rfl (fRoutes_L _ lo hlo) ?_); clear hS a; intro x32 a w hS
   obtain ⟨N, rb, f⟩ := x32
   refine L_e hS (e_assign rfl) rfl ?_; clear hS a; intro a hS
   refine nL (nT (cS (cR ?_)))
   refine Rn hS (.m rfl <| .c (e_makeFunc .nil (.cons rfl .nil)) .n) ?_; clear hS a; intro a hS
   have hcell := cell_of_blk (k := 0) (v := .int .i64 c.kind) (hS.gg (X := .blk b1 (cellsC c (.slice fa c.fx.length fc)) 24)) rfl
   have hrt : RtsAt lo rb f w := hS.gg (X := rtsA lo N rb f)
   refine L_op (s_callN hS (.cons rfl (.cons rfl .nil)) cf27 rfl (fIndexRt_N w lo rb f hrt 28 [.pointer (some ⟨b1, 0, none⟩)] (fun k => decide ((k : Int) + 1 = c.kind)) cf28 (fun k x w' _ ho => fRequestF_P f k x b1 c.kind w hcell w' ho) _ (old_refl w)) ?_); clear hS a; intro x35 a w hS
   obtain ⟨ix, hix⟩ := x35
   refine L_e hS (e_assign rfl) rfl ?_; clear hS a; intro a hS
   refine nL (nT (cS (cS (cR ?_))))
   refine Rn hS (.m rfl <| .c (e_bin rfl rfl rfl) .n) ?_; clear hS a; intro a hS
   refine nL (nT ?_)
   (first | refine c_ifD hS rfl ?_ ?_ | refine c_if hS rfl ?_ ?_) <;> intro hc37
   ·
    refine cS (cR ?_)
    refine L_e hS (e_build ty_z29 ty_pl29 .nil) rfl ?_; clear hS a; intro a hS
    refine L_op (s_storeA hS rfl rfl ty_sz29 (by repeat constructor) (by rfl) (by rfl) (by rfl) ?_); clear hS; intro w hS
    refine L_e hS (e_assign rfl) rfl ?_; clear hS a; intro a hS
    refine nL (nT (wp_ret (r_then ?_)))
    refine c_retN hS Tryz.results9 (.cons (.cellA rfl (by repeat constructor) ty_st29 ty_sz29 (by rfl)) (.cons (.tmp rfl) .nil)) rfl ?_
    exact ⟨.inr (.inr ⟨7, by decide⟩), rfl, hS.chg, none_ok _, fun b h => h.elim⟩
   obtain ⟨kx, rfl, hkx, hkd⟩ : ∃ kx : Nat, ix = kx ∧ kx < 12 ∧ (kx : Int) + 1 = c.kind := by
    rcases hix with ⟨kx, h1, h2, h3, _⟩ | ⟨h1, _⟩
    · exact ⟨kx, h1, h2, of_decide_eq_true h3⟩
    · exact absurd (show ix < 0 by omega) hc37
   obtain ⟨⟨path, fl⟩, hx⟩ := rt_kth hkx
   have hgx := rtG_ok _ (List.mem_of_getElem? hx)
   have hfn := hgx.n
   simp only at hfn
   refine wS (nT (cS (cR ?_)))
   refine L_e hS (e_build ty_z37 ty_pl37 (.one rfl rfl rfl (by repeat constructor) .nil)) rfl ?_; clear hS a; intro a hS
   refine L_op (s_alloc hS ty_z37 rfl ?_); clear hS a; intro a w b8 hS
   refine L_op (s_storeA hS rfl rfl ty_sz37 (by repeat constructor) (by rfl) (by rfl) (by rfl) ?_); clear hS; intro w hS
   refine nL (nT (cS (cS (cR ?_))))
   refine Rn hS (.m rfl <| .m rfl <| .c (e_ixN rfl rfl ty_sl78 ty_sz83 (by omega)) .n) ?_; clear hS a; intro a hS
   (first | refine L_e hS (e_fa0 rfl ty_fo83_2) rfl ?_ | refine L_e hS (e_faK rfl ty_fo83_2) rfl ?_); clear hS a; intro a hS
   refine Rn hS (.c (e_loadC rfl ty_sc81 (fun w hh => rts_row (show RtsAt lo rb f w from hh (rtsA lo N rb f) (by repeat constructor)) hx 2 (.slice (some ⟨f kx, 0, none⟩) fl.length fl.length) rfl)) <| .c (e_len rfl rfl ty_sl81) <| .m rfl .n) ?_; clear hS a; intro a hS
   refine nL (nT (wB ?_))
   skip
   refine c_loop (γ := List JX × Value × Value × Cd × Option Addr × Nat) (fun G a w => St 105 noB w0 a w [(46, .int .i64 (G.1.length : Int)), (45, .int .i64 (fl.length : Int)), (44, .slice (some ⟨f kx, 0, none⟩) fl.length fl.length), (6, .slice (some ⟨rb, 0, none⟩) 12 12), (7, .int .i64 (kx : Int)), (1, .pointer (some ⟨b1, 0, none⟩)), (2, .pointer (some ⟨b2, 0, none⟩)), (8, .pointer (some ⟨b8, 0, none⟩)), (3, .int .i64 0)] [ownA 37 4 G.2.1 G.1.length (G.1.flatMap JX.cs), ownA 9 1 G.2.2.1 G.1.length ((nmsF fl G.1.length).flatMap encS), kidsA 2 G.1, .blk b8 [.int .i64 6, .string ⟨#[]⟩, G.2.1, G.2.2.1] 37, .blk b2 [.string ⟨#[]⟩, .string ⟨#[]⟩, .slice none 0 0, .bool false] 29, .blk b1 (cellsC G.2.2.2.1 (.slice G.2.2.2.2.1 G.2.2.2.1.fx.length G.2.2.2.2.2)) 24, rtsA lo N rb f, oldA W0] ∧ G.1.length ≤ fl.length ∧ reqL (fdsOf (fl.drop G.1.length)) G.2.2.2.1 (nmsF fl G.1.length) (G.1.map JX.v) = reqL (fdsOf fl) c [] [] ∧ G.2.2.2.1.ok ∧ FctAt W0 G.2.2.2.2.1 G.2.2.2.1.fx) (fun G => fl.length - G.1.length) ([], .slice none 0 0, .slice none 0 0, c, fa, fc) ⟨((((hS.own_nil 9 1).own_nil 37 4).more (Y := kidsA 2 []) (kids_ok (fun x hx => by cases hx)) (fun b ⟨x, hx, _⟩ => by cases hx)).slots (by repeat (first | exact trivial | refine ⟨rfl, ?_⟩))).pick (by repeat (first | exact Pick.nil | (refine Pick.cons (by repeat (first | exact Rem.head | apply Rem.tail)) ?_))), Nat.zero_le _, rfl, hc, hF⟩ ?_
   clear hS a; intro G a w hI
   obtain ⟨kids, lv, nv, c2, fa2, fc2⟩ := G
   obtain ⟨hS, hk, hgo, hc2, hF2⟩ := hI
   simp only at hS hk hgo hc2 hF2
   obtain ⟨ql, cl, rfl⟩ := own_slice (hS.gg (X := ownA 37 4 lv kids.length (kids.flatMap JX.cs)))
   obtain ⟨qn, cn, rfl⟩ := own_slice (hS.gg (X := ownA 9 1 nv kids.length ((nmsF fl kids.length).flatMap encS)))
   refine cS (cR ?_)
   refine L_e hS (e_bin rfl rfl rfl) rfl ?_; clear hS a; intro a hS
   refine nL (nT (cS ?_))
   (first | refine c_ifD hS rfl ?_ ?_ | refine c_if hS rfl ?_ ?_) <;> intro hc47
   ·
    have hkn : kids.length < fl.length := by omega
    obtain ⟨y, hy⟩ : ∃ y, fl[kids.length]? = some y := ⟨_, List.getElem?_eq_getElem hkn⟩
    have hym := List.mem_of_getElem? hy
    have hyo := hgx.ok y hym
    obtain ⟨u1, u2, hfg, o1, o2⟩ := fg_three y
    refine wS (nT (cS (wB (cS (cR ?_)))))
    refine Rn hS (.c (e_ixN rfl rfl ty_sl81 ty_sz88 (by omega)) <| .c (e_loadAC (l := [.string (tx y.f.nm), u1, u2]) rfl ty_st88 ty_sz88 (fun w hh j u hj => (rts_fds (show RtsAt lo rb f w from hh (rtsA lo N rb f) (by repeat constructor)) hx).c kids.length y hy j u (by rw [hfg]; exact hj))) .n) ?_; clear hS a; intro a hS
    refine L_op (s_alloc hS ty_z88 rfl ?_); clear hS a; intro a w b10 hS
    refine L_op (s_storeB hS rfl rfl ty_sz88 (cs' := [.string (tx y.f.nm), u1, u2]) (by repeat constructor) rfl (.cons .z (.cons (.s .z) (.cons (.s (.s .z)) .nil))) (by have h1 : isOne (Value.string (tx y.f.nm)) = true := rfl; simp [o1, o2, h1]) ?_); clear hS; intro w hS
    refine nL (nT (cS (cR ?_)))
    refine L_e hS (e_loadA rfl (by repeat constructor) ty_st88 ty_sz88 (by rfl)) rfl ?_; clear hS a; intro a hS
    refine L_op (s_callM hS (.cons rfl (.cons rfl .nil)) cf29 rfl ((by have := fValue_M W0 hG y hyo c2 hc2 fa2 fc2 hF2 b1 hcb _ (hS.gg (X := oldA W0)) (hS.ok (.blk b1 (cellsC c2 (.slice fa2 c2.fx.length fc2)) 24) (by repeat constructor)); rw [hfg] at this; exact this)) (fun x => (by repeat constructor)) rfl ?_); clear hS a; intro x52 a w hS
    obtain ⟨jk, js, a1, a2, a3, a4, a5, a6, bv, hvt, hcase⟩ := vl_open x52 (hS.ok (vlY y.f c2 b1 (.slice fa2 c2.fx.length fc2) x52) (by repeat constructor))
    rw [hvt] at hS
    refine Rn hS (.m rfl <| .c (e_extract rfl rfl) <| .c (e_extract rfl rfl) .n) ?_; clear hS a; intro a hS
    refine L_op (s_alloc hS ty_z37 rfl ?_); clear hS a; intro a w b11 hS
    refine L_op (s_storeA hS rfl rfl ty_sz37 (by repeat constructor) (by rfl) (by rfl) (by rfl) ?_); clear hS; intro w hS
    refine L_e hS (e_assign rfl) rfl ?_; clear hS a; intro a hS
    refine nL (nT (cS (cS (cR ?_))))
    refine Rn hS (.m rfl <| .c (e_not rfl) .n) ?_; clear hS a; intro a hS
    refine nL (nT ?_)
    (first | refine c_ifD hS rfl ?_ ?_ | refine c_if hS rfl ?_ ?_) <;> intro hc56
    ·
     refine cS (cR ?_)
     refine L_e hS (e_build ty_z29 ty_pl29 .nil) rfl ?_; clear hS a; intro a hS
     refine L_op (s_storeA hS rfl rfl ty_sz29 (by repeat constructor) (by rfl) (by rfl) (by rfl) ?_); clear hS; intro w hS
     refine L_e hS (e_assign rfl) rfl ?_; clear hS a; intro a hS
     refine nL (nT (wp_ret ?_))
     refine r_then (r_block (r_then (r_then (r_block (r_then ?_)))))
     refine c_retN hS Tryz.results9 (.cons (.cellA rfl (by repeat constructor) ty_st29 ty_sz29 (by rfl)) (.cons (.tmp rfl) .nil)) rfl ?_
     exact ⟨.inr (.inr ⟨10, by decide⟩), rfl, hS.chg, none_ok _, fun b h => h.elim⟩
    have hbv : bv = true := by simpa using hc56
    obtain ⟨xj, rfl, hxcs⟩ : ∃ x : { x : JX // (valC y.f c2).1 = some x.v }, x52 = .inl x ∧ x.1.cs = [.int .i64 jk, .string js, .slice a1 a2 a3, .slice a4 a5 a6] := by
     rcases hcase with ⟨_, h⟩ | ⟨h, _⟩
     · exact h
     · rw [h] at hbv; cases hbv
    rw [reqL_some _ _ hy xj.2] at hgo
    have e52 : vlY y.f c2 b1 (.slice fa2 c2.fx.length fc2) (.inl xj) = duo (.blk b1 (cellsC (valC y.f c2).2 (if y.f.kd = 2 then .slice none 0 0 else .slice fa2 c2.fx.length fc2)) 24) (jxA 2 xj.1) := rfl
    rw [e52, valC_fv hyo.fd] at hS
    have hc3 := valC_ok (f := y.f) hc2
    have hF3 := valC_fct hyo.fd hF2
    obtain ⟨c3, hc3e⟩ : ∃ c3, (valC y.f c2).2 = c3 := ⟨_, rfl⟩
    rw [hc3e] at hS hgo hc3 hF3
    replace hS := (hS.pick (Γ' := [duo (.blk b1 (cellsC c3 (.slice (fvA y.f fa2) c3.fx.length (fvC y.f fc2))) 24) (jxA 2 xj.1), .blk b11 [.int .i64 jk, .string js, .slice a1 a2 a3, .slice a4 a5 a6] 37, .blk b10 [.string (tx y.f.nm), u1, u2] 88, ownA 37 4 (.slice ql kids.length cl) kids.length (kids.flatMap JX.cs), ownA 9 1 (.slice qn kids.length cn) kids.length ((nmsF fl kids.length).flatMap encS), kidsA 2 kids, .blk b8 [.int .i64 6, .string ⟨#[]⟩, .slice ql kids.length cl, .slice qn kids.length cn] 37, .blk b2 [.string ⟨#[]⟩, .string ⟨#[]⟩, .slice none 0 0, .bool false] 29, rtsA lo N rb f, oldA W0]) (by repeat (first | exact Pick.nil | (refine Pick.cons (by repeat (first | exact Rem.head | apply Rem.tail)) ?_)))).unduo
    refine wS (nT ?_)
    refine c_drawS [12, 14] (by kernel_rfl) hS (sub_cons (X := .blk b8 [.int .i64 6, .string ⟨#[]⟩, .slice ql kids.length cl, .slice qn kids.length cn] 37) (by repeat constructor) (sub_cons (X := .blk b10 [.string (tx y.f.nm), u1, u2] 88) (by repeat constructor) (sub_cons (X := .blk b11 [.int .i64 jk, .string js, .slice a1 a2 a3, .slice a4 a5 a6] 37) (by repeat constructor) sub_nil))) ?_; clear hS; intro w hS
    simp only [List.length_cons, List.length_nil, Nat.zero_add, Nat.reduceAdd, List.replicate]
    (first | refine Zt0 0 (tf 1 14) hS rfl want_none (e_fa0 rfl ty_fo37_3) rfl (by kernel_rfl) rfl ?_ | refine Zt0 0 (tf 1 14) hS rfl want_none (e_faK rfl ty_fo37_3) rfl (by kernel_rfl) rfl ?_); clear hS a; intro a hS
    refine Zt 1 (tf 2 13) hS rfl want_none (e_load rfl (by repeat constructor) ty_sc35 (by rfl)) rfl (by kernel_rfl) (sub_cons (by repeat constructor) (sub_cons (by repeat constructor) (sub_cons (by repeat constructor) sub_nil))) rfl ?_; clear hS a; intro a hS
    (first | refine Zt0 2 (tf 3 12) hS rfl want_none (e_fa0 rfl ty_fo88_0) rfl (by kernel_rfl) rfl ?_ | refine Zt0 2 (tf 3 12) hS rfl want_none (e_faK rfl ty_fo88_0) rfl (by kernel_rfl) rfl ?_); clear hS a; intro a hS
    refine Zt 3 (tf 4 11) hS rfl want_none (e_load rfl (by repeat constructor) ty_sc9 (by rfl)) rfl (by kernel_rfl) (sub_cons (by repeat constructor) (sub_cons (by repeat constructor) (sub_cons (by repeat constructor) sub_nil))) rfl ?_; clear hS a; intro a hS
    (first | refine Zt0 6 [true, true, true, true, false, false, true, false, false, false, false, false, false, false, false] hS rfl want_none (e_fa0 rfl ty_fo37_2) rfl (by kernel_rfl) rfl ?_ | refine Zt0 6 [true, true, true, true, false, false, true, false, false, false, false, false, false, false, false] hS rfl want_none (e_faK rfl ty_fo37_2) rfl (by kernel_rfl) rfl ?_); clear hS a; intro a hS
    refine Rz hS (sub_cons (by repeat constructor) (sub_cons (by repeat constructor) (sub_cons (by repeat constructor) sub_nil))) (.y 7 [true, true, true, true, false, false, true, true, false, false, false, false, false, false, false] rfl wN (e_load rfl (by repeat constructor) ty_sc34 (by rfl)) rfl <| .y 8 [true, true, true, true, false, false, true, true, true, false, false, false, false, false, false] rfl wN (e_loadA rfl (by repeat constructor) ty_st37 ty_sz37 (by rfl)) rfl .n) ?_; clear hS a; intro a hS
    refine Z_many (j := 4) (js := [9]) (by kernel_rfl) ⟨?_, ?_, trivial⟩
    ·
     refine Z_op (i := 4) rfl (want_none a hS.sl) (listed' := [true, true, true, true, true, false, true, true, true, false, false, false, false, false, false]) rfl (s_bslice hS ty_sl35 ty_sz9 ty_z9 rfl rfl rfl rfl (.one rfl rfl rfl .nil) rfl ?_); clear hS a; intro a w b62 hS
     refine Z_and hS (sub_cons (by repeat constructor) (sub_cons (by repeat constructor) (sub_cons (by repeat constructor) sub_nil))) ?_
     refine Z_many (j := 5) (js := [9]) (by kernel_rfl) ⟨?_, ?_, trivial⟩
     ·
      refine Z_op (i := 5) rfl (want_none a hS.sl) (listed' := (tf 9 6)) rfl (s_append1 hS rfl rfl ty_sl35 ty_sz9 ty_by9 ty_z9 rfl rfl rfl (by repeat constructor) (by repeat constructor) (by rfl) (by rfl) (fun _ => (by repeat constructor)) (by omega) ?_); clear hS a; intro v63 a w hv63 hS
      obtain ⟨q63, c63, rfl⟩ := own_slice (hS.gg (X := ownA 9 1 v63 (kids.length + 1) ((nmsF fl kids.length).flatMap encS ++ [.string (tx y.f.nm)])))
      refine Z_and hS (sub_cons (by repeat constructor) (sub_cons (by repeat constructor) (sub_cons (by repeat constructor) sub_nil))) ?_
      (first | refine Zt0 11 [true, true, true, true, true, true, true, true, true, false, false, true, false, false, false] hS rfl want_none (e_fa0 rfl ty_fo37_3) rfl (by kernel_rfl) rfl ?_ | refine Zt0 11 [true, true, true, true, true, true, true, true, true, false, false, true, false, false, false] hS rfl want_none (e_faK rfl ty_fo37_3) rfl (by kernel_rfl) rfl ?_); clear hS a; intro a hS
      refine Zo 9 [true, true, true, true, true, true, true, true, true, true, false, true, false, false, false] hS rfl wN rfl (s_bslice hS ty_sl34 ty_sz37 ty_z37 rfl rfl rfl rfl (.agg rfl rfl .nil) rfl ?_); clear hS a; intro a w b67 hS
      refine Z_and hS (sub_cons (by repeat constructor) (sub_cons (by repeat constructor) (sub_cons (by repeat constructor) sub_nil))) ?_
      refine Zo 10 (tf 12 3) hS rfl wN rfl (s_append1 hS rfl rfl ty_sl34 ty_sz37 ty_by37 ty_z37 rfl rfl rfl (by repeat constructor) (by repeat constructor) (by rfl) (by rfl) (fun _ => (by repeat constructor)) (by omega) ?_); clear hS a; intro v68 a w hv68 hS
      obtain ⟨q68, c68, rfl⟩ := own_slice (hS.gg (X := ownA 37 4 v68 (kids.length + 1) _))
      refine Z_and hS (sub_cons (by repeat constructor) (sub_cons (by repeat constructor) (sub_cons (by repeat constructor) sub_nil))) ?_
      refine Zo 12 (tf 13 2) hS rfl wN rfl (s_store hS rfl rfl rfl ty_sz35 (by repeat constructor) (by repeat constructor) ?_); clear hS; intro w hS
      refine Z_last (by simp) ?_
      (first | refine Zt0 13 (tf 14 1) hS rfl want_none (e_fa0 rfl ty_fo37_2) rfl (by kernel_rfl) rfl ?_ | refine Zt0 13 (tf 14 1) hS rfl want_none (e_faK rfl ty_fo37_2) rfl (by kernel_rfl) rfl ?_); clear hS a; intro a hS
      refine Zo 14 (tf 15 0) hS rfl wN rfl (s_store hS rfl rfl rfl ty_sz34 (by repeat constructor) (by repeat constructor) ?_); clear hS; intro w hS
      refine Z_last (by simp) ?_
      refine Z_done (by kernel_rfl) ?_
      refine n_block (nT (cR ?_))
      (first | refine L_e hS (e_binN rfl rfl rfl (by omega)) rfl ?_ | refine L_e hS (e_bin rfl rfl rfl) rfl ?_); clear hS a; intro a hS
      refine L_e hS (e_move rfl) rfl ?_; clear hS a; intro a hS
      refine nL ?_
      have hfl2 : (kids ++ [xj.1]).flatMap JX.cs = kids.flatMap JX.cs ++ ([.int .i64 jk, .string js, .slice a1 a2 a3, .slice a4 a5 a6] ++ []) := by rw [List.flatMap_append, ← hxcs]; simp
      have hkl1 : (kids ++ [xj.1]).length = kids.length + 1 := by simp
      have hns := nmsF_next hy
      have hnf : (nmsF fl (kids.length + 1)).flatMap encS = (nmsF fl kids.length).flatMap encS ++ [.string (tx y.f.nm)] := by rw [hns, List.flatMap_append]; rfl
      replace hS := kids_add (hS.pick (Γ' := [jxA 2 xj.1, kidsA 2 kids, ownA 37 4 (.slice q68 (kids.length + 1) c68) (kids.length + 1) (kids.flatMap JX.cs ++ ([.int .i64 jk, .string js, .slice a1 a2 a3, .slice a4 a5 a6] ++ [])), ownA 9 1 (.slice q63 (kids.length + 1) c63) (kids.length + 1) ((nmsF fl kids.length).flatMap encS ++ [.string (tx y.f.nm)]), .blk b8 [.int .i64 6, .string ⟨#[]⟩, .slice q68 (kids.length + 1) c68, .slice q63 (kids.length + 1) c63] 37, .blk b2 [.string ⟨#[]⟩, .string ⟨#[]⟩, .slice none 0 0, .bool false] 29, .blk b1 (cellsC c3 (.slice (fvA y.f fa2) c3.fx.length (fvC y.f fc2))) 24, rtsA lo N rb f, oldA W0]) (by repeat (first | exact Pick.nil | (refine Pick.cons (by repeat (first | exact Rem.head | apply Rem.tail)) ?_))))
      rw [← hfl2, ← hnf] at hS
      refine ⟨(kids ++ [xj.1], .slice q68 (kids.length + 1) c68, .slice q63 (kids.length + 1) c63, c3, fvA y.f fa2, fvC y.f fc2), by show fl.length - (kids ++ [xj.1]).length < fl.length - kids.length; omega, ?_, by show (kids ++ [xj.1]).length ≤ fl.length; omega, by show reqL (fdsOf (fl.drop (kids ++ [xj.1]).length)) c3 (nmsF fl (kids ++ [xj.1]).length) ((kids ++ [xj.1]).map JX.v) = _; rw [hkl1, hns, List.map_append, List.map_singleton]; exact hgo, hc3, hF3⟩
      show St _ _ _ _ _ [(46, .int .i64 ((kids ++ [xj.1]).length : Int)), _, _, _, _, _, _, _, _] [ownA _ _ _ (kids ++ [xj.1]).length _, ownA _ _ _ (kids ++ [xj.1]).length ((nmsF fl (kids ++ [xj.1]).length).flatMap encS), _, _, _, _, _, _]
      rw [hkl1]
      exact (hS.slots (by repeat (first | exact trivial | refine ⟨rfl, ?_⟩))).pick (by repeat (first | exact Pick.nil | (refine Pick.cons (by repeat (first | exact Rem.head | apply Rem.tail)) ?_)))
     refine Z_op (i := 9) rfl (want_none a hS.sl) (listed' := [true, true, true, true, true, false, true, true, true, true, false, false, false, false, false]) rfl (s_bslice hS ty_sl34 ty_sz37 ty_z37 rfl rfl rfl rfl (.agg rfl rfl .nil) rfl ?_); clear hS a; intro a w b67 hS
     refine Z_and hS (sub_cons (by repeat constructor) (sub_cons (by repeat constructor) (sub_cons (by repeat constructor) sub_nil))) ?_
     refine Zo 5 (tf 10 5) hS rfl wN rfl (s_append1 hS rfl rfl ty_sl35 ty_sz9 ty_by9 ty_z9 rfl rfl rfl (by repeat constructor) (by repeat constructor) (by rfl) (by rfl) (fun _ => (by repeat constructor)) (by omega) ?_); clear hS a; intro v63 a w hv63 hS
     obtain ⟨q63, c63, rfl⟩ := own_slice (hS.gg (X := ownA 9 1 v63 (kids.length + 1) ((nmsF fl kids.length).flatMap encS ++ [.string (tx y.f.nm)])))
     refine Z_and hS (sub_cons (by repeat constructor) (sub_cons (by repeat constructor) (sub_cons (by repeat constructor) sub_nil))) ?_
     (first | refine Zt0 11 [true, true, true, true, true, true, true, true, true, true, false, true, false, false, false] hS rfl want_none (e_fa0 rfl ty_fo37_3) rfl (by kernel_rfl) rfl ?_ | refine Zt0 11 [true, true, true, true, true, true, true, true, true, true, false, true, false, false, false] hS rfl want_none (e_faK rfl ty_fo37_3) rfl (by kernel_rfl) rfl ?_); clear hS a; intro a hS
     refine Zo 10 (tf 12 3) hS rfl wN rfl (s_append1 hS rfl rfl ty_sl34 ty_sz37 ty_by37 ty_z37 rfl rfl rfl (by repeat constructor) (by repeat constructor) (by rfl) (by rfl) (fun _ => (by repeat constructor)) (by omega) ?_); clear hS a; intro v68 a w hv68 hS
     obtain ⟨q68, c68, rfl⟩ := own_slice (hS.gg (X := ownA 37 4 v68 (kids.length + 1) _))
     refine Z_and hS (sub_cons (by repeat constructor) (sub_cons (by repeat constructor) (sub_cons (by repeat constructor) sub_nil))) ?_
     refine Zo 12 (tf 13 2) hS rfl wN rfl (s_store hS rfl rfl rfl ty_sz35 (by repeat constructor) (by repeat constructor) ?_); clear hS; intro w hS
     refine Z_last (by simp) ?_
     (first | refine Zt0 13 (tf 14 1) hS rfl want_none (e_fa0 rfl ty_fo37_2) rfl (by kernel_rfl) rfl ?_ | refine Zt0 13 (tf 14 1) hS rfl want_none (e_faK rfl ty_fo37_2) rfl (by kernel_rfl) rfl ?_); clear hS a; intro a hS
     refine Zo 14 (tf 15 0) hS rfl wN rfl (s_store hS rfl rfl rfl ty_sz34 (by repeat constructor) (by repeat constructor) ?_); clear hS; intro w hS
     refine Z_last (by simp) ?_
     refine Z_done (by kernel_rfl) ?_
     refine n_block (nT (cR ?_))
     (first | refine L_e hS (e_binN rfl rfl rfl (by omega)) rfl ?_ | refine L_e hS (e_bin rfl rfl rfl) rfl ?_); clear hS a; intro a hS
     refine L_e hS (e_move rfl) rfl ?_; clear hS a; intro a hS
     refine nL ?_
     have hfl2 : (kids ++ [xj.1]).flatMap JX.cs = kids.flatMap JX.cs ++ ([.int .i64 jk, .string js, .slice a1 a2 a3, .slice a4 a5 a6] ++ []) := by rw [List.flatMap_append, ← hxcs]; simp
     have hkl1 : (kids ++ [xj.1]).length = kids.length + 1 := by simp
     have hns := nmsF_next hy
     have hnf : (nmsF fl (kids.length + 1)).flatMap encS = (nmsF fl kids.length).flatMap encS ++ [.string (tx y.f.nm)] := by rw [hns, List.flatMap_append]; rfl
     replace hS := kids_add (hS.pick (Γ' := [jxA 2 xj.1, kidsA 2 kids, ownA 37 4 (.slice q68 (kids.length + 1) c68) (kids.length + 1) (kids.flatMap JX.cs ++ ([.int .i64 jk, .string js, .slice a1 a2 a3, .slice a4 a5 a6] ++ [])), ownA 9 1 (.slice q63 (kids.length + 1) c63) (kids.length + 1) ((nmsF fl kids.length).flatMap encS ++ [.string (tx y.f.nm)]), .blk b8 [.int .i64 6, .string ⟨#[]⟩, .slice q68 (kids.length + 1) c68, .slice q63 (kids.length + 1) c63] 37, .blk b2 [.string ⟨#[]⟩, .string ⟨#[]⟩, .slice none 0 0, .bool false] 29, .blk b1 (cellsC c3 (.slice (fvA y.f fa2) c3.fx.length (fvC y.f fc2))) 24, rtsA lo N rb f, oldA W0]) (by repeat (first | exact Pick.nil | (refine Pick.cons (by repeat (first | exact Rem.head | apply Rem.tail)) ?_))))
     rw [← hfl2, ← hnf] at hS
     refine ⟨(kids ++ [xj.1], .slice q68 (kids.length + 1) c68, .slice q63 (kids.length + 1) c63, c3, fvA y.f fa2, fvC y.f fc2), by show fl.length - (kids ++ [xj.1]).length < fl.length - kids.length; omega, ?_, by show (kids ++ [xj.1]).length ≤ fl.length; omega, by show reqL (fdsOf (fl.drop (kids ++ [xj.1]).length)) c3 (nmsF fl (kids ++ [xj.1]).length) ((kids ++ [xj.1]).map JX.v) = _; rw [hkl1, hns, List.map_append, List.map_singleton]; exact hgo, hc3, hF3⟩
     show St _ _ _ _ _ [(46, .int .i64 ((kids ++ [xj.1]).length : Int)), _, _, _, _, _, _, _, _] [ownA _ _ _ (kids ++ [xj.1]).length _, ownA _ _ _ (kids ++ [xj.1]).length ((nmsF fl (kids ++ [xj.1]).length).flatMap encS), _, _, _, _, _, _]
     rw [hkl1]
     exact (hS.slots (by repeat (first | exact trivial | refine ⟨rfl, ?_⟩))).pick (by repeat (first | exact Pick.nil | (refine Pick.cons (by repeat (first | exact Rem.head | apply Rem.tail)) ?_)))
    refine Z_op (i := 9) rfl (want_none a hS.sl) (listed' := [true, true, true, true, false, false, true, true, true, true, false, false, false, false, false]) rfl (s_bslice hS ty_sl34 ty_sz37 ty_z37 rfl rfl rfl rfl (.agg rfl rfl .nil) rfl ?_); clear hS a; intro a w b67 hS
    refine Z_and hS (sub_cons (by repeat constructor) (sub_cons (by repeat constructor) (sub_cons (by repeat constructor) sub_nil))) ?_
    refine Zo 4 [true, true, true, true, true, false, true, true, true, true, false, false, false, false, false] hS rfl wN rfl (s_bslice hS ty_sl35 ty_sz9 ty_z9 rfl rfl rfl rfl (.one rfl rfl rfl .nil) rfl ?_); clear hS a; intro a w b62 hS
    refine Z_and hS (sub_cons (by repeat constructor) (sub_cons (by repeat constructor) (sub_cons (by repeat constructor) sub_nil))) ?_
    refine Zo 5 (tf 10 5) hS rfl wN rfl (s_append1 hS rfl rfl ty_sl35 ty_sz9 ty_by9 ty_z9 rfl rfl rfl (by repeat constructor) (by repeat constructor) (by rfl) (by rfl) (fun _ => (by repeat constructor)) (by omega) ?_); clear hS a; intro v63 a w hv63 hS
    obtain ⟨q63, c63, rfl⟩ := own_slice (hS.gg (X := ownA 9 1 v63 (kids.length + 1) ((nmsF fl kids.length).flatMap encS ++ [.string (tx y.f.nm)])))
    refine Z_and hS (sub_cons (by repeat constructor) (sub_cons (by repeat constructor) (sub_cons (by repeat constructor) sub_nil))) ?_
    (first | refine Zt0 11 [true, true, true, true, true, true, true, true, true, true, false, true, false, false, false] hS rfl want_none (e_fa0 rfl ty_fo37_3) rfl (by kernel_rfl) rfl ?_ | refine Zt0 11 [true, true, true, true, true, true, true, true, true, true, false, true, false, false, false] hS rfl want_none (e_faK rfl ty_fo37_3) rfl (by kernel_rfl) rfl ?_); clear hS a; intro a hS
    refine Zo 10 (tf 12 3) hS rfl wN rfl (s_append1 hS rfl rfl ty_sl34 ty_sz37 ty_by37 ty_z37 rfl rfl rfl (by repeat constructor) (by repeat constructor) (by rfl) (by rfl) (fun _ => (by repeat constructor)) (by omega) ?_); clear hS a; intro v68 a w hv68 hS
    obtain ⟨q68, c68, rfl⟩ := own_slice (hS.gg (X := ownA 37 4 v68 (kids.length + 1) _))
    refine Z_and hS (sub_cons (by repeat constructor) (sub_cons (by repeat constructor) (sub_cons (by repeat constructor) sub_nil))) ?_
    refine Zo 12 (tf 13 2) hS rfl wN rfl (s_store hS rfl rfl rfl ty_sz35 (by repeat constructor) (by repeat constructor) ?_); clear hS; intro w hS
    refine Z_last (by simp) ?_
    (first | refine Zt0 13 (tf 14 1) hS rfl want_none (e_fa0 rfl ty_fo37_2) rfl (by kernel_rfl) rfl ?_ | refine Zt0 13 (tf 14 1) hS rfl want_none (e_faK rfl ty_fo37_2) rfl (by kernel_rfl) rfl ?_); clear hS a; intro a hS
    refine Zo 14 (tf 15 0) hS rfl wN rfl (s_store hS rfl rfl rfl ty_sz34 (by repeat constructor) (by repeat constructor) ?_); clear hS; intro w hS
    refine Z_last (by simp) ?_
    refine Z_done (by kernel_rfl) ?_
    refine n_block (nT (cR ?_))
    (first | refine L_e hS (e_binN rfl rfl rfl (by omega)) rfl ?_ | refine L_e hS (e_bin rfl rfl rfl) rfl ?_); clear hS a; intro a hS
    refine L_e hS (e_move rfl) rfl ?_; clear hS a; intro a hS
    refine nL ?_
    have hfl2 : (kids ++ [xj.1]).flatMap JX.cs = kids.flatMap JX.cs ++ ([.int .i64 jk, .string js, .slice a1 a2 a3, .slice a4 a5 a6] ++ []) := by rw [List.flatMap_append, ← hxcs]; simp
    have hkl1 : (kids ++ [xj.1]).length = kids.length + 1 := by simp
    have hns := nmsF_next hy
    have hnf : (nmsF fl (kids.length + 1)).flatMap encS = (nmsF fl kids.length).flatMap encS ++ [.string (tx y.f.nm)] := by rw [hns, List.flatMap_append]; rfl
    replace hS := kids_add (hS.pick (Γ' := [jxA 2 xj.1, kidsA 2 kids, ownA 37 4 (.slice q68 (kids.length + 1) c68) (kids.length + 1) (kids.flatMap JX.cs ++ ([.int .i64 jk, .string js, .slice a1 a2 a3, .slice a4 a5 a6] ++ [])), ownA 9 1 (.slice q63 (kids.length + 1) c63) (kids.length + 1) ((nmsF fl kids.length).flatMap encS ++ [.string (tx y.f.nm)]), .blk b8 [.int .i64 6, .string ⟨#[]⟩, .slice q68 (kids.length + 1) c68, .slice q63 (kids.length + 1) c63] 37, .blk b2 [.string ⟨#[]⟩, .string ⟨#[]⟩, .slice none 0 0, .bool false] 29, .blk b1 (cellsC c3 (.slice (fvA y.f fa2) c3.fx.length (fvC y.f fc2))) 24, rtsA lo N rb f, oldA W0]) (by repeat (first | exact Pick.nil | (refine Pick.cons (by repeat (first | exact Rem.head | apply Rem.tail)) ?_))))
    rw [← hfl2, ← hnf] at hS
    refine ⟨(kids ++ [xj.1], .slice q68 (kids.length + 1) c68, .slice q63 (kids.length + 1) c63, c3, fvA y.f fa2, fvC y.f fc2), by show fl.length - (kids ++ [xj.1]).length < fl.length - kids.length; omega, ?_, by show (kids ++ [xj.1]).length ≤ fl.length; omega, by show reqL (fdsOf (fl.drop (kids ++ [xj.1]).length)) c3 (nmsF fl (kids ++ [xj.1]).length) ((kids ++ [xj.1]).map JX.v) = _; rw [hkl1, hns, List.map_append, List.map_singleton]; exact hgo, hc3, hF3⟩
    show St _ _ _ _ _ [(46, .int .i64 ((kids ++ [xj.1]).length : Int)), _, _, _, _, _, _, _, _] [ownA _ _ _ (kids ++ [xj.1]).length _, ownA _ _ _ (kids ++ [xj.1]).length ((nmsF fl (kids ++ [xj.1]).length).flatMap encS), _, _, _, _, _, _]
    rw [hkl1]
    exact (hS.slots (by repeat (first | exact trivial | refine ⟨rfl, ?_⟩))).pick (by repeat (first | exact Pick.nil | (refine Pick.cons (by repeat (first | exact Rem.head | apply Rem.tail)) ?_)))
   have hk2 : kids.length = fl.length := by omega
   have hgo' : reqL (fdsOf fl) c [] [] = some (.mk 6 [] (nmsF fl kids.length) (kids.map JX.v), c2) := by rw [← hgo, hk2]; exact reqL_done _ _ _ fl
   have hnl : (nmsF fl kids.length).length = kids.length := by unfold nmsF; rw [List.length_map, List.length_take, hk2, Nat.min_self]
   refine wp_exit ?_
   refine x_then (x_then (x_hit ?_))
   refine nT (cS (cS (cR ?_)))
   refine L_e hS (e_loadA (cs := cellsC c2 (.slice fa2 c2.fx.length fc2)) rfl (by repeat constructor) ty_st24 ty_sz24 rfl) rfl ?_; clear hS a; intro a hS
   refine L_op (s_callP hS (.cons rfl .nil) cf30 rfl (fEmpty_P c2 hc2 fa2 fc2 (by have := hF2.n; omega) _) ?_); clear hS a; intro a w hS
   refine L_e hS (e_not rfl) rfl ?_; clear hS a; intro a hS
   refine nL (nT ?_)
   (first | refine c_ifD hS rfl ?_ ?_ | refine c_if hS rfl ?_ ?_) <;> intro hc74
   ·
    refine cS (cR ?_)
    refine L_e hS (e_build ty_z29 ty_pl29 .nil) rfl ?_; clear hS a; intro a hS
    refine L_op (s_storeA hS rfl rfl ty_sz29 (by repeat constructor) (by rfl) (by rfl) (by rfl) ?_); clear hS; intro w hS
    refine L_e hS (e_assign rfl) rfl ?_; clear hS a; intro a hS
    refine nL (nT (wp_ret (r_then ?_)))
    refine c_retN hS Tryz.results9 (.cons (.cellA rfl (by repeat constructor) ty_st29 ty_sz29 (by rfl)) (.cons (.tmp rfl) .nil)) rfl ?_
    exact ⟨.inr (.inr ⟨10, by decide⟩), rfl, hS.chg, none_ok _, fun b h => h.elim⟩
   have hem : emptyC c2 := emptyB_t.1 (by simpa using hc74)
   obtain ⟨g1, g2, g3⟩ := hb kx (path, fl) _ c2 hx hgo'
   replace hS := jx_node (d := 2) (k := 6) (t := []) (ns := nmsF fl kids.length) (kids := kids) (by rw [hnl]; exact hS.pick (Γ' := [ownA 37 4 (.slice ql kids.length cl) kids.length (kids.flatMap JX.cs), ownA 9 1 (.slice qn kids.length cn) kids.length ((nmsF fl kids.length).flatMap encS), kidsA 2 kids, .blk b8 [.int .i64 6, .string ⟨#[]⟩, .slice ql kids.length cl, .slice qn kids.length cn] 37, .blk b2 [.string ⟨#[]⟩, .string ⟨#[]⟩, .slice none 0 0, .bool false] 29, rtsA lo N rb f, oldA W0]) (by repeat (first | exact Pick.nil | (refine Pick.cons (by repeat (first | exact Rem.head | apply Rem.tail)) ?_))))
   have hj : JAt 3 (.mk 6 [] (nmsF fl kids.length) (kids.map JX.v)) [.int .i64 6, .string ⟨#[]⟩, .slice ql kids.length cl, .slice qn kids.length cn] w := hS.get (.head _)
   obtain ⟨v, hv⟩ : ∃ v, JV.mk 6 [] (nmsF fl kids.length) (kids.map JX.v) = v := ⟨_, rfl⟩
   rw [hv] at hgo' g1 g2 g3 hj
   refine wS (nT (cS (cR ?_)))
   refine L_e hS (e_loadA rfl (by repeat constructor) ty_st37 ty_sz37 (by rfl)) rfl ?_; clear hS a; intro a hS
   refine L_op (s_callN hS (.cons rfl .nil) cf12 rfl (jPrint_N 3 v _ _ (hG.keep (hS.gg (X := oldA W0))).u8 g1 g2 hj g3) ?_); clear hS a; intro x78 a w hS
   obtain ⟨pq, pm, pc, pe, hpv, hpc⟩ := pr_open x78
   rw [hpv] at hS
   refine Rn hS (.m rfl <| .c (e_extract rfl rfl) <| .c (e_extract rfl rfl) <| .a rfl <| .a rfl .n) ?_; clear hS a; intro a hS
   refine nL (nT (cS (wB (cS (cR ?_)))))
   refine Rn hS (.m rfl <| .c (e_bin rfl rfl rfl) <| .m rfl .n) ?_; clear hS a; intro a hS
   refine L_merge 3 87 (.bool (decide (pe ≠ 0 ∧ pe ≠ 8))) hS ?_ ?_
   · intro hcM87
     (first | refine g_splitD (t := 84) hS rfl ?_ ?_ | refine g_split (t := 84) hS rfl ?_ ?_) <;> (clear hS; intro hg84 hS)
     ·
      refine Rn hS (.g rfl rfl (e_move rfl) <| .g rfl rfl (e_bin rfl rfl rfl) <| .c (e_pk rfl rfl) .n) ?_; clear hS a; intro a hS
      exact hcM87 _ _ (hS.ends 4 87 84 rfl (congrArg Value.bool (by exact decide_eq_decide.2 ⟨fun h => ⟨hg84, h⟩, fun h => h.2⟩)) rfl rfl (by first | exact congrArg Value.bool (decide_eq_true hg84).symm | exact congrArg Value.bool hg84.symm | simp [hg84]) rfl)
     refine Rn hS (.t rfl rfl <| .t rfl rfl <| .c (e_pk rfl rfl) .n) ?_; clear hS a; intro a hS
     exact hcM87 _ _ (hS.ends 4 87 84 rfl (congrArg Value.bool (by exact (decide_eq_false (fun h => hg84 h.1)).symm)) rfl rfl (by first | exact congrArg Value.bool (decide_eq_false hg84).symm | exact congrArg Value.bool hg84.symm | simp [hg84]) rfl)
   · clear hS a; intro a w hS
     simp only [List.drop_succ_cons, List.drop_zero]
     refine L_e hS (e_assign rfl) rfl ?_; clear hS a; intro a hS
     refine nL (nT ?_)
     (first | refine c_ifD hS rfl ?_ ?_ | refine c_if hS rfl ?_ ?_) <;> intro hc81
     ·
      refine cS (cR ?_)
      refine L_e hS (e_build ty_z29 ty_pl29 .nil) rfl ?_; clear hS a; intro a hS
      refine L_op (s_storeA hS rfl rfl ty_sz29 (by repeat constructor) (by rfl) (by rfl) (by rfl) ?_); clear hS; intro w hS
      refine L_e hS (e_assign rfl) rfl ?_; clear hS a; intro a hS
      refine nL (nT (wp_ret ?_))
      refine r_block (r_then ?_)
      refine c_retN hS Tryz.results9 (.cons (.cellA rfl (by repeat constructor) ty_st29 ty_sz29 (by rfl)) (.cons (.tmp rfl) .nil)) rfl ?_
      exact ⟨.inr (.inr ⟨10, by decide⟩), rfl, hS.chg, none_ok _, fun b h => h.elim⟩
     refine cS (cR ?_)
     refine Rn hS (.m rfl <| .c (e_bin rfl rfl rfl) <| .m rfl .n) ?_; clear hS a; intro a hS
     refine L_merge 4 96 (.bool (decide (pe = 8 ∨ 32768 < pm))) hS ?_ ?_
     · intro hcM96
       (first | refine g_splitD (t := 92) hS rfl ?_ ?_ | refine g_split (t := 92) hS rfl ?_ ?_) <;> (clear hS; intro hg92 hS)
       ·
        refine Rn hS (.f rfl rfl <| .f rfl rfl <| .f rfl rfl <| .c (e_pk rfl rfl) .n) ?_; clear hS a; intro a hS
        exact hcM96 _ _ (hS.ends 5 96 92 rfl (congrArg Value.bool (by exact (decide_eq_true (.inl hg92)).symm)) rfl rfl (by first | exact congrArg Value.bool (decide_eq_true hg92).symm | exact congrArg Value.bool hg92.symm | simp [hg92]) rfl)
       refine Rn hS (.g rfl rfl (e_move rfl) <| .g rfl rfl (e_len rfl rfl ty_sl27) <| .g rfl rfl (e_bin rfl rfl rfl) <| .c (e_pk rfl rfl) .n) ?_; clear hS a; intro a hS
       exact hcM96 _ _ (hS.ends 5 96 92 rfl (congrArg Value.bool (by exact decide_eq_decide.2 ⟨fun h => .inr (by omega), fun h => by have := h.resolve_left hg92; omega⟩)) rfl rfl (by first | exact congrArg Value.bool (decide_eq_false hg92).symm | exact congrArg Value.bool hg92.symm | simp [hg92]) rfl)
     · clear hS a; intro a w hS
       simp only [List.drop_succ_cons, List.drop_zero]
       refine L_e hS (e_assign rfl) rfl ?_; clear hS a; intro a hS
       refine nL (nT ?_)
       (first | refine c_ifD hS rfl ?_ ?_ | refine c_if hS rfl ?_ ?_) <;> intro hc89
       ·
        refine cS (cR ?_)
        refine L_e hS (e_build ty_z29 ty_pl29 .nil) rfl ?_; clear hS a; intro a hS
        refine L_op (s_storeA hS rfl rfl ty_sz29 (by repeat constructor) (by rfl) (by rfl) (by rfl) ?_); clear hS; intro w hS
        refine L_e hS (e_assign rfl) rfl ?_; clear hS a; intro a hS
        refine nL (nT (wp_ret ?_))
        refine r_block (r_then ?_)
        refine c_retN hS Tryz.results9 (.cons (.cellA rfl (by repeat constructor) ty_st29 ty_sz29 (by rfl)) (.cons (.tmp rfl) .nil)) rfl ?_
        exact ⟨.inr (.inr ⟨8, by decide⟩), rfl, hS.chg, none_ok _, fun b h => h.elim⟩
       have hpe : pe = 0 := by omega
       obtain ⟨px, rfl, rfl, rfl, rfl⟩ : ∃ x : { x : (Nat × Nat) × JV × List UInt8 // okF 3 0 v ∧ PJ 3 v x.2.1 x.2.2 ∧ x.2.2.length ≤ 65536 ∧ x.2.2.length ≤ x.1.2 }, x78 = .inl x ∧ pq = some ⟨x.1.1.1, 0, none⟩ ∧ pm = x.1.2.2.length ∧ pc = x.1.1.2 := by
        rcases hpc with ⟨_, h⟩ | h
        · exact h
        · exact absurd hpe h
       refine wS (n_block (nT (cS (cR ?_))))
       refine Rn hS (.m rfl <| .m rfl <| .c (e_ixN rfl rfl ty_sl78 ty_sz83 (by omega)) .n) ?_; clear hS a; intro a hS
       (first | refine L_e hS (e_fa0 rfl ty_fo83_0) rfl ?_ | refine L_e hS (e_faK rfl ty_fo83_0) rfl ?_); clear hS a; intro a hS
       refine Rn hS (.c (e_loadC rfl ty_sc9 (fun w hh => rts_row (show RtsAt lo rb f w from hh (rtsA lo N rb f) (by repeat constructor)) hx 0 (.string (tx path)) rfl)) <| .m rfl <| .c (e_build ty_z29 ty_pl29 (.one rfl rfl rfl (by repeat constructor) (.one rfl rfl rfl (by repeat constructor) (.one rfl rfl rfl (by repeat constructor) .nil)))) .n) ?_; clear hS a; intro a hS
       refine L_op (s_storeA hS rfl rfl ty_sz29 (by repeat constructor) (by rfl) (by rfl) (by rfl) ?_); clear hS; intro w hS
       refine L_e hS (e_assign rfl) rfl ?_; clear hS a; intro a hS
       refine nL (nT (wp_ret ?_))
       refine c_retN hS Tryz.results9 (.cons (.cellA rfl (by repeat constructor) ty_st29 ty_sz29 (by rfl)) (.cons (.tmp rfl) .nil)) rfl ?_
       obtain ⟨⟨⟨pb, pcap⟩, pr, ps⟩, h1, h2, h3, h4⟩ := px
       exact ⟨.inl ⟨((pb, pcap), path, ps), ⟨v, pr, kx, fl, c2, ⟨hx, hkd, hgo', hem, h1, h2, Nat.not_lt.1 (fun h => hc89 (.inr h))⟩⟩, h4⟩, rfl, hS.chg, hS.ok (bbA 5 pb (bsI ps)) (by repeat constructor), fun b hb => (hS.mine (bbA 5 pb (bsI ps)) (by repeat constructor) rfl b hb).resolve_right id⟩
theorem fRequest_S (W0 : World) (hG : Gj W0) (c : Cd) (hc : c.ok) (hfx : FxB c.fx) (hs : fewFx c.fx) (ht : totT c ≤ 1048576) (fa : Option Addr) (fc : Nat) (hF : FctC W0 fa c.fx) (w0 : World) (hold : oldφ W0 w0) :
 NewC Tryz.prog 9 [.agg (cellsC c (.slice fa c.fx.length fc)).toArray] w0 (rqV c) (rqY c) :=
 fRequest_N W0 hG c hc fa fc ⟨hF.c, by have := hs.1; omega, hfx⟩ w0 hold fun _ _ _ _ hx h => ⟨req_good hc hfx hx h, req_sm hc hfx hs ht hx h⟩
theorem goodV_up : ∀ (n : Nat) (v : JV), goodV n v → goodV (n + 1) v
 | 0, _, h => h.elim
 | n + 1, .mk k t ns l, ⟨h1, h2, h3, h4⟩ => ⟨h1, h2, h3, fun hk x hx => goodV_up n x (h4 hk x hx)⟩
theorem goodV_mono {n m : Nat} {v : JV} (h : goodV n v) (hm : n ≤ m) : goodV m v := by
 induction hm with
 | refl => exact h
 | step _ ih => exact goodV_up _ _ ih
theorem okF_up : ∀ (n d : Nat) (v : JV), okF n d v → okF (n + 1) d v
 | 0, _, _, h => h.elim
 | n + 1, d, .mk k t ns l, ⟨h1, h2, h3⟩ => ⟨h1, h2, fun hk => by
   obtain ⟨g1, g2, g3, g4, g5, g6⟩ := h3 hk
   exact ⟨g1, g2, g3, g4, g5, fun x hx => okF_up n (d + 1) x (g6 x hx)⟩⟩
theorem okF_mono {n m d : Nat} {v : JV} (h : okF n d v) (hm : n ≤ m) : okF m d v := by
 induction hm with
 | refl => exact h
 | step _ ih => exact okF_up _ _ _ ih
theorem smV_up : ∀ (n : Nat) (v : JV), smV n v → smV (n + 1) v
 | 0, _, h => h.elim
 | n + 1, .mk k t ns l, ⟨h1, h2, h3, h4, h5⟩ => ⟨h1, h2, h3, h4, fun x hx => smV_up n x (h5 x hx)⟩
theorem smV_mono {n m : Nat} {v : JV} (h : smV n v) (hm : n ≤ m) : smV m v := by
 induction hm with
 | refl => exact h
 | step _ ih => exact smV_up _ _ ih
theorem lenJ_up : ∀ (n : Nat) (v : JV), goodV n v → lenJ (n + 1) v = lenJ n v
 | 0, _, h => h.elim
 | n + 1, .mk k t ns l, ⟨_, _, _, h4⟩ => by
   by_cases hk : k = 6
   · subst hk
     rw [lenJ6, lenJ6]
     have e : ((ns.zip l).map fun p => (quoteL p.1).length + 2 + lenJ (n + 1) p.2) = ((ns.zip l).map fun p => (quoteL p.1).length + 2 + lenJ n p.2) := by
      refine List.map_congr_left fun p hp => ?_
      rw [lenJ_up n p.2 (h4 rfl p.2 (List.of_mem_zip hp).2)]
     rw [e]
   · unfold lenJ
     rw [if_neg hk, if_neg hk]
theorem lenJ_mono {n m : Nat} {v : JV} (h : goodV n v) (hm : n ≤ m) : lenJ m v = lenJ n v := by
 induction hm with
 | refl => rfl
 | step hm ih => rw [lenJ_up _ _ (goodV_mono h hm), ih]
theorem req_parse {c : Cd} {path s : List UInt8} {v r : JV} {k : Nat} {fl : List Fg} {c' : Cd} (hc : c.ok) (hfx : FxB c.fx) (h : RqOk c path s v r k fl c') : parseF s = some r := by
 have hg : goodV 3 v := req_good hc hfx h.x h.q
 exact pj_parse hg h.f h.p (Nat.le_trans h.n (by decide))
theorem req_print {c : Cd} {path s : List UInt8} {v r : JV} {k : Nat} {fl : List Fg} {c' : Cd} (hc : c.ok) (hfx : FxB c.fx) (hs : fewFx c.fx) (ht : totT c ≤ 1048576) (h : RqOk c path s v r k fl c') {n : Nat} (hn : 3 ≤ n) : goodV n r ∧ okF n 0 r ∧ smV n r ∧ lenJ n r = s.length := by
 have hg := goodV_pj 3 v r s (req_good hc hfx h.x h.q) h.p
 refine ⟨goodV_mono hg hn, okF_mono (okF_pj 3 0 v r s h.f h.p) hn, smV_mono (smV_pj 3 v r s (req_sm hc hfx hs ht h.x h.q).1 h.p) hn, ?_⟩
 rw [lenJ_mono hg hn, lenJ_pj 3 v r s h.p, pj_len 3 v r s h.p]
def putC (f : Fd) (c cc : Cd) : Cd := if f.kd = 0 then cc.putT f.off (c.t f.off) else if f.kd = 1 then cc.putN f.off (c.n f.off) else cc
theorem rdC_val {f : Fd} {c : Cd} {y : JV} (hf : f.ok) (hc : c.ok) (h : (valC f c).1 = some y) (cc : Cd) : rdC f y cc = putC f c cc := by
 unfold valC at h
 unfold rdC putC
 rcases hf.kd with h1 | h1 | h1
 · rw [if_pos h1] at h ⊢
   rw [if_pos h1]
   simp only at h
   split at h
   · injection h with h; rw [← h]; rfl
   · cases h
 · rw [if_neg (by omega), if_pos h1] at h ⊢
   rw [if_neg (by omega), if_pos h1]
   injection h with h
   obtain ⟨n0, n1⟩ := hc.n f.off (hf.n h1).1 (hf.n h1).2
   rw [← h]
   unfold intOfF
   rw [int_itoa n0 n1]
   rfl
 · rw [if_neg (by omega), if_neg (by omega), if_neg (by omega), if_neg (by omega)]
theorem rdC_pj {f : Fd} {n : Nat} {y r : JV} {t : List UInt8} (hf : f.ok) (h : rdE f y = 0) (hp : PJ n y r t) (cc : Cd) : rdC f r cc = rdC f y cc := by
 cases n with
 | zero => exact hp.elim
 | succ n =>
   obtain ⟨k, s, ns, l⟩ := y
   unfold rdE at h
   unfold rdC
   rcases hf.kd with h1 | h1 | h1
   · rw [if_pos h1] at h
     rw [if_pos h1, if_pos h1]
     have hk : k = 4 := by
      apply Classical.byContradiction
      intro hk
      rw [if_neg (show ¬ (JV.mk k s ns l).k = 4 from hk)] at h
      exact absurd h (by decide)
     rcases (show _ ∨ _ ∨ _ ∨ _ from hp) with ⟨h2, _⟩ | ⟨_, hr, _⟩ | ⟨h2, _⟩ | ⟨h2, _⟩
     · omega
     · rw [hr]; rfl
     · omega
     · omega
   · rw [if_neg (by omega), if_pos h1] at h
     rw [if_neg (by omega), if_pos h1, if_neg (by omega), if_pos h1]
     have hk : k = 3 := jInt_k h
     rcases (show _ ∨ _ ∨ _ ∨ _ from hp) with ⟨_, hr, _⟩ | ⟨h2, _⟩ | ⟨h2, _⟩ | ⟨h2, _⟩
     · rw [hr, hk]; rfl
     · omega
     · omega
     · omega
   · rw [if_neg (by omega), if_neg (by omega), if_neg (by omega), if_neg (by omega)]
def putL (fs : List Fd) (c cc : Cd) : Cd := fs.foldl (fun cc f => putC f c cc) cc
theorem bindL_put {fs : List Fd} {v : JV} {c : Cd} (h : ∀ f ∈ fs, ∃ y, getF v f.nm = some y ∧ rdE f y = 0 ∧ ∀ cc, rdC f y cc = putC f c cc) : ∀ (cc : Cd) (fx : JV), (bindL fs v cc fx).1 = 0 ∧ (bindL fs v cc fx).2.1 = putL fs c cc := by
 induction fs with
 | nil => exact fun cc fx => ⟨rfl, rfl⟩
 | cons f fs ih =>
   intro cc fx
   obtain ⟨y, h1, h2, h3⟩ := h f (.head _)
   unfold bindL
   rw [h1]; simp only
   rw [if_neg (fun h => h h2), h3 cc]
   exact ih (fun f hf => h f (.tail _ hf)) _ _
def InvT (c d cc : Cd) (i : Nat) : Prop := (d.t i = c.t i ∧ (cc.t i = [] ∨ cc.t i = c.t i)) ∨ (d.t i = [] ∧ cc.t i = c.t i)
def InvN (c d cc : Cd) (i : Nat) : Prop := (d.n i = c.n i ∧ (cc.n i = 0 ∨ cc.n i = c.n i)) ∨ (d.n i = 0 ∧ cc.n i = c.n i)
theorem invT_step {c d cc : Cd} {f : Fd} (hf : f.ok) {i : Nat} (h : InvT c d cc i) : InvT c (valC f d).2 (putC f c cc) i := by
 unfold valC putC
 rcases hf.kd with h1 | h1 | h1
 · rw [if_pos h1, if_pos h1]
   by_cases e : i = f.off
   · refine .inr ⟨?_, ?_⟩
     · show (if i = f.off then [] else d.t i) = []
       rw [if_pos e]
     · show (if i = f.off then c.t f.off else cc.t i) = c.t i
       rw [if_pos e, e]
   · unfold InvT
     rw [show (d.putT f.off []).t i = d.t i from if_neg e, show (cc.putT f.off (c.t f.off)).t i = cc.t i from if_neg e]
     exact h
 · rw [if_neg (by omega), if_pos h1, if_neg (by omega), if_pos h1]; exact h
 · rw [if_neg (by omega), if_neg (by omega), if_neg (by omega), if_neg (by omega)]; exact h
theorem invN_step {c d cc : Cd} {f : Fd} (hf : f.ok) {i : Nat} (h : InvN c d cc i) : InvN c (valC f d).2 (putC f c cc) i := by
 unfold valC putC
 rcases hf.kd with h1 | h1 | h1
 · rw [if_pos h1, if_pos h1]; exact h
 · rw [if_neg (by omega), if_pos h1, if_neg (by omega), if_pos h1]
   by_cases e : i = f.off
   · refine .inr ⟨?_, ?_⟩
     · show (if i = f.off then 0 else d.n i) = 0
       rw [if_pos e]
     · show (if i = f.off then c.n f.off else cc.n i) = c.n i
       rw [if_pos e, e]
   · unfold InvN
     rw [show (d.putN f.off 0).n i = d.n i from if_neg e, show (cc.putN f.off (c.n f.off)).n i = cc.n i from if_neg e]
     exact h
 · rw [if_neg (by omega), if_neg (by omega), if_neg (by omega), if_neg (by omega)]; exact h
theorem inv_all (c : Cd) : ∀ (fs : List Fd) (d cc : Cd), (∀ f ∈ fs, f.ok) → (∀ i, InvT c d cc i) → (∀ i, InvN c d cc i) → (∀ i, InvT c (clearC fs d) (putL fs c cc) i) ∧ ∀ i, InvN c (clearC fs d) (putL fs c cc) i
 | [], _, _, _, h1, h2 => ⟨h1, h2⟩
 | f :: fs, _, _, hok, h1, h2 => inv_all c fs _ _ (fun g hg => hok g (.tail _ hg)) (fun i => invT_step (hok f (.head _)) (h1 i)) (fun i => invN_step (hok f (.head _)) (h2 i))
theorem putL_kind (c : Cd) : ∀ (fs : List Fd) (cc : Cd), (putL fs c cc).kind = cc.kind
 | [], _ => rfl
 | f :: fs, cc => by
   show (putL fs c (putC f c cc)).kind = cc.kind
   rw [putL_kind c fs]
   unfold putC
   split
   · rfl
   · split <;> rfl
theorem putL_same {fs : List Fd} {c : Cd} (hok : ∀ f ∈ fs, f.ok) (he : emptyC (clearC fs c)) (fv : Value) : cellsC (putL fs c (zCd c.kind)) fv = cellsC c fv := by
 obtain ⟨h1, h2⟩ := inv_all c fs c (zCd c.kind) hok (fun i => .inl ⟨rfl, .inl rfl⟩) (fun i => .inl ⟨rfl, .inl rfl⟩)
 have ht : ∀ i, (clearC fs c).t i = [] → (putL fs c (zCd c.kind)).t i = c.t i := fun i hi => by
  rcases h1 i with ⟨e1, e2 | e2⟩ | ⟨_, e2⟩
  · rw [e2, ← e1, hi]
  · exact e2
  · exact e2
 have hn : ∀ i, (clearC fs c).n i = 0 → (putL fs c (zCd c.kind)).n i = c.n i := fun i hi => by
  rcases h2 i with ⟨e1, e2 | e2⟩ | ⟨_, e2⟩
  · rw [e2, ← e1, hi]
  · exact e2
  · exact e2
 obtain ⟨t1, t2, t3, t4, t5, t6, _, n7, n8, n9, n10, n11, n12, n13⟩ := he
 unfold cellsC
 rw [putL_kind, ht 1 t1, ht 2 t2, ht 3 t3, ht 4 t4, ht 5 t5, ht 6 t6, hn 7 n7, hn 8 n8, hn 9 n9, hn 10 n10, hn 11 n11, hn 12 n12, hn 13 n13]
 rfl
theorem factF_back {x : Fct} {y r : JV} {t : List UInt8} {n : Nat} (hb : -9223372036854775808 ≤ x.n ∧ x.n ≤ 9223372036854775807) (h : factJ x = some y) (hp : PJ (n + 1) y r t) : factF x.nm r = (0, x) := by
 obtain ⟨nm, ty, m, s⟩ := x
 simp only at hb
 unfold factJ at h
 simp only at h
 split at h
 · rename_i hty
   split at h
   · rename_i hs
     injection h with h
     subst h hty hs
     rcases (show _ ∨ _ ∨ _ ∨ _ from hp) with ⟨_, hr, _⟩ | ⟨h2, _⟩ | ⟨h2, _⟩ | ⟨h2, _⟩
     · rw [hr]
       unfold factF
       rw [if_pos (show (jNum (Lib.itoa m)).k = 3 from rfl)]
       unfold intOfF
       rw [int_itoa hb.1 hb.2]
       rfl
     · exact absurd h2 (by decide)
     · exact absurd h2 (by decide)
     · exact absurd h2 (by decide)
   · cases h
 · split at h
   · rename_i hty
     split at h
     · rename_i hs
       injection h with h
       obtain ⟨hs1, hs2⟩ := hs
       subst h hty hs1
       rcases hs2 with rfl | rfl
       · rcases (show _ ∨ _ ∨ _ ∨ _ from hp) with ⟨h2, _⟩ | ⟨h2, _⟩ | ⟨_, hr, _⟩ | ⟨h2, _⟩
         · exact absurd h2 (by simp)
         · exact absurd h2 (by simp)
         · rw [hr]; rfl
         · exact absurd h2 (by simp)
       · rcases (show _ ∨ _ ∨ _ ∨ _ from hp) with ⟨h2, _⟩ | ⟨h2, _⟩ | ⟨_, hr, _⟩ | ⟨h2, _⟩
         · exact absurd h2 (by simp)
         · exact absurd h2 (by simp)
         · rw [hr]; rfl
         · exact absurd h2 (by simp)
     · cases h
   · split at h
     · rename_i hs
       injection h with h
       obtain ⟨hs1, hs2⟩ := hs
       subst h hs1 hs2
       rcases (show _ ∨ _ ∨ _ ∨ _ from hp) with ⟨h2, _⟩ | ⟨_, hr, _⟩ | ⟨h2, _⟩ | ⟨h2, _⟩
       · exact absurd h2 (by decide)
       · rw [hr]; rfl
       · exact absurd h2 (by decide)
       · exact absurd h2 (by decide)
     · cases h
theorem factsJ_rise : ∀ (fs : List Fct) (ns : List (List UInt8)) (l : List JV) (v : JV), factsJ fs ns l = some v → ns.Pairwise (· < ·) → (∀ p, ns.getLast? = some p → ∀ q ∈ ns, q = p ∨ q < p) → (ns ++ fs.map Fct.nm).Pairwise (· < ·)
 | [], ns, l, v, _, hp, _ => by simpa using hp
 | x :: r, ns, l, v, h, hp, hl => by
   unfold factsJ at h
   cases hx : factJ x with
   | none => rw [hx] at h; cases h
   | some y =>
     rw [hx] at h
     simp only at h
     have hlt : ∀ q ∈ ns, q < x.nm := by
      intro q hq
      cases hg : ns.getLast? with
      | none => rw [List.getLast?_eq_none_iff.1 hg] at hq; cases hq
      | some p =>
        rw [hg] at h
        simp only at h
        by_cases hpx : p < x.nm
        · rcases hl p hg q hq with rfl | e
          · exact hpx
          · exact List.lt_trans e hpx
        · rw [if_neg (by simpa using hpx)] at h; cases h
     have hgo : factsJ r (ns ++ [x.nm]) (l ++ [y]) = some v := by
      split at h
      · split at h
        · exact h
        · cases h
      · split at h
        · exact h
        · cases h
     have := factsJ_rise r (ns ++ [x.nm]) (l ++ [y]) v hgo (List.pairwise_append.2 ⟨hp, List.pairwise_singleton _ _, fun a ha b hb => by rw [List.mem_singleton.1 hb]; exact hlt a ha⟩) (fun p hpl q hq => by
       rw [List.getLast?_append, List.getLast?_singleton] at hpl
       have e : x.nm = p := by simpa using hpl
       rcases List.mem_append.1 hq with h1 | h1
       · exact .inr (e ▸ hlt q h1)
       · exact .inl ((List.mem_singleton.1 h1).trans e))
     simpa using this
theorem factsL_all {r : JV} : ∀ (fs acc : List Fct), (∀ x ∈ fs, ∃ y, getF r x.nm = some y ∧ factF x.nm y = (0, x)) → factsL r (fs.map Fct.nm) acc = (0, acc ++ fs)
 | [], acc, _ => by simp [factsL]
 | x :: fs, acc, h => by
   obtain ⟨y, h1, h2⟩ := h x (.head _)
   rw [List.map_cons]
   unfold factsL
   rw [h1, show (some y).getD jz = y from rfl, h2]
   rw [if_neg (fun h => h rfl), factsL_all fs _ (fun z hz => h z (.tail _ hz))]
   simp
theorem factsF_back {fs : List Fct} {y r : JV} {t : List UInt8} {n : Nat} (hb : FxB fs) (h : factsJ fs [] [] = some y) (hp : PJ (n + 2) y r t) : factsF r = (0, fs) := by
 have hr := factsJ_rise fs [] [] y h List.Pairwise.nil (fun p hp => by cases hp)
 simp only [List.nil_append] at hr
 obtain ⟨ys, h1, h2, h3⟩ := factsJ_all fs [] [] y h
 simp only [List.nil_append] at h1
 have hnd : (fs.map Fct.nm).Nodup := hr.imp (fun h e => by rw [e] at h; exact List.lt_irrefl _ h)
 have hlen : (fs.map Fct.nm).length = ys.length := by rw [List.length_map]; exact h2.symm
 subst h1
 have hns : sortL r.ns = fs.map Fct.nm := by
  rcases (show _ ∨ _ ∨ _ ∨ _ from hp) with ⟨h2, _⟩ | ⟨h2, _⟩ | ⟨h2, _⟩ | ⟨_, ms, hpm, _, _, hrr, _⟩
  · exact absurd h2 (by simp)
  · exact absurd h2 (by simp)
  · exact absurd h2 (by simp)
  have e := hpm.map (·.1)
  rw [List.map_map, List.map_fst_zip (by omega)] at e
  have e2 : r.ns.Perm (fs.map Fct.nm) := by rw [hrr]; exact e
  have e3 : (sortL r.ns).Perm (fs.map Fct.nm) := (List.mergeSort_perm _ _).trans e2
  refine List.Perm.eq_of_pairwise (le := (· ≤ ·)) (fun a b _ _ h1 h2 => List.le_antisymm h1 h2) ?_ (hr.imp (fun h => List.le_of_lt h)) e3
  have := List.pairwise_mergeSort (le := fun x y : List UInt8 => decide (x ≤ y)) (fun a b c h1 h2 => by simp only [decide_eq_true_eq] at *; exact List.le_trans h1 h2) (fun a b => by simp only [Bool.or_eq_true, decide_eq_true_eq]; exact List.le_total a b) r.ns
  exact this.imp (fun h => by simpa using h)
 unfold factsF
 rw [hns, factsL_all fs [] ?_]
 · rfl
 · intro x hx
   obtain ⟨i, hi⟩ := List.getElem?_of_mem hx
   have hil := (List.getElem?_eq_some_iff.1 hi).1
   obtain ⟨z, hz⟩ : ∃ z, ys[i]? = some z := ⟨_, List.getElem?_eq_getElem (by omega)⟩
   have hm : (x.nm, z) ∈ (fs.map Fct.nm).zip ys := by
    refine List.mem_of_getElem? (i := i) ?_
    rw [List.getElem?_zip_eq_some]
    exact ⟨by rw [List.getElem?_map, hi]; rfl, hz⟩
   have hg : getF (.mk 6 [] (fs.map Fct.nm) ys) x.nm = some z := by
    rw [objP_zip hlen]
    exact getF_in (by rw [List.map_fst_zip (by omega)]; exact hnd) hm
   obtain ⟨z', s', h4, h5⟩ := (getF_pj (nm := x.nm) hnd hlen hp).1 z hg
   exact ⟨z', h4, factF_back (hb x hx) (h3 i x z hi hz) h5⟩
theorem bindL_fx {X : List Fct} {v : JV} : ∀ (fs : List Fd), (∀ f ∈ fs, ∃ y, getF v f.nm = some y ∧ rdE f y = 0 ∧ (f.kd = 2 → factsF y = (0, X))) → ∀ (cc : Cd) (fx : JV), ((∀ f ∈ fs, f.kd ≠ 2) ∧ (bindL fs v cc fx).2.2 = fx) ∨ factsF (bindL fs v cc fx).2.2 = (0, X)
 | [], _, _, _ => .inl ⟨fun f hf => (by cases hf), rfl⟩
 | f :: fs, h, cc, fx => by
   obtain ⟨y, h1, h2, h3⟩ := h f (.head _)
   have ih := bindL_fx fs (fun g hg => h g (.tail _ hg)) (rdC f y cc) (if f.kd = 2 then y else fx)
   unfold bindL
   rw [h1]; simp only
   rw [if_neg (fun h => h h2)]
   rcases ih with ⟨i1, i2⟩ | i
   · by_cases hk : f.kd = 2
     · right
       rw [i2, if_pos hk]
       exact h3 hk
     · left
       rw [if_neg hk] at i2
       refine ⟨fun g hg => ?_, by rw [if_neg hk]; exact i2⟩
       rcases List.mem_cons.1 hg with rfl | hg
       · exact hk
       · exact i1 g hg
   · exact .inr i
theorem clearC_fx (c : Cd) : ∀ (fs : List Fd) (d : Cd), (∀ f ∈ fs, f.ok) → (∀ f ∈ fs, f.kd ≠ 2) → (clearC fs d).fx = d.fx
 | [], _, _, _ => rfl
 | f :: fs, d, hok, h => by
   show (clearC fs (valC f d).2).fx = d.fx
   rw [clearC_fx c fs _ (fun g hg => hok g (.tail _ hg)) (fun g hg => h g (.tail _ hg))]
   have hk := h f (.head _)
   unfold valC
   split
   · rfl
   · split
     · rfl
     · rcases (hok f (.head _)).kd with h1 | h1 | h1 <;> omega
structure Tells (c : Cd) (f : Fd) (y : JV) : Prop where
 e : rdE f y = 0
 p : ∀ cc, rdC f y cc = putC f c cc
 x : f.kd = 2 → factsF y = (0, c.fx)
theorem bind_tells {fs : List Fd} {c : Cd} {o : JV} (hok : ∀ f ∈ fs, f.ok) (he : emptyC (clearC fs c)) (h : ∀ f ∈ fs, ∃ y, getF o f.nm = some y ∧ Tells c f y) (hl : ¬ fs.length < o.ns.length) :
 (bindF fs c.kind o).1 = 0 ∧ (bindF fs c.kind o).2.fx = c.fx ∧ ∀ fv, cellsC (bindF fs c.kind o).2 fv = cellsC c fv := by
 obtain ⟨b1, b2⟩ := bindL_put (c := c) (fun f hf => by obtain ⟨y, h1, h2⟩ := h f hf; exact ⟨y, h1, h2.e, h2.p⟩) (zCd c.kind) jz
 have hfx : factsF (bindL fs o (zCd c.kind) jz).2.2 = (0, c.fx) := by
  rcases bindL_fx (X := c.fx) fs (fun f hf => by obtain ⟨y, h1, h2⟩ := h f hf; exact ⟨y, h1, h2.e, h2.x⟩) (zCd c.kind) jz with ⟨h1, h2⟩ | h2
  · rw [h2]
    have e := clearC_fx c fs c hok h1
    rw [he.2.2.2.2.2.2.1] at e
    rw [← e]
    simp [factsF, jz, JV.ns, sortL, factsL]
  · exact h2
 have e : bindF fs c.kind o = (0, { putL fs c (zCd c.kind) with fx := c.fx }) := by
  unfold bindF
  rw [if_neg (fun h => h b1), if_neg hl, hfx, b2]
  rw [if_neg (fun h => h rfl)]
 rw [e]
 exact ⟨rfl, rfl, fun fv => putL_same hok he fv⟩
theorem tells_val {c : Cd} {f : Fd} {y r : JV} {t : List UInt8} {n : Nat} (hf : f.ok) (hc : c.ok) (hb : FxB c.fx) (h : (valC f c).1 = some y) (hp : PJ (n + 2) y r t) : Tells c f r := by
 have he := rdE_val hf hc h
 refine ⟨rdE_pj hf he hp, fun cc => by rw [rdC_pj hf he hp, rdC_val hf hc h], fun hk => ?_⟩
 unfold valC at h
 rw [if_neg (by omega), if_neg (by omega)] at h
 exact factsF_back hb h hp
theorem PJ_up : ∀ (n : Nat) (v r : JV) (s : List UInt8), PJ n v r s → PJ (n + 1) v r s
 | 0, _, _, _, h => h.elim
 | n + 1, .mk k t ns l, r, s, h => by
   rcases (show _ ∨ _ ∨ _ ∨ _ from h) with h | h | h | ⟨hk, ms, hp, hs, hm, hr, ht⟩
   · exact .inl h
   · exact .inr (.inl h)
   · exact .inr (.inr (.inl h))
   · exact .inr (.inr (.inr ⟨hk, ms, hp, hs, fun m hmm => PJ_up n _ _ _ (hm m hmm), hr, ht⟩))
theorem PJ_mono {n m : Nat} {v r : JV} {s : List UInt8} (h : PJ n v r s) (hm : n ≤ m) : PJ m v r s := by
 induction hm with
 | refl => exact h
 | step _ ih => exact PJ_up _ _ _ _ ih
theorem okF_dn : ∀ (n d e : Nat) (v : JV), e ≤ d → okF n d v → okF n e v
 | 0, _, _, _, _, h => h.elim
 | n + 1, d, e, .mk k t ns l, hd, ⟨h1, h2, h3⟩ => ⟨h1, h2, fun hk => by
   obtain ⟨g1, g2, g3, g4, g5, g6⟩ := h3 hk
   exact ⟨g1, g2, Nat.lt_of_le_of_lt hd g3, g4, g5, fun x hx => okF_dn n (d + 1) (e + 1) x (by omega) (g6 x hx)⟩⟩
theorem mem_same : ∀ (ms' ms : List Mem), (ms'.map fun m => (m.n, m.v)) = (ms.map fun m => (m.n, m.r)) → (∀ m ∈ ms, ∀ m' ∈ ms', m'.v = m.r → m'.r = m.r ∧ m'.t = m.t) → ms'.map (·.n) = ms.map (·.n) ∧ ms'.map (·.r) = ms.map (·.r) ∧ joinM ms' = joinM ms
 | [], [], _, _ => ⟨rfl, rfl, rfl⟩
 | [], _ :: _, h, _ => by simp at h
 | _ :: _, [], h, _ => by simp at h
 | m' :: ms', m :: ms, h, hi => by
   rw [List.map_cons, List.map_cons] at h
   injection h with h1 h2
   injection h1 with hn hv
   obtain ⟨e1, e2⟩ := hi m (.head _) m' (.head _) hv
   obtain ⟨i1, i2, i3⟩ := mem_same ms' ms h2 (fun a ha b hb => hi a (.tail _ ha) b (.tail _ hb))
   have hle : ms'.isEmpty = ms.isEmpty := by
    have := congrArg List.length i1
    rw [List.length_map, List.length_map] at this
    cases ms' with
    | nil => cases ms with
      | nil => rfl
      | cons a b => simp at this
    | cons a b => cases ms with
      | nil => simp at this
      | cons a b => rfl
   refine ⟨by rw [List.map_cons, List.map_cons, hn, i1], by rw [List.map_cons, List.map_cons, e1, i2], ?_⟩
   rw [join_cons, join_cons, hle, i3]
   unfold memT
   rw [hn, e2]
theorem pj_idem : ∀ (n d : Nat) (v r : JV) (s : List UInt8) (r' : JV) (s' : List UInt8), okF n d v → PJ n v r s → PJ n r r' s' → r' = r ∧ s' = s
 | 0, _, _, _, _, _, _, h, _, _ => h.elim
 | n + 1, d, .mk k t ns l, r, s, r', s', ho, hp, hq => by
   rcases (show _ ∨ _ ∨ _ ∨ _ from hp) with ⟨hk, rfl, rfl⟩ | ⟨hk, rfl, rfl⟩ | ⟨hk, rfl, rfl⟩ | ⟨hk, ms, hpm, hs, hm, rfl, rfl⟩
   · rcases (show _ ∨ _ ∨ _ ∨ _ from hq) with ⟨_, h1, h2⟩ | ⟨h, _⟩ | ⟨h, _⟩ | ⟨h, _⟩
     · exact ⟨h1, h2⟩
     · exact absurd h (by decide)
     · exact absurd h (by decide)
     · exact absurd h (by decide)
   · rcases (show _ ∨ _ ∨ _ ∨ _ from hq) with ⟨h, _⟩ | ⟨_, h1, h2⟩ | ⟨h, _⟩ | ⟨h, _⟩
     · exact absurd h (by decide)
     · exact ⟨h1, h2⟩
     · exact absurd h (by decide)
     · exact absurd h (by decide)
   · rcases (show _ ∨ _ ∨ _ ∨ _ from hq) with ⟨h, _⟩ | ⟨h, _⟩ | ⟨_, h1, h2⟩ | ⟨h, _⟩
     · omega
     · omega
     · exact ⟨h1, h2⟩
     · omega
   · obtain ⟨_, _, h3⟩ := ho
     obtain ⟨g1, g2, g3, g4, g5, g6⟩ := h3 hk
     rcases (show _ ∨ _ ∨ _ ∨ _ from hq) with ⟨h, _⟩ | ⟨h, _⟩ | ⟨h, _⟩ | ⟨_, ms', hpm', hs', hm', rfl, rfl⟩
     · exact absurd h (by decide)
     · exact absurd h (by decide)
     · exact absurd h (by decide)
     rw [zip_map_n] at hpm'
     have hnd : (ms.map (·.n)).Nodup := pj_nodup hpm g5 (by omega)
     have e1 : (ms.map fun m => (m.n, m.r)).map (·.1) = ms.map (·.n) := by rw [List.map_map]; rfl
     have e2 : (ms'.map fun m => (m.n, m.v)).map (·.1) = ms'.map (·.n) := by rw [List.map_map]; rfl
     have hkey : ∀ a ∈ (ms.map fun m => (m.n, m.r)), ∀ b ∈ (ms.map fun m => (m.n, m.r)), a.1 = b.1 → a = b := by
      intro a ha b hb hab
      have h1 := find_key (by rw [e1]; exact hnd) (show (a.1, a.2) ∈ _ from ha)
      have h2 := find_key (by rw [e1]; exact hnd) (show (b.1, b.2) ∈ _ from hb)
      rw [← hab, h1] at h2
      injection h2 with h2
      have h3 := congrArg (fun p : List UInt8 × JV => p.2) h2
      exact Prod.ext hab h3
     have hw1 : (ms.map fun m => (m.n, m.r)).Pairwise (fun a b => a.1 ≤ b.1) := by rw [List.pairwise_map]; rw [List.pairwise_map] at hs; exact hs
     have hw2 : (ms'.map fun m => (m.n, m.v)).Pairwise (fun a b => a.1 ≤ b.1) := by rw [List.pairwise_map]; rw [List.pairwise_map] at hs'; exact hs'
     have heq := List.Perm.eq_of_pairwise (le := fun (a b : List UInt8 × JV) => a.1 ≤ b.1) (fun a b ha hb h1 h2 => hkey a ((hpm'.mem_iff).1 ha) b hb (List.le_antisymm h1 h2)) hw2 hw1 hpm'
     obtain ⟨i1, i2, i3⟩ := mem_same ms' ms heq (fun m hmm m' hmm' hv => pj_idem n (d + 1) m.v m.r m.t m'.r m'.t (g6 _ (pj_mem hpm hmm).2) (hm m hmm) (hv ▸ hm' m' hmm'))
     exact ⟨by rw [i1, i2], by rw [i3]⟩
def memB (m : Mem) : List UInt8 := quoteL m.n ++ (9 :: 58 :: 13 :: 10 :: 32 :: m.t)
def sepB (q : List Mem) : List UInt8 := q.reverse.flatMap fun m => memB m ++ [32, 44]
theorem sepB_cons (m : Mem) (q : List Mem) : sepB (m :: q) = sepB q ++ (memB m ++ [32, 44]) := by unfold sepB; rw [List.reverse_cons, List.flatMap_append]; simp
theorem bl1 {x : UInt8} (h : jBl x = true) : blanks [x] := fun y hy => by rw [List.mem_singleton.1 hy]; exact h
theorem bl3 : blanks [13, 10, 32] := fun y hy => by
 rcases List.mem_cons.1 hy with rfl | hy
 · rfl
 rcases List.mem_cons.1 hy with rfl | hy
 · rfl
 rw [List.mem_singleton.1 hy]; rfl
theorem pm_front {pv : JV → List UInt8 → Prop} (m0 : Mem) (h0 : Lib.validD m0.n = true ∧ pv m0.r m0.t) : ∀ (L : List Mem), (∀ m ∈ L, Lib.validD m.n = true ∧ pv m.r m.t) → ∀ b1, blanks b1 → PM pv ((L ++ [m0]).map (·.n)) ((L ++ [m0]).map (·.r)) (b1 ++ (L.flatMap (fun m => memB m ++ [32, 44]) ++ (memB m0 ++ [10])))
 | [], _, b1, hb => by
   have := PM.one (pv := pv) (b1 := b1) (b2 := [9]) (b3 := [13, 10, 32]) (b4 := [10]) h0.1 h0.2 hb (bl1 rfl) bl3 (bl1 rfl)
   simpa [memB] using this
 | m :: L, h, b1, hb => by
   have hm := h m (.head _)
   have := PM.more (pv := pv) (b1 := b1) (b2 := [9]) (b3 := [13, 10, 32]) (b4 := [32]) hm.1 hm.2 hb (bl1 rfl) bl3 (bl1 rfl) (pm_front m0 h0 L (fun x hx => h x (.tail _ hx)) [] blanks_nil)
   simpa [memB] using this
def txtB (m0 : Mem) (q : List Mem) : List UInt8 := 123 :: 32 :: (sepB q ++ (memB m0 ++ [10, 125]))
theorem txt_pm {pv : JV → List UInt8 → Prop} {m0 : Mem} {q : List Mem} (h : ∀ m ∈ m0 :: q, Lib.validD m.n = true ∧ pv m.r m.t) : ∃ txt, txtB m0 q = 123 :: (txt ++ [125]) ∧ PM pv (((m0 :: q).reverse).map (·.n)) (((m0 :: q).reverse).map (·.r)) txt := by
 refine ⟨[32] ++ (sepB q ++ (memB m0 ++ [10])), by unfold txtB; simp, ?_⟩
 rw [List.reverse_cons]
 exact pm_front m0 (h m0 (.head _)) q.reverse (fun m hm => h m (.tail _ (List.mem_reverse.1 hm))) [32] (bl1 rfl)
theorem memB_len (m : Mem) : (memB m).length = (quoteL m.n).length + m.t.length + 5 := by unfold memB; simp; omega
theorem sepB_len (q : List Mem) : (sepB q).length = (q.map fun m => (quoteL m.n).length + m.t.length + 7).sum := by
 induction q with
 | nil => rfl
 | cons m q ih => rw [sepB_cons, List.length_append, ih, List.length_append, memB_len, List.map_cons, List.sum_cons]; simp; omega
theorem txtB_len (m0 : Mem) (q : List Mem) : (txtB m0 q).length = ((m0 :: q).map fun m => (quoteL m.n).length + m.t.length + 7).sum + 2 := by
 unfold txtB
 rw [List.length_cons, List.length_cons, List.length_append, sepB_len, List.length_append, memB_len, List.map_cons, List.sum_cons]; simp; omega
theorem mem_len7 (q : List Mem) : (q.map fun m => (quoteL m.n).length + m.t.length + 7).sum = (q.map fun m => (quoteL m.n).length + 2 + m.t.length).sum + 5 * q.length := by
 induction q with
 | nil => rfl
 | cons m q ih => rw [List.map_cons, List.map_cons, List.sum_cons, List.sum_cons, ih, List.length_cons]; omega
theorem txt_parse {m0 : Mem} {q : List Mem} (h : ∀ m ∈ m0 :: q, Lib.validD m.n = true ∧ Rd 1 m.t.length m.r m.t) (hnd : ((m0 :: q).map (·.n)).Nodup) (hl : (m0 :: q).length ≤ 1000) (ht : (txtB m0 q).length ≤ 65536) :
 parseF (txtB m0 q) = some (objP (((m0 :: q).reverse).map fun m => (m.n, m.r))) := by
 have hN' : ∀ m ∈ m0 :: q, Lib.validD m.n = true ∧ Rd (0 + 1) ((txtB m0 q).length - 2 * (m0 :: q).length) m.r m.t := fun m hm => by
  refine ⟨(h m hm).1, (h m hm).2.mono ?_⟩
  rw [txtB_len, mem_len7]
  have : ∀ (q : List Mem) (m : Mem), m ∈ q → m.t.length ≤ (q.map fun m => (quoteL m.n).length + 2 + m.t.length).sum := by
   intro q
   induction q with
   | nil => intro m h; cases h
   | cons x q ih =>
     intro m h
     rw [List.map_cons, List.sum_cons]
     rcases List.mem_cons.1 h with rfl | h
     · omega
     · have := ih m h; omega
  have := this _ m hm
  omega
 obtain ⟨txt, e, hpm⟩ := txt_pm hN'
 have hrd := rd_obj (d := 0) (by decide) (fun v tv h => h) hpm (by rw [List.map_reverse]; exact ((List.reverse_perm _).nodup_iff).2 hnd) (by rw [List.length_map, List.length_reverse]; exact hl)
 rw [← e] at hrd
 have hlen : 7 * (m0 :: q).length ≤ (txtB m0 q).length := by
  rw [txtB_len, mem_len7]
  have : ∀ q : List Mem, 2 * q.length ≤ (q.map fun m => (quoteL m.n).length + 2 + m.t.length).sum := by
   intro q
   induction q with
   | nil => exact Nat.zero_le _
   | cons x q ih => rw [List.map_cons, List.sum_cons, List.length_cons]; omega
  have := this (m0 :: q)
  omega
 have := parse_rd (b := []) (b' := []) hrd blanks_nil blanks_nil (by simpa using ht) (by
   rw [List.length_map, List.length_reverse]
   rw [List.nil_append, List.append_nil]
   omega)
 rw [List.nil_append, List.append_nil] at this
 rw [this]
 unfold objP
 rw [List.map_map, List.map_map]
 rfl
theorem nm_len : ∀ x ∈ rtG, x.2.length ≤ 15 := by
 intro x hx
 have h : ∀ y ∈ rtG.map (fun x => x.2.length), y ≤ 15 := by decide +kernel
 exact h _ (List.mem_map.2 ⟨x, hx, rfl⟩)
theorem back_tells {c : Cd} {path s : List UInt8} {v r : JV} {k : Nat} {fl : List Fg} {c' : Cd} (hc : c.ok) (hfx : FxB c.fx) (h : RqOk c path s v r k fl c') : ∃ rs, r = objP rs ∧ Back (fdsOf fl) rs ∧ emptyC (clearC (fdsOf fl) c) ∧ ∀ f ∈ fdsOf fl, ∃ y, (f.nm, y) ∈ rs ∧ Tells c f y := by
 obtain ⟨ps, rs, hv, hr, hb1, hb2⟩ := req_back hc h
 have hm := List.mem_of_getElem? h.x
 have hok : ∀ f ∈ fdsOf fl, f.ok := rt_fdok hm
 obtain ⟨vals, h1, h2, h3, h4⟩ := reqL_all (fdsOf fl) c [] [] v c' hok (rt_apart _ hm) h.q
 refine ⟨rs, hr, hb2, h3 ▸ h.e, fun f hfm => ?_⟩
 have hnd : ((fdsOf fl).map Fd.nm).Nodup := rt_names _ hm
 simp only [List.nil_append] at h2
 have hlen : ((fdsOf fl).map Fd.nm).length = vals.length := by rw [List.length_map]; exact h1.symm
 obtain ⟨i, hi⟩ := List.getElem?_of_mem hfm
 have hil := (List.getElem?_eq_some_iff.1 hi).1
 obtain ⟨y, hy⟩ : ∃ y, vals[i]? = some y := ⟨_, List.getElem?_eq_getElem (by omega)⟩
 have hz : (f.nm, y) ∈ ((fdsOf fl).map Fd.nm).zip vals := by
  refine List.mem_of_getElem? (i := i) ?_
  rw [List.getElem?_zip_eq_some]
  exact ⟨by rw [List.getElem?_map, hi]; rfl, hy⟩
 have hg : getF v f.nm = some y := by
  rw [h2, objP_zip hlen]
  exact getF_in (by rw [List.map_fst_zip (by omega)]; exact hnd) hz
 have hp : PJ 3 (.mk 6 [] ((fdsOf fl).map Fd.nm) vals) r s := h2 ▸ h.p
 obtain ⟨y', s', g1, g2⟩ := (getF_pj (nm := f.nm) hnd hlen hp).1 y (by rw [← h2]; exact hg)
 have hin : (f.nm, y') ∈ rs := by
  rw [hr] at g1
  rw [getF_ps] at g1
  obtain ⟨p, hp1, hp2⟩ := Option.map_eq_some_iff.1 g1
  have hpk : p.1 = f.nm := by simpa using List.find?_some hp1
  have := List.mem_of_find?_eq_some hp1
  rw [← hpk, ← hp2]; exact this
 exact ⟨y', hin, tells_val (hok f hfm) hc hfx (h4 i f y hi hy) g2⟩
theorem blanks_bind {c : Cd} {path s : List UInt8} {v r : JV} {k : Nat} {fl : List Fg} {c' : Cd} (hc : c.ok) (hfx : FxB c.fx) (hs : fewFx c.fx) (htt : totT c ≤ 1048576) (h : RqOk c path s v r k fl c') {rs : List (List UInt8 × JV)} (hr : r = objP rs) (hlen : s.length ≤ 20000) {m0 : Mem} {q : List Mem} (hq : (m0 :: q).map (fun m => (m.n, m.v)) = rs)
 (hp : ∀ m ∈ m0 :: q, PJ 32 m.v m.r m.t) : (txtB m0 q).length ≤ 65536 ∧ ∃ o, parseF (txtB m0 q) = some o ∧ o.k = 6 ∧ smV 33 o ∧ (bindF (fdsOf fl) c.kind o).1 = 0 ∧ (bindF (fdsOf fl) c.kind o).2.fx = c.fx ∧ ∀ fv, cellsC (bindF (fdsOf fl) c.kind o).2 fv = cellsC c fv := by
 obtain ⟨rs', hr', hb, hem, htl⟩ := back_tells hc hfx h
 have hrs : rs' = rs := by
  have e : objP rs' = objP rs := hr' ▸ hr
  have := congrArg (fun v : JV => v.ns.zip v.l) e
  simpa [objP, JV.ns, JV.l, zip_ps] using this
 subst hrs
 have hm := List.mem_of_getElem? h.x
 have hok : ∀ f ∈ fdsOf fl, f.ok := rt_fdok hm
 obtain ⟨p1, p2, p3, p4⟩ := req_print hc hfx hs htt h (n := 33) (by decide)
 have hg32 := good_ps.1 (hr' ▸ p1)
 obtain ⟨o1, o2, o3, o4⟩ := ok_ps.1 (hr' ▸ p2)
 obtain ⟨s1, s2⟩ := sm_ps.1 (hr' ▸ p3)
 have hmem : ∀ m ∈ m0 :: q, (m.n, m.v) ∈ rs' := fun m hm => hq ▸ List.mem_map.2 ⟨m, hm, rfl⟩
 -- each member is printed as it was
 have hpr : ∀ m ∈ m0 :: q, m.r = m.v := by
  intro m hmm
  have hp3 : PJ 33 (.mk v.k v.t v.ns v.l) r s := by
   have := PJ_mono h.p (m := 33) (by decide)
   cases v
   exact this
  rcases (show _ ∨ _ ∨ _ ∨ _ from hp3) with ⟨_, hx, _⟩ | ⟨_, hx, _⟩ | ⟨_, hx, _⟩ | ⟨hk, ms, hpm, hsn, hmp, hx, _⟩
  · rw [hr'] at hx; injection hx with hx; exact absurd hx (by decide)
  · rw [hr'] at hx; injection hx with hx; exact absurd hx (by decide)
  · rw [hr'] at hx; injection hx with hx; omega
  have hrs2 : rs' = ms.map fun m => (m.n, m.r) := by
   rw [hr'] at hx
   have := congrArg (fun v : JV => v.ns.zip v.l) hx
   simpa [objP, JV.ns, JV.l, zip_ps, zip_map_n] using this
  have hin := hmem m hmm
  rw [hrs2] at hin
  obtain ⟨a, ha, hae⟩ := List.mem_map.1 hin
  injection hae with hae1 hae2
  have hpa : PJ 32 a.v a.r a.t := hmp a ha
  have hoa : okF 32 1 a.v := by
   have hv : okF 33 0 (.mk v.k v.t v.ns v.l) := by
    have := okF_mono h.f (m := 33) (by decide)
    cases v
    exact this
   exact (hv.2.2 hk).2.2.2.2.2 _ (pj_mem hpm ha).2
  exact (hae2 ▸ (pj_idem 32 1 a.v a.r a.t m.r m.t hoa hpa (hae2 ▸ hp m hmm)).1)
 have hreq : (m0 :: q).map (fun m => (m.n, m.r)) = rs' := by
  rw [← hq]
  exact List.map_congr_left fun m hm => by rw [hpr m hm]
 have hrd : ∀ m ∈ m0 :: q, Lib.validD m.n = true ∧ Rd 1 m.t.length m.r m.t := fun m hmm => by
  obtain ⟨a1, a2⟩ := o1 _ (hmem m hmm)
  exact ⟨a1, pj_rd 32 1 m.v m.r m.t (hg32 _ (hmem m hmm)) a2 (hp m hmm)⟩
 have hkeys : (m0 :: q).map (·.n) = rs'.map (·.1) := by rw [← hq, List.map_map]; rfl
 have hcount : (m0 :: q).length = rs'.length := by rw [← hq, List.length_map]
 have hfl : rs'.length ≤ 15 := by
  have := hb.pm.length_eq
  rw [List.length_map, List.length_map] at this
  rw [this]
  unfold fdsOf
  rw [List.length_map]
  exact nm_len _ hm
 have htl2 : (txtB m0 q).length ≤ 65536 := by
  rw [txtB_len, mem_len7]
  have e1 : ((m0 :: q).map fun m => (quoteL m.n).length + 2 + m.t.length).sum = lenP 32 rs' := by
   unfold lenP
   rw [← hq, List.map_map]
   congr 1
   exact List.map_congr_left fun m hmm => by
    show _ = (quoteL m.n).length + 2 + lenJ 32 m.v
    rw [pj_len 32 m.v m.r m.t (hp m hmm)]
  have e2 := (lenJ_le 32 rs').2 (by rw [← hq]; simp)
  rw [← hr', p4] at e2
  rw [e1]
  omega
 refine ⟨htl2, _, txt_parse hrd (by rw [hkeys]; exact o4) (by omega) htl2, rfl, ?_, ?_⟩
 · rw [List.map_reverse, hreq]
   exact sm_ps.2 ⟨by rw [List.length_reverse]; exact s1, fun p hp => s2 p (List.mem_reverse.1 hp)⟩
 · rw [List.map_reverse, hreq]
   have hnd : ((rs'.reverse).map (·.1)).Nodup := by rw [List.map_reverse]; exact ((List.reverse_perm _).nodup_iff).2 hb.nd
   refine bind_tells hok hem (fun f hf => ?_) ?_
   · obtain ⟨y, h1, h2⟩ := htl f hf
     exact ⟨y, getF_in hnd (List.mem_reverse.2 h1), h2⟩
   · have e : (objP rs'.reverse).ns = rs'.reverse.map (·.1) := rfl
     rw [e, List.length_map, List.length_reverse]
     have := hb.pm.length_eq
     rw [List.length_map, List.length_map] at this
     omega
def voidW (w : World) (b : Nat) : World := { w with heap := w.heap.setIfInBounds b (.cells #[] 0 (0, 0)) }
theorem void_ne (w : World) {b k : Nat} (h : k ≠ b) : (voidW w b).heap[k]? = w.heap[k]? := by
 show (w.heap.setIfInBounds b _)[k]? = _
 rw [Array.getElem?_setIfInBounds_ne (fun e => h e.symm)]
theorem void_cell (w : World) {b : Nat} (hb : b < w.heap.size) (o : Int) (n : Nat) (x : Value) : ¬ (voidW w b).cell? ⟨b, n, none⟩ = some x := by
 have e : (voidW w b).heap[b]? = some (.cells #[] 0 (0, 0)) := by
  show (w.heap.setIfInBounds b _)[b]? = _
  rw [Array.getElem?_setIfInBounds_self_of_lt hb]
 unfold World.cell?
 rw [e]
 simp
def rowsL (s : Nat) (rows : List (List Value)) : Prop := ∀ r ∈ rows, r.length = s
theorem rw_void {s : Nat} {lv : Value} {rows rows' : List (List Value)} {w : World} {b : Nat} (hs : 0 < s) (hl : rowsL s rows') (hlen : rows'.length = rows.length) (hne : rows ≠ []) (h : RwAt s lv rows w) (hb : lv.ownBlock = some b) (h2 : RwAt s lv rows' (voidW w b)) : False := by
 rcases h with ⟨h, _⟩ | ⟨b', off, c, _, rfl, _, hlt⟩
 · exact hne h
 have e : b' = b := by simpa [Value.ownBlock] using hb
 subst e
 rcases h2 with ⟨h, _⟩ | ⟨b2, off2, c2, _, e2, hr, _⟩
 · rw [h] at hlen; exact hne (List.eq_nil_of_length_eq_zero hlen.symm)
 have e3 : b2 = b' := by injection e2 with e2 _ _; injection e2 with e2; injection e2 with e2 _ _; exact e2.symm
 subst e3
 cases rows' with
 | nil => exact hne (List.eq_nil_of_length_eq_zero hlen.symm)
 | cons r rows' =>
   cases r with
   | nil => have := hl [] (.head _); simp at this; omega
   | cons x r => exact void_cell w hlt 0 _ x (hr 0 (x :: r) rfl 0 x rfl)
theorem rw_same {s : Nat} {lv : Value} {rows rows' : List (List Value)} {w w' : World} (hl : rowsL s rows) (hl' : rowsL s rows') (hlen : rows'.length = rows.length) (hw : ∀ b, lv.ownBlock = some b → rows ≠ [] → w'.heap[b]? = w.heap[b]?) (h : RwAt s lv rows w) (h2 : RwAt s lv rows' w') : rows' = rows := by
 rcases h with ⟨h, _⟩ | ⟨b, off, c, hne, rfl, hr, hlt⟩
 · subst h; exact List.eq_nil_of_length_eq_zero hlen
 rcases h2 with ⟨h, _⟩ | ⟨b2, off2, c2, _, e2, hr2, _⟩
 · subst h; exact absurd (List.eq_nil_of_length_eq_zero hlen.symm) hne
 injection e2 with e2 _ _; injection e2 with e2; injection e2 with e3 e4 _
 subst e3 e4
 have hwb := hw b rfl hne
 refine List.ext_getElem? fun i => ?_
 rcases Nat.lt_or_ge i rows.length with hi | hi
 · obtain ⟨x, hx⟩ : ∃ x, rows[i]? = some x := ⟨_, List.getElem?_eq_getElem hi⟩
   obtain ⟨y, hy⟩ : ∃ y, rows'[i]? = some y := ⟨_, List.getElem?_eq_getElem (by omega)⟩
   rw [hx, hy]
   have lx := hl x (List.mem_of_getElem? hx)
   have ly := hl' y (List.mem_of_getElem? hy)
   congr 1
   refine List.ext_getElem? fun j => ?_
   rcases Nat.lt_or_ge j s with hj | hj
   · obtain ⟨u, hu⟩ : ∃ u, x[j]? = some u := ⟨_, List.getElem?_eq_getElem (by omega)⟩
     obtain ⟨v, hv⟩ : ∃ v, y[j]? = some v := ⟨_, List.getElem?_eq_getElem (by omega)⟩
     have c1 := hr i x hx j u hu
     have c2 := hr2 i y hy j v hv
     unfold World.cell? at c1 c2
     rw [hwb] at c2
     rw [c1] at c2
     rw [hu, hv]; exact c2.symm
   · rw [List.getElem?_eq_none (by omega), List.getElem?_eq_none (by omega)]
 · rw [List.getElem?_eq_none hi, List.getElem?_eq_none (by omega)]
theorem kid_rows {d : Nat} {l : List JV} {rows : List (List Value)} {w : World} (hlen : rows.length = l.length) (h : ∀ (i : Nat) (v : JV) (r : List Value), l[i]? = some v → rows[i]? = some r → JAt d v r w) : rowsL 4 rows := fun r hr => by
 obtain ⟨i, hi⟩ := List.getElem?_of_mem hr
 have hil := (List.getElem?_eq_some_iff.1 hi).1
 obtain ⟨v, hv⟩ : ∃ v, l[i]? = some v := ⟨_, List.getElem?_eq_getElem (by omega)⟩
 obtain ⟨lv, nv, _, _, e⟩ := (h i v r hv hi).four
 rw [e]; rfl
theorem jx_open {d : Nat} {x : JX} {w : World} (h : (jxA (d + 1) x).ok w) : ∃ (lv nv : Value) (rows : List (List Value)), x.cs = [.int .i64 (x.v.k : Int), .string (tx x.v.t), lv, nv] ∧ rows.length = x.v.l.length ∧ rowsL 4 rows ∧
 ∀ w', (∀ b, x.F b → w'.heap[b]? = w.heap[b]?) → RwAt 1 nv (x.v.ns.map encS) w' ∧ RwAt 4 lv rows w' ∧ ∀ (i : Nat) (v : JV) (r : List Value), x.v.l[i]? = some v → rows[i]? = some r → JAt d v r w' := by
 obtain ⟨v, cs, F, hlen, hone⟩ := x
 have hh : ∀ w', (∀ b, F b → w'.heap[b]? = w.heap[b]?) → JAt (d + 1) v cs w' := h.hold
 clear h
 obtain ⟨k, t, ns, l⟩ := v
 obtain ⟨lv, nv, rows, e, hn, hr, hl, hk⟩ := hh w (fun _ _ => rfl)
 have hrl := kid_rows hl hk
 have hF : ∀ b, lv.ownBlock = some b → rows ≠ [] → F b := fun b hb hne => by
  apply Classical.byContradiction
  intro hnf
  obtain ⟨lv', nv', rows', e', hn', hr', hl', hk'⟩ := hh (voidW w b) (fun k hk => void_ne w (fun ek => hnf (ek ▸ hk)))
  rw [e] at e'
  injection e' with _ e'; injection e' with _ e'; injection e' with e1 e'; injection e' with e2 _
  subst e1 e2
  exact rw_void (by decide) (kid_rows hl' hk') (hl'.trans hl.symm) hne hr hb hr'
 refine ⟨lv, nv, rows, e, hl, hrl, fun w' hw => ?_⟩
 obtain ⟨lv', nv', rows', e', hn', hr', hl', hk'⟩ := hh w' hw
 rw [e] at e'
 injection e' with _ e'; injection e' with _ e'; injection e' with e1 e'; injection e' with e2 _
 subst e1 e2
 obtain rfl : rows' = rows := rw_same hrl (kid_rows hl' hk') (hl'.trans hl.symm) (fun b hb hne => hw b (hF b hb hne)) hr hr'
 exact ⟨hn', hr', hk'⟩
def kidX (v : JV) (cs : List Value) (h : cs.length = 4) (h1 : cs.all isOne = true) : JX := ⟨v, cs, fun _ => False, h, h1⟩
theorem jat_one {d : Nat} {v : JV} {cs : List Value} {w : World} (h : JAt d v cs w) : cs.length = 4 ∧ cs.all isOne = true := by
 obtain ⟨lv, nv, ⟨a, m, c, rfl⟩, ⟨a2, m2, c2, rfl⟩, rfl⟩ := h.four
 exact ⟨rfl, rfl⟩
theorem kids_of {d : Nat} {w : World} : ∀ (l : List JV) (rows : List (List Value)), rows.length = l.length → (∀ (i : Nat) (v : JV) (r : List Value), l[i]? = some v → rows[i]? = some r → JAt d v r w) → ∃ ks : List JX, ks.map JX.v = l ∧ ks.map JX.cs = rows
 | [], [], _, _ => ⟨[], rfl, rfl⟩
 | [], _ :: _, h, _ => by simp at h
 | _ :: _, [], h, _ => by simp at h
 | v :: l, r :: rows, h, hk => by
   obtain ⟨ks, h1, h2⟩ := kids_of l rows (by simpa using h) (fun i v r hv hr => hk (i + 1) v r hv hr)
   obtain ⟨l4, lo⟩ := jat_one (hk 0 v r rfl rfl)
   exact ⟨kidX v r l4 lo :: ks, by rw [List.map_cons, h1]; rfl, by rw [List.map_cons, h2]; rfl⟩
def objφ (nv lv : Value) (ns : List (List UInt8)) (ks : List JX) (d : Nat) (w : World) : Prop := RwAt 1 nv (ns.map encS) w ∧ RwAt 4 lv (ks.map JX.cs) w ∧ ∀ x ∈ ks, JAt d x.v x.cs w
def objA (F : Nat → Prop) (nv lv : Value) (ns : List (List UInt8)) (ks : List JX) (d : Nat) : Asn := .any F (objφ nv lv ns ks d) true
theorem jx_obj {d : Nat} {x : JX} {w : World} (h : (jxA (d + 1) x).ok w) : ∃ (lv nv : Value) (ks : List JX), x.cs = [.int .i64 (x.v.k : Int), .string (tx x.v.t), lv, nv] ∧ ks.map JX.v = x.v.l ∧ (objA x.F nv lv x.v.ns ks d).ok w := by
 obtain ⟨lv, nv, rows, e, hl, _, hh⟩ := jx_open h
 obtain ⟨hn, hr, hk⟩ := hh w (fun _ _ => rfl)
 obtain ⟨ks, h1, h2⟩ := kids_of _ rows hl hk
 refine ⟨lv, nv, ks, e, h1, h.lt, fun w' hw => ?_⟩
 obtain ⟨hn', hr', hk'⟩ := hh w' hw
 refine ⟨hn', by rw [h2]; exact hr', fun y hy => ?_⟩
 obtain ⟨i, hi⟩ := List.getElem?_of_mem hy
 exact hk' i y.v y.cs (by rw [← h1, List.getElem?_map, hi]; rfl) (by rw [← h2, List.getElem?_map, hi]; rfl)
theorem rw_cell {s : Nat} {v : Value} {rows : List (List Value)} {w : World} (h : RwAt s v rows w) {i : Nat} {r : List Value} (hi : rows[i]? = some r) : ∃ b off c, v = .slice (some ⟨b, off, none⟩) rows.length c ∧ ∀ (j : Nat) (u : Value), r[j]? = some u → w.cell? ⟨b, off + i * s + j, none⟩ = some u := by
 rcases h with ⟨rfl, _⟩ | ⟨b, off, c, _, rfl, hr, _⟩
 · cases hi
 · exact ⟨b, off, c, rfl, fun j u hj => hr i r hi j u hj⟩
section
variable {α : Type} {l : List α} {k wn : Nat} {x : α}
end
theorem pr_done {n : Nat} {v : JV} (x : PrR n v) (hok : okF n 0 v) (hl : lenJ n v ≤ 65536) : ∃ (b cap : Nat) (o : JV) (s : List UInt8), prV n v x = .tuple [.slice (some ⟨b, 0, none⟩) s.length cap, .int .i64 0].toArray ∧ prY n v x = bbA 5 b (bsI s) ∧ PJ n v o s ∧ s.length ≤ 65536 ∧ s.length ≤ cap := by
 rcases x with ⟨⟨⟨b, cap⟩, o, s⟩, h1, h2, h3, h4⟩ | ⟨e, _, h⟩
 · exact ⟨b, cap, o, s, rfl, rfl, h2, h3, h4⟩
 · have := h hok; omega
theorem txa_bb {b c : Nat} {l : List UInt8} {w : World} (h : (bbA 5 b (bsI l)).φ w) (hc : l.length ≤ c) (hn : l.length ≤ 1100000) : TxA w (some ⟨b, 0, none⟩) c l :=
 ⟨by have h2 := bb_by h (c := c) (by rw [bsI_len]; exact hc); rwa [bsI_len] at h2, hn⟩
theorem rq_open {c : Cd} (x : RqR c) : ∃ (me pa : ByteArray) (q : Option Addr) (m cp : Nat) (e : Int), rqV c x = .tuple [.agg [.string me, .string pa, .slice q m cp, .bool false].toArray, .int .i64 e].toArray ∧
 ((e = 0 ∧ ∃ pb path s v r k fl c', RqOk c path s v r k fl c' ∧ s.length ≤ cp ∧ me = ⟨#[80, 79, 83, 84]⟩ ∧ pa = tx path ∧ q = some ⟨pb, 0, none⟩ ∧ m = s.length ∧ rqY c x = bbA 5 pb (bsI s)) ∨ m = 0 ∨ e ≠ 0) := by
 rcases x with ⟨⟨⟨pb, cap⟩, path, s⟩, ⟨v, r, k, fl, c', h⟩, hc⟩ | ⟨p, h⟩ | ⟨e, h⟩
 · exact ⟨_, _, _, _, _, _, rfl, .inl ⟨rfl, pb, path, s, v, r, k, fl, c', h, hc, rfl, rfl, rfl, rfl, rfl⟩⟩
 · exact ⟨_, _, _, _, _, _, rfl, .inr (.inl rfl)⟩
 · exact ⟨_, _, _, _, _, _, rfl, .inr (.inr h)⟩
theorem rt_ne : ∀ x ∈ rtG, x.2 ≠ [] := by
 intro x hx
 have h : ∀ y ∈ rtG.map (fun x => x.2.length), y ≠ 0 := by decide +kernel
 exact fun e => h _ (List.mem_map.2 ⟨x, hx, rfl⟩) (by rw [e]; rfl)
theorem back_len {fl : List Fg} {rs : List (List UInt8 × JV)} (hb : Back (fdsOf fl) rs) : rs.length = fl.length := by
 have := hb.pm.length_eq
 rw [List.length_map, List.length_map] at this
 rw [this]; unfold fdsOf; rw [List.length_map]
def parA (F : Nat → Prop) (nb no nc lb lo lc : Nat) (ns : List (List UInt8)) (ks : List JX) : Asn := objA F (.slice (some ⟨nb, no, none⟩) ks.length nc) (.slice (some ⟨lb, lo, none⟩) ks.length lc) ns ks 32
theorem rw_head {s b off m c : Nat} {rows : List (List Value)} {w : World} (h : RwAt s (.slice (some ⟨b, off, none⟩) m c) rows w) : RowAt b off s rows w := by
 rcases h with ⟨rfl, _⟩ | ⟨b', off', c', _, e, hr, _⟩
 · intro i x hx; cases hx
 · injection e with e _ _; injection e with e; injection e with e1 e2 _
   subst e1 e2; exact hr
section
variable {F : Nat → Prop} {nb no nc lb lo lc : Nat} {ns : List (List UInt8)} {ks : List JX} {w : World}
theorem par_name (h : (parA F nb no nc lb lo lc ns ks).φ w) {k : Nat} {x : List UInt8} (hx : ns[k]? = some x) : w.cell? ⟨nb, no + k * 1, none⟩ = some (.string (tx x)) := by
 have := rw_head h.1 k (encS x) (by rw [List.getElem?_map, hx]; rfl) 0 (.string (tx x)) rfl
 exact this
theorem par_kid (h : (parA F nb no nc lb lo lc ns ks).φ w) {k : Nat} {x : JX} (hx : ks[k]? = some x) : ∀ (j : Nat) (u : Value), x.cs[j]? = some u → w.cell? ⟨lb, lo + k * 4 + j, none⟩ = some u :=
 rw_head h.2.1 k x.cs (by rw [List.getElem?_map, hx]; rfl)
theorem par_kids (h : (parA F nb no nc lb lo lc ns ks).φ w) : ∀ x ∈ ks, JAt 32 x.v x.cs w := h.2.2
end
theorem kid_four {x : JX} {d : Nat} {w : World} (h : JAt d x.v x.cs w) : ∃ (k : Int) (s : ByteArray) (a1 : Option Addr) (a2 a3 : Nat) (a4 : Option Addr) (a5 a6 : Nat), x.cs = [.int .i64 k, .string s, .slice a1 a2 a3, .slice a4 a5 a6] := by
 obtain ⟨lv, nv, ⟨a1, a2, a3, rfl⟩, ⟨a4, a5, a6, rfl⟩, e⟩ := h.four
 exact ⟨_, _, a1, a2, a3, a4, a5, a6, e⟩
theorem obj_open {x : JX} {rs : List (List UInt8 × JV)} {w : World} (h : (jxA 33 x).ok w) (hx : x.v = objP rs) (hne : rs ≠ []) : ∃ (nb no nc lb lo lc : Nat) (ks : List JX), x.cs = [.int .i64 6, .string ⟨#[]⟩, .slice (some ⟨lb, lo, none⟩) ks.length lc, .slice (some ⟨nb, no, none⟩) ks.length nc] ∧ ks.map JX.v = rs.map (·.2) ∧ (parA x.F nb no nc lb lo lc (rs.map (·.1)) ks).ok w := by
 obtain ⟨lv, nv, ks, e1, hks, hob⟩ := jx_obj h
 rw [hx] at e1 hks hob
 have hks2 : ks.map JX.v = rs.map (·.2) := hks
 have hl : ks.length = rs.length := by have := congrArg List.length hks2; simpa using this
 have h0 : 0 < rs.length := List.length_pos_iff.2 hne
 obtain ⟨hn, hk, _⟩ := hob.now
 have hn2 : RwAt 1 nv ((rs.map (·.1)).map encS) w := hn
 obtain ⟨r0, hr0⟩ : ∃ r, ((rs.map (·.1)).map encS)[0]? = some r := ⟨_, List.getElem?_eq_getElem (by simpa using h0)⟩
 obtain ⟨nb, no, nc, hnv, _⟩ := rw_cell hn2 hr0
 obtain ⟨r1, hr1⟩ : ∃ r, (ks.map JX.cs)[0]? = some r := ⟨_, List.getElem?_eq_getElem (by rw [List.length_map]; omega)⟩
 obtain ⟨lb, lo, lc, hlv, _⟩ := rw_cell hk hr1
 rw [List.length_map, List.length_map, ← hl] at hnv
 rw [List.length_map] at hlv
 subst hnv hlv
 exact ⟨nb, no, nc, lb, lo, lc, ks, e1, hks2, hob⟩
section
variable {rs : List (List UInt8 × JV)} {ks : List JX} {ns : List (List UInt8)} {wn : Nat}
end
end Go.Proofs.YtlccmgeclhdegaaGreatDoor
namespace Go.Proofs.YtlccmgeclhdegaaGreatDoor
open Go.RowKit
theorem facts_step {fs : List Fct} {k : Nat} {x : Fct} (h : fs[k]? = some x) : (fs.take (k + 1)).flatMap encF = (fs.take k).flatMap encF ++ (encF x ++ []) := by
 rw [take_next h, List.flatMap_append]; rfl
set_option maxHeartbeats 1000000 in
set_option maxRecDepth 100000 in
theorem frFacts11_N (W0 : World) (fa : Option Addr) (fc : Nat) (fs : List Fct) (hn : fs.length ≤ 1000) (hF : FctC W0 fa fs) (w0 : World) (ho : oldφ W0 w0) :
 NewC Tryz.prog 47 [.slice fa fs.length fc] w0 (fun v : Option Addr × Nat => .slice v.1 fs.length v.2) (fun v => ownA 139 4 (.slice v.1 fs.length v.2) fs.length (fs.flatMap encF)) := by
 refine c_enter [(0, .slice fa fs.length fc)] [oldA W0] noB Tryz.func47 rfl Tryz.ntmps47 ⟨rfl, trivial⟩ rfl (okC (old_ok ho) okN) dis1 (mineC rfl mineN) ?_
 intro a hS
 refine cS (cR ?_)
 refine L_e hS (e_assign rfl) rfl ?_; clear hS a; intro a hS
 refine nL (nT (cS (cR ?_)))
 refine L_e hS (e_assign rfl) rfl ?_; clear hS a; intro a hS
 refine nL (nT (cS (cS (cR ?_))))
 refine L_e hS (e_assign rfl) rfl ?_; clear hS a; intro a hS
 refine nL (nT (wB ?_))
 skip
 refine c_loop (γ := Nat × Value) (fun G a w => St 36 noB w0 a w [(4, .int .i64 (G.1 : Int)), (3, G.2), (0, .slice fa fs.length fc)] [ownA 139 4 G.2 G.1 ((fs.take G.1).flatMap encF), oldA W0] ∧ G.1 ≤ fs.length) (fun G => fs.length - G.1) (0, .slice none 0 0) ⟨((hS.own_nil 139 4).slots (by repeat (first | exact trivial | refine ⟨rfl, ?_⟩))).pick (by repeat (first | exact Pick.nil | (refine Pick.cons (by repeat (first | exact Rem.head | apply Rem.tail)) ?_))), Nat.zero_le _⟩ ?_
 clear hS a; intro G a w hI
 obtain ⟨k, lv⟩ := G
 obtain ⟨hS, hk⟩ := hI
 simp only at hS hk
 obtain ⟨ql, cl, rfl⟩ := own_slice (hS.gg (X := ownA 139 4 lv k ((fs.take k).flatMap encF)))
 refine cS (cS (cR ?_))
 refine Rn hS (.m rfl <| .m rfl <| .c (e_len rfl rfl ty_sl22) <| .c (e_bin rfl rfl rfl) .n) ?_; clear hS a; intro a hS
 refine nL (nT ?_)
 (first | refine c_ifD hS rfl ?_ ?_ | refine c_if hS rfl ?_ ?_) <;> intro hc8
 ·
  have hkn : k < fs.length := by omega
  obtain ⟨x, hx⟩ : ∃ x, fs[k]? = some x := ⟨_, List.getElem?_eq_getElem hkn⟩
  obtain ⟨nb, no, rfl, hcell⟩ := hF.c (fun e => by rw [e] at hkn; exact absurd hkn (Nat.not_lt_zero _))
  refine wS (nT (cS (wB ?_)))
  refine c_drawS [] (by kernel_rfl) hS (sub_cons (X := oldA W0) (by repeat constructor) sub_nil) ?_; clear hS; intro w hS
  simp only [List.length_cons, List.length_nil, Nat.zero_add, Nat.reduceAdd, List.replicate]
  refine Ry hS (.o 0 (tf 1 24) rfl wN (e_move rfl) rfl <| .o 1 (tf 2 23) rfl wN (e_move rfl) rfl <| .o 2 (tf 3 22) rfl wN (e_move rfl) rfl <| .o 3 (tf 4 21) rfl wN (e_ixN rfl rfl ty_sl22 ty_sz160 (by omega)) rfl .n) ?_; clear hS a; intro a hS
  (first | refine Zt0 4 (tf 5 20) hS rfl want_none (e_fa0 rfl ty_fo160_0) rfl (by kernel_rfl) rfl ?_ | refine Zt0 4 (tf 5 20) hS rfl want_none (e_faK rfl ty_fo160_0) rfl (by kernel_rfl) rfl ?_); clear hS a; intro a hS
  refine Rz hS (sub_cons (by repeat constructor) sub_nil) (.y 5 (tf 6 19) rfl wN (e_loadC (v := .string (tx x.nm)) rfl ty_sc9 (fun w hh => old_cell (hh (oldA W0) (by repeat constructor)) (hcell k x hx 0 _ rfl))) rfl <| .o 6 (tf 7 18) rfl wN (e_move rfl) rfl <| .o 7 (tf 8 17) rfl wN (e_move rfl) rfl <| .o 8 (tf 9 16) rfl wN (e_ixN rfl rfl ty_sl22 ty_sz160 (by omega)) rfl .n) ?_; clear hS a; intro a hS
  (first | refine Zt0 9 (tf 10 15) hS rfl want_none (e_fa0 rfl ty_fo160_1) rfl (by kernel_rfl) rfl ?_ | refine Zt0 9 (tf 10 15) hS rfl want_none (e_faK rfl ty_fo160_1) rfl (by kernel_rfl) rfl ?_); clear hS a; intro a hS
  refine Rz hS (sub_cons (by repeat constructor) sub_nil) (.y 10 (tf 11 14) rfl wN (e_loadC (v := .int .i64 x.ty) rfl ty_sc3 (fun w hh => old_cell (hh (oldA W0) (by repeat constructor)) (hcell k x hx 1 _ rfl))) rfl <| .o 11 (tf 12 13) rfl wN (e_move rfl) rfl <| .o 12 (tf 13 12) rfl wN (e_move rfl) rfl <| .o 13 (tf 14 11) rfl wN (e_ixN rfl rfl ty_sl22 ty_sz160 (by omega)) rfl .n) ?_; clear hS a; intro a hS
  (first | refine Zt0 14 (tf 15 10) hS rfl want_none (e_fa0 rfl ty_fo160_2) rfl (by kernel_rfl) rfl ?_ | refine Zt0 14 (tf 15 10) hS rfl want_none (e_faK rfl ty_fo160_2) rfl (by kernel_rfl) rfl ?_); clear hS a; intro a hS
  refine Rz hS (sub_cons (by repeat constructor) sub_nil) (.y 15 (tf 16 9) rfl wN (e_loadC (v := .int .i64 x.n) rfl ty_sc3 (fun w hh => old_cell (hh (oldA W0) (by repeat constructor)) (hcell k x hx 2 _ rfl))) rfl <| .o 16 (tf 17 8) rfl wN (e_move rfl) rfl <| .o 17 (tf 18 7) rfl wN (e_move rfl) rfl <| .o 18 (tf 19 6) rfl wN (e_ixN rfl rfl ty_sl22 ty_sz160 (by omega)) rfl .n) ?_; clear hS a; intro a hS
  (first | refine Zt0 19 (tf 20 5) hS rfl want_none (e_fa0 rfl ty_fo160_3) rfl (by kernel_rfl) rfl ?_ | refine Zt0 19 (tf 20 5) hS rfl want_none (e_faK rfl ty_fo160_3) rfl (by kernel_rfl) rfl ?_); clear hS a; intro a hS
  refine Rz hS (sub_cons (by repeat constructor) sub_nil) (.y 20 (tf 21 4) rfl wN (e_loadC (v := .string (tx x.s)) rfl ty_sc9 (fun w hh => old_cell (hh (oldA W0) (by repeat constructor)) (hcell k x hx 3 _ rfl))) rfl <| .o 21 (tf 22 3) rfl wN (e_build ty_z139 ty_pl139 (.one rfl rfl rfl (by repeat constructor) (.one rfl rfl rfl (by repeat constructor) (.one rfl rfl rfl (by repeat constructor) (.one rfl rfl rfl (by repeat constructor) .nil))))) rfl .n) ?_; clear hS a; intro a hS
  refine Zo 22 (tf 23 2) hS rfl wN rfl (s_bslice hS ty_sl46 ty_sz139 ty_z139 rfl rfl rfl rfl (.agg rfl rfl .nil) rfl ?_); clear hS a; intro a w b33 hS
  refine Z_and hS (sub_cons (by repeat constructor) sub_nil) ?_
  refine Zo 23 (tf 24 1) hS rfl wN rfl (s_append1 hS rfl rfl ty_sl46 ty_sz139 ty_by139 ty_z139 rfl rfl rfl (by repeat constructor) (by repeat constructor) (by rfl) (by rfl) (fun _ => (by repeat constructor)) (by omega) ?_); clear hS a; intro v34 a w hv34 hS
  obtain ⟨q34, c34, rfl⟩ := own_slice (hS.gg (X := ownA 139 4 v34 (k + 1) _))
  refine Z_and hS (sub_cons (by repeat constructor) sub_nil) ?_
  refine Zt0 24 (tf 25 0) hS rfl want_none (e_assign rfl) rfl (by kernel_rfl) rfl ?_; clear hS a; intro a hS
  refine Z_done (by kernel_rfl) ?_
  refine n_block (nT (cR ?_))
  refine L_e hS (e_move rfl) rfl ?_; clear hS a; intro a hS
  (first | refine L_e hS (e_binN rfl rfl rfl (by omega)) rfl ?_ | refine L_e hS (e_bin rfl rfl rfl) rfl ?_); clear hS a; intro a hS
  refine L_e hS (e_assign rfl) rfl ?_; clear hS a; intro a hS
  refine nL ?_
  have e := facts_step hx
  unfold encF at e
  refine ⟨(k + 1, .slice q34 (k + 1) c34), by show fs.length - (k + 1) < fs.length - k; omega, ?_, hkn⟩
  show St _ _ _ _ _ _ [ownA _ _ _ _ ((fs.take (k + 1)).flatMap encF), _]
  unfold encF
  rw [e]
  exact (hS.slots (by repeat (first | exact trivial | refine ⟨rfl, ?_⟩))).pick (by repeat (first | exact Pick.nil | (refine Pick.cons (by repeat (first | exact Rem.head | apply Rem.tail)) ?_)))
 obtain rfl : k = fs.length := by omega
 rw [List.take_length] at hS
 refine wp_exit ?_
 refine x_then (x_then (x_hit ?_))
 refine nT (cS (cR ?_))
 refine Rn hS (.m rfl <| .a rfl .n) ?_; clear hS a; intro a hS
 refine nL (nT (wp_ret ?_))
 refine c_ret1 hS Tryz.results47 (.tmp rfl) ?_
 exact ⟨(ql, cl), rfl, hS.chg, hS.ok (ownA 139 4 (.slice ql fs.length cl) fs.length (fs.flatMap encF)) (by repeat constructor), fun b hb => (hS.mine (ownA 139 4 (.slice ql fs.length cl) fs.length (fs.flatMap encF)) (by repeat constructor) rfl b hb).resolve_right id⟩
set_option maxRecDepth 100000 in
theorem frCommand_N (W0 : World) (fa : Option Addr) (fc : Nat) (c : Cd) (hn : c.fx.length ≤ 1000) (hF : FctC W0 fa c.fx) (w0 : World) (ho : oldφ W0 w0) :
 NewC Tryz.prog 16 [.agg (cellsC c (.slice fa c.fx.length fc)).toArray] w0 (fun v : Option Addr × Nat => .agg (cellsC c (.slice v.1 c.fx.length v.2)).toArray) (fun v => ownA 139 4 (.slice v.1 c.fx.length v.2) c.fx.length (c.fx.flatMap encF)) := by
 refine c_enter [(0, .agg (cellsC c (.slice fa c.fx.length fc)).toArray)] [oldA W0] noB Tryz.func16 rfl Tryz.ntmps16 ⟨rfl, trivial⟩ rfl (okC (old_ok ho) okN) dis1 (mineC rfl mineN) ?_
 intro a hS
 refine cS (cR ?_)
 refine L_op (s_boxA hS rfl rfl ?_); clear hS a; intro a w b1 hS
 refine L_op (s_alloc hS ty_z48 rfl ?_); clear hS a; intro a w b2 hS
 refine nL (nT (cS ?_))
 refine c_drawS [32] (by kernel_rfl) hS (sub_cons (X := .blk b1 (cellsC c (.slice fa c.fx.length fc)) 24) (by repeat constructor) (sub_cons (X := oldA W0) (by repeat constructor) sub_nil)) ?_; clear hS; intro w hS
 simp only [List.length_cons, List.length_nil, Nat.zero_add, Nat.reduceAdd, List.replicate]
 (first | refine Zt0 0 (tf 1 32) hS rfl want_none (e_fa0 rfl ty_fo24_0) rfl (by kernel_rfl) rfl ?_ | refine Zt0 0 (tf 1 32) hS rfl want_none (e_faK rfl ty_fo24_0) rfl (by kernel_rfl) rfl ?_); clear hS a; intro a hS
 refine Zt 1 (tf 2 31) hS rfl want_none (e_load rfl (by repeat constructor) ty_sc3 (by rfl)) rfl (by kernel_rfl) (sub_cons (by repeat constructor) (sub_cons (by repeat constructor) sub_nil)) rfl ?_; clear hS a; intro a hS
 (first | refine Zt0 2 (tf 3 30) hS rfl want_none (e_fa0 rfl ty_fo24_1) rfl (by kernel_rfl) rfl ?_ | refine Zt0 2 (tf 3 30) hS rfl want_none (e_faK rfl ty_fo24_1) rfl (by kernel_rfl) rfl ?_); clear hS a; intro a hS
 refine Zt 3 (tf 4 29) hS rfl want_none (e_load rfl (by repeat constructor) ty_sc9 (by rfl)) rfl (by kernel_rfl) (sub_cons (by repeat constructor) (sub_cons (by repeat constructor) sub_nil)) rfl ?_; clear hS a; intro a hS
 (first | refine Zt0 4 (tf 5 28) hS rfl want_none (e_fa0 rfl ty_fo24_2) rfl (by kernel_rfl) rfl ?_ | refine Zt0 4 (tf 5 28) hS rfl want_none (e_faK rfl ty_fo24_2) rfl (by kernel_rfl) rfl ?_); clear hS a; intro a hS
 refine Zt 5 (tf 6 27) hS rfl want_none (e_load rfl (by repeat constructor) ty_sc9 (by rfl)) rfl (by kernel_rfl) (sub_cons (by repeat constructor) (sub_cons (by repeat constructor) sub_nil)) rfl ?_; clear hS a; intro a hS
 (first | refine Zt0 6 (tf 7 26) hS rfl want_none (e_fa0 rfl ty_fo24_3) rfl (by kernel_rfl) rfl ?_ | refine Zt0 6 (tf 7 26) hS rfl want_none (e_faK rfl ty_fo24_3) rfl (by kernel_rfl) rfl ?_); clear hS a; intro a hS
 refine Zt 7 (tf 8 25) hS rfl want_none (e_load rfl (by repeat constructor) ty_sc9 (by rfl)) rfl (by kernel_rfl) (sub_cons (by repeat constructor) (sub_cons (by repeat constructor) sub_nil)) rfl ?_; clear hS a; intro a hS
 (first | refine Zt0 8 (tf 9 24) hS rfl want_none (e_fa0 rfl ty_fo24_4) rfl (by kernel_rfl) rfl ?_ | refine Zt0 8 (tf 9 24) hS rfl want_none (e_faK rfl ty_fo24_4) rfl (by kernel_rfl) rfl ?_); clear hS a; intro a hS
 refine Zt 9 (tf 10 23) hS rfl want_none (e_load rfl (by repeat constructor) ty_sc9 (by rfl)) rfl (by kernel_rfl) (sub_cons (by repeat constructor) (sub_cons (by repeat constructor) sub_nil)) rfl ?_; clear hS a; intro a hS
 (first | refine Zt0 10 (tf 11 22) hS rfl want_none (e_fa0 rfl ty_fo24_5) rfl (by kernel_rfl) rfl ?_ | refine Zt0 10 (tf 11 22) hS rfl want_none (e_faK rfl ty_fo24_5) rfl (by kernel_rfl) rfl ?_); clear hS a; intro a hS
 refine Zt 11 (tf 12 21) hS rfl want_none (e_load rfl (by repeat constructor) ty_sc9 (by rfl)) rfl (by kernel_rfl) (sub_cons (by repeat constructor) (sub_cons (by repeat constructor) sub_nil)) rfl ?_; clear hS a; intro a hS
 (first | refine Zt0 12 (tf 13 20) hS rfl want_none (e_fa0 rfl ty_fo24_6) rfl (by kernel_rfl) rfl ?_ | refine Zt0 12 (tf 13 20) hS rfl want_none (e_faK rfl ty_fo24_6) rfl (by kernel_rfl) rfl ?_); clear hS a; intro a hS
 refine Zt 13 (tf 14 19) hS rfl want_none (e_load rfl (by repeat constructor) ty_sc9 (by rfl)) rfl (by kernel_rfl) (sub_cons (by repeat constructor) (sub_cons (by repeat constructor) sub_nil)) rfl ?_; clear hS a; intro a hS
 (first | refine Zt0 14 (tf 15 18) hS rfl want_none (e_fa0 rfl ty_fo24_7) rfl (by kernel_rfl) rfl ?_ | refine Zt0 14 (tf 15 18) hS rfl want_none (e_faK rfl ty_fo24_7) rfl (by kernel_rfl) rfl ?_); clear hS a; intro a hS
 refine Zt 15 (tf 16 17) hS rfl want_none (e_load rfl (by repeat constructor) ty_sc3 (by rfl)) rfl (by kernel_rfl) (sub_cons (by repeat constructor) (sub_cons (by repeat constructor) sub_nil)) rfl ?_; clear hS a; intro a hS
 (first | refine Zt0 16 (tf 17 16) hS rfl want_none (e_fa0 rfl ty_fo24_8) rfl (by kernel_rfl) rfl ?_ | refine Zt0 16 (tf 17 16) hS rfl want_none (e_faK rfl ty_fo24_8) rfl (by kernel_rfl) rfl ?_); clear hS a; intro a hS
 refine Zt 17 (tf 18 15) hS rfl want_none (e_load rfl (by repeat constructor) ty_sc3 (by rfl)) rfl (by kernel_rfl) (sub_cons (by repeat constructor) (sub_cons (by repeat constructor) sub_nil)) rfl ?_; clear hS a; intro a hS
 (first | refine Zt0 18 (tf 19 14) hS rfl want_none (e_fa0 rfl ty_fo24_9) rfl (by kernel_rfl) rfl ?_ | refine Zt0 18 (tf 19 14) hS rfl want_none (e_faK rfl ty_fo24_9) rfl (by kernel_rfl) rfl ?_); clear hS a; intro a hS
 refine Zt 19 (tf 20 13) hS rfl want_none (e_load rfl (by repeat constructor) ty_sc3 (by rfl)) rfl (by kernel_rfl) (sub_cons (by repeat constructor) (sub_cons (by repeat constructor) sub_nil)) rfl ?_; clear hS a; intro a hS
 (first | refine Zt0 20 (tf 21 12) hS rfl want_none (e_fa0 rfl ty_fo24_10) rfl (by kernel_rfl) rfl ?_ | refine Zt0 20 (tf 21 12) hS rfl want_none (e_faK rfl ty_fo24_10) rfl (by kernel_rfl) rfl ?_); clear hS a; intro a hS
 refine Zt 21 (tf 22 11) hS rfl want_none (e_load rfl (by repeat constructor) ty_sc3 (by rfl)) rfl (by kernel_rfl) (sub_cons (by repeat constructor) (sub_cons (by repeat constructor) sub_nil)) rfl ?_; clear hS a; intro a hS
 (first | refine Zt0 22 (tf 23 10) hS rfl want_none (e_fa0 rfl ty_fo24_11) rfl (by kernel_rfl) rfl ?_ | refine Zt0 22 (tf 23 10) hS rfl want_none (e_faK rfl ty_fo24_11) rfl (by kernel_rfl) rfl ?_); clear hS a; intro a hS
 refine Zt 23 (tf 24 9) hS rfl want_none (e_load rfl (by repeat constructor) ty_sc3 (by rfl)) rfl (by kernel_rfl) (sub_cons (by repeat constructor) (sub_cons (by repeat constructor) sub_nil)) rfl ?_; clear hS a; intro a hS
 (first | refine Zt0 24 (tf 25 8) hS rfl want_none (e_fa0 rfl ty_fo24_12) rfl (by kernel_rfl) rfl ?_ | refine Zt0 24 (tf 25 8) hS rfl want_none (e_faK rfl ty_fo24_12) rfl (by kernel_rfl) rfl ?_); clear hS a; intro a hS
 refine Zt 25 (tf 26 7) hS rfl want_none (e_load rfl (by repeat constructor) ty_sc3 (by rfl)) rfl (by kernel_rfl) (sub_cons (by repeat constructor) (sub_cons (by repeat constructor) sub_nil)) rfl ?_; clear hS a; intro a hS
 (first | refine Zt0 26 (tf 27 6) hS rfl want_none (e_fa0 rfl ty_fo24_13) rfl (by kernel_rfl) rfl ?_ | refine Zt0 26 (tf 27 6) hS rfl want_none (e_faK rfl ty_fo24_13) rfl (by kernel_rfl) rfl ?_); clear hS a; intro a hS
 refine Zt 27 (tf 28 5) hS rfl want_none (e_load rfl (by repeat constructor) ty_sc3 (by rfl)) rfl (by kernel_rfl) (sub_cons (by repeat constructor) (sub_cons (by repeat constructor) sub_nil)) rfl ?_; clear hS a; intro a hS
 (first | refine Zt0 28 (tf 29 4) hS rfl want_none (e_fa0 rfl ty_fo24_14) rfl (by kernel_rfl) rfl ?_ | refine Zt0 28 (tf 29 4) hS rfl want_none (e_faK rfl ty_fo24_14) rfl (by kernel_rfl) rfl ?_); clear hS a; intro a hS
 refine Zt 29 (tf 30 3) hS rfl want_none (e_load rfl (by repeat constructor) ty_sc22 (by rfl)) rfl (by kernel_rfl) (sub_cons (by repeat constructor) (sub_cons (by repeat constructor) sub_nil)) rfl ?_; clear hS a; intro a hS
 refine Zo 30 (tf 31 2) hS rfl wN rfl (s_callN hS (.cons rfl .nil) cf47 rfl (frFacts11_N W0 fa fc c.fx hn hF _ (hS.gg (X := oldA W0))) ?_); clear hS a; intro x33 a w hS
 obtain ⟨qv, cv⟩ := x33
 refine Z_and hS (sub_cons (by repeat constructor) (sub_cons (by repeat constructor) sub_nil)) ?_
 refine Zt0 31 (tf 32 1) hS rfl want_none (e_build ty_z48 ty_pl48 (.one rfl rfl rfl (by repeat constructor) (.one rfl rfl rfl (by repeat constructor) (.one rfl rfl rfl (by repeat constructor) (.one rfl rfl rfl (by repeat constructor) (.one rfl rfl rfl (by repeat constructor) (.one rfl rfl rfl (by repeat constructor) (.one rfl rfl rfl (by repeat constructor) (.one rfl rfl rfl (by repeat constructor) (.one rfl rfl rfl (by repeat constructor) (.one rfl rfl rfl (by repeat constructor) (.one rfl rfl rfl (by repeat constructor) (.one rfl rfl rfl (by repeat constructor) (.one rfl rfl rfl (by repeat constructor) (.one rfl rfl rfl (by repeat constructor) (.one rfl rfl rfl (by repeat constructor) .nil)))))))))))))))) rfl (by kernel_rfl) rfl ?_; clear hS a; intro a hS
 refine Zo 32 (tf 33 0) hS rfl wN rfl (s_storeA hS rfl rfl ty_sz48 (by repeat constructor) (by rfl) (by rfl) (by rfl) ?_); clear hS; intro w hS
 refine Z_last (by simp) ?_
 refine Z_done (by kernel_rfl) ?_
 refine nT (wp_ret ?_)
 refine c_ret1 hS Tryz.results16 (.cellA rfl (by repeat constructor) ty_st48 ty_sz48 (by rfl)) ?_
 exact ⟨(qv, cv), rfl, hS.chg, hS.ok (ownA 139 4 (.slice qv c.fx.length cv) c.fx.length (c.fx.flatMap encF)) (by repeat constructor), fun b hb => (hS.mine (ownA 139 4 (.slice qv c.fx.length cv) c.fx.length (c.fx.flatMap encF)) (by repeat constructor) rfl b hb).resolve_right id⟩
set_option maxHeartbeats 1000000 in
set_option maxRecDepth 100000 in
theorem frSame11_P (W0 : World) (fa wa : Option Addr) (fc wc : Nat) (fs : List Fct) (hn : fs.length ≤ 1000) (hF : FctC W0 fa fs) (hW : FctC W0 wa fs) (w0 : World) (ho : oldφ W0 w0) : PureC Tryz.prog 46 [.slice fa fs.length fc, .slice wa fs.length wc] w0 (.bool true) := by
 refine c_enter [(0, .slice fa fs.length fc), (1, .slice wa fs.length wc)] [oldA W0] noB Tryz.func46 rfl Tryz.ntmps46 ⟨rfl, rfl, trivial⟩ rfl (okC (old_ok ho) okN) dis1 (mineC rfl mineN) ?_
 intro a hS
 refine cS (cR ?_)
 refine L_e hS (e_assign rfl) rfl ?_; clear hS a; intro a hS
 refine nL (nT (cS (cS (cR ?_))))
 refine Rn hS (.m rfl <| .c (e_len rfl rfl ty_sl22) <| .m rfl <| .c (e_len rfl rfl ty_sl46) <| .c (e_bin rfl rfl rfl) .n) ?_; clear hS a; intro a hS
 refine nL (nT ?_)
 replace hS := hS.is (t := 10) (c := false) rfl (decide_eq_false (fun h => h rfl))
 refine c_if_f hS rfl ?_
 refine wS (nT (cS (cS (cR ?_))))
 refine L_e hS (e_assign rfl) rfl ?_; clear hS a; intro a hS
 refine nL (nT (wB ?_))
 skip
 refine c_loop (γ := Nat) (fun k a w => St 67 noB w0 a w [(5, .int .i64 (k : Int)), (0, .slice fa fs.length fc), (1, .slice wa fs.length wc)] [oldA W0] ∧ k ≤ fs.length) (fun k => fs.length - k) 0 ⟨hS.slots (by repeat (first | exact trivial | refine ⟨rfl, ?_⟩)), Nat.zero_le _⟩ ?_
 clear hS a; intro k a w hI
 obtain ⟨hS, hk⟩ := hI
 refine cS (cS (cR ?_))
 refine Rn hS (.m rfl <| .m rfl <| .c (e_len rfl rfl ty_sl22) <| .c (e_bin rfl rfl rfl) .n) ?_; clear hS a; intro a hS
 refine nL (nT ?_)
 (first | refine c_ifD hS rfl ?_ ?_ | refine c_if hS rfl ?_ ?_) <;> intro hc14
 ·
  have hkn : k < fs.length := by omega
  obtain ⟨x, hx⟩ : ∃ x, fs[k]? = some x := ⟨_, List.getElem?_eq_getElem hkn⟩
  obtain ⟨nb, no, rfl, hcell⟩ := hF.c (fun e => by rw [e] at hkn; exact absurd hkn (Nat.not_lt_zero _))
  obtain ⟨mb, mo, rfl, wcell⟩ := hW.c (fun e => by rw [e] at hkn; exact absurd hkn (Nat.not_lt_zero _))
  refine wS (nT (cS (wB (cS ?_))))
  refine c_drawS [] (by kernel_rfl) hS (sub_cons (X := oldA W0) (by repeat constructor) sub_nil) ?_; clear hS; intro w hS
  simp only [List.length_cons, List.length_nil, Nat.zero_add, Nat.reduceAdd, List.replicate]
  refine Ry hS (.o 0 (tf 1 49) rfl wN (e_move rfl) rfl <| .o 1 (tf 2 48) rfl wN (e_move rfl) rfl <| .o 2 (tf 3 47) rfl wN (e_ixN rfl rfl ty_sl22 ty_sz160 (by omega)) rfl .n) ?_; clear hS a; intro a hS
  (first | refine Zt0 3 (tf 4 46) hS rfl want_none (e_fa0 rfl ty_fo160_0) rfl (by kernel_rfl) rfl ?_ | refine Zt0 3 (tf 4 46) hS rfl want_none (e_faK rfl ty_fo160_0) rfl (by kernel_rfl) rfl ?_); clear hS a; intro a hS
  refine Rz hS (sub_cons (by repeat constructor) sub_nil) (.y 4 (tf 5 45) rfl wN (e_loadC (v := .string (tx x.nm)) rfl ty_sc9 (fun w hh => old_cell (hh (oldA W0) (by repeat constructor)) (hcell k x hx 0 _ rfl))) rfl <| .o 5 (tf 6 44) rfl wN (e_move rfl) rfl <| .o 6 (tf 7 43) rfl wN (e_move rfl) rfl <| .o 7 (tf 8 42) rfl wN (e_ixN rfl rfl ty_sl46 ty_sz139 (by omega)) rfl .n) ?_; clear hS a; intro a hS
  (first | refine Zt0 8 (tf 9 41) hS rfl want_none (e_fa0 rfl ty_fo139_0) rfl (by kernel_rfl) rfl ?_ | refine Zt0 8 (tf 9 41) hS rfl want_none (e_faK rfl ty_fo139_0) rfl (by kernel_rfl) rfl ?_); clear hS a; intro a hS
  refine Rz hS (sub_cons (by repeat constructor) sub_nil) (.y 9 (tf 10 40) rfl wN (e_loadC (v := .string (tx x.nm)) rfl ty_sc9 (fun w hh => old_cell (hh (oldA W0) (by repeat constructor)) (wcell k x hx 0 _ rfl))) rfl <| .o 10 (tf 11 39) rfl wN (e_binS rfl rfl rfl) rfl <| .o 11 (tf 12 38) rfl wN (e_move rfl) rfl .n) ?_; clear hS a; intro a hS
  replace hS := hS.is (t := 28) (c := false) rfl (decide_eq_false (fun h => h rfl))
  refine Ry hS (.o 12 (tf 13 37) rfl (want_go rfl rfl) (e_move rfl) rfl <| .o 13 (tf 14 36) rfl (want_go rfl rfl) (e_move rfl) rfl <| .o 14 (tf 15 35) rfl (want_go rfl rfl) (e_ixN rfl rfl ty_sl22 ty_sz160 (by omega)) rfl .n) ?_; clear hS a; intro a hS
  (first | refine Zt0 15 (tf 16 34) hS rfl (want_go rfl rfl) (e_fa0 rfl ty_fo160_1) rfl (by kernel_rfl) rfl ?_ | refine Zt0 15 (tf 16 34) hS rfl (want_go rfl rfl) (e_faK rfl ty_fo160_1) rfl (by kernel_rfl) rfl ?_); clear hS a; intro a hS
  refine Rz hS (sub_cons (by repeat constructor) sub_nil) (.y 16 (tf 17 33) rfl (want_go rfl rfl) (e_loadC (v := .int .i64 x.ty) rfl ty_sc3 (fun w hh => old_cell (hh (oldA W0) (by repeat constructor)) (hcell k x hx 1 _ rfl))) rfl <| .o 17 (tf 18 32) rfl (want_go rfl rfl) (e_move rfl) rfl <| .o 18 (tf 19 31) rfl (want_go rfl rfl) (e_move rfl) rfl <| .o 19 (tf 20 30) rfl (want_go rfl rfl) (e_ixN rfl rfl ty_sl46 ty_sz139 (by omega)) rfl .n) ?_; clear hS a; intro a hS
  (first | refine Zt0 20 (tf 21 29) hS rfl (want_go rfl rfl) (e_fa0 rfl ty_fo139_1) rfl (by kernel_rfl) rfl ?_ | refine Zt0 20 (tf 21 29) hS rfl (want_go rfl rfl) (e_faK rfl ty_fo139_1) rfl (by kernel_rfl) rfl ?_); clear hS a; intro a hS
  refine Rz hS (sub_cons (by repeat constructor) sub_nil) (.y 21 (tf 22 28) rfl (want_go rfl rfl) (e_loadC (v := .int .i64 x.ty) rfl ty_sc3 (fun w hh => old_cell (hh (oldA W0) (by repeat constructor)) (wcell k x hx 1 _ rfl))) rfl <| .o 22 (tf 23 27) rfl (want_go rfl rfl) (e_bin rfl rfl rfl) rfl <| .o 23 (tf 24 26) rfl wN (e_pk rfl rfl) rfl <| .o 24 (tf 25 25) rfl wN (e_move rfl) rfl .n) ?_; clear hS a; intro a hS
  replace hS := hS.is (t := 41) (c := false) rfl (decide_eq_false (fun h => h rfl))
  refine Ry hS (.o 25 (tf 26 24) rfl (want_go rfl rfl) (e_move rfl) rfl <| .o 26 (tf 27 23) rfl (want_go rfl rfl) (e_move rfl) rfl <| .o 27 (tf 28 22) rfl (want_go rfl rfl) (e_ixN rfl rfl ty_sl22 ty_sz160 (by omega)) rfl .n) ?_; clear hS a; intro a hS
  (first | refine Zt0 28 (tf 29 21) hS rfl (want_go rfl rfl) (e_fa0 rfl ty_fo160_2) rfl (by kernel_rfl) rfl ?_ | refine Zt0 28 (tf 29 21) hS rfl (want_go rfl rfl) (e_faK rfl ty_fo160_2) rfl (by kernel_rfl) rfl ?_); clear hS a; intro a hS
  refine Rz hS (sub_cons (by repeat constructor) sub_nil) (.y 29 (tf 30 20) rfl (want_go rfl rfl) (e_loadC (v := .int .i64 x.n) rfl ty_sc3 (fun w hh => old_cell (hh (oldA W0) (by repeat constructor)) (hcell k x hx 2 _ rfl))) rfl <| .o 30 (tf 31 19) rfl (want_go rfl rfl) (e_move rfl) rfl <| .o 31 (tf 32 18) rfl (want_go rfl rfl) (e_move rfl) rfl <| .o 32 (tf 33 17) rfl (want_go rfl rfl) (e_ixN rfl rfl ty_sl46 ty_sz139 (by omega)) rfl .n) ?_; clear hS a; intro a hS
  (first | refine Zt0 33 (tf 34 16) hS rfl (want_go rfl rfl) (e_fa0 rfl ty_fo139_2) rfl (by kernel_rfl) rfl ?_ | refine Zt0 33 (tf 34 16) hS rfl (want_go rfl rfl) (e_faK rfl ty_fo139_2) rfl (by kernel_rfl) rfl ?_); clear hS a; intro a hS
  refine Rz hS (sub_cons (by repeat constructor) sub_nil) (.y 34 (tf 35 15) rfl (want_go rfl rfl) (e_loadC (v := .int .i64 x.n) rfl ty_sc3 (fun w hh => old_cell (hh (oldA W0) (by repeat constructor)) (wcell k x hx 2 _ rfl))) rfl <| .o 35 (tf 36 14) rfl (want_go rfl rfl) (e_bin rfl rfl rfl) rfl <| .o 36 (tf 37 13) rfl wN (e_pk rfl rfl) rfl <| .o 37 (tf 38 12) rfl wN (e_move rfl) rfl .n) ?_; clear hS a; intro a hS
  replace hS := hS.is (t := 54) (c := false) rfl (decide_eq_false (fun h => h rfl))
  refine Ry hS (.o 38 (tf 39 11) rfl (want_go rfl rfl) (e_move rfl) rfl <| .o 39 (tf 40 10) rfl (want_go rfl rfl) (e_move rfl) rfl <| .o 40 (tf 41 9) rfl (want_go rfl rfl) (e_ixN rfl rfl ty_sl22 ty_sz160 (by omega)) rfl .n) ?_; clear hS a; intro a hS
  (first | refine Zt0 41 (tf 42 8) hS rfl (want_go rfl rfl) (e_fa0 rfl ty_fo160_3) rfl (by kernel_rfl) rfl ?_ | refine Zt0 41 (tf 42 8) hS rfl (want_go rfl rfl) (e_faK rfl ty_fo160_3) rfl (by kernel_rfl) rfl ?_); clear hS a; intro a hS
  refine Rz hS (sub_cons (by repeat constructor) sub_nil) (.y 42 (tf 43 7) rfl (want_go rfl rfl) (e_loadC (v := .string (tx x.s)) rfl ty_sc9 (fun w hh => old_cell (hh (oldA W0) (by repeat constructor)) (hcell k x hx 3 _ rfl))) rfl <| .o 43 (tf 44 6) rfl (want_go rfl rfl) (e_move rfl) rfl <| .o 44 (tf 45 5) rfl (want_go rfl rfl) (e_move rfl) rfl <| .o 45 (tf 46 4) rfl (want_go rfl rfl) (e_ixN rfl rfl ty_sl46 ty_sz139 (by omega)) rfl .n) ?_; clear hS a; intro a hS
  (first | refine Zt0 46 (tf 47 3) hS rfl (want_go rfl rfl) (e_fa0 rfl ty_fo139_3) rfl (by kernel_rfl) rfl ?_ | refine Zt0 46 (tf 47 3) hS rfl (want_go rfl rfl) (e_faK rfl ty_fo139_3) rfl (by kernel_rfl) rfl ?_); clear hS a; intro a hS
  refine Rz hS (sub_cons (by repeat constructor) sub_nil) (.y 47 (tf 48 2) rfl (want_go rfl rfl) (e_loadC (v := .string (tx x.s)) rfl ty_sc9 (fun w hh => old_cell (hh (oldA W0) (by repeat constructor)) (wcell k x hx 3 _ rfl))) rfl <| .o 48 (tf 49 1) rfl (want_go rfl rfl) (e_binS rfl rfl rfl) rfl <| .o 49 (tf 50 0) rfl wN (e_pk rfl rfl) rfl .n) ?_; clear hS a; intro a hS
  refine Z_done (by kernel_rfl) ?_
  refine nT ?_
  replace hS := hS.is (t := 66) (c := false) rfl (decide_eq_false (fun h => h rfl))
  refine c_if_f hS rfl ?_
  refine wS (n_block (nT (cR ?_)))
  refine L_e hS (e_move rfl) rfl ?_; clear hS a; intro a hS
  (first | refine L_e hS (e_binN rfl rfl rfl (by omega)) rfl ?_ | refine L_e hS (e_bin rfl rfl rfl) rfl ?_); clear hS a; intro a hS
  refine L_e hS (e_assign rfl) rfl ?_; clear hS a; intro a hS
  refine nL ?_
  exact ⟨k + 1, by omega, hS.slots (by repeat (first | exact trivial | refine ⟨rfl, ?_⟩)), hkn⟩
 refine wp_exit ?_
 refine x_then (x_then (x_hit ?_))
 refine nT (cS (cR ?_))
 refine L_e hS (e_assign rfl) rfl ?_; clear hS a; intro a hS
 refine nL (nT (wp_ret ?_))
 refine c_ret1 hS Tryz.results46 (.tmp rfl) ?_
 exact ⟨rfl, hS.chg⟩
set_option maxHeartbeats 1000000 in
set_option maxRecDepth 100000 in
theorem frSame_P (W0 : World) (fa wa : Option Addr) (fc wc : Nat) (c : Cd) (hn : c.fx.length ≤ 1000) (hF : FctC W0 fa c.fx) (hW : FctC W0 wa c.fx) (w0 : World) (ho : oldφ W0 w0) : PureC Tryz.prog 15 [.agg (cellsC c (.slice fa c.fx.length fc)).toArray, .agg (cellsC c (.slice wa c.fx.length wc)).toArray] w0 (.bool true) := by
 refine c_enter [(0, .agg (cellsC c (.slice fa c.fx.length fc)).toArray), (1, .agg (cellsC c (.slice wa c.fx.length wc)).toArray)] [oldA W0] noB Tryz.func15 rfl Tryz.ntmps15 ⟨rfl, rfl, trivial⟩ rfl (okC (old_ok ho) okN) dis1 (mineC rfl mineN) ?_
 intro a hS
 refine cS (cR ?_)
 refine L_op (s_boxA hS rfl rfl ?_); clear hS a; intro a w b2 hS
 refine L_op (s_boxA hS rfl rfl ?_); clear hS a; intro a w b3 hS
 refine L_e hS (e_assign rfl) rfl ?_; clear hS a; intro a hS
 refine nL (nT (cS (cR ?_)))
 (first | refine L_e hS (e_fa0 rfl ty_fo24_1) rfl ?_ | refine L_e hS (e_faK rfl ty_fo24_1) rfl ?_); clear hS a; intro a hS
 refine L_e hS (e_load rfl (by repeat constructor) ty_sc9 (by rfl)) rfl ?_; clear hS a; intro a hS
 (first | refine L_e hS (e_fa0 rfl ty_fo48_1) rfl ?_ | refine L_e hS (e_faK rfl ty_fo48_1) rfl ?_); clear hS a; intro a hS
 refine Rn hS (.c (e_load rfl (by repeat constructor) ty_sc9 (by rfl)) <| .c (e_binS rfl rfl rfl) <| .m rfl .n) ?_; clear hS a; intro a hS
 replace hS := hS.is (t := 12) (c := true) rfl ((by first | rfl | exact decide_eq_true rfl))
 (first | refine L_ge hS rfl rfl (e_fa0 rfl ty_fo24_2) rfl ?_ | refine L_ge hS rfl rfl (e_faK rfl ty_fo24_2) rfl ?_); clear hS a; intro a hS
 refine L_ge hS rfl rfl (e_load rfl (by repeat constructor) ty_sc9 (by rfl)) rfl ?_; clear hS a; intro a hS
 (first | refine L_ge hS rfl rfl (e_fa0 rfl ty_fo48_2) rfl ?_ | refine L_ge hS rfl rfl (e_faK rfl ty_fo48_2) rfl ?_); clear hS a; intro a hS
 refine Rn hS (.g rfl rfl (e_load rfl (by repeat constructor) ty_sc9 (by rfl)) <| .g rfl rfl (e_binS rfl rfl rfl) <| .c (e_pk rfl rfl) <| .m rfl .n) ?_; clear hS a; intro a hS
 replace hS := hS.is (t := 19) (c := true) rfl ((by first | rfl | exact decide_eq_true rfl))
 (first | refine L_ge hS rfl rfl (e_fa0 rfl ty_fo24_3) rfl ?_ | refine L_ge hS rfl rfl (e_faK rfl ty_fo24_3) rfl ?_); clear hS a; intro a hS
 refine L_ge hS rfl rfl (e_load rfl (by repeat constructor) ty_sc9 (by rfl)) rfl ?_; clear hS a; intro a hS
 (first | refine L_ge hS rfl rfl (e_fa0 rfl ty_fo48_3) rfl ?_ | refine L_ge hS rfl rfl (e_faK rfl ty_fo48_3) rfl ?_); clear hS a; intro a hS
 refine Rn hS (.g rfl rfl (e_load rfl (by repeat constructor) ty_sc9 (by rfl)) <| .g rfl rfl (e_binS rfl rfl rfl) <| .c (e_pk rfl rfl) <| .m rfl .n) ?_; clear hS a; intro a hS
 replace hS := hS.is (t := 26) (c := true) rfl ((by first | rfl | exact decide_eq_true rfl))
 (first | refine L_ge hS rfl rfl (e_fa0 rfl ty_fo24_4) rfl ?_ | refine L_ge hS rfl rfl (e_faK rfl ty_fo24_4) rfl ?_); clear hS a; intro a hS
 refine L_ge hS rfl rfl (e_load rfl (by repeat constructor) ty_sc9 (by rfl)) rfl ?_; clear hS a; intro a hS
 (first | refine L_ge hS rfl rfl (e_fa0 rfl ty_fo48_4) rfl ?_ | refine L_ge hS rfl rfl (e_faK rfl ty_fo48_4) rfl ?_); clear hS a; intro a hS
 refine Rn hS (.g rfl rfl (e_load rfl (by repeat constructor) ty_sc9 (by rfl)) <| .g rfl rfl (e_binS rfl rfl rfl) <| .c (e_pk rfl rfl) <| .m rfl .n) ?_; clear hS a; intro a hS
 replace hS := hS.is (t := 33) (c := true) rfl ((by first | rfl | exact decide_eq_true rfl))
 (first | refine L_ge hS rfl rfl (e_fa0 rfl ty_fo24_5) rfl ?_ | refine L_ge hS rfl rfl (e_faK rfl ty_fo24_5) rfl ?_); clear hS a; intro a hS
 refine L_ge hS rfl rfl (e_load rfl (by repeat constructor) ty_sc9 (by rfl)) rfl ?_; clear hS a; intro a hS
 (first | refine L_ge hS rfl rfl (e_fa0 rfl ty_fo48_5) rfl ?_ | refine L_ge hS rfl rfl (e_faK rfl ty_fo48_5) rfl ?_); clear hS a; intro a hS
 refine Rn hS (.g rfl rfl (e_load rfl (by repeat constructor) ty_sc9 (by rfl)) <| .g rfl rfl (e_binS rfl rfl rfl) <| .c (e_pk rfl rfl) <| .m rfl .n) ?_; clear hS a; intro a hS
 replace hS := hS.is (t := 40) (c := true) rfl ((by first | rfl | exact decide_eq_true rfl))
 (first | refine L_ge hS rfl rfl (e_fa0 rfl ty_fo24_6) rfl ?_ | refine L_ge hS rfl rfl (e_faK rfl ty_fo24_6) rfl ?_); clear hS a; intro a hS
 refine L_ge hS rfl rfl (e_load rfl (by repeat constructor) ty_sc9 (by rfl)) rfl ?_; clear hS a; intro a hS
 (first | refine L_ge hS rfl rfl (e_fa0 rfl ty_fo48_6) rfl ?_ | refine L_ge hS rfl rfl (e_faK rfl ty_fo48_6) rfl ?_); clear hS a; intro a hS
 refine Rn hS (.g rfl rfl (e_load rfl (by repeat constructor) ty_sc9 (by rfl)) <| .g rfl rfl (e_binS rfl rfl rfl) <| .c (e_pk rfl rfl) <| .a rfl .n) ?_; clear hS a; intro a hS
 refine nL (nT (cS (cR ?_)))
 (first | refine L_e hS (e_fa0 rfl ty_fo24_7) rfl ?_ | refine L_e hS (e_faK rfl ty_fo24_7) rfl ?_); clear hS a; intro a hS
 refine L_e hS (e_load rfl (by repeat constructor) ty_sc3 (by rfl)) rfl ?_; clear hS a; intro a hS
 (first | refine L_e hS (e_fa0 rfl ty_fo48_7) rfl ?_ | refine L_e hS (e_faK rfl ty_fo48_7) rfl ?_); clear hS a; intro a hS
 refine Rn hS (.c (e_load rfl (by repeat constructor) ty_sc3 (by rfl)) <| .c (e_bin rfl rfl rfl) <| .m rfl .n) ?_; clear hS a; intro a hS
 replace hS := hS.is (t := 52) (c := true) rfl ((by first | rfl | exact decide_eq_true rfl))
 (first | refine L_ge hS rfl rfl (e_fa0 rfl ty_fo24_8) rfl ?_ | refine L_ge hS rfl rfl (e_faK rfl ty_fo24_8) rfl ?_); clear hS a; intro a hS
 refine L_ge hS rfl rfl (e_load rfl (by repeat constructor) ty_sc3 (by rfl)) rfl ?_; clear hS a; intro a hS
 (first | refine L_ge hS rfl rfl (e_fa0 rfl ty_fo48_8) rfl ?_ | refine L_ge hS rfl rfl (e_faK rfl ty_fo48_8) rfl ?_); clear hS a; intro a hS
 refine Rn hS (.g rfl rfl (e_load rfl (by repeat constructor) ty_sc3 (by rfl)) <| .g rfl rfl (e_bin rfl rfl rfl) <| .c (e_pk rfl rfl) <| .m rfl .n) ?_; clear hS a; intro a hS
 replace hS := hS.is (t := 59) (c := true) rfl ((by first | rfl | exact decide_eq_true rfl))
 (first | refine L_ge hS rfl rfl (e_fa0 rfl ty_fo24_9) rfl ?_ | refine L_ge hS rfl rfl (e_faK rfl ty_fo24_9) rfl ?_); clear hS a; intro a hS
 refine L_ge hS rfl rfl (e_load rfl (by repeat constructor) ty_sc3 (by rfl)) rfl ?_; clear hS a; intro a hS
 (first | refine L_ge hS rfl rfl (e_fa0 rfl ty_fo48_9) rfl ?_ | refine L_ge hS rfl rfl (e_faK rfl ty_fo48_9) rfl ?_); clear hS a; intro a hS
 refine Rn hS (.g rfl rfl (e_load rfl (by repeat constructor) ty_sc3 (by rfl)) <| .g rfl rfl (e_bin rfl rfl rfl) <| .c (e_pk rfl rfl) <| .m rfl .n) ?_; clear hS a; intro a hS
 replace hS := hS.is (t := 66) (c := true) rfl ((by first | rfl | exact decide_eq_true rfl))
 (first | refine L_ge hS rfl rfl (e_fa0 rfl ty_fo24_10) rfl ?_ | refine L_ge hS rfl rfl (e_faK rfl ty_fo24_10) rfl ?_); clear hS a; intro a hS
 refine L_ge hS rfl rfl (e_load rfl (by repeat constructor) ty_sc3 (by rfl)) rfl ?_; clear hS a; intro a hS
 (first | refine L_ge hS rfl rfl (e_fa0 rfl ty_fo48_10) rfl ?_ | refine L_ge hS rfl rfl (e_faK rfl ty_fo48_10) rfl ?_); clear hS a; intro a hS
 refine Rn hS (.g rfl rfl (e_load rfl (by repeat constructor) ty_sc3 (by rfl)) <| .g rfl rfl (e_bin rfl rfl rfl) <| .c (e_pk rfl rfl) <| .m rfl .n) ?_; clear hS a; intro a hS
 replace hS := hS.is (t := 73) (c := true) rfl ((by first | rfl | exact decide_eq_true rfl))
 (first | refine L_ge hS rfl rfl (e_fa0 rfl ty_fo24_11) rfl ?_ | refine L_ge hS rfl rfl (e_faK rfl ty_fo24_11) rfl ?_); clear hS a; intro a hS
 refine L_ge hS rfl rfl (e_load rfl (by repeat constructor) ty_sc3 (by rfl)) rfl ?_; clear hS a; intro a hS
 (first | refine L_ge hS rfl rfl (e_fa0 rfl ty_fo48_11) rfl ?_ | refine L_ge hS rfl rfl (e_faK rfl ty_fo48_11) rfl ?_); clear hS a; intro a hS
 refine Rn hS (.g rfl rfl (e_load rfl (by repeat constructor) ty_sc3 (by rfl)) <| .g rfl rfl (e_bin rfl rfl rfl) <| .c (e_pk rfl rfl) <| .m rfl .n) ?_; clear hS a; intro a hS
 replace hS := hS.is (t := 80) (c := true) rfl ((by first | rfl | exact decide_eq_true rfl))
 (first | refine L_ge hS rfl rfl (e_fa0 rfl ty_fo24_12) rfl ?_ | refine L_ge hS rfl rfl (e_faK rfl ty_fo24_12) rfl ?_); clear hS a; intro a hS
 refine L_ge hS rfl rfl (e_load rfl (by repeat constructor) ty_sc3 (by rfl)) rfl ?_; clear hS a; intro a hS
 (first | refine L_ge hS rfl rfl (e_fa0 rfl ty_fo48_12) rfl ?_ | refine L_ge hS rfl rfl (e_faK rfl ty_fo48_12) rfl ?_); clear hS a; intro a hS
 refine Rn hS (.g rfl rfl (e_load rfl (by repeat constructor) ty_sc3 (by rfl)) <| .g rfl rfl (e_bin rfl rfl rfl) <| .c (e_pk rfl rfl) <| .m rfl .n) ?_; clear hS a; intro a hS
 replace hS := hS.is (t := 87) (c := true) rfl ((by first | rfl | exact decide_eq_true rfl))
 (first | refine L_ge hS rfl rfl (e_fa0 rfl ty_fo24_13) rfl ?_ | refine L_ge hS rfl rfl (e_faK rfl ty_fo24_13) rfl ?_); clear hS a; intro a hS
 refine L_ge hS rfl rfl (e_load rfl (by repeat constructor) ty_sc3 (by rfl)) rfl ?_; clear hS a; intro a hS
 (first | refine L_ge hS rfl rfl (e_fa0 rfl ty_fo48_13) rfl ?_ | refine L_ge hS rfl rfl (e_faK rfl ty_fo48_13) rfl ?_); clear hS a; intro a hS
 refine Rn hS (.g rfl rfl (e_load rfl (by repeat constructor) ty_sc3 (by rfl)) <| .g rfl rfl (e_bin rfl rfl rfl) <| .c (e_pk rfl rfl) <| .a rfl .n) ?_; clear hS a; intro a hS
 refine nL (nT (cS (cR ?_)))
 refine Rn hS (.m rfl <| .m rfl .n) ?_; clear hS a; intro a hS
 replace hS := hS.is (t := 95) (c := true) rfl ((by first | rfl | exact decide_eq_true rfl))
 refine Rn hS (.g rfl rfl (e_move rfl) <| .c (e_pk rfl rfl) <| .m rfl .n) ?_; clear hS a; intro a hS
 replace hS := hS.is (t := 98) (c := true) rfl ((by first | rfl | exact decide_eq_true rfl))
 (first | refine L_ge hS rfl rfl (e_fa0 rfl ty_fo24_0) rfl ?_ | refine L_ge hS rfl rfl (e_faK rfl ty_fo24_0) rfl ?_); clear hS a; intro a hS
 refine L_ge hS rfl rfl (e_load rfl (by repeat constructor) ty_sc3 (by rfl)) rfl ?_; clear hS a; intro a hS
 (first | refine L_ge hS rfl rfl (e_fa0 rfl ty_fo48_0) rfl ?_ | refine L_ge hS rfl rfl (e_faK rfl ty_fo48_0) rfl ?_); clear hS a; intro a hS
 refine Rn hS (.g rfl rfl (e_load rfl (by repeat constructor) ty_sc3 (by rfl)) <| .g rfl rfl (e_bin rfl rfl rfl) <| .c (e_pk rfl rfl) <| .m rfl .n) ?_; clear hS a; intro a hS
 replace hS := hS.is (t := 105) (c := true) rfl ((by first | rfl | exact decide_eq_true rfl))
 (first | refine L_ge hS rfl rfl (e_fa0 rfl ty_fo24_14) rfl ?_ | refine L_ge hS rfl rfl (e_faK rfl ty_fo24_14) rfl ?_); clear hS a; intro a hS
 refine L_ge hS rfl rfl (e_load rfl (by repeat constructor) ty_sc22 (by rfl)) rfl ?_; clear hS a; intro a hS
 (first | refine L_ge hS rfl rfl (e_fa0 rfl ty_fo48_14) rfl ?_ | refine L_ge hS rfl rfl (e_faK rfl ty_fo48_14) rfl ?_); clear hS a; intro a hS
 refine L_ge hS rfl rfl (e_load rfl (by repeat constructor) ty_sc46 (by rfl)) rfl ?_; clear hS a; intro a hS
 refine L_go hS rfl rfl (s_callP hS (.cons rfl (.cons rfl .nil)) cf46 rfl (frSame11_P W0 fa wa fc wc c.fx hn hF hW _ (hS.gg (X := oldA W0))) ?_); clear hS a; intro a w hS
 refine Rn hS (.c (e_pk rfl rfl) <| .a rfl .n) ?_; clear hS a; intro a hS
 refine nL (nT (wp_ret ?_))
 refine c_ret1 hS Tryz.results15 (.tmp rfl) ?_
 exact ⟨rfl, hS.chg⟩
def accB (q : List Mem) (j : Nat) : List UInt8 := match j, q with
 | 0, m :: q => 123 :: 32 :: (sepB q ++ memB m)
 | _, q => 123 :: 32 :: sepB q
theorem acc_nil (j : Nat) : accB [] j = [123, 32] := by cases j <;> rfl
theorem acc_more (q : List Mem) (m : Mem) (j : Nat) : accB q (j + 1) ++ memB m ++ [32, 44] = accB (m :: q) (j + 1) := by
 unfold accB
 simp [sepB_cons]
theorem acc_last (q : List Mem) (m : Mem) : accB q 1 ++ memB m = accB (m :: q) 0 := by
 unfold accB
 simp
theorem acc_end (q : List Mem) (m : Mem) : accB (m :: q) 0 ++ [10, 125] = txtB m q := by
 unfold accB txtB
 simp
theorem acc_len (q : List Mem) (j : Nat) : (accB q j).length ≤ (sepB q).length + 2 := by
 unfold accB
 split
 · rw [sepB_cons]; simp
 · simp
theorem sep_len {rs : List (List UInt8 × JV)} {q : List Mem} {j : Nat} (hq : q.map (fun m => (m.n, m.v)) = rs.drop j) (hp : ∀ m ∈ q, PJ 32 m.v m.r m.t) : (sepB q).length ≤ lenP 32 rs + 5 * rs.length := by
 have hl : q.length ≤ rs.length := by
  have := congrArg List.length hq
  rw [List.length_map, List.length_drop] at this
  omega
 have e1 : (q.map fun m => (quoteL m.n).length + 2 + m.t.length).sum = lenP 32 (rs.drop j) := by
  unfold lenP
  rw [← hq, List.map_map]
  congr 1
  exact List.map_congr_left fun m hmm => by
   show _ = (quoteL m.n).length + 2 + lenJ 32 m.v
   rw [pj_len 32 m.v m.r m.t (hp m hmm)]
 have e2 : lenP 32 rs = lenP 32 (rs.take j) + lenP 32 (rs.drop j) := by rw [← lenP_app, List.take_append_drop]
 rw [sepB_len, mem_len7, e1]
 omega
theorem lenP_mem {n : Nat} {rs : List (List UInt8 × JV)} {p : List UInt8 × JV} (h : p ∈ rs) : (quoteL p.1).length + 2 + lenJ n p.2 ≤ lenP n rs := by
 induction rs with
 | nil => cases h
 | cons x rs ih =>
   rw [lenP_cons]
   rcases List.mem_cons.1 h with rfl | h
   · omega
   · have := ih h; omega
theorem fct_own {E m : Nat} {q : Option Addr} {c : Nat} {fs : List Fct} {w : World} (h : (ownA E 4 (.slice q m c) fs.length (fs.flatMap encF)).ok w) : FctC w q fs := ⟨fun hne => by
  have h2 := rw_of_own (enc := encF) (fun _ => rfl) h
  rcases h2 with ⟨h3, _⟩ | ⟨b, off, c', _, e, hr, _⟩
  · exact absurd (List.map_eq_nil_iff.1 h3) hne
  · injection e with e _ _
    refine ⟨b, off, e, fun i x hx j u hu => ?_⟩
    exact hr i (encF x) (by rw [List.getElem?_map, hx]; rfl) j u hu⟩
theorem bn_ok {r : Int × Cd} {c : Cd} (x : BnR r) (h : r.1 = 0) (hfx : r.2.fx = c.fx) (hc : ∀ fv, cellsC r.2 fv = cellsC c fv) {w : World} (hy : (bnY r x).ok w) : ∃ (q : Option Addr) (cp : Nat), bnV r x = .tuple [.agg (cellsC c (.slice q c.fx.length cp)).toArray, .int .i64 0].toArray ∧ bnY r x = ownA 160 4 (.slice q c.fx.length cp) c.fx.length (c.fx.flatMap encF) := by
 rcases x with x | x
 · have e1 : bnY r (.inl x) = ownA 160 4 x.1 r.2.fx.length (r.2.fx.flatMap encF) := rfl
   rw [e1] at hy
   rw [hfx] at hy
   obtain ⟨q, cp, e⟩ := own_slice hy.now
   refine ⟨q, cp, ?_, ?_⟩
   · show Value.tuple [.agg (cellsC r.2 x.1).toArray, .int .i64 0].toArray = _
     rw [hc, e]
   · rw [e1, hfx, e]
 · exact absurd h x.2
theorem by_txt {b c : Nat} {l : List UInt8} {w : World} (h : (bbA 5 b (bsI l)).φ w) (hc : l.length ≤ c) : ByAt (.slice (some ⟨b, 0, none⟩) l.length c) (bsI l) w := by
 have h2 := bb_by h (c := c) (by rw [bsI_len]; exact hc)
 rwa [bsI_len] at h2
section
variable {P : Program} {n : NN} {a : Act} {L : List (Nat × Value)} {Γ : List Asn} {dst : Option Tmp} {ty : Nat} {pos : String} {af : Array Edge} {g : Option (Nat × Bool)}
theorem e_catT {t t' : TypeId} {x y : Operand} {i j : List UInt8} (hx : ev L x = some (.string (tx i))) (hy : ev L y = some (.string (tx j))) (hb : i.length + j.length ≤ 9223372036854775807) :
 Ex P n a L Γ ⟨dst, .binOp .add t x y t', ty, pos, af, g⟩ (.string (tx (i ++ j))) := by
 rw [← tx_app]
 exact e_cat hx hy (by rw [tx_size, tx_size]; exact hb)
end
end Go.Proofs.YtlccmgeclhdegaaGreatDoor
namespace Go.Proofs.YtlccmgeclhdegaaGreatDoor
open Go.RowKit
set_option maxHeartbeats 8000000 in
set_option maxRecDepth 100000 in
theorem FrontBlanks_P (W0 : World) (hG : Gj W0) (c : Cd) (hc : c.ok) (hfx : FxB c.fx) (htt : totT c ≤ 1048576) (fa : Option Addr) (fc : Nat) (hF : FctC W0 fa c.fx) (w0 : World) (hold : oldφ W0 w0) :
 PureC Tryz.prog 3 [.agg (cellsC c (.slice fa c.fx.length fc)).toArray] w0 (.bool true) := by
 refine c_enter [(0, .agg (cellsC c (.slice fa c.fx.length fc)).toArray)] [oldA W0] noB Tryz.func3 rfl Tryz.ntmps3 ⟨rfl, trivial⟩ rfl (okC (old_ok hold) okN) dis1 (mineC rfl mineN) ?_
 intro a hS
 refine cS (cR ?_)
 refine L_op (s_boxA hS rfl rfl ?_); clear hS a; intro a w b1 hS
 refine L_e hS (e_assign rfl) rfl ?_; clear hS a; intro a hS
 refine nL (nT (cS (cR ?_)))
 refine L_op (s_callP hS .nil cf7 rfl (frFirst_P W0 hG _ (hS.gg (X := oldA W0))) ?_); clear hS a; intro a w hS
 refine L_e hS (e_assign rfl) rfl ?_; clear hS a; intro a hS
 refine nL (nT (cS (cS (cR ?_))))
 refine Rn hS (.m rfl <| .c (e_not rfl) <| .m rfl .n) ?_; clear hS a; intro a hS
 replace hS := hS.is (t := 18) (c := false) rfl (rfl)
 refine L_ge hS rfl rfl (e_loadA (cs := cellsC c (.slice fa c.fx.length fc)) rfl (by repeat constructor) ty_st24 ty_sz24 rfl) rfl ?_; clear hS a; intro a hS
 refine L_go hS rfl rfl (s_callN hS (.cons rfl .nil) cf8 rfl (frFew_N W0 fa fc c hF _ (hS.gg (X := oldA W0))) ?_); clear hS a; intro x20 a w hS
 obtain ⟨bs, hbs⟩ := x20
 simp only at hS
 refine Rn hS (.g rfl rfl (e_not rfl) <| .c (e_pk rfl rfl) .n) ?_; clear hS a; intro a hS
 refine nL (nT ?_)
 (first | refine c_ifD hS rfl ?_ ?_ | refine c_if hS rfl ?_ ?_) <;> intro hc22
 ·
  refine cS (cR ?_)
  refine Rn hS (.m rfl <| .a rfl .n) ?_; clear hS a; intro a hS
  refine nL (nT (wp_ret (r_then ?_)))
  refine c_ret1 hS Tryz.results3 (.tmp rfl) ?_
  exact ⟨rfl, hS.chg⟩
 have hsmall : smallC c := hbs.1 (by cases bs with | true => rfl | false => exact absurd hc22 (by simp))
 refine wS (nT (cS (cR ?_)))
 refine L_e hS (e_loadA (cs := cellsC c (.slice fa c.fx.length fc)) rfl (by repeat constructor) ty_st24 ty_sz24 rfl) rfl ?_; clear hS a; intro a hS
 refine L_op (s_callN hS (.cons rfl .nil) cf9 rfl (fRequest_S W0 hG c hc hfx hsmall.1.1 htt fa fc hF _ (hS.gg (X := oldA W0))) ?_); clear hS a; intro x26 a w hS
 obtain ⟨me, pa, q0, mm, cp, e, hrv, hrc⟩ := rq_open x26
 rw [hrv] at hS
 refine Rn hS (.m rfl <| .c (e_extract rfl rfl) <| .c (e_extract rfl rfl) .n) ?_; clear hS a; intro a hS
 refine L_op (s_alloc hS ty_z29 rfl ?_); clear hS a; intro a w b4 hS
 refine L_op (s_storeA hS rfl rfl ty_sz29 (by repeat constructor) (by rfl) (by rfl) (by rfl) ?_); clear hS; intro w hS
 refine L_e hS (e_assign rfl) rfl ?_; clear hS a; intro a hS
 refine nL (nT (cS (cS (cR ?_))))
 refine L_e hS (e_move rfl) rfl ?_; clear hS a; intro a hS
 refine L_op (s_callP hS (.cons rfl .nil) cf10 rfl (lNum_P e _) ?_); clear hS a; intro a w hS
 refine Rn hS (.c (e_bin rfl rfl rfl) <| .m rfl .n) ?_; clear hS a; intro a hS
 refine L_merge 5 37 (.bool (decide (e ≠ 0 ∨ mm = 0))) hS ?_ ?_
 · intro hcM37
   (first | refine g_splitD (t := 32) hS rfl ?_ ?_ | refine g_split (t := 32) hS rfl ?_ ?_) <;> (clear hS; intro hg32 hS)
   ·
    refine Rn hS (.f rfl rfl <| .f rfl rfl <| .f rfl rfl <| .f rfl rfl <| .c (e_pk rfl rfl) .n) ?_; clear hS a; intro a hS
    exact hcM37 _ _ (hS.ends 6 37 32 rfl (congrArg Value.bool (by exact (decide_eq_true (.inl hg32)).symm)) rfl rfl (by first | exact congrArg Value.bool (decide_eq_true hg32).symm | exact congrArg Value.bool hg32.symm | simp [hg32]) rfl)
   (first | refine L_ge hS rfl rfl (e_fa0 rfl ty_fo29_2) rfl ?_ | refine L_ge hS rfl rfl (e_faK rfl ty_fo29_2) rfl ?_); clear hS a; intro a hS
   refine Rn hS (.g rfl rfl (e_load rfl (by repeat constructor) ty_sc27 (by rfl)) <| .g rfl rfl (e_len rfl rfl ty_sl27) <| .g rfl rfl (e_bin rfl rfl rfl) <| .c (e_pk rfl rfl) .n) ?_; clear hS a; intro a hS
   exact hcM37 _ _ (hS.ends 6 37 32 rfl (congrArg Value.bool (by exact decide_eq_decide.2 ⟨fun h => .inr (by omega), fun h => by have := h.resolve_left hg32; omega⟩)) rfl rfl (by first | exact congrArg Value.bool (decide_eq_false hg32).symm | exact congrArg Value.bool hg32.symm | simp [hg32]) rfl)
 · clear hS a; intro a w hS
   simp only [List.drop_succ_cons, List.drop_zero]
   refine L_e hS (e_move rfl) rfl ?_; clear hS a; intro a hS
   refine L_merge 5 43 (.bool (decide ((e ≠ 0 ∨ mm = 0) ∨ 20000 < mm))) hS ?_ ?_
   · intro hcM43
     (first | refine g_splitD (t := 38) hS rfl ?_ ?_ | refine g_split (t := 38) hS rfl ?_ ?_) <;> (clear hS; intro hg38 hS)
     ·
      refine Rn hS (.f rfl rfl <| .f rfl rfl <| .f rfl rfl <| .f rfl rfl <| .c (e_pk rfl rfl) .n) ?_; clear hS a; intro a hS
      exact hcM43 _ _ (hS.ends 6 43 38 rfl (congrArg Value.bool (by exact (decide_eq_true (.inl hg38)).symm)) rfl rfl (by first | exact congrArg Value.bool (decide_eq_true hg38).symm | exact congrArg Value.bool hg38.symm | simp [hg38]) rfl)
     (first | refine L_ge hS rfl rfl (e_fa0 rfl ty_fo29_2) rfl ?_ | refine L_ge hS rfl rfl (e_faK rfl ty_fo29_2) rfl ?_); clear hS a; intro a hS
     refine Rn hS (.g rfl rfl (e_load rfl (by repeat constructor) ty_sc27 (by rfl)) <| .g rfl rfl (e_len rfl rfl ty_sl27) <| .g rfl rfl (e_bin rfl rfl rfl) <| .c (e_pk rfl rfl) .n) ?_; clear hS a; intro a hS
     exact hcM43 _ _ (hS.ends 6 43 38 rfl (congrArg Value.bool (by exact decide_eq_decide.2 ⟨fun h => .inr (by omega), fun h => by have := h.resolve_left hg38; omega⟩)) rfl rfl (by first | exact congrArg Value.bool (decide_eq_false hg38).symm | exact congrArg Value.bool hg38.symm | simp [hg38]) rfl)
   · clear hS a; intro a w hS
     simp only [List.drop_succ_cons, List.drop_zero]
     refine nL (nT ?_)
     (first | refine c_ifD hS rfl ?_ ?_ | refine c_if hS rfl ?_ ?_) <;> intro hc43
     ·
      refine cS (cR ?_)
      refine L_e hS (e_assign rfl) rfl ?_; clear hS a; intro a hS
      refine nL (nT (wp_ret (r_then ?_)))
      refine c_ret1 hS Tryz.results3 (.tmp rfl) ?_
      exact ⟨rfl, hS.chg⟩
     obtain ⟨he0, pb, path, s, v, r, kx, fl, c', hrq, hcap, hme, hpa, hq, hmm, hry⟩ : e = 0 ∧ ∃ pb path s v r k fl c', RqOk c path s v r k fl c' ∧ s.length ≤ cp ∧ me = ⟨#[80, 79, 83, 84]⟩ ∧ pa = tx path ∧ q0 = some ⟨pb, 0, none⟩ ∧ mm = s.length ∧ rqY c x26 = bbA 5 pb (bsI s) := by
      rcases hrc with h | h | h
      · exact h
      · exact absurd (.inl (.inr h)) hc43
      · exact absurd (.inl (.inl h)) hc43
     subst he0 hme hpa hq hmm
     rw [hry] at hS
     have hs20 : s.length ≤ 20000 := Nat.not_lt.1 fun h => hc43 (.inr h)
     have hxm := List.mem_of_getElem? hrq.x
     obtain ⟨pg, pf, psm, pln⟩ := req_print hc hfx hsmall.1.1 htt hrq (n := 33) (by decide)
     refine wS (nT (cS (cR ?_)))
     (first | refine L_e hS (e_fa0 rfl ty_fo29_2) rfl ?_ | refine L_e hS (e_faK rfl ty_fo29_2) rfl ?_); clear hS a; intro a hS
     refine L_e hS (e_load rfl (by repeat constructor) ty_sc27 (by rfl)) rfl ?_; clear hS a; intro a hS
     refine L_op (s_callN hS (.cons rfl .nil) cf11 rfl (jParse_N (some ⟨pb, 0, none⟩) cp s _ (hG.keep (hS.gg (X := oldA W0))).u8 (txa_bb (hS.gg (X := bbA 5 pb (bsI s))) hcap (by omega))) ?_); clear hS a; intro x47 a w hS
     have hpars := req_parse hc hfx hrq
     obtain ⟨xx, rfl⟩ : ∃ x : { x : JX // parseF s = some x.v }, x47 = .inl x := by
      rcases x47 with x | pe
      · exact ⟨x, rfl⟩
      · have h := pe.2.2; rw [hpars] at h; cases h
     obtain ⟨xx, hxv⟩ := xx
     have hxr : r = xx.v := by rw [hpars] at hxv; injection hxv
     obtain ⟨ps, rs, _, hrs, _, hbk⟩ := req_back hc hrq
     subst hrs
     have hlen := back_len hbk
     have hne : rs ≠ [] := fun h => rt_ne _ hxm (List.eq_nil_of_length_eq_zero (by rw [← hlen, h]; rfl))
     have hr0 : 0 < rs.length := List.length_pos_iff.2 hne
     have hr15 : rs.length ≤ 15 := by rw [hlen]; exact nm_len _ hxm
     rw [show paY s (.inl ⟨xx, hxv⟩) = jxA 33 xx from rfl, show paV s (.inl ⟨xx, hxv⟩) = .tuple [.agg xx.cs.toArray, .int .i64 0, .int .i64 0].toArray from rfl] at hS
     obtain ⟨nb, no, nc, lb, lo, lc, ks, hxcs, hks, hob⟩ := obj_open (hS.ok (jxA 33 xx) (by repeat constructor)) hxr.symm hne
     replace hS := hS.upd (X := jxA 33 xx) (Y := parA xx.F nb no nc lb lo lc (rs.map (·.1)) ks) (by repeat constructor) (Chg.refl _ _) hob (fun b hb => .inl hb) rfl
     rw [hxcs] at hS
     clear hob
     obtain ⟨FX, hFX⟩ : ∃ F, xx.F = F := ⟨_, rfl⟩
     obtain ⟨ns, hns⟩ : ∃ ns, rs.map (·.1) = ns := ⟨_, rfl⟩
     rw [hFX, hns] at hS
     have hkl : ks.length = rs.length := by have := congrArg List.length hks; simpa using this
     have hnl : ns.length = ks.length := by rw [hkl, ← hns, List.length_map]
     obtain ⟨ok1, ok2, ok3, ok4⟩ := ok_ps.1 pf
     have good1 := good_ps.1 pg
     obtain ⟨sm1, sm2⟩ := sm_ps.1 psm
     have hlp : lenP 32 rs ≤ 20000 := by
      have h1 : lenJ 33 (objP rs) = lenP 32 rs + 1 := (lenJ_le 32 rs).2 hne
      omega
     refine Rn hS (.m rfl <| .c (e_extract rfl rfl) <| .c (e_extract rfl rfl) <| .c (e_extract rfl rfl) .n) ?_; clear hS a; intro a hS
     refine L_op (s_alloc hS ty_z37 rfl ?_); clear hS a; intro a w b6 hS
     refine L_op (s_storeA hS rfl rfl ty_sz37 (by repeat constructor) (by rfl) (by rfl) (by rfl) ?_); clear hS; intro w hS
     refine Rn hS (.a rfl <| .a rfl .n) ?_; clear hS a; intro a hS
     refine nL (nT (cS (cS (cR ?_))))
     refine L_e hS (e_move rfl) rfl ?_; clear hS a; intro a hS
     refine L_op (s_callP hS (.cons rfl .nil) cf10 rfl (lNum_P 0 _) ?_); clear hS a; intro a w hS
     refine L_e hS (e_bin rfl rfl rfl) rfl ?_; clear hS a; intro a hS
     refine nL (nT ?_)
     replace hS := hS.is (t := 53) (c := false) rfl (rfl)
     refine c_if_f hS rfl ?_
     refine wS (nT (cS (cR ?_)))
     refine L_e hS (e_assign rfl) rfl ?_; clear hS a; intro a hS
     refine nL (nT (cS (cS (cR ?_))))
     (first | refine L_e hS (e_fa0 rfl ty_fo37_2) rfl ?_ | refine L_e hS (e_faK rfl ty_fo37_2) rfl ?_); clear hS a; intro a hS
     refine Rn hS (.c (e_load rfl (by repeat constructor) ty_sc34 (by rfl)) <| .c (e_len rfl rfl ty_sl34) .n) ?_; clear hS a; intro a hS
     (first | refine L_e hS (e_binN rfl rfl rfl (by omega)) rfl ?_ | refine L_e hS (e_bin rfl rfl rfl) rfl ?_); clear hS a; intro a hS
     refine L_e hS (e_assign rfl) rfl ?_; clear hS a; intro a hS
     refine nL (nT (wB ?_))
     skip
     refine c_loop (γ := Nat × List Mem) (fun G a w => St 105 noB w0 a w [(10, .int .i64 ((G.1 : Int) - 1)), (9, .string (tx (accB G.2 G.1))), (6, .pointer (some ⟨b6, 0, none⟩)), (4, .pointer (some ⟨b4, 0, none⟩)), (1, .pointer (some ⟨b1, 0, none⟩))] [.blk b6 [.int .i64 6, .string ⟨#[]⟩, .slice (some ⟨lb, lo, none⟩) ks.length lc, .slice (some ⟨nb, no, none⟩) ks.length nc] 37, parA FX nb no nc lb lo lc ns ks, .blk b4 [.string ⟨#[80, 79, 83, 84]⟩, .string (tx path), .slice (some ⟨pb, 0, none⟩) s.length cp, .bool false] 29, .blk b1 (cellsC c (.slice fa c.fx.length fc)) 24, oldA W0] ∧ G.1 ≤ rs.length ∧ G.2.map (fun m => (m.n, m.v)) = rs.drop G.1 ∧ ∀ m ∈ G.2, PJ 32 m.v m.r m.t) (fun G => G.1) (rs.length, []) ⟨(by dsimp only; rw [hkl] at hS; rw [hkl, acc_nil]; exact (hS.slots (by repeat (first | exact trivial | refine ⟨rfl, ?_⟩))).pick (by repeat (first | exact Pick.nil | (refine Pick.cons (by repeat (first | exact Rem.head | apply Rem.tail)) ?_)))), Nat.le_refl _, by rw [List.drop_length]; rfl, fun m hm => (by cases hm)⟩ ?_
     clear hS a; intro G a w hI
     obtain ⟨j, q⟩ := G
     obtain ⟨hS, hj, hq, hqp⟩ := hI
     simp only at hS hj hq hqp
     refine cS (cS (cR ?_))
     refine Rn hS (.m rfl <| .c (e_bin rfl rfl rfl) .n) ?_; clear hS a; intro a hS
     refine nL (nT ?_)
     (first | refine c_ifD hS rfl ?_ ?_ | refine c_if hS rfl ?_ ?_) <;> intro hc59
     ·
      obtain ⟨k, rfl⟩ : ∃ k, j = k + 1 := ⟨j - 1, by omega⟩
      rw [show ((k + 1 : Nat) : Int) - 1 = (k : Int) by omega] at hS
      obtain ⟨p, hp⟩ : ∃ p, rs[k]? = some p := ⟨_, List.getElem?_eq_getElem (by omega)⟩
      have hpm := List.mem_of_getElem? hp
      have hx : ns[k]? = some p.1 := by rw [← hns, List.getElem?_map, hp]; rfl
      obtain ⟨y, hy⟩ : ∃ y, ks[k]? = some y := ⟨_, List.getElem?_eq_getElem (by omega)⟩
      have hyv : y.v = p.2 := by
       have h1 : (ks.map JX.v)[k]? = some y.v := by rw [List.getElem?_map, hy]; rfl
       rw [hks, List.getElem?_map, hp] at h1
       injection h1 with h1
       exact h1.symm
      obtain ⟨yk, ys, y1, y2, y3, y4, y5, y6, hycs⟩ := kid_four (par_kids (hS.gg (X := parA FX nb no nc lb lo lc ns ks)) y (List.mem_of_getElem? hy))
      have hlm := lenP_mem (n := 32) hpm
      have ha1 := acc_len q (k + 1)
      have ha2 := sep_len hq hqp
      refine wS (nT (cS (wB (cS (cR ?_)))))
      (first | refine L_e hS (e_fa0 rfl ty_fo37_2) rfl ?_ | refine L_e hS (e_faK rfl ty_fo37_2) rfl ?_); clear hS a; intro a hS
      refine Rn hS (.c (e_load rfl (by repeat constructor) ty_sc34 (by rfl)) <| .m rfl <| .c (e_ixN rfl rfl ty_sl34 ty_sz37 (by omega)) <| .c (e_loadAC (l := [.int .i64 yk, .string ys, .slice y1 y2 y3, .slice y4 y5 y6]) rfl ty_st37 ty_sz37 (fun w hh j u hj => par_kid (hh (parA FX nb no nc lb lo lc ns ks) (by repeat constructor)) hy j u (by rw [hycs]; exact hj))) .n) ?_; clear hS a; intro a hS
      refine L_op (s_callN hS (.cons rfl .nil) cf12 rfl (jPrint_N 32 p.2 [.int .i64 yk, .string ys, .slice y1 y2 y3, .slice y4 y5 y6] _ (hG.keep (hS.gg (X := oldA W0))).u8 (good1 p hpm) (sm2 p hpm).2 (by rw [← hyv, ← hycs]; exact par_kids (hS.gg (X := parA FX nb no nc lb lo lc ns ks)) y (List.mem_of_getElem? hy)) (by omega)) ?_); clear hS a; intro x68 a w hS
      obtain ⟨tb, tc, tr2, tt, e1, e1', hp1, hs1, hc1⟩ := pr_done x68 (okF_dn 32 1 0 p.2 (by decide) (ok1 p hpm).2) (by omega)
      rw [e1, e1'] at hS
      have htl := pj_len 32 p.2 tr2 tt hp1
      refine Rn hS (.m rfl <| .c (e_extract rfl rfl) <| .c (e_extract rfl rfl) <| .a rfl <| .a rfl .n) ?_; clear hS a; intro a hS
      refine nL (nT (cS ?_))
      refine c_drawS [] (by kernel_rfl) hS (sub_cons (X := .blk b6 [.int .i64 6, .string ⟨#[]⟩, .slice (some ⟨lb, lo, none⟩) ks.length lc, .slice (some ⟨nb, no, none⟩) ks.length nc] 37) (by repeat constructor) (sub_cons (X := parA FX nb no nc lb lo lc ns ks) (by repeat constructor) (sub_cons (X := bbA 5 tb (bsI tt)) (by repeat constructor) sub_nil))) ?_; clear hS; intro w hS
      simp only [List.length_cons, List.length_nil, Nat.zero_add, Nat.reduceAdd, List.replicate]
      refine Zt0 0 (tf 1 12) hS rfl want_none (e_move rfl) rfl (by kernel_rfl) rfl ?_; clear hS a; intro a hS
      (first | refine Zt0 1 (tf 2 11) hS rfl want_none (e_fa0 rfl ty_fo37_3) rfl (by kernel_rfl) rfl ?_ | refine Zt0 1 (tf 2 11) hS rfl want_none (e_faK rfl ty_fo37_3) rfl (by kernel_rfl) rfl ?_); clear hS a; intro a hS
      refine Rz hS (sub_cons (by repeat constructor) (sub_cons (by repeat constructor) (sub_cons (by repeat constructor) sub_nil))) (.y 2 (tf 3 10) rfl wN (e_load rfl (by repeat constructor) ty_sc35 (by rfl)) rfl <| .o 3 (tf 4 9) rfl wN (e_move rfl) rfl <| .o 4 (tf 5 8) rfl wN (e_ixN rfl rfl ty_sl35 ty_sz9 (by omega)) rfl <| .y 5 (tf 6 7) rfl wN (e_loadC rfl ty_sc9 (fun w hh => par_name (hh (parA FX nb no nc lb lo lc ns ks) (by repeat constructor)) hx)) rfl <| .o 9 [true, true, true, true, true, true, false, false, false, true, false, false, false] rfl wN (e_move rfl) rfl <| .y 10 [true, true, true, true, true, true, false, false, false, true, true, false, false] rfl wN (e_str rfl ty_sl27 ty_u5 ty_u9 (fun w hh => by_txt (hh (bbA 5 tb (bsI tt)) (by repeat constructor)) hc1)) rfl .n) ?_; clear hS a; intro a hS
      rw [str_bs] at hS
      refine Zo 6 [true, true, true, true, true, true, true, false, false, true, true, false, false] hS rfl wN rfl (s_callP hS (.cons rfl .nil) cf13 rfl (jQuote_P p.1 (by have := (sm2 p hpm).1; omega) _) ?_); clear hS a; intro a w hS
      refine Z_and hS (sub_cons (by repeat constructor) (sub_cons (by repeat constructor) (sub_cons (by repeat constructor) sub_nil))) ?_
      refine Ry hS (.o 7 [true, true, true, true, true, true, true, true, false, true, true, false, false] rfl wN (e_catT rfl rfl (by omega)) rfl <| .o 8 (tf 11 2) rfl wN (e_catT (j := [9, 58, 13, 10, 32]) rfl rfl (by rw [List.length_append]; simp only [List.length_cons, List.length_nil]; omega)) rfl <| .o 11 (tf 12 1) rfl wN (e_catT rfl rfl (by rw [List.length_append, List.length_append]; simp only [List.length_cons, List.length_nil]; omega)) rfl .n) ?_; clear hS a; intro a hS
      rw [show accB q (k + 1) ++ quoteL p.1 ++ [9, 58, 13, 10, 32] ++ tt = accB q (k + 1) ++ memB ⟨p.1, p.2, tr2, tt⟩ by unfold memB; simp] at hS
      refine Zt0 12 (tf 13 0) hS rfl want_none (e_assign rfl) rfl (by kernel_rfl) rfl ?_; clear hS a; intro a hS
      refine Z_done (by kernel_rfl) ?_
      refine nT (cS (cR ?_))
      refine Rn hS (.m rfl <| .c (e_bin rfl rfl rfl) .n) ?_; clear hS a; intro a hS
      refine nL (nT ?_)
      (first | refine c_ifD hS rfl ?_ ?_ | refine c_if hS rfl ?_ ?_) <;> intro hc84
      ·
       have hk1 : 0 < k := by omega
       have hml := memB_len ⟨p.1, p.2, tr2, tt⟩
       simp only at hml
       refine cR ?_
       refine Rn hS (.m rfl <| .c (e_catT (j := [32, 44]) rfl rfl (by rw [List.length_append]; simp only [List.length_cons, List.length_nil]; omega)) .n) ?_; clear hS a; intro a hS
       obtain ⟨k2, rfl⟩ : ∃ k2, k = k2 + 1 := ⟨k - 1, by omega⟩
       have hac : accB q (k2 + 1 + 1) = accB q (k2 + 1) := rfl
       rw [hac, acc_more] at hS
       refine L_e hS (e_assign rfl) rfl ?_; clear hS a; intro a hS
       refine nL (n_block (nT (cR ?_)))
       refine L_e hS (e_move rfl) rfl ?_; clear hS a; intro a hS
       (first | refine L_e hS (e_binN rfl rfl rfl (by omega)) rfl ?_ | refine L_e hS (e_bin rfl rfl rfl) rfl ?_); clear hS a; intro a hS
       refine L_e hS (e_assign rfl) rfl ?_; clear hS a; intro a hS
       refine nL ?_
       first
       | exact ⟨(0, ⟨p.1, p.2, tr2, tt⟩ :: q), Nat.lt_succ_self _, (hS.slots (by repeat (first | exact trivial | refine ⟨rfl, ?_⟩))).pick (by repeat (first | exact Pick.nil | (refine Pick.cons (by repeat (first | exact Rem.head | apply Rem.tail)) ?_))), Nat.zero_le _, by show (p.1, p.2) :: _ = _; rw [hq]; exact (List.drop_eq_getElem_cons (List.getElem?_eq_some_iff.1 hp).1 ▸ by rw [(List.getElem?_eq_some_iff.1 hp).2]), fun m hm => by
           rcases List.mem_cons.1 hm with rfl | hm
           · exact hp1
           · exact hqp m hm⟩
       | exact ⟨(k2 + 1, ⟨p.1, p.2, tr2, tt⟩ :: q), Nat.lt_succ_self _, (hS.slots (by repeat (first | exact trivial | refine ⟨rfl, ?_⟩))).pick (by repeat (first | exact Pick.nil | (refine Pick.cons (by repeat (first | exact Rem.head | apply Rem.tail)) ?_))), Nat.le_of_succ_le hj, by show (p.1, p.2) :: _ = _; rw [hq]; exact (List.drop_eq_getElem_cons (List.getElem?_eq_some_iff.1 hp).1 ▸ by rw [(List.getElem?_eq_some_iff.1 hp).2]), fun m hm => by
           rcases List.mem_cons.1 hm with rfl | hm
           · exact hp1
           · exact hqp m hm⟩
      have hk0 : k = 0 := by omega
      subst hk0
      rw [acc_last] at hS
      refine wS (n_block (nT (cR ?_)))
      refine L_e hS (e_move rfl) rfl ?_; clear hS a; intro a hS
      (first | refine L_e hS (e_binN rfl rfl rfl (by omega)) rfl ?_ | refine L_e hS (e_bin rfl rfl rfl) rfl ?_); clear hS a; intro a hS
      refine L_e hS (e_assign rfl) rfl ?_; clear hS a; intro a hS
      refine nL ?_
      first
      | exact ⟨(0, ⟨p.1, p.2, tr2, tt⟩ :: q), Nat.lt_succ_self _, (hS.slots (by repeat (first | exact trivial | refine ⟨rfl, ?_⟩))).pick (by repeat (first | exact Pick.nil | (refine Pick.cons (by repeat (first | exact Rem.head | apply Rem.tail)) ?_))), Nat.zero_le _, by show (p.1, p.2) :: _ = _; rw [hq]; exact (List.drop_eq_getElem_cons (List.getElem?_eq_some_iff.1 hp).1 ▸ by rw [(List.getElem?_eq_some_iff.1 hp).2]), fun m hm => by
          rcases List.mem_cons.1 hm with rfl | hm
          · exact hp1
          · exact hqp m hm⟩
      | exact ⟨(k2 + 1, ⟨p.1, p.2, tr2, tt⟩ :: q), Nat.lt_succ_self _, (hS.slots (by repeat (first | exact trivial | refine ⟨rfl, ?_⟩))).pick (by repeat (first | exact Pick.nil | (refine Pick.cons (by repeat (first | exact Rem.head | apply Rem.tail)) ?_))), Nat.le_of_succ_le hj, by show (p.1, p.2) :: _ = _; rw [hq]; exact (List.drop_eq_getElem_cons (List.getElem?_eq_some_iff.1 hp).1 ▸ by rw [(List.getElem?_eq_some_iff.1 hp).2]), fun m hm => by
          rcases List.mem_cons.1 hm with rfl | hm
          · exact hp1
          · exact hqp m hm⟩
     have hj0 : j = 0 := by omega
     subst hj0
     rw [List.drop_zero] at hq
     obtain ⟨m0, q', rfl⟩ : ∃ m0 q', q = m0 :: q' := by
      cases q with
      | nil => exact absurd hq.symm hne
      | cons m q => exact ⟨m, q, rfl⟩
     obtain ⟨hb1, o, hb2, hb3, hb4, hb5, hb6, hb7⟩ := blanks_bind hc hfx hsmall.1.1 htt hrq rfl hs20 hq hqp
     have hkd := hrq.kd
     have hbp := bindP_some (fl := fl) (kd := (kx : Int) + 1) hb2 hb3
     rw [← hkd] at hb5 hb6 hb7
     rw [← hbp] at hb5 hb6 hb7
     have hae := acc_end q' m0
     have hal := congrArg List.length hae
     rw [List.length_append] at hal
     refine wp_exit ?_
     refine x_then (x_then (x_hit ?_))
     refine nT (cS (cR ?_))
     refine Rn hS (.m rfl <| .c (e_catT (j := [10, 125]) rfl rfl (by omega)) .n) ?_; clear hS a; intro a hS
     rw [hae] at hS
     refine L_op (s_toBytes hS rfl Tryz.underlying9 ty_sl27 ty_u5 rfl ?_)
     clear hS a; intro b89 c89 a w hc89 hS
     rw [show bytesI (tx (txtB m0 q')) = bsI (txtB m0 q') from rfl, bsI_len] at hS hc89
     (first | refine L_e hS (e_fa0 rfl ty_fo29_2) rfl ?_ | refine L_e hS (e_faK rfl ty_fo29_2) rfl ?_); clear hS a; intro a hS
     refine L_op (s_store hS rfl rfl rfl ty_sz27 (by repeat constructor) (by repeat constructor) ?_); clear hS; intro w hS
     refine nL (nT (cS (cR ?_)))
     refine L_e hS (e_loadA rfl (by repeat constructor) ty_st29 ty_sz29 (by rfl)) rfl ?_; clear hS a; intro a hS
     refine L_op (s_callN hS (.cons rfl .nil) cf14 rfl (fBindPost_N w (hG.keep (hS.gg (X := oldA W0))) kx path fl hrq.x (some ⟨b89, 0, none⟩) c89 (txtB m0 q') (txa_bb (hS.gg (X := bbA 5 b89 (bsI (txtB m0 q')))) hc89 (Nat.le_trans hb1 (by decide))) (fun v hv => by rw [hb2] at hv; injection hv with hv; subst hv; exact hb4) false w (old_refl w)) ?_); clear hS a; intro x93 a w hS
     obtain ⟨bq, bc, f1, f2⟩ := bn_ok x93 hb5 hb6 hb7 (hS.ok (bnY (bindP fl ((kx : Int) + 1) (txtB m0 q')) x93) (by repeat constructor))
     rw [f1, f2] at hS
     refine Rn hS (.m rfl <| .c (e_extract rfl rfl) <| .c (e_extract rfl rfl) .n) ?_; clear hS a; intro a hS
     refine L_op (s_alloc hS ty_z24 rfl ?_); clear hS a; intro a w b13 hS
     refine L_op (s_storeA (l := cellsC c (.slice bq c.fx.length bc)) hS rfl rfl ty_sz24 (by repeat constructor) rfl rfl rfl ?_); clear hS; intro w hS
     refine L_e hS (e_assign rfl) rfl ?_; clear hS a; intro a hS
     refine nL (nT (cS ?_))
     refine c_drawS [] (by kernel_rfl) hS (sub_cons (X := .blk b13 (cellsC c (.slice bq c.fx.length bc)) 24) (by repeat constructor) (sub_cons (X := .blk b1 (cellsC c (.slice fa c.fx.length fc)) 24) (by repeat constructor) (sub_cons (X := ownA 160 4 (.slice bq c.fx.length bc) c.fx.length (c.fx.flatMap encF)) (by repeat constructor) (sub_cons (X := oldA W0) (by repeat constructor) sub_nil)))) ?_; clear hS; intro w hS
     simp only [List.length_cons, List.length_nil, Nat.zero_add, Nat.reduceAdd, List.replicate]
     refine Zt0 0 (tf 1 9) hS rfl want_none (e_move rfl) rfl (by kernel_rfl) rfl ?_; clear hS a; intro a hS
     refine Zo 1 (tf 2 8) hS rfl wN rfl (s_callP hS (.cons rfl .nil) cf10 rfl (lNum_P 0 _) ?_); clear hS a; intro a w hS
     refine Z_and hS (sub_cons (by repeat constructor) (sub_cons (by repeat constructor) (sub_cons (by repeat constructor) (sub_cons (by repeat constructor) sub_nil)))) ?_
     refine Ry hS (.o 2 (tf 3 7) rfl wN (e_bin rfl rfl rfl) rfl <| .o 3 (tf 4 6) rfl wN (e_move rfl) rfl .n) ?_; clear hS a; intro a hS
     replace hS := hS.is (t := 99) (c := true) rfl (rfl)
     refine Rz hS (sub_cons (by repeat constructor) (sub_cons (by repeat constructor) (sub_cons (by repeat constructor) (sub_cons (by repeat constructor) sub_nil)))) (.y 4 (tf 5 5) rfl (want_go rfl rfl) (e_loadA (cs := cellsC c (.slice bq c.fx.length bc)) rfl (by repeat constructor) ty_st24 ty_sz24 rfl) rfl <| .y 5 (tf 6 4) rfl (want_go rfl rfl) (e_loadA (cs := cellsC c (.slice fa c.fx.length fc)) rfl (by repeat constructor) ty_st24 ty_sz24 rfl) rfl .n) ?_; clear hS a; intro a hS
     refine Zo 6 (tf 7 3) hS rfl (want_go rfl rfl) rfl (s_callN hS (.cons rfl .nil) cf16 rfl (frCommand_N W0 fa fc c (by have := hsmall.1.1.1; omega) hF _ (hS.gg (X := oldA W0))) ?_); clear hS a; intro x102 a w hS
     obtain ⟨qv, cv⟩ := x102
     refine Z_and hS (sub_cons (by repeat constructor) (sub_cons (by repeat constructor) (sub_cons (by repeat constructor) (sub_cons (by repeat constructor) sub_nil)))) ?_
     refine Zo 7 (tf 8 2) hS rfl (want_go rfl rfl) rfl (s_callP hS (.cons rfl (.cons rfl .nil)) cf15 rfl (frSame_P w bq qv bc cv c (by have := hsmall.1.1.1; omega) (fct_own (hS.ok (ownA 160 4 (.slice bq c.fx.length bc) c.fx.length (c.fx.flatMap encF)) (by repeat constructor))) (fct_own (hS.ok (ownA 139 4 (.slice qv c.fx.length cv) c.fx.length (c.fx.flatMap encF)) (by repeat constructor))) w (old_refl w)) ?_); clear hS a; intro a w hS
     refine Z_and hS (sub_cons (by repeat constructor) (sub_cons (by repeat constructor) (sub_cons (by repeat constructor) (sub_cons (by repeat constructor) sub_nil)))) ?_
     refine Ry hS (.o 8 (tf 9 1) rfl wN (e_pk rfl rfl) rfl <| .o 9 (tf 10 0) rfl wN (e_assign rfl) rfl .n) ?_; clear hS a; intro a hS
     refine Z_done (by kernel_rfl) ?_
     refine nT (wp_ret ?_)
     refine c_ret1 hS Tryz.results3 (.tmp rfl) ?_
     exact ⟨rfl, hS.chg⟩
theorem maxLen_any {w : World} (h : w.ShapedOpen Tryz.prog) : ∃ m, w.cell? ⟨2, 0, none⟩ = some (.int .i64 m) :=
 cell_of_shapedOpen_int (zero := #[.int .i64 0]) h (of_decide_eq_true (by kernel_rfl)) (by kernel_rfl) (by kernel_rfl) (by kernel_rfl) (by kernel_rfl) Tryz.underlying3
open Go.Lib
def rhoU : Shelf.Ren := ⟨fun n => n, fun | 5 => 5 | 119 => 200 | 138 => 202 | 139 => 203 | n => n, fun | 3 => 0 | 4 => 1 | n => n⟩
theorem u8ty : U8Types Tryz.prog rhoU := ⟨by kernel_rfl, by kernel_rfl, by kernel_rfl, by kernel_rfl⟩
theorem u8ex : U8Extra Tryz.prog rhoU := ⟨by kernel_rfl, by kernel_rfl, by kernel_rfl, by kernel_rfl, by kernel_rfl, by kernel_rfl, by kernel_rfl⟩
theorem gER : Tryz.prog.globalNamed "strconv.ErrRange" = some 5 := by kernel_rfl
theorem starES : "*" ++ "errors.errorString" = "*errors.errorString" := by decide
theorem rowES (u : TypeId) (h : Tryz.prog.typeName? 3 u = some "*errors.errorString") : u = 313 :=
 typeName_ptr_named (nm := "errors.errorString") (by rw [starES]; kernel_rfl) (by kernel_rfl) (by decide) u (by rw [starES]; exact h)
theorem gPow : Tryz.prog.globalNamed "internal/strconv.uint64pow10" = some 3 := by kernel_rfl
theorem old_tab {W w : World} (ho : oldφ W w) {g : Nat} {nm : String} {k : IntKind} {zs : List Int} (hg : Tryz.prog.globalNamed nm = some g) (h : TabIs Tryz.prog W nm k zs) : TabIs Tryz.prog w nm k zs := by
 unfold TabIs World.var? at *
 rw [hg] at h ⊢
 simp only [Option.bind_some] at h ⊢
 have hlt : g < W.heap.size := by
  rcases Nat.lt_or_ge g W.heap.size with h1 | h1
  · exact h1
  · rw [Array.getElem?_eq_none h1] at h; simp at h
 rw [ho.2 g hlt]; exact h
theorem pow_data : (Rows.laid_internal_strconv_uint64pow10 : DataW Unit) = tabData .u64 pow10Tab := by kernel_rfl
set_option maxRecDepth 100000 in
theorem gj_of {W : World} (hsh : W.ShapedOpen Tryz.prog) (hl : laidMetH Tryz.prog Rows.frontFieldsUptoRow.laid W) : Gj W := by
 have hL : laidMet Tryz.prog Rows.frontFieldsUptoRow.laid W := by rwa [MakeChecks.laidMetH_plain _ _ _ (by kernel_rfl)] at hl
 refine ⟨?_, ?_, ?_, maxLen_any hsh⟩
 · exact utf8Tabs_of_readsT u8ty u8ex (Lib.laidMet.reads hL (.tail _ (.tail _ (.tail _ (.tail _ (.tail _ (.tail _ (.head _)))))))) (Lib.laidMet.reads hL (.tail _ (.tail _ (.tail _ (.head _)))))
 · obtain ⟨a1, s1, hv1, -, -, -⟩ := laid_sentinel (tp := 313) hL.tail.tail.tail.tail gER (ti := 111) (by kernel_rfl) Tryz.underlying111 rowES Tryz.underlying313 Tryz.underlying315 rfl rfl Tryz.underlying9 (by kernel_rfl) (by kernel_rfl)
   exact ⟨_, by have h0 := World.var?_cell gER hv1 0; simpa using h0, .inr ⟨_, _, rfl⟩⟩
 · have h2 : laidMet Tryz.prog (("internal/strconv.uint64pow10", Rows.laid_internal_strconv_uint64pow10) :: _) W := hL.tail.tail
   rw [pow_data] at h2
   exact fun w ho => old_tab ho gPow (tabIs_of_head (n := 20) (t := 294) (e := 252) gPow (by kernel_rfl) Tryz.underlying294 Tryz.underlying252 (by kernel_rfl) (by kernel_rfl) h2)
end Go.Proofs.YtlccmgeclhdegaaGreatDoor
namespace Go.Proofs.YtlccmgeclhdegaaGreatDoor.Open
set_option maxRecDepth 100000
open Go.ChangeShapes Go.WideShapes Go.Deep
section
variable {H : Type} {enc : TypeId × Value → H} {P : Program} {w : World} {base : Nat} {spare : Nat → Bool} {held : Bool}
theorem open_slice_fields {t e : TypeId} {fs : Array Field} {fuel : Nat} {cs : List Value} {x : DataW H × List MemPlace} (ht : P.underlying t = some (.slice e)) (he : P.underlying e = some (.struct fs))
 (hone : oneCellFields P fs = true) (hC : P.cellsOf e = fs.size) (h : DataW.trod enc P w base spare held fuel t cs = some x) :
 (cs = [.slice none 0 0] ∧ x = (.nil, [])) ∨
 ∃ (a : Addr) (len cap m : Nat) (D : Nat → DataW H) (Pl : Nat → List MemPlace), cs = [.slice (some a) len cap] ∧ base ≤ a.block ∧ len ≤ cap ∧ cap ≤ maxLen ∧ m = (if spare a.block then cap else len) ∧
  x = (.slice ((List.range len).map D) ((List.range (m - len)).map fun j => D (len + j)), MemPlace.row a (m * fs.size) ++ (List.range m).flatMap Pl) ∧
  ∀ i, i < m → ∃ (ys : List (DataW H × List MemPlace)) (n : Nat), D i = .agg (ys.map (·.1)) ∧ Pl i = ys.flatMap (·.2) ∧ ys.length = fs.size ∧
   ∀ (j : Nat) (f : Field), fs[j]? = some f → ∃ (v : Value) (y : DataW H × List MemPlace), w.cell? (a.add (i * fs.size + j)) = some v ∧ ys[j]? = some y ∧ DataW.trod enc P w base spare held n f.type [v] = some y := by
 rcases open_slice ht h with h0 | ⟨a, len, cap, m, n, D, Pl, hcs, hb, hl, hm, hmm, hx, hi⟩
 · exact .inl h0
 · refine .inr ⟨a, len, cap, m, D, Pl, hcs, hb, hl, hm, hmm, by rw [hC] at hx; exact hx, fun i him => ?_⟩
   obtain ⟨cs', hc, ht'⟩ := hi i him
   rw [hC] at hc
   obtain ⟨ys, n', hn', hy, hlen, hyl, hf⟩ := DataW.trod_struct he ht'
   obtain ⟨_, hcl, hat⟩ := World.cells?_some hc
   simp only [Prod.mk.injEq] at hy
   refine ⟨ys, n', hy.1, hy.2, hyl, fun j f hj => ?_⟩
   obtain ⟨ho, hk⟩ := hone_of hone j f hj
   have hjl : j < fs.size := (Array.getElem?_eq_some_iff.1 hj).1
   have hcell := hat j hjl
   have hv : cs'[j]? = some (cs'[j]'(by omega)) := List.getElem?_eq_getElem (by omega)
   have h1 := hf j f hj
   rw [ho, hk] at h1
   have hone' : (cs'.drop j).take 1 = [cs'[j]'(by omega)] := by
    rw [List.drop_eq_getElem_cons (by omega)]
    rfl
   rw [hone'] at h1
   have hys : ys[j]? = some (ys[j]'(by omega)) := List.getElem?_eq_getElem (by omega)
   refine ⟨_, _, ?_, hys, h1.trans hys⟩
   rw [← Go.Deep.add_add, hcell, hv]
end
section
variable {H : Type} {enc : TypeId × Value → H}
theorem add_spot {a : Addr} (h : a.spot = none) (n : Nat) : a.add n = ⟨a.block, a.off + n, none⟩ := by
 unfold Addr.add
 split
 · next h0 => subst h0; cases a; simp_all
 · rfl
end
end Go.Proofs.YtlccmgeclhdegaaGreatDoor.Open
namespace Go.Proofs.YtlccmgeclhdegaaGreatDoor.Open
set_option maxRecDepth 100000
open Go.ChangeShapes Go.WideShapes Go.Deep
section
variable {H : Type} {enc : TypeId × Value → H} {P : Program} {w : World} {base : Nat} {spare : Nat → Bool} {held : Bool}
theorem open_fields {r : Reach} {b0 : Nat} {t : TypeId} {fs : Array Field} {v : Value} {d : DataW H} {p : List MemPlace} (hs : P.underlying t = some (.struct fs)) (hone : oneCellFields P fs = true) (hC : P.cellsOf t = fs.size)
 (hv : Value.okWide P w r b0 t v) (h : DataW.Trod enc P w base spare held t v d p) :
 ∃ (cs : Array Value) (ys : List (DataW H × List MemPlace)) (n : Nat), v = .agg cs ∧ d = .agg (ys.map (·.1)) ∧ cs.size = fs.size ∧ ys.length = fs.size ∧
  ∀ (j : Nat) (f : Field), fs[j]? = some f → ∃ (u : Value) (y : DataW H × List MemPlace), cs[j]? = some u ∧ ys[j]? = some y ∧ DataW.trod enc P w base spare held n f.type [u] = some y := by
 obtain ⟨cs, rfl, hsz⟩ := okWide_struct hs hv
 obtain ⟨fuel, hf⟩ := h
 obtain ⟨ys, n', _, hy, hlen, hyl, hff⟩ := DataW.trod_struct hs hf
 simp only [Prod.mk.injEq] at hy
 refine ⟨cs, ys, n', rfl, hy.1, hsz.trans hC, hyl, fun j f hj => ?_⟩
 obtain ⟨ho, hk⟩ := hone_of hone j f hj
 have hjl : j < fs.size := (Array.getElem?_eq_some_iff.1 hj).1
 have hjc : j < cs.size := by rw [hsz, hC]; exact hjl
 have h1 := hff j f hj
 rw [ho, hk] at h1
 have hv : cs.toList[j]? = some (cs[j]'hjc) := by
  rw [Array.getElem?_toList, Array.getElem?_eq_getElem hjc]
 have hone' : (cs.toList.drop j).take 1 = [cs[j]'hjc] := by
  obtain ⟨h2, h3⟩ := List.getElem?_eq_some_iff.1 hv
  rw [List.drop_eq_getElem_cons h2, h3]
  rfl
 change DataW.trod enc P w base spare held n' f.type ((cs.toList.drop j).take 1) = ys[j]? at h1
 rw [hone'] at h1
 have hys : ys[j]? = some (ys[j]'(by omega)) := List.getElem?_eq_getElem (by omega)
 exact ⟨_, _, Array.getElem?_eq_getElem hjc, hys, h1.trans hys⟩
end
section
variable {H : Type} {enc : TypeId × Value → H}
theorem open_facts {W : World} {n : Nat} {u : Value} {y : DataW H × List MemPlace} (h : DataW.trod enc Tryz.prog W 0 (fun _ => true) true n 22 [u] = some y) :
 ∃ (fa : Option Addr) (fc : Nat) (l : List Fct), u = .slice fa l.length fc ∧ FxB l ∧ FctC W fa l := by
 have hu := Tryz.underlying22
 rcases open_slice_fields hu Tryz.underlying160 (by kernel_rfl) (by kernel_rfl) h with ⟨hc, _⟩ | ⟨a, len, cap, m, D, Pl, hc, _, hl, hm, hmm, hx, hi⟩
 · simp only [List.cons.injEq, and_true] at hc
   exact ⟨none, 0, [], hc, fun x hx => (by cases hx), ⟨fun h => absurd rfl h⟩⟩
 · simp only [List.cons.injEq, and_true] at hc
   simp only [if_true] at hmm
   rw [hmm] at hi
   have each : ∀ i, i < len → ∃ x : Fct, (-9223372036854775808 ≤ x.n ∧ x.n ≤ 9223372036854775807) ∧ ∀ j u, (encF x)[j]? = some u → W.cell? (a.add (i * 4 + j)) = some u := by
    intro i hil
    obtain ⟨ys, n, hD, _, hys, hfl⟩ := hi i (by omega)
    obtain ⟨v0, y0, c0, g0, t0⟩ := hfl 0 _ rfl
    obtain ⟨v1, y1, c1, g1, t1⟩ := hfl 1 _ rfl
    obtain ⟨v2, y2, c2, g2, t2⟩ := hfl 2 _ rfl
    obtain ⟨v3, y3, c3, g3, t3⟩ := hfl 3 _ rfl
    obtain ⟨s0, e0, z0, w0⟩ := DataW.trod_string Tryz.underlying9 t0
    obtain ⟨n1, e1, z1, w1⟩ := DataW.trod_int Tryz.underlying3 t1
    obtain ⟨n2, e2, z2, w2⟩ := DataW.trod_int Tryz.underlying3 t2
    obtain ⟨s3, e3, z3, w3⟩ := DataW.trod_string Tryz.underlying9 t3
    simp only [List.cons.injEq, and_true] at e0 e1 e2 e3
    subst e0 e1 e2 e3
    refine ⟨⟨s0.data.toList, n1, n2, s3.data.toList⟩, bounds_i64 w2, fun j u hj => ?_⟩
    match j, hj with
    | 0, hj => cases hj; exact c0
    | 1, hj => cases hj; exact c1
    | 2, hj => cases hj; exact c2
    | 3, hj => cases hj; exact c3
    | (k + 4), hj => simp [encF] at hj
   haveI : Inhabited Fct := ⟨⟨[], 0, 0, []⟩⟩
   obtain ⟨f, hfn⟩ := choose_lt each
   have hll : ((List.range len).map f).length = len := by simp
   refine ⟨some a, cap, (List.range len).map f, by rw [hll]; exact hc, fun x hx => ?_, ⟨fun hne => ?_⟩⟩
   · obtain ⟨i, hi', rfl⟩ := List.mem_map.1 hx
     exact (hfn i (List.mem_range.1 hi')).1
   · have hlen : 0 < len := by
      rcases Nat.eq_zero_or_pos len with h0 | h0
      · subst h0; exact absurd rfl hne
      · exact h0
     have hc0 := (hfn 0 hlen).2 0 _ rfl
     have e0 : a.add (0 * 4 + 0) = a := by unfold Addr.add; rw [if_pos rfl]
     rw [e0] at hc0
     obtain ⟨_, _, hsh, _, hsp⟩ := World.shape?_of_cell? hc0
     refine ⟨a.block, a.off, ?_, fun i x hx j u hj => ?_⟩
     · cases a
       simp only at hsp
       subst hsp
       rfl
     · simp only [List.getElem?_map, Option.map_eq_some_iff] at hx
       obtain ⟨k, hk, rfl⟩ := hx
       obtain ⟨hk1, hk2⟩ := List.getElem?_eq_some_iff.1 hk
       simp only [List.length_range] at hk1
       simp only [List.getElem_range] at hk2
       subst hk2
       have := (hfn i hk1).2 j u hj
       rw [add_spot hsp] at this
       rw [← this]
       simp only [Nat.add_assoc]
set_option maxHeartbeats 1000000 in
theorem open_cmd {W : World} {base : Nat} {v : Value} {d : DataW H} {pl : List MemPlace} (hval : Value.okWide Tryz.prog W .any base 24 v) (h : DataW.Trod enc Tryz.prog W 0 (fun _ => true) true 24 v d pl) (hb : Rows.uptoBulk d ≤ 1048576) :
 ∃ (c : Cd) (fa : Option Addr) (fc : Nat), v = .agg (cellsC c (.slice fa c.fx.length fc)).toArray ∧ c.ok ∧ FxB c.fx ∧ totT c ≤ 1048576 ∧ FctC W fa c.fx := by
 obtain ⟨cs, ys, n, rfl, rfl, hcs, hys, hf⟩ := open_fields Tryz.underlying24 (by kernel_rfl) (by kernel_rfl) hval h
 obtain ⟨cs⟩ := cs
 match cs, hcs, ys, hys with
 | [a0, a1, a2, a3, a4, a5, a6, a7, a8, a9, a10, a11, a12, a13, a14], _, [b0, b1, b2, b3, b4, b5, b6, b7, b8, b9, b10, b11, b12, b13, b14], _ =>
 obtain ⟨u0, y0, c0, g0, t0⟩ := hf 0 _ rfl
 obtain rfl : a0 = u0 := Option.some.inj c0
 obtain rfl : b0 = y0 := Option.some.inj g0
 clear c0 g0
 obtain ⟨u1, y1, c1, g1, t1⟩ := hf 1 _ rfl
 obtain rfl : a1 = u1 := Option.some.inj c1
 obtain rfl : b1 = y1 := Option.some.inj g1
 clear c1 g1
 obtain ⟨u2, y2, c2, g2, t2⟩ := hf 2 _ rfl
 obtain rfl : a2 = u2 := Option.some.inj c2
 obtain rfl : b2 = y2 := Option.some.inj g2
 clear c2 g2
 obtain ⟨u3, y3, c3, g3, t3⟩ := hf 3 _ rfl
 obtain rfl : a3 = u3 := Option.some.inj c3
 obtain rfl : b3 = y3 := Option.some.inj g3
 clear c3 g3
 obtain ⟨u4, y4, c4, g4, t4⟩ := hf 4 _ rfl
 obtain rfl : a4 = u4 := Option.some.inj c4
 obtain rfl : b4 = y4 := Option.some.inj g4
 clear c4 g4
 obtain ⟨u5, y5, c5, g5, t5⟩ := hf 5 _ rfl
 obtain rfl : a5 = u5 := Option.some.inj c5
 obtain rfl : b5 = y5 := Option.some.inj g5
 clear c5 g5
 obtain ⟨u6, y6, c6, g6, t6⟩ := hf 6 _ rfl
 obtain rfl : a6 = u6 := Option.some.inj c6
 obtain rfl : b6 = y6 := Option.some.inj g6
 clear c6 g6
 obtain ⟨u7, y7, c7, g7, t7⟩ := hf 7 _ rfl
 obtain rfl : a7 = u7 := Option.some.inj c7
 obtain rfl : b7 = y7 := Option.some.inj g7
 clear c7 g7
 obtain ⟨u8, y8, c8, g8, t8⟩ := hf 8 _ rfl
 obtain rfl : a8 = u8 := Option.some.inj c8
 obtain rfl : b8 = y8 := Option.some.inj g8
 clear c8 g8
 obtain ⟨u9, y9, c9, g9, t9⟩ := hf 9 _ rfl
 obtain rfl : a9 = u9 := Option.some.inj c9
 obtain rfl : b9 = y9 := Option.some.inj g9
 clear c9 g9
 obtain ⟨u10, y10, c10, g10, t10⟩ := hf 10 _ rfl
 obtain rfl : a10 = u10 := Option.some.inj c10
 obtain rfl : b10 = y10 := Option.some.inj g10
 clear c10 g10
 obtain ⟨u11, y11, c11, g11, t11⟩ := hf 11 _ rfl
 obtain rfl : a11 = u11 := Option.some.inj c11
 obtain rfl : b11 = y11 := Option.some.inj g11
 clear c11 g11
 obtain ⟨u12, y12, c12, g12, t12⟩ := hf 12 _ rfl
 obtain rfl : a12 = u12 := Option.some.inj c12
 obtain rfl : b12 = y12 := Option.some.inj g12
 clear c12 g12
 obtain ⟨u13, y13, c13, g13, t13⟩ := hf 13 _ rfl
 obtain rfl : a13 = u13 := Option.some.inj c13
 obtain rfl : b13 = y13 := Option.some.inj g13
 clear c13 g13
 obtain ⟨u14, y14, c14, g14, t14⟩ := hf 14 _ rfl
 obtain rfl : a14 = u14 := Option.some.inj c14
 obtain rfl : b14 = y14 := Option.some.inj g14
 clear c14 g14
 obtain ⟨n0, e0, z0, w0⟩ := DataW.trod_int Tryz.underlying3 t0
 simp only [List.cons.injEq, and_true] at e0
 subst e0 z0
 obtain ⟨s1, e1, z1, w1⟩ := DataW.trod_string Tryz.underlying9 t1
 simp only [List.cons.injEq, and_true] at e1
 subst e1 z1
 obtain ⟨s2, e2, z2, w2⟩ := DataW.trod_string Tryz.underlying9 t2
 simp only [List.cons.injEq, and_true] at e2
 subst e2 z2
 obtain ⟨s3, e3, z3, w3⟩ := DataW.trod_string Tryz.underlying9 t3
 simp only [List.cons.injEq, and_true] at e3
 subst e3 z3
 obtain ⟨s4, e4, z4, w4⟩ := DataW.trod_string Tryz.underlying9 t4
 simp only [List.cons.injEq, and_true] at e4
 subst e4 z4
 obtain ⟨s5, e5, z5, w5⟩ := DataW.trod_string Tryz.underlying9 t5
 simp only [List.cons.injEq, and_true] at e5
 subst e5 z5
 obtain ⟨s6, e6, z6, w6⟩ := DataW.trod_string Tryz.underlying9 t6
 simp only [List.cons.injEq, and_true] at e6
 subst e6 z6
 obtain ⟨n7, e7, z7, w7⟩ := DataW.trod_int Tryz.underlying3 t7
 simp only [List.cons.injEq, and_true] at e7
 subst e7 z7
 obtain ⟨n8, e8, z8, w8⟩ := DataW.trod_int Tryz.underlying3 t8
 simp only [List.cons.injEq, and_true] at e8
 subst e8 z8
 obtain ⟨n9, e9, z9, w9⟩ := DataW.trod_int Tryz.underlying3 t9
 simp only [List.cons.injEq, and_true] at e9
 subst e9 z9
 obtain ⟨n10, e10, z10, w10⟩ := DataW.trod_int Tryz.underlying3 t10
 simp only [List.cons.injEq, and_true] at e10
 subst e10 z10
 obtain ⟨n11, e11, z11, w11⟩ := DataW.trod_int Tryz.underlying3 t11
 simp only [List.cons.injEq, and_true] at e11
 subst e11 z11
 obtain ⟨n12, e12, z12, w12⟩ := DataW.trod_int Tryz.underlying3 t12
 simp only [List.cons.injEq, and_true] at e12
 subst e12 z12
 obtain ⟨n13, e13, z13, w13⟩ := DataW.trod_int Tryz.underlying3 t13
 simp only [List.cons.injEq, and_true] at e13
 subst e13 z13
 obtain ⟨fa, fc, l, hu, hfx, hft⟩ := open_facts t14
 subst hu
 simp only [List.map_cons, List.map_nil, Rows.uptoBulk, Rows.uptoBulkAll] at hb
 refine ⟨⟨n0, fun i => ([[], s1.data.toList, s2.data.toList, s3.data.toList, s4.data.toList, s5.data.toList, s6.data.toList] : List (List UInt8)).getD i [], fun i => ([0, 0, 0, 0, 0, 0, 0, n7, n8, n9, n10, n11, n12, n13] : List Int).getD i 0, l⟩, fa, fc, rfl, ⟨fun i h1 h2 => ?_, fun i h1 h2 => ?_⟩, hfx, ?_, hft⟩
 · match i, h1, h2 with
   | 1, _, _ => show s1.data.toList.length ≤ 1100000; omega
   | 2, _, _ => show s2.data.toList.length ≤ 1100000; omega
   | 3, _, _ => show s3.data.toList.length ≤ 1100000; omega
   | 4, _, _ => show s4.data.toList.length ≤ 1100000; omega
   | 5, _, _ => show s5.data.toList.length ≤ 1100000; omega
   | 6, _, _ => show s6.data.toList.length ≤ 1100000; omega
 · match i, h1, h2 with
   | 7, _, _ => exact bounds_i64 w7
   | 8, _, _ => exact bounds_i64 w8
   | 9, _, _ => exact bounds_i64 w9
   | 10, _, _ => exact bounds_i64 w10
   | 11, _, _ => exact bounds_i64 w11
   | 12, _, _ => exact bounds_i64 w12
   | 13, _, _ => exact bounds_i64 w13
 · show s1.data.toList.length + s2.data.toList.length + s3.data.toList.length + s4.data.toList.length + s5.data.toList.length + s6.data.toList.length ≤ 1048576
   omega
end
end Go.Proofs.YtlccmgeclhdegaaGreatDoor.Open
