/- The ledger: the postings up to an instant, one by one; Balance: walked. -/
import Derived.Test.YtheofhegdjjfgaaLed6
namespace Go.Proofs.Ytheofhegdjjfgaa
open Go.RowKit

def upTo (at_ : Int) (es : List Ent) : List Ent := es.filter fun x => decide (x.at_ ≤ at_)
/-- the postings up to an instant. -/
def postsAt (es : List Ent) (at_ : Int) : List Pst := (upTo at_ es).flatMap (·.ps)
theorem upTo_take {es : List Ent} {at_ : Int} {i : Nat} {x : Ent} (hx : es[i]? = some x) : postsAt (es.take (i + 1)) at_ = postsAt (es.take i) at_ ++ if x.at_ ≤ at_ then x.ps else [] := by
  unfold postsAt upTo
  rw [List.take_add_one, hx, List.filter_append, List.flatMap_append]
  by_cases h : x.at_ ≤ at_
  · simp [h]
  · simp [h]
theorem posts_split {es : List Ent} {at_ : Int} {i j : Nat} {x : Ent} {p : Pst} (hx : es[i]? = some x) (hle : x.at_ ≤ at_) (hp : x.ps[j]? = some p) : ∃ post, postsAt es at_ = (postsAt (es.take i) at_ ++ x.ps.take j) ++ p :: post := by
  obtain ⟨h1, h2⟩ := List.getElem?_eq_some_iff.1 hx
  obtain ⟨h3, h4⟩ := List.getElem?_eq_some_iff.1 hp
  have e1 : es = es.take i ++ x :: es.drop (i + 1) := by rw [← h2, List.getElem_cons_drop, List.take_append_drop]
  have e2 : x.ps = x.ps.take j ++ p :: x.ps.drop (j + 1) := by rw [← h4, List.getElem_cons_drop, List.take_append_drop]
  refine ⟨x.ps.drop (j + 1) ++ postsAt (es.drop (i + 1)) at_, ?_⟩
  conv => lhs; rw [e1]
  unfold postsAt upTo
  rw [List.filter_append, List.filter_cons, if_pos (by simpa using hle), List.flatMap_append, List.flatMap_cons]
  conv => lhs; rw [e2]
  simp
theorem row_getE {Γ : List Asn} {B : LB} {s : LS} {m : Bool} {g c : Nat} (hsv : s.sv = .slice (some ⟨g, 0, none⟩) s.es.length c) (hm : ledA B s m ∈ Γ) {i : Nat} {x : EA} (hx : s.es[i]? = some x) : ∀ w, Hd Γ w → ∀ j v, (encE x)[j]? = some v → w.cell? ⟨g, 0 + i * 4 + j, none⟩ = some v := fun w hh j v hj => by
  have h1 : w.ownsRow 0 58 4 s.sv s.es.length (s.es.flatMap encE) := (hh _ hm).row
  rw [hsv] at h1
  have h2 := flat_get encE 4 (fun _ => rfl) s.es i x hx j v hj
  have h3 := World.ownsRow.cells h1 (g := g) rfl _ _ h2
  rw [addr_add] at h3
  rw [← h3]; congr 2; omega
theorem ps_getE {Γ : List Asn} {B : LB} {s : LS} {m : Bool} (hm : ledA B s m ∈ Γ) {x : EA} (hx : x ∈ s.es) {j : Nat} {p : Pst} (hp : x.v.ps[j]? = some p) : ∀ w, Hd Γ w → ∀ k v, (encP p)[k]? = some v → w.cell? ⟨x.b, 0 + j * 3 + k, none⟩ = some v := fun w hh k v hk => by
  have h1 : w.ownsRow 0 63 3 (psV x) x.v.ps.length (x.v.ps.flatMap encP) := (hh _ hm).ps x hx
  have h2 := flat_get encP 3 (fun _ => rfl) x.v.ps j p hp k v hk
  have h3 := World.ownsRow.cells h1 (g := x.b) rfl _ _ h2
  rw [addr_add] at h3
  rw [← h3]; congr 2; omega

set_option maxHeartbeats 1000000 in
set_option maxRecDepth 100000 in
theorem leach_P {γ : Type} (B : LB) (s : LS) (at_ : Int) (f : FuncId) (caps : List Value) (Z : γ → Asn) (hZm : ∀ g, (Z g).mine = true) (step : γ → Pst → γ) (g0 : γ) (hf : CallsTo Try.prog f) (hes : s.es.length ≤ 1000000) (hps : ∀ x ∈ s.es, x.v.ps.length ≤ 1000000)
    (hcall : ∀ pre p post, postsAt (pl s).es at_ = pre ++ p :: post → ∀ w, (Z (pre.foldl step g0)).ok w → MutC Try.prog f ([.agg (encP p).toArray] ++ caps) w (Z (pre.foldl step g0)) (fun _ : Unit => .tuple #[]) (fun _ => Z ((pre ++ [p]).foldl step g0)))
    (w0 : World) (h : ledφ B s w0) (hz : (Z g0).ok w0) (hd : ∀ b, (Z g0).F b → ¬ ledF B s b) :
    MutC Try.prog 68 [.pointer (some ⟨B.lb, 0, none⟩), .int .i64 at_, .func (.func f) #[] caps.toArray] w0 (Z g0) (fun _ : Unit => .tuple #[]) (fun _ => Z ((postsAt (pl s).es at_).foldl step g0)) := by
  obtain ⟨qs, cs, hsv⟩ := own_slice h.row
  have hsh : s.es.length = 0 ∨ ∃ g, qs = some ⟨g, 0, none⟩ := by
    have h1 := h.row
    rw [hsv] at h1
    rcases h1.2 with ⟨e1, e2⟩ | ⟨g, cap, cur, e1, _⟩
    · exact .inl e2
    · injection e1 with e3; exact .inr ⟨g, e3⟩
  have hel : (pl s).es.length = s.es.length := by simp [pl]
  refine c_enter [(0, .pointer (some ⟨B.lb, 0, none⟩)), (1, .int .i64 at_), (2, .func (.func f) #[] caps.toArray)] [Z g0, ledA B s false] (Z g0).F Try.func68 rfl Try.ntmps68 ⟨rfl, rfl, rfl, trivial⟩ rfl (okC hz (okC (led_ok false h) okN)) (disC (sepC hd sepN) dis1) (mineO (fun _ hb => hb) (mineC rfl mineN)) ?_
  intro a hS
  refine c_seq ?_
  refine c_region ?_
  refine L_op (s_e hS (e_move rfl) rfl ?_); clear hS a; intro a hS
  refine L_op (s_e hS (e_nilCheck rfl) rfl ?_); clear hS a; intro a hS
  first | (refine L_op (s_e hS (e_fa0 rfl ty_fo129_2) rfl ?_); clear hS a; intro a hS) | (refine L_op (s_e hS (e_faK rfl ty_fo129_2) rfl ?_); clear hS a; intro a hS)
  refine L_op (s_e hS (e_loadC rfl ty_sc54 (led_cell (k := 2) (by repeat constructor) rfl)) rfl ?_); clear hS a; intro a hS
  rw [hsv] at hS
  refine L_op (s_e hS (e_len rfl rfl ty_sl54) rfl ?_); clear hS a; intro a hS
  refine L_op (s_e hS (e_move rfl) rfl ?_); clear hS a; intro a hS
  refine L_nil ?_
  refine n_then ?_
  refine wp_block ?_
  skip
  refine c_loop (γ := Nat) (fun i a w => St 35 (Z g0).F w0 a w [(15, .int .i64 (i : Int)), (14, .int .i64 (s.es.length : Int)), (13, .slice qs s.es.length cs), (1, .int .i64 at_), (2, .func (.func f) #[] caps.toArray)] [Z ((postsAt ((pl s).es.take i) at_).foldl step g0), ledA B s false] ∧ i ≤ s.es.length) (fun i => s.es.length - i) 0 ⟨(hS.slots (by repeat (first | exact trivial | refine ⟨rfl, ?_⟩))).pick (by repeat (first | exact Pick.nil | (refine Pick.cons (by repeat (first | exact Rem.head | apply Rem.tail)) ?_))), Nat.zero_le _⟩ ?_
  clear hS a; (try clear w); intro i a w hI
  obtain ⟨hS, hi⟩ := hI
  refine c_seq ?_
  refine c_region ?_
  refine L_op (s_e hS (e_bin rfl rfl rfl) rfl ?_); clear hS a; intro a hS
  refine L_nil ?_
  refine n_then ?_
  refine c_seq ?_
  first | refine c_ifD hS rfl (fun hc16 => ?_) (fun hc16 => ?_) | refine c_if hS rfl (fun hc16 => ?_) (fun hc16 => ?_)
  ·
    have hil : i < s.es.length := by omega
    obtain ⟨x, hx⟩ : ∃ x, s.es[i]? = some x := ⟨s.es[i], List.getElem?_eq_getElem hil⟩
    have hxm := List.mem_of_getElem? hx
    have hxp : (pl s).es[i]? = some x.v := by unfold pl; simp [hx]
    obtain ⟨gs, rfl⟩ : ∃ g, qs = some ⟨g, 0, none⟩ := hsh.resolve_left (by omega)
    have hpt := upTo_take (at_ := at_) hxp
    have hpl := hps x hxm
    refine wp_skip ?_
    refine n_then ?_
    refine c_seq ?_
    refine wp_block ?_
    refine c_seq ?_
    refine c_region ?_
    refine L_op (s_e hS (e_ixN rfl rfl ty_sl54 ty_sz58 (by omega)) rfl ?_); clear hS a; intro a hS
    refine L_op (s_e hS (e_loadAC (l := encE x) rfl ty_st58 ty_sz58 (row_getE hsv (by repeat constructor) hx)) rfl ?_); clear hS a; intro a hS
    refine L_op (s_alloc hS ty_z58 rfl ?_); clear hS a; (try clear w); intro a w b7 hS
    refine L_op (s_storeA hS rfl rfl ty_sz58 (by repeat constructor) (by rfl) (by rfl) (by rfl) ?_); clear hS; (try clear w); intro w hS
    refine L_nil ?_
    refine n_then ?_
    refine c_seq ?_
    refine c_seq ?_
    refine c_region ?_
    first | (refine L_op (s_e hS (e_fa0 rfl ty_fo58_1) rfl ?_); clear hS a; intro a hS) | (refine L_op (s_e hS (e_faK rfl ty_fo58_1) rfl ?_); clear hS a; intro a hS)
    refine L_op (s_e hS (e_load rfl (by repeat constructor) ty_sc3 (by rfl)) rfl ?_); clear hS a; intro a hS
    refine L_op (s_e hS (e_move rfl) rfl ?_); clear hS a; intro a hS
    refine L_op (s_e hS (e_bin rfl rfl rfl) rfl ?_); clear hS a; intro a hS
    refine L_nil ?_
    refine n_then ?_
    first | refine c_ifD hS rfl (fun hc22 => ?_) (fun hc22 => ?_) | refine c_if hS rfl (fun hc22 => ?_) (fun hc22 => ?_)
    ·
      refine wp_exit ?_
      refine x_then (x_hit ?_)
      refine n_then ?_
      refine c_region ?_
      first | (refine L_op (s_e hS (e_binN rfl rfl rfl (by omega)) rfl ?_); clear hS a; intro a hS) | (refine L_op (s_e hS (e_bin rfl rfl rfl) rfl ?_); clear hS a; intro a hS)
      refine L_op (s_e hS (e_move rfl) rfl ?_); clear hS a; intro a hS
      refine L_nil ?_
      first
      | (rw [if_neg (by omega), List.append_nil] at hpt
         rw [← hpt] at hS
         exact ⟨i + 1, by omega, (hS.slots (by repeat (first | exact trivial | refine ⟨rfl, ?_⟩))).pick (by repeat (first | exact Pick.nil | (refine Pick.cons (by repeat (first | exact Rem.head | apply Rem.tail)) ?_))), by omega⟩)
      | (rw [if_pos (by omega)] at hpt
         rw [← hpt] at hS
         exact ⟨i + 1, by omega, (hS.slots (by repeat (first | exact trivial | refine ⟨rfl, ?_⟩))).pick (by repeat (first | exact Pick.nil | (refine Pick.cons (by repeat (first | exact Rem.head | apply Rem.tail)) ?_))), by omega⟩)
    ·
      refine wp_skip ?_
      refine n_then ?_
      refine c_seq ?_
      refine c_region ?_
      first | (refine L_op (s_e hS (e_fa0 rfl ty_fo58_3) rfl ?_); clear hS a; intro a hS) | (refine L_op (s_e hS (e_faK rfl ty_fo58_3) rfl ?_); clear hS a; intro a hS)
      refine L_op (s_e hS (e_load rfl (by repeat constructor) ty_sc56 (by rfl)) rfl ?_); clear hS a; intro a hS
      refine L_op (s_e hS (e_len rfl rfl ty_sl56) rfl ?_); clear hS a; intro a hS
      refine L_op (s_e hS (e_move rfl) rfl ?_); clear hS a; intro a hS
      refine L_nil ?_
      refine n_then ?_
      refine wp_block ?_
      skip
      refine c_loop (γ := Nat) (fun j a w => St 35 (Z g0).F w0 a w [(26, .int .i64 (j : Int)), (25, .int .i64 (x.v.ps.length : Int)), (24, psV x), (15, .int .i64 (i : Int)), (14, .int .i64 (s.es.length : Int)), (13, .slice (some ⟨gs, 0, none⟩) s.es.length cs), (1, .int .i64 at_), (2, .func (.func f) #[] caps.toArray)] [Z ((postsAt ((pl s).es.take i) at_ ++ x.v.ps.take j).foldl step g0), ledA B s false] ∧ j ≤ x.v.ps.length) (fun j => x.v.ps.length - j) 0 ⟨by rw [List.take_zero, List.append_nil]; exact (hS.slots (by repeat (first | exact trivial | refine ⟨rfl, ?_⟩))).pick (by repeat (first | exact Pick.nil | (refine Pick.cons (by repeat (first | exact Rem.head | apply Rem.tail)) ?_))), Nat.zero_le _⟩ ?_
      clear hS a; (try clear w); intro j a w hI
      obtain ⟨hS, hj⟩ := hI
      refine c_seq ?_
      refine c_region ?_
      refine L_op (s_e hS (e_bin rfl rfl rfl) rfl ?_); clear hS a; intro a hS
      refine L_nil ?_
      refine n_then ?_
      refine c_seq ?_
      first | refine c_ifD hS rfl (fun hc27 => ?_) (fun hc27 => ?_) | refine c_if hS rfl (fun hc27 => ?_) (fun hc27 => ?_)
      ·
        have hjl : j < x.v.ps.length := by omega
        obtain ⟨p, hp⟩ : ∃ p, x.v.ps[j]? = some p := ⟨x.v.ps[j], List.getElem?_eq_getElem hjl⟩
        obtain ⟨post, hsp⟩ := posts_split hxp (show x.v.at_ ≤ at_ by omega) hp
        have htk : x.v.ps.take (j + 1) = x.v.ps.take j ++ [p] := by rw [List.take_add_one, hp]; rfl
        refine wp_skip ?_
        refine n_then ?_
        refine c_seq ?_
        refine wp_block ?_
        refine c_seq ?_
        refine c_region ?_
        refine L_op (s_e hS (e_ixN rfl rfl ty_sl56 ty_sz63 (by omega)) rfl ?_); clear hS a; intro a hS
        refine L_op (s_e hS (e_loadAC (l := encP p) rfl ty_st63 ty_sz63 (ps_getE (by repeat constructor) hxm hp)) rfl ?_); clear hS a; intro a hS
        refine L_op (s_alloc hS ty_z63 rfl ?_); clear hS a; (try clear w); intro a w b9 hS
        refine L_op (s_storeA hS rfl rfl ty_sz63 (by repeat constructor) (by rfl) (by rfl) (by rfl) ?_); clear hS; (try clear w); intro w hS
        refine L_nil ?_
        refine n_then ?_
        refine c_region ?_
        refine L_op (s_e hS (e_move rfl) rfl ?_); clear hS a; intro a hS
        refine L_op (s_e hS (e_loadA rfl (by repeat constructor) ty_st63 ty_sz63 (by rfl)) rfl ?_); clear hS a; intro a hS
        refine L_op (s_callvM hS rfl (.cons rfl .nil) hf rfl (hcall _ p post hsp _ (hS.ok (Z ((postsAt ((pl s).es.take i) at_ ++ x.v.ps.take j).foldl step g0)) (by repeat constructor))) (fun _ => (by repeat constructor)) (hZm _) ?_); intro x32; clear hS a; (try clear w); intro a w hS
        refine L_nil ?_
        refine n_block ?_
        refine n_then ?_
        refine c_region ?_
        first | (refine L_op (s_e hS (e_binN rfl rfl rfl (by omega)) rfl ?_); clear hS a; intro a hS) | (refine L_op (s_e hS (e_bin rfl rfl rfl) rfl ?_); clear hS a; intro a hS)
        refine L_op (s_e hS (e_move rfl) rfl ?_); clear hS a; intro a hS
        refine L_nil ?_
        exact ⟨j + 1, by omega, by rw [htk, ← List.append_assoc]; exact (hS.slots (by repeat (first | exact trivial | refine ⟨rfl, ?_⟩))).pick (by repeat (first | exact Pick.nil | (refine Pick.cons (by repeat (first | exact Rem.head | apply Rem.tail)) ?_))), by omega⟩
      ·
        obtain rfl : j = x.v.ps.length := by omega
        rw [List.take_length] at hS
        refine wp_exit ?_
        refine x_then (x_then (x_hit ?_))
        refine n_block ?_
        refine n_then ?_
        refine c_region ?_
        first | (refine L_op (s_e hS (e_binN rfl rfl rfl (by omega)) rfl ?_); clear hS a; intro a hS) | (refine L_op (s_e hS (e_bin rfl rfl rfl) rfl ?_); clear hS a; intro a hS)
        refine L_op (s_e hS (e_move rfl) rfl ?_); clear hS a; intro a hS
        refine L_nil ?_
        first
        | (rw [if_neg (by omega), List.append_nil] at hpt
           rw [← hpt] at hS
           exact ⟨i + 1, by omega, (hS.slots (by repeat (first | exact trivial | refine ⟨rfl, ?_⟩))).pick (by repeat (first | exact Pick.nil | (refine Pick.cons (by repeat (first | exact Rem.head | apply Rem.tail)) ?_))), by omega⟩)
        | (rw [if_pos (by omega)] at hpt
           rw [← hpt] at hS
           exact ⟨i + 1, by omega, (hS.slots (by repeat (first | exact trivial | refine ⟨rfl, ?_⟩))).pick (by repeat (first | exact Pick.nil | (refine Pick.cons (by repeat (first | exact Rem.head | apply Rem.tail)) ?_))), by omega⟩)
  ·
    refine wp_exit ?_
    refine x_then (x_then (x_hit ?_))
    refine r_norm ?_
    refine c_retN hS Try.results68 .nil rfl ?_
    obtain rfl : i = s.es.length := by omega
    rw [← hel, List.take_length] at hS
    exact ⟨(), rfl, hS.chg, hS.ok (Z ((postsAt (pl s).es at_).foldl step g0)) (by repeat constructor), fun b hb => (hS.mine (Z ((postsAt (pl s).es at_).foldl step g0)) (by repeat constructor) (hZm _) b hb).symm⟩
end Go.Proofs.Ytheofhegdjjfgaa
