/- The ledger: Balance, walked. -/
import Derived.Test.YtheofhegdjjfgaaLed7
namespace Go.Proofs.Ytheofhegdjjfgaa
open Go.RowKit

def balStep (code : ByteArray) (g : SM) (p : Pst) : SM := if p.acc = code then addS g p else g
def balZ (bc bs : Nat) (code : ByteArray) (g : SM) : Asn := .any (fun k => k = bc ∨ k = bs) (fun w => w.heap[bc]? = some (.cells [Value.string code].toArray 9 (0, 0)) ∧ w.heap[bs]? = some (.cells (encSm g).toArray 136 (0, 0))) true
theorem balZ_ok {bc bs : Nat} {code : ByteArray} {g : SM} {w : World} (h1 : w.heap[bc]? = some (.cells [Value.string code].toArray 9 (0, 0))) (h2 : w.heap[bs]? = some (.cells (encSm g).toArray 136 (0, 0))) : (balZ bc bs code g).ok w := by
  refine ⟨fun k hk => ?_, fun w' hw => ⟨?_, ?_⟩⟩
  · rcases hk with rfl | rfl
    · exact (Array.getElem?_eq_some_iff.1 h1).1
    · exact (Array.getElem?_eq_some_iff.1 h2).1
  · rw [hw bc (.inl rfl)]; exact h1
  · rw [hw bs (.inr rfl)]; exact h2
set_option maxRecDepth 100000 in
theorem lBal1_P (bc bs : Nat) (code : ByteArray) (g : SM) (p : Pst) (hg : fitS g) (hp : p.fits) (hr : fitS (addS g p)) (hne : bc ≠ bs) (w0 : World) (h : (balZ bc bs code g).ok w0) :
    MutC Try.prog 69 [.agg (encP p).toArray, .pointer (some ⟨bc, 0, none⟩), .pointer (some ⟨bs, 0, none⟩)] w0 (balZ bc bs code g) (fun _ : Unit => .tuple #[]) (fun _ => balZ bc bs code (balStep code g p)) := by
  have h1 := h.now.1
  have h2 := h.now.2
  refine c_enter [(0, .agg (encP p).toArray), (1, .pointer (some ⟨bc, 0, none⟩)), (2, .pointer (some ⟨bs, 0, none⟩))] [.blk bc [.string code] 9, .blk bs (encSm g) 136] (balZ bc bs code g).F Try.func69 rfl Try.ntmps69 ⟨rfl, rfl, rfl, trivial⟩ rfl (okC (ok_blk h1) (okC (ok_blk h2) okN)) (disC (sepC (fun b e1 e2 => hne (Eq.trans (Eq.symm e1) e2)) sepN) dis1) (mineO (fun _ hb => .inl hb) (mineO (fun _ hb => .inr hb) mineN)) ?_
  intro a hS
  refine c_seq ?_
  refine c_region ?_
  refine L_op (s_boxA hS rfl rfl ?_); clear hS a; (try clear w); intro a w b3 hS
  refine L_nil ?_
  refine n_then ?_
  refine c_seq ?_
  refine c_region ?_
  first | (refine L_op (s_e hS (e_fa0 rfl ty_fo63_0) rfl ?_); clear hS a; intro a hS) | (refine L_op (s_e hS (e_faK rfl ty_fo63_0) rfl ?_); clear hS a; intro a hS)
  refine L_op (s_e hS (e_load rfl (by repeat constructor) ty_sc9 (by rfl)) rfl ?_); clear hS a; intro a hS
  refine L_op (s_e hS (e_load rfl (by repeat constructor) ty_sc9 (by rfl)) rfl ?_); clear hS a; intro a hS
  refine L_op (s_e hS (e_binS rfl rfl rfl) rfl ?_); clear hS a; intro a hS
  refine L_nil ?_
  refine n_then ?_
  first | refine c_ifD hS rfl (fun hc7 => ?_) (fun hc7 => ?_) | refine c_if hS rfl (fun hc7 => ?_) (fun hc7 => ?_)
  ·
    refine c_region ?_
    refine L_op (s_e hS (e_loadA rfl (by repeat constructor) ty_st136 ty_sz136 (by rfl)) rfl ?_); clear hS a; intro a hS
    refine L_op (s_e hS (e_loadA rfl (by repeat constructor) ty_st63 ty_sz63 (by rfl)) rfl ?_); clear hS a; intro a hS
    refine L_op (s_callP hS (.cons rfl (.cons rfl .nil)) cf70 rfl (sadd_P g p hg hp hr _) ?_); clear hS a; (try clear w); intro a w hS
    refine L_op (s_storeA hS rfl rfl ty_sz136 (by repeat constructor) (by rfl) (by rfl) (by rfl) ?_); clear hS; (try clear w); intro w hS
    refine L_nil ?_
    refine r_norm ?_
    refine c_retN hS Try.results69 .nil rfl ?_
    first
    | exact ⟨(), rfl, hS.chg, by rw [show balStep code g p = addS g p from if_pos hc7]; exact balZ_ok (hS.get (X := .blk bc [.string code] 9) (by repeat constructor)) (hS.get (X := .blk bs (encSm (addS g p)) 136) (by repeat constructor)), fun b hb => .inl hb⟩
    | exact ⟨(), rfl, hS.chg, by rw [show balStep code g p = g from if_neg hc7]; exact balZ_ok (hS.get (X := .blk bc [.string code] 9) (by repeat constructor)) (hS.get (X := .blk bs (encSm g) 136) (by repeat constructor)), fun b hb => .inl hb⟩
  ·
    refine wp_skip ?_
    refine r_norm ?_
    refine c_retN hS Try.results69 .nil rfl ?_
    first
    | exact ⟨(), rfl, hS.chg, by rw [show balStep code g p = addS g p from if_pos hc7]; exact balZ_ok (hS.get (X := .blk bc [.string code] 9) (by repeat constructor)) (hS.get (X := .blk bs (encSm (addS g p)) 136) (by repeat constructor)), fun b hb => .inl hb⟩
    | exact ⟨(), rfl, hS.chg, by rw [show balStep code g p = g from if_neg hc7]; exact balZ_ok (hS.get (X := .blk bc [.string code] 9) (by repeat constructor)) (hS.get (X := .blk bs (encSm g) 136) (by repeat constructor)), fun b hb => .inl hb⟩
structure bdS (s : SM) (n : Nat) : Prop where
  u : -(n * 9223372036854775808 : Int) ≤ s.1 ∧ s.1 ≤ n * 9223372036854775808
  f : -(n * 9223372036854775808 : Int) ≤ s.2 ∧ s.2 ≤ n * 9223372036854775808
theorem bdS_step {code : ByteArray} {g : SM} {n : Nat} {p : Pst} (h : bdS g n) (hp : p.fits) : bdS (balStep code g p) (n + 1) := by
  have hu := hp.u
  have hff := hp.f
  have h1 := h.u
  have h2 := h.f
  unfold balStep
  split
  · unfold addS; exact ⟨by simp only; omega, by simp only; omega⟩
  · exact ⟨by omega, by omega⟩
theorem bal_fold {code : ByteArray} (l : List Pst) : ∀ (g : SM) (n : Nat), (∀ p ∈ l, p.fits) → bdS g n → bdS (l.foldl (balStep code) g) (n + l.length) := by
  induction l with
  | nil => intro g n _ h; exact h
  | cons p r ih =>
    intro g n hf h
    have h2 := ih (balStep code g p) (n + 1) (fun q hq => hf q (.tail _ hq)) (bdS_step h (hf p (.head _)))
    rw [List.foldl_cons, List.length_cons, show n + (r.length + 1) = n + 1 + r.length by omega]; exact h2
theorem bdS_zero : bdS (0, 0) 0 := ⟨by simp, by simp⟩
/-- what stands in an account at an instant, however much. -/
def sumAt (P : PL) (code : ByteArray) (at_ : Int) : SM := (postsAt P.es at_).foldl (balStep code) (0, 0)
abbrev BL := ByteArray × Int × Int
def encBl (b : BL) : List Value := [.string b.1, .int .i64 b.2.1, .int .i64 b.2.2]
def noBl : BL := (⟨#[]⟩, 0, 0)
def balF (P : PL) (code : ByteArray) (at_ : Int) : BL × Int :=
  if (findA P.acs code).isSome = false then (noBl, 2) else if ¬ inst at_ then (noBl, 6) else if okS (sumAt P code at_) then ((code, (sumAt P code at_).1, (sumAt P code at_).2), 0) else (noBl, 16)
/-- every posting of a ledger's entries is one that may be. -/
structure fitL (P : PL) : Prop where
  fits : ∀ x ∈ P.es, ∀ p ∈ x.ps, p.fits
  few : P.es.length ≤ 100000
  ps : ∀ x ∈ P.es, x.ps.length ≤ 50
theorem posts_fit {P : PL} (h : fitL P) (at_ : Int) : ∀ p ∈ postsAt P.es at_, p.fits := fun p hp => by
  unfold postsAt upTo at hp
  obtain ⟨x, hx, hpx⟩ := List.mem_flatMap.1 hp
  exact h.fits x (List.mem_filter.1 hx).1 p hpx
theorem posts_len : ∀ (es : List Ent) (at_ : Int), (∀ x ∈ es, x.ps.length ≤ 50) → (postsAt es at_).length ≤ es.length * 50
  | [], _, _ => Nat.le_refl _
  | x :: r, at_, h => by
    have ih := posts_len r at_ (fun y hy => h y (.tail _ hy))
    have hx := h x (.head _)
    unfold postsAt upTo at ih ⊢
    rw [List.filter_cons]
    by_cases e : x.at_ ≤ at_
    · rw [if_pos (by simpa using e), List.flatMap_cons, List.length_append, List.length_cons]; omega
    · rw [if_neg (by simpa using e), List.length_cons]; omega
theorem sum_bd {P : PL} (h : fitL P) (code : ByteArray) (at_ : Int) : bdS (sumAt P code at_) 5000000 := by
  have h1 := bal_fold (code := code) (postsAt P.es at_) (0, 0) 0 (posts_fit h at_) bdS_zero
  have h2 := posts_len P.es at_ h.ps
  have h3 := h.few
  have h4 := h1.u
  have h5 := h1.f
  unfold sumAt
  exact ⟨by omega, by omega⟩
set_option maxHeartbeats 1000000 in
set_option maxRecDepth 100000 in
theorem lBal_P (B : LB) (s : LS) (code : ByteArray) (at_ : Int) (hfl : fitL (pl s)) (w0 : World) (h : ledφ B s w0) :
     PureC Try.prog 29 [.pointer (some ⟨B.lb, 0, none⟩), .string code, .int .i64 at_] w0 (.tuple [.agg (encBl (balF (pl s) code at_).1).toArray, .int .i64 (balF (pl s) code at_).2].toArray) := by
   have hsb := sum_bd hfl code at_
   have hes : s.es.length ≤ 100000 := by have := hfl.few; simpa [pl] using this
   have hps : ∀ x ∈ s.es, x.v.ps.length ≤ 50 := fun x hx => hfl.ps x.v (by unfold pl; exact List.mem_map.2 ⟨x, hx, rfl⟩)
   refine c_enter [(0, .pointer (some ⟨B.lb, 0, none⟩)), (1, .string code), (2, .int .i64 at_)] [ledA B s false] noB Try.func29 rfl Try.ntmps29 ⟨rfl, rfl, rfl, trivial⟩ rfl (okC (led_ok false h) okN) dis1 (mineC (by rfl) mineN) ?_
   intro a hS
   refine c_seq ?_
   refine c_region ?_
   refine L_op (s_box1 hS rfl rfl rfl ?_); clear hS a; (try clear w); intro a w b4 hS
   refine L_op (s_alloc hS ty_z60 rfl ?_); clear hS a; (try clear w); intro a w b6 hS
   refine L_op (s_e hS (e_assign rfl) rfl ?_); clear hS a; intro a hS
   refine L_nil ?_
   refine n_then ?_
   refine c_seq ?_
   refine c_seq ?_
   refine c_drawS [] (by kernel_rfl) hS (sub_cons (X := .blk b4 _ _) (by repeat constructor) (sub_cons (X := ledA B s false) (by repeat constructor) sub_nil)) ?_; clear hS; (try clear w); intro w hS
   simp only [List.length_cons, List.length_nil, Nat.zero_add, Nat.reduceAdd, List.replicate]
   refine Z_take0 (i := 0) hS rfl want_none (e_move rfl) (listed' := [true, false, false, false, false, false, false, false, false, false, false, false]) rfl (by kernel_rfl) (by kernel_rfl) (by kernel_rfl) (fun _ _ _ h => h) rfl ?_; clear hS a; intro a hS
   refine Z_take0 (i := 1) hS rfl want_none (e_nilCheck rfl) (listed' := [true, true, false, false, false, false, false, false, false, false, false, false]) rfl (by kernel_rfl) (by kernel_rfl) (by kernel_rfl) (fun _ _ _ h => h) rfl ?_; clear hS a; intro a hS
   first | (refine Z_take0 (i := 2) hS rfl want_none (e_fa0 rfl ty_fo129_1) (listed' := [true, true, true, false, false, false, false, false, false, false, false, false]) rfl (by kernel_rfl) (by kernel_rfl) (by kernel_rfl) (fun _ _ _ h => h) rfl ?_; clear hS a; intro a hS) | (refine Z_take0 (i := 2) hS rfl want_none (e_faK rfl ty_fo129_1) (listed' := [true, true, true, false, false, false, false, false, false, false, false, false]) rfl (by kernel_rfl) (by kernel_rfl) (by kernel_rfl) (fun _ _ _ h => h) rfl ?_; clear hS a; intro a hS)
   refine Z_take (i := 3) hS rfl want_none (e_loadC rfl ty_sc126 (led_cell (k := 1) (by repeat constructor) rfl)) (listed' := [true, true, true, true, false, false, false, false, false, false, false, false]) rfl (by kernel_rfl) (by kernel_rfl) (by kernel_rfl) (by kernel_rfl) (by kernel_rfl) (sub_cons (by repeat constructor) (sub_cons (by repeat constructor) sub_nil)) (fun _ _ _ h => h) rfl ?_; clear hS a; intro a hS
   refine Z_take (i := 4) hS rfl want_none (e_load rfl (by repeat constructor) ty_sc9 (by rfl)) (listed' := [true, true, true, true, true, false, false, false, false, false, false, false]) rfl (by kernel_rfl) (by kernel_rfl) (by kernel_rfl) (by kernel_rfl) (by kernel_rfl) (sub_cons (by repeat constructor) (sub_cons (by repeat constructor) sub_nil)) (fun _ _ _ h => h) rfl ?_; clear hS a; intro a hS
   refine Z_take (i := 5) hS rfl want_none (e_lookupTC rfl rfl ty_mp126 ty_u9 ty_zv68 (fun w hh => (hh (ledA B s false) (by repeat constructor)).am)) (listed' := [true, true, true, true, true, true, false, false, false, false, false, false]) rfl (by kernel_rfl) (by kernel_rfl) (by kernel_rfl) (by kernel_rfl) (by kernel_rfl) (sub_cons (by repeat constructor) (sub_cons (by repeat constructor) sub_nil)) (fun _ _ _ h => h) rfl ?_; clear hS a; intro a hS
   rw [lk_acc, has_acc] at hS
   refine Z_take0 (i := 6) hS rfl want_none (e_move rfl) (listed' := [true, true, true, true, true, true, true, false, false, false, false, false]) rfl (by kernel_rfl) (by kernel_rfl) (by kernel_rfl) (fun _ _ _ h => h) rfl ?_; clear hS a; intro a hS
   refine Z_take0 (i := 7) hS rfl want_none (e_extract rfl rfl) (listed' := [true, true, true, true, true, true, true, true, false, false, false, false]) rfl (by kernel_rfl) (by kernel_rfl) (by kernel_rfl) (fun _ _ _ h => h) rfl ?_; clear hS a; intro a hS
   refine Z_take0 (i := 8) hS rfl want_none (e_extract rfl rfl) (listed' := [true, true, true, true, true, true, true, true, true, false, false, false]) rfl (by kernel_rfl) (by kernel_rfl) (by kernel_rfl) (fun _ _ _ h => h) rfl ?_; clear hS a; intro a hS
   refine Z_one (i := 9) rfl (want_none a hS.sl) (listed' := [true, true, true, true, true, true, true, true, true, true, false, false]) rfl (by kernel_rfl) (s_alloc hS ty_z68 rfl ?_); clear hS a; (try clear w); intro a w b8 hS
   refine Z_and hS (sub_cons (by repeat constructor) (sub_cons (by repeat constructor) sub_nil)) ?_
   refine Z_one (i := 10) rfl (want_none a hS.sl) (listed' := [true, true, true, true, true, true, true, true, true, true, true, false]) rfl (by kernel_rfl) (s_storeA hS rfl rfl ty_sz68 (by repeat constructor) (by rfl) (by rfl) (by rfl) ?_); clear hS; (try clear w); intro w hS
   refine Z_and hS (sub_cons (by repeat constructor) (sub_cons (by repeat constructor) sub_nil)) ?_
   refine Z_take0 (i := 11) hS rfl want_none (e_assign rfl) (listed' := [true, true, true, true, true, true, true, true, true, true, true, true]) rfl (by kernel_rfl) (by kernel_rfl) (by kernel_rfl) (fun _ _ _ h => h) rfl ?_; clear hS a; intro a hS
   refine Z_done (by kernel_rfl) ?_
   refine n_then ?_
   refine c_seq ?_
   refine c_region ?_
   refine L_op (s_e hS (e_move rfl) rfl ?_); clear hS a; intro a hS
   refine L_op (s_e hS (e_not rfl) rfl ?_); clear hS a; intro a hS
   refine L_nil ?_
   refine n_then ?_
   first | refine c_ifD hS rfl (fun hc23 => ?_) (fun hc23 => ?_) | refine c_if hS rfl (fun hc23 => ?_) (fun hc23 => ?_)
   ·
     refine c_seq ?_
     refine c_region ?_
     refine L_op (s_e hS (e_build ty_z60 ty_pl60 .nil) rfl ?_); clear hS a; intro a hS
     refine L_op (s_storeA hS rfl rfl ty_sz60 (by repeat constructor) (by rfl) (by rfl) (by rfl) ?_); clear hS; (try clear w); intro w hS
     refine L_op (s_e hS (e_assign rfl) rfl ?_); clear hS a; intro a hS
     refine L_nil ?_
     refine n_then ?_
     refine wp_ret ?_
     refine r_then ?_
     refine c_retN hS Try.results29 (.cons (.cellA rfl (by repeat constructor) ty_st60 ty_sz60 (by rfl)) (.cons (.tmp rfl) .nil)) rfl ?_
     have hE : balF (pl s) code at_ = (noBl, 2) := if_pos (by simpa using hc23 : (findA s.acs code).isSome = false)
     exact ⟨by rw [hE]; rfl, hS.chg⟩
   ·
     have h1 : ¬ (findA (pl s).acs code).isSome = false := by
       have : (findA s.acs code).isSome = true := by simpa using hc23
       show ¬ (findA s.acs code).isSome = false
       rw [this]; decide
     refine wp_skip ?_
     refine n_then ?_
     refine c_seq ?_
     refine c_seq ?_
     refine c_region ?_
     refine L_op (s_e hS (e_move rfl) rfl ?_); clear hS a; intro a hS
     refine L_op (s_callP hS (.cons rfl .nil) cf67 rfl (linst_P at_ _) ?_); clear hS a; (try clear w); intro a w hS
     refine L_op (s_e hS (e_not rfl) rfl ?_); clear hS a; intro a hS
     refine L_nil ?_
     refine n_then ?_
     first | refine c_ifD hS rfl (fun hc27 => ?_) (fun hc27 => ?_) | refine c_if hS rfl (fun hc27 => ?_) (fun hc27 => ?_)
     ·
       refine c_seq ?_
       refine c_region ?_
       refine L_op (s_e hS (e_build ty_z60 ty_pl60 .nil) rfl ?_); clear hS a; intro a hS
       refine L_op (s_storeA hS rfl rfl ty_sz60 (by repeat constructor) (by rfl) (by rfl) (by rfl) ?_); clear hS; (try clear w); intro w hS
       refine L_op (s_e hS (e_assign rfl) rfl ?_); clear hS a; intro a hS
       refine L_nil ?_
       refine n_then ?_
       refine wp_ret ?_
       refine r_then ?_
       refine c_retN hS Try.results29 (.cons (.cellA rfl (by repeat constructor) ty_st60 ty_sz60 (by rfl)) (.cons (.tmp rfl) .nil)) rfl ?_
       have hE : balF (pl s) code at_ = (noBl, 6) := by unfold balF; rw [if_neg h1, if_pos (by simpa using hc27)]
       exact ⟨by rw [hE]; rfl, hS.chg⟩
     ·
       have h2 : ¬ ¬ inst at_ := by simpa using hc27
       refine wp_skip ?_
       refine n_then ?_
       refine c_seq ?_
       refine c_region ?_
       refine L_op (s_alloc hS ty_z136 rfl ?_); clear hS a; (try clear w); intro a w b10 hS
       refine L_nil ?_
       refine n_then ?_
       refine c_seq ?_
       have hne : b4 ≠ b10 := fun e => hS.sep (X := .blk b10 [.int .u64 0, .int .u64 0, .int .u64 0, .int .u64 0] 136) (Y := .blk b4 [.string code] 9) (by repeat (first | exact Rem.head | apply Rem.tail)) (by repeat constructor) b10 rfl e.symm
       replace hS := hS.join (Y := .blk b4 [.string code] 9) (Z := balZ b4 b10 code (0, 0)) (by repeat constructor) (balZ_ok (hS.get (X := .blk b4 [.string code] 9) (by repeat constructor)) (by rw [encSm_zero]; exact hS.get (X := .blk b10 [.int .u64 0, .int .u64 0, .int .u64 0, .int .u64 0] 136) (by repeat constructor))) (fun b hb => hb.symm) (fun _ => ⟨rfl, rfl⟩)
       refine c_region ?_
       refine L_op (s_e hS (e_move rfl) rfl ?_); clear hS a; intro a hS
       refine L_op (s_e hS (e_move rfl) rfl ?_); clear hS a; intro a hS
       refine L_op (s_e hS (e_makeFunc .nil (.cons rfl (.cons rfl .nil))) rfl ?_); clear hS a; intro a hS
       refine L_op (s_callM hS (.cons rfl (.cons rfl (.cons rfl .nil))) cf68 rfl (leach_P B s at_ 69 [.pointer (some ⟨b4, 0, none⟩), .pointer (some ⟨b10, 0, none⟩)] (balZ b4 b10 code) (fun _ => rfl) (balStep code) (0, 0) cf69 (by omega) (fun x hx => by have := hps x hx; omega) (fun pre p post hsp w hok => by
 have hm : p ∈ postsAt (pl s).es at_ := by rw [hsp]; simp
 have hpf := posts_fit hfl at_ p hm
 have hpre : ∀ q ∈ pre, q.fits := fun q hq => posts_fit hfl at_ q (by rw [hsp]; simp [hq])
 have hb := bal_fold (code := code) pre (0, 0) 0 hpre bdS_zero
 have hl := posts_len (pl s).es at_ hfl.ps
 have hfw := hfl.few
 rw [hsp, List.length_append, List.length_cons] at hl
 have hu := hpf.u
 have hff := hpf.f
 have hb1 := hb.u
 have hb2 := hb.f
 have e : (pre ++ [p]).foldl (balStep code) (0, 0) = balStep code (pre.foldl (balStep code) (0, 0)) p := by rw [List.foldl_append]; rfl
 rw [e]
 exact lBal1_P b4 b10 code _ p (by unfold fitS Wd.fit; omega) hpf (by unfold fitS addS Wd.fit; simp only; omega) hne w hok) _ (hS.get (X := ledA B s false) (by repeat constructor)) (hS.ok (balZ b4 b10 code (0, 0)) (by repeat constructor)) (fun b hb hl => hS.sep (X := balZ b4 b10 code (0, 0)) (Y := ledA B s false) (by repeat (first | exact Rem.head | apply Rem.tail)) (by repeat constructor) b hb hl)) (fun x => (by repeat constructor)) rfl ?_); clear hS a; (try clear w); intro x32 a w hS
       refine L_nil ?_
       refine n_then ?_
       refine c_seq ?_
       refine c_region ?_
       refine L_op (s_e hS (e_loadAC (l := encSm (sumAt (pl s) code at_)) rfl ty_st136 ty_sz136 (fun w hh j v hj => cell_of_blk (hh (balZ b4 b10 code (sumAt (pl s) code at_)) (by repeat constructor)).2 (by rw [Nat.zero_add]; exact hj))) rfl ?_); clear hS a; intro a hS
       refine L_op (s_e hS (e_loadC rfl ty_sc9 (fun w hh => cell_of_blk (cs := [.string code]) (hh (balZ b4 b10 code (sumAt (pl s) code at_)) (by repeat constructor)).1 rfl)) rfl ?_); clear hS a; intro a hS
       refine L_op (s_callP hS (.cons rfl (.cons rfl .nil)) cf71 rfl (sbal_P (sumAt (pl s) code at_) code (by have a1 := hsb.u; have a2 := hsb.f; unfold fitS Wd.fit; omega) _) ?_); clear hS a; (try clear w); intro a w hS
       refine L_op (s_e hS (e_move rfl) rfl ?_); clear hS a; intro a hS
       refine L_op (s_e hS (e_extract rfl rfl) rfl ?_); clear hS a; intro a hS
       refine L_op (s_e hS (e_extract rfl rfl) rfl ?_); clear hS a; intro a hS
       refine L_op (s_alloc hS ty_z60 rfl ?_); clear hS a; (try clear w); intro a w b11 hS
       refine L_op (s_storeA hS rfl rfl ty_sz60 (by repeat constructor) (by rfl) (by rfl) (by rfl) ?_); clear hS; (try clear w); intro w hS
       refine L_op (s_e hS (e_assign rfl) rfl ?_); clear hS a; intro a hS
       refine L_nil ?_
       refine n_then ?_
       refine c_seq ?_
       refine c_seq ?_
       refine c_region ?_
       refine L_op (s_e hS (e_move rfl) rfl ?_); clear hS a; intro a hS
       refine L_op (s_e hS (e_not rfl) rfl ?_); clear hS a; intro a hS
       refine L_nil ?_
       refine n_then ?_
       first | refine c_ifD hS rfl (fun hc40 => ?_) (fun hc40 => ?_) | refine c_if hS rfl (fun hc40 => ?_) (fun hc40 => ?_)
       ·
         refine c_seq ?_
         refine c_region ?_
         refine L_op (s_e hS (e_build ty_z60 ty_pl60 .nil) rfl ?_); clear hS a; intro a hS
         refine L_op (s_storeA hS rfl rfl ty_sz60 (by repeat constructor) (by rfl) (by rfl) (by rfl) ?_); clear hS; (try clear w); intro w hS
         refine L_op (s_e hS (e_assign rfl) rfl ?_); clear hS a; intro a hS
         refine L_nil ?_
         refine n_then ?_
         refine wp_ret ?_
         refine r_then ?_
         refine c_retN hS Try.results29 (.cons (.cellA rfl (by repeat constructor) ty_st60 ty_sz60 (by rfl)) (.cons (.tmp rfl) .nil)) rfl ?_
         have hn : ¬ okS (sumAt (pl s) code at_) := fun e => by
           have e2 : decide (inU (sumAt (pl s) code at_).1 ∧ inU (sumAt (pl s) code at_).2) = true := decide_eq_true e
           rw [e2] at hc40; cases hc40
         have hE : balF (pl s) code at_ = (noBl, 16) := by unfold balF; rw [if_neg h1, if_neg h2, if_neg hn]
         exact ⟨by rw [hE]; rfl, hS.chg⟩
       ·
         refine wp_skip ?_
         refine n_then ?_
         refine c_seq ?_
         refine c_region ?_
         refine L_op (s_e hS (e_loadA rfl (by repeat constructor) ty_st60 ty_sz60 (by rfl)) rfl ?_); clear hS a; intro a hS
         refine L_op (s_storeA hS rfl rfl ty_sz60 (by repeat constructor) (by rfl) (by rfl) (by rfl) ?_); clear hS; (try clear w); intro w hS
         refine L_op (s_e hS (e_assign rfl) rfl ?_); clear hS a; intro a hS
         refine L_nil ?_
         refine n_then ?_
         refine wp_ret ?_
         refine c_retN hS Try.results29 (.cons (.cellA rfl (by repeat constructor) ty_st60 ty_sz60 (by rfl)) (.cons (.tmp rfl) .nil)) rfl ?_
         have hy : okS (sumAt (pl s) code at_) := by
           have e2 : decide (inU (sumAt (pl s) code at_).1 ∧ inU (sumAt (pl s) code at_).2) = true := by simpa using hc40
           exact of_decide_eq_true e2
         have hE : balF (pl s) code at_ = ((code, (sumAt (pl s) code at_).1, (sumAt (pl s) code at_).2), 0) := by unfold balF; rw [if_neg h1, if_neg h2, if_pos hy]
         exact ⟨by rw [hE, show balV (sumAt (pl s) code at_) = sumAt (pl s) code at_ from if_pos hy]; rfl, hS.chg⟩
end Go.Proofs.Ytheofhegdjjfgaa
