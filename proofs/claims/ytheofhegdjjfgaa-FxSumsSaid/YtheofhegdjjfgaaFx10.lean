/- The law's own first look. -/
import Derived.Test.YtheofhegdjjfgaaFx9
namespace Go.Proofs.Ytheofhegdjjfgaa
open Go.RowKit

theorem setE_bd {own : ByteArray} {l : List (ByteArray × List (Int × Int))} {n : Int} {c : ByteArray} {at_ nano : Int} (h : setE own l n c at_ nano = 0) : 1 ≤ nano ∧ nano ≤ 1125899906842624 := by
  unfold setE at h
  split at h
  · cases h
  · split at h
    · contradiction
    · split at h
      · cases h
      · rename_i h3; omega
theorem rowsOf_put (l : List (ByteArray × List (Int × Int))) (c d : ByteArray) (r : List (Int × Int)) : rowsOf (putL l c r) d = if c = d then r else rowsOf l d := by
  induction l with
  | nil =>
    unfold putL rowsOf
    rw [List.find?_cons]
    by_cases e : c = d
    · subst e; simp
    · simp [e]
  | cons x l ih =>
    obtain ⟨k, u⟩ := x
    unfold putL
    by_cases hk : k = c
    · subst hk
      rw [if_pos rfl]
      unfold rowsOf
      rw [List.find?_cons, List.find?_cons]
      by_cases e : k = d
      · subst e; simp
      · simp [e]
    · rw [if_neg hk]
      by_cases e : k = d
      · subst e
        have h1 : rowsOf ((k, u) :: putL l c r) k = u := by unfold rowsOf; rw [List.find?_cons]; simp
        have h2 : rowsOf ((k, u) :: l) k = u := by unfold rowsOf; rw [List.find?_cons]; simp
        rw [h1, h2, if_neg (fun h => hk h.symm)]
      · have h1 : rowsOf ((k, u) :: putL l c r) d = rowsOf (putL l c r) d := by unfold rowsOf; rw [List.find?_cons]; simp [e]
        have h2 : rowsOf ((k, u) :: l) d = rowsOf l d := by unfold rowsOf; rw [List.find?_cons]; simp [e]
        rw [h1, h2, ih]
theorem nano_set {own : ByteArray} {l : List (ByteArray × List (Int × Int))} {n : Int} (h : nanoOK l) (c : ByteArray) (at_ nano : Int) : nanoOK (setR own l n c at_ nano).1 := by
  unfold setR
  split
  · rename_i hE
    have hb := setE_bd hE
    intro d x hx
    simp only [rowsOf_put] at hx
    split at hx
    · rcases List.mem_append.1 hx with hx | hx
      · exact h c x hx
      · obtain rfl := List.mem_singleton.1 hx; exact hb
    · exact h d x hx
  · exact h
theorem nano_made (own : ByteArray) (l : List RR) : nanoOK (madeF own l).1 := by
  unfold madeF
  have : ∀ (l : List RR) (st : List (ByteArray × List (Int × Int)) × Int), nanoOK st.1 → nanoOK (l.foldl (stepS own) st).1 := by
    intro l
    induction l with
    | nil => exact fun st h => h
    | cons x l ih => exact fun st h => ih _ (nano_set h _ _ _)
  exact this l _ (fun c x hx => by simp [rowsOf] at hx)

def eur : ByteArray := ⟨#[69, 85, 82]⟩
def one1 : List (ByteArray × List (Int × Int)) := [(eur, [(5, 1100000000)])]
theorem f_set1 : setE usd [] 0 eur 5 1100000000 = 0 := by decide +kernel
theorem f_setR1 : setR usd [] 0 eur 5 1100000000 = (one1, 1) := by decide +kernel
theorem f_set2 : setE usd one1 1 eur 5 1 = 34 := by decide +kernel
theorem f_setR2 : setR usd one1 1 eur 5 1 = (one1, 1) := by decide +kernel
theorem f_get1 : getF usd one1 eur 4 = (0, 28) := by decide +kernel
theorem f_get2 : getF usd one1 eur 9 = (1100000000, 0) := by decide +kernel
theorem f_conv : convF 5 500000000 = (2, 0) := by decide +kernel
set_option maxRecDepth 100000 in
theorem fxfirst_P (w0 : World) : PureC Try.prog 12 [] w0 (.bool true) := by
  refine c_enter [] [] noB Try.func12 rfl Try.ntmps12 trivial rfl (by simp) (by simp) (by simp) ?_
  intro a hS
  refine c_seq ?_
  refine c_region ?_
  refine L_op (s_e hS (e_assign rfl) rfl ?_); clear hS a; intro a hS
  refine L_nil ?_
  refine n_then ?_
  refine c_seq ?_
  refine c_region ?_
  refine L_op (s_callN hS (.cons rfl .nil) cf37 rfl (fxNew_P usd _ usd_scale) ?_); clear hS a; (try clear w); intro x12 a w hS
  refine L_op (s_e hS (e_move rfl) rfl ?_); clear hS a; intro a hS
  refine L_op (s_e hS (e_extract rfl rfl) rfl ?_); clear hS a; intro a hS
  refine L_op (s_e hS (e_extract rfl rfl) rfl ?_); clear hS a; intro a hS
  refine L_op (s_e hS (e_assign rfl) rfl ?_); clear hS a; intro a hS
  refine L_op (s_e hS (e_assign rfl) rfl ?_); clear hS a; intro a hS
  refine L_nil ?_
  refine n_then ?_
  refine c_seq ?_
  refine c_seq ?_
  refine c_region ?_
  refine L_op (s_e hS (e_move rfl) rfl ?_); clear hS a; intro a hS
  refine L_op (s_e hS (e_nil rfl ty_u32) rfl ?_); clear hS a; intro a hS
  refine L_op (s_e hS (e_move rfl) rfl ?_); clear hS a; intro a hS
  replace hS := hS.is (t := 17) (c := false) rfl (rfl)
  refine L_go hS rfl rfl (s_e hS (e_move rfl) rfl ?_); clear hS a; intro a hS
  refine L_go hS rfl rfl (s_callP hS (.cons rfl .nil) cf16 rfl (Num_w 0 _) ?_); clear hS a; (try clear w); intro a w hS
  refine L_go hS rfl rfl (s_e hS (e_bin rfl rfl rfl) rfl ?_); clear hS a; intro a hS
  first | (refine L_op (s_e hS (e_pick_t rfl rfl) rfl ?_); clear hS a; intro a hS) | (refine L_op (s_e hS (e_pick_f rfl rfl) rfl ?_); clear hS a; intro a hS)
  refine L_nil ?_
  refine n_then ?_
  replace hS := hS.is (t := 21) (c := false) rfl (rfl)
  refine c_if_f hS rfl ?_
  refine wp_skip ?_
  refine n_then ?_
  refine c_seq ?_
  refine c_region ?_
  refine L_op (s_e hS (e_move rfl) rfl ?_); clear hS a; intro a hS
  refine L_op (s_callM hS (.cons rfl (.cons rfl (.cons rfl (.cons rfl .nil)))) cf19 rfl (fxSet_P x12.1 x12.2 usd eur [] 0 5 1100000000 (by decide) _ (hS.get (X := ratesA x12.1 x12.2 usd [] 0 true) (by repeat constructor))) (fun x => (by repeat constructor)) rfl ?_); clear hS a; (try clear w); intro x23 a w hS
  obtain ⟨⟨es, n⟩, hes⟩ := x23
  have he1 := hes.trans f_setR1
  have hv : vsT es = one1 := congrArg Prod.fst he1
  have hn1 : n = 1 := congrArg Prod.snd he1
  subst hn1
  have e23 : setE usd (vsT []) 0 eur 5 1100000000 = 0 := f_set1
  rw [e23] at hS
  refine L_op (s_e hS (e_assign rfl) rfl ?_); clear hS a; intro a hS
  refine L_nil ?_
  refine n_then ?_
  refine c_seq ?_
  refine c_region ?_
  refine L_op (s_e hS (e_move rfl) rfl ?_); clear hS a; intro a hS
  refine L_op (s_callM hS (.cons rfl (.cons rfl (.cons rfl (.cons rfl .nil)))) cf19 rfl (fxSet_P x12.1 x12.2 usd eur es 1 5 1 (by decide) _ (hS.get (X := ratesA x12.1 x12.2 usd es 1 true) (by repeat constructor))) (fun x => (by repeat constructor)) rfl ?_); clear hS a; (try clear w); intro x25 a w hS
  obtain ⟨⟨es2, n2⟩, hes2⟩ := x25
  have he2 := hes2.trans ((congrArg (fun l => setR usd l 1 eur 5 1) hv).trans f_setR2)
  have hv2 : vsT es2 = one1 := congrArg Prod.fst he2
  have hn2 : n2 = 1 := congrArg Prod.snd he2
  subst hn2
  have e25 : setE usd (vsT es) 1 eur 5 1 = 34 := (congrArg (fun l => setE usd l 1 eur 5 1) hv).trans f_set2
  rw [e25] at hS
  refine L_op (s_e hS (e_assign rfl) rfl ?_); clear hS a; intro a hS
  refine L_nil ?_
  refine n_then ?_
  refine c_seq ?_
  refine c_region ?_
  refine L_op (s_e hS (e_move rfl) rfl ?_); clear hS a; intro a hS
  refine L_op (s_callP hS (.cons rfl (.cons rfl (.cons rfl .nil))) cf18 rfl (fxGet_P x12.1 x12.2 usd eur es2 1 4 _ (hS.get (X := ratesA x12.1 x12.2 usd es2 1 true) (by repeat constructor))) ?_); clear hS a; (try clear w); intro a w hS
  rw [hv2, f_get1] at hS
  refine L_op (s_e hS (e_move rfl) rfl ?_); clear hS a; intro a hS
  refine L_op (s_e hS (e_extract rfl rfl) rfl ?_); clear hS a; intro a hS
  refine L_op (s_e hS (e_extract rfl rfl) rfl ?_); clear hS a; intro a hS
  refine L_op (s_e hS (e_assign rfl) rfl ?_); clear hS a; intro a hS
  refine L_op (s_e hS (e_assign rfl) rfl ?_); clear hS a; intro a hS
  refine L_nil ?_
  refine n_then ?_
  refine c_seq ?_
  refine c_region ?_
  refine L_op (s_e hS (e_move rfl) rfl ?_); clear hS a; intro a hS
  refine L_op (s_callP hS (.cons rfl (.cons rfl (.cons rfl .nil))) cf18 rfl (fxGet_P x12.1 x12.2 usd eur es2 1 9 _ (hS.get (X := ratesA x12.1 x12.2 usd es2 1 true) (by repeat constructor))) ?_); clear hS a; (try clear w); intro a w hS
  rw [hv2, f_get2] at hS
  refine L_op (s_e hS (e_move rfl) rfl ?_); clear hS a; intro a hS
  refine L_op (s_e hS (e_extract rfl rfl) rfl ?_); clear hS a; intro a hS
  refine L_op (s_e hS (e_extract rfl rfl) rfl ?_); clear hS a; intro a hS
  refine L_op (s_e hS (e_assign rfl) rfl ?_); clear hS a; intro a hS
  refine L_op (s_e hS (e_assign rfl) rfl ?_); clear hS a; intro a hS
  refine L_nil ?_
  refine n_then ?_
  refine c_seq ?_
  refine c_region ?_
  refine L_op (s_callP hS (.cons rfl (.cons rfl .nil)) cf14 rfl (fxConvert_P 5 500000000 (by decide) (by decide) _) ?_); clear hS a; (try clear w); intro a w hS
  rw [f_conv] at hS
  refine L_op (s_e hS (e_move rfl) rfl ?_); clear hS a; intro a hS
  refine L_op (s_e hS (e_extract rfl rfl) rfl ?_); clear hS a; intro a hS
  refine L_op (s_e hS (e_extract rfl rfl) rfl ?_); clear hS a; intro a hS
  refine L_op (s_e hS (e_assign rfl) rfl ?_); clear hS a; intro a hS
  refine L_op (s_e hS (e_assign rfl) rfl ?_); clear hS a; intro a hS
  refine L_nil ?_
  refine n_then ?_
  refine c_seq ?_
  refine c_region ?_
  refine L_op (s_e hS (e_move rfl) rfl ?_); clear hS a; intro a hS
  refine L_op (s_callP hS (.cons rfl .nil) cf16 rfl (Num_w 0 _) ?_); clear hS a; (try clear w); intro a w hS
  refine L_op (s_e hS (e_bin rfl rfl rfl) rfl ?_); clear hS a; intro a hS
  refine L_op (s_e hS (e_move rfl) rfl ?_); clear hS a; intro a hS
  replace hS := hS.is (t := 43) (c := true) rfl (rfl)
  refine L_go hS rfl rfl (s_e hS (e_move rfl) rfl ?_); clear hS a; intro a hS
  refine L_go hS rfl rfl (s_callP hS (.cons rfl .nil) cf16 rfl (Num_w 34 _) ?_); clear hS a; (try clear w); intro a w hS
  refine L_go hS rfl rfl (s_e hS (e_bin rfl rfl rfl) rfl ?_); clear hS a; intro a hS
  first | (refine L_op (s_e hS (e_pick_t rfl rfl) rfl ?_); clear hS a; intro a hS) | (refine L_op (s_e hS (e_pick_f rfl rfl) rfl ?_); clear hS a; intro a hS)
  refine L_op (s_e hS (e_move rfl) rfl ?_); clear hS a; intro a hS
  replace hS := hS.is (t := 48) (c := true) rfl (rfl)
  refine L_go hS rfl rfl (s_e hS (e_move rfl) rfl ?_); clear hS a; intro a hS
  refine L_go hS rfl rfl (s_callP hS (.cons rfl .nil) cf16 rfl (Num_w 28 _) ?_); clear hS a; (try clear w); intro a w hS
  refine L_go hS rfl rfl (s_e hS (e_bin rfl rfl rfl) rfl ?_); clear hS a; intro a hS
  first | (refine L_op (s_e hS (e_pick_t rfl rfl) rfl ?_); clear hS a; intro a hS) | (refine L_op (s_e hS (e_pick_f rfl rfl) rfl ?_); clear hS a; intro a hS)
  refine L_op (s_e hS (e_move rfl) rfl ?_); clear hS a; intro a hS
  replace hS := hS.is (t := 53) (c := true) rfl (rfl)
  refine L_go hS rfl rfl (s_e hS (e_move rfl) rfl ?_); clear hS a; intro a hS
  refine L_go hS rfl rfl (s_e hS (e_bin rfl rfl rfl) rfl ?_); clear hS a; intro a hS
  first | (refine L_op (s_e hS (e_pick_t rfl rfl) rfl ?_); clear hS a; intro a hS) | (refine L_op (s_e hS (e_pick_f rfl rfl) rfl ?_); clear hS a; intro a hS)
  refine L_op (s_e hS (e_move rfl) rfl ?_); clear hS a; intro a hS
  replace hS := hS.is (t := 57) (c := true) rfl (rfl)
  refine L_go hS rfl rfl (s_e hS (e_move rfl) rfl ?_); clear hS a; intro a hS
  refine L_go hS rfl rfl (s_callP hS (.cons rfl .nil) cf16 rfl (Num_w 0 _) ?_); clear hS a; (try clear w); intro a w hS
  refine L_go hS rfl rfl (s_e hS (e_bin rfl rfl rfl) rfl ?_); clear hS a; intro a hS
  first | (refine L_op (s_e hS (e_pick_t rfl rfl) rfl ?_); clear hS a; intro a hS) | (refine L_op (s_e hS (e_pick_f rfl rfl) rfl ?_); clear hS a; intro a hS)
  refine L_op (s_e hS (e_move rfl) rfl ?_); clear hS a; intro a hS
  replace hS := hS.is (t := 62) (c := true) rfl (rfl)
  refine L_go hS rfl rfl (s_e hS (e_move rfl) rfl ?_); clear hS a; intro a hS
  refine L_go hS rfl rfl (s_e hS (e_bin rfl rfl rfl) rfl ?_); clear hS a; intro a hS
  first | (refine L_op (s_e hS (e_pick_t rfl rfl) rfl ?_); clear hS a; intro a hS) | (refine L_op (s_e hS (e_pick_f rfl rfl) rfl ?_); clear hS a; intro a hS)
  refine L_op (s_e hS (e_move rfl) rfl ?_); clear hS a; intro a hS
  replace hS := hS.is (t := 66) (c := true) rfl (rfl)
  refine L_go hS rfl rfl (s_e hS (e_move rfl) rfl ?_); clear hS a; intro a hS
  refine L_go hS rfl rfl (s_callP hS (.cons rfl .nil) cf16 rfl (Num_w 0 _) ?_); clear hS a; (try clear w); intro a w hS
  refine L_go hS rfl rfl (s_e hS (e_bin rfl rfl rfl) rfl ?_); clear hS a; intro a hS
  first | (refine L_op (s_e hS (e_pick_t rfl rfl) rfl ?_); clear hS a; intro a hS) | (refine L_op (s_e hS (e_pick_f rfl rfl) rfl ?_); clear hS a; intro a hS)
  refine L_op (s_e hS (e_assign rfl) rfl ?_); clear hS a; intro a hS
  refine L_nil ?_
  refine n_then ?_
  refine wp_ret ?_
  refine c_ret1 hS Try.results12 (.tmp rfl) ?_
  exact ⟨rfl, hS.chg⟩
end Go.Proofs.Ytheofhegdjjfgaa
