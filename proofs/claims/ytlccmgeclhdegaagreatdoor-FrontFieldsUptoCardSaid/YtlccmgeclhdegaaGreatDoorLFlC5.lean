/- FrontFields: for every argument whose bulk is at most 1048576 the law returns true, and each argument reads afterwards as it read before. No other conditions. (text 5 of 5) -/
import Derived.Test.YtlccmgeclhdegaaGreatDoorLFlC4
import Derived.Handed
import Derived.SizedLaws
import Derived.Shelf.Vars
import Derived.KernelRfl
import Derived.Stop.LaidErr
import Derived.LaidLaws
import Derived.MakeChecks
import Derived.Lib.LaidU8T
import Derived.Lib.LaidTab
import Derived.Deep.Slices
import Derived.Deep.Fields
import Derived.ChangeSame
import Derived.OpenShut
import Derived.Lib.SmallJoins
import Derived.ProofKit
import Derived.ShutString
import Derived.ChangeOld
import Derived.Below
import Derived.LaidMore
import Derived.Lay
import Derived.SevenTiedAt
import Derived.Stop.Joined
import Derived.JoinedCond
import Derived.Deep.DeepHandedRow
import Derived.Test.YtlccmgeclhdegaaGreatDoorTie
import Derived.Test.YtlccmgeclhdegaaGreatDoorCards
namespace Go.Proofs.YtlccmgeclhdegaaGreatDoor
open Go.RowKit
theorem pj_mem {ns : List (List UInt8)} {l : List JV} {ms : List Mem} (hp : (ms.map fun m => (m.n, m.v)).Perm (ns.zip l)) {m : Mem} (hm : m ∈ ms) : m.n ∈ ns ∧ m.v ∈ l := by
 have h := (hp.mem_iff).1 (List.mem_map.2 ⟨m, hm, rfl⟩)
 exact ⟨(List.of_mem_zip h).1, (List.of_mem_zip h).2⟩
theorem pj_nodup {ns : List (List UInt8)} {l : List JV} {ms : List Mem} (hp : (ms.map fun m => (m.n, m.v)).Perm (ns.zip l)) (hn : ns.Nodup) (hl : ns.length ≤ l.length) : (ms.map (·.n)).Nodup := by
 have e := (hp.map (·.1))
 rw [List.map_map, List.map_fst_zip hl] at e
 exact (e.nodup_iff).2 hn
theorem goodV_pj : ∀ (n : Nat) (v r : JV) (s : List UInt8), goodV n v → PJ n v r s → goodV n r
 | 0, _, _, _, h, _ => h.elim
 | n + 1, .mk k t ns l, r, s, h, hp => by
   obtain ⟨h1, h2, h3, h4⟩ := h
   rcases (show _ ∨ _ ∨ _ ∨ _ from hp) with ⟨hk, rfl, _⟩ | ⟨hk, rfl, _⟩ | ⟨hk, rfl, _⟩ | ⟨hk, ms, hpm, _, hm, rfl, _⟩
   · exact ⟨by omega, by omega, fun _ => h3 hk, fun h => absurd h (by decide)⟩
   · exact ⟨by omega, by omega, fun h => absurd h (by decide), fun h => absurd h (by decide)⟩
   · exact ⟨by omega, by omega, fun h => by omega, fun h => by omega⟩
   · refine ⟨by omega, by omega, fun h => absurd h (by decide), fun _ x hx => ?_⟩
     obtain ⟨m, hmm, rfl⟩ := List.mem_map.1 hx
     exact goodV_pj n _ _ _ (h4 hk _ (pj_mem hpm hmm).2) (hm m hmm)
theorem okF_pj : ∀ (n d : Nat) (v r : JV) (s : List UInt8), okF n d v → PJ n v r s → okF n d r
 | 0, _, _, _, _, h, _ => h.elim
 | n + 1, d, .mk k t ns l, r, s, h, hp => by
   obtain ⟨h1, h2, h3⟩ := h
   rcases (show _ ∨ _ ∨ _ ∨ _ from hp) with ⟨hk, rfl, _⟩ | ⟨hk, rfl, _⟩ | ⟨hk, rfl, _⟩ | ⟨hk, ms, hpm, _, hm, rfl, _⟩
   · exact ⟨fun _ => h1 hk, fun h => absurd h (by decide), fun h => absurd h (by decide)⟩
   · exact ⟨fun h => absurd h (by decide), fun _ => h2 hk, fun h => absurd h (by decide)⟩
   · exact ⟨fun h => by omega, fun h => by omega, fun h => by omega⟩
   · obtain ⟨g1, g2, g3, g4, g5, g6⟩ := h3 hk
     have hlen : ms.length = l.length := by have := hpm.length_eq; simp only [List.length_map, List.length_zip] at this; omega
     refine ⟨fun h => absurd h (by decide), fun h => absurd h (by decide), fun _ => ⟨fun x hx => ?_, by simp, g3, by rw [List.length_map]; omega, pj_nodup hpm g5 (by omega), fun x hx => ?_⟩⟩
     · obtain ⟨m, hmm, rfl⟩ := List.mem_map.1 hx
       exact g1 _ (pj_mem hpm hmm).1
     · obtain ⟨m, hmm, rfl⟩ := List.mem_map.1 hx
       exact okF_pj n (d + 1) _ _ _ (g6 _ (pj_mem hpm hmm).2) (hm m hmm)
theorem smV_pj : ∀ (n : Nat) (v r : JV) (s : List UInt8), smV n v → PJ n v r s → smV n r
 | 0, _, _, _, h, _ => h.elim
 | n + 1, .mk k t ns l, r, s, h, hp => by
   obtain ⟨h1, h2, h3, h4, h5⟩ := h
   rcases (show _ ∨ _ ∨ _ ∨ _ from hp) with ⟨hk, rfl, _⟩ | ⟨hk, rfl, _⟩ | ⟨hk, rfl, _⟩ | ⟨hk, ms, hpm, _, hm, rfl, _⟩
   · exact ⟨h1, Nat.zero_le _, (fun x h => by cases h), Nat.zero_le _, (fun x h => by cases h)⟩
   · exact ⟨h1, Nat.zero_le _, (fun x h => by cases h), Nat.zero_le _, (fun x h => by cases h)⟩
   · exact ⟨Nat.zero_le _, Nat.zero_le _, (fun x h => by cases h), Nat.zero_le _, (fun x h => by cases h)⟩
   · have hlen : ms.length ≤ l.length := by have := hpm.length_eq; simp only [List.length_map, List.length_zip] at this; omega
     refine ⟨Nat.zero_le _, by rw [List.length_map]; omega, fun x hx => ?_, by rw [List.length_map]; omega, fun x hx => ?_⟩
     · obtain ⟨m, hmm, rfl⟩ := List.mem_map.1 hx
       exact h3 _ (pj_mem hpm hmm).1
     · obtain ⟨m, hmm, rfl⟩ := List.mem_map.1 hx
       exact smV_pj n _ _ _ (h5 _ (pj_mem hpm hmm).2) (hm m hmm)
theorem lenJ6 (n : Nat) (t : List UInt8) (ns : List (List UInt8)) (l : List JV) : lenJ (n + 1) (.mk 6 t ns l) = if (ns.zip l).isEmpty then 2 else ((ns.zip l).map fun p => (quoteL p.1).length + 2 + lenJ n p.2).sum + 1 := rfl
theorem lenJ_pj : ∀ (n : Nat) (v r : JV) (s : List UInt8), PJ n v r s → lenJ n r = lenJ n v
 | 0, _, _, _, h => h.elim
 | n + 1, .mk k t ns l, r, s, hp => by
   rcases (show _ ∨ _ ∨ _ ∨ _ from hp) with ⟨hk, rfl, _⟩ | ⟨hk, rfl, _⟩ | ⟨hk, rfl, _⟩ | ⟨hk, ms, hpm, _, hm, rfl, _⟩
   · subst hk; rfl
   · subst hk; rfl
   · unfold lenJ
     rw [if_neg (by omega), if_neg (by omega), if_neg (by omega), if_neg (by omega), if_neg (by omega), if_neg (by omega)]
   · subst hk
     rw [lenJ6, lenJ6, zip_map_n]
     have e : ((ms.map fun m => (m.n, m.r)).map fun p => (quoteL p.1).length + 2 + lenJ n p.2) = ((ms.map fun m => (m.n, m.v)).map fun p => (quoteL p.1).length + 2 + lenJ n p.2) := by
      rw [List.map_map, List.map_map]
      refine List.map_congr_left fun m hmm => ?_
      show _ + lenJ n m.r = _ + lenJ n m.v
      rw [lenJ_pj n _ _ _ (hm m hmm)]
     rw [e, (hpm.map _).sum_nat]
     have e2 : (ms.map fun m => (m.n, m.r)).isEmpty = (ns.zip l).isEmpty := by
      have := hpm.length_eq
      rw [List.length_map] at this
      cases ms with
      | nil => cases h : ns.zip l with
        | nil => rfl
        | cons a b => rw [h] at this; simp at this
      | cons a b => cases h : ns.zip l with
        | nil => rw [h] at this; simp at this
        | cons a b => rfl
     rw [e2]
def objP (ps : List (List UInt8 × JV)) : JV := .mk 6 [] (ps.map (·.1)) (ps.map (·.2))
theorem zip_ps (ps : List (List UInt8 × JV)) : (ps.map (·.1)).zip (ps.map (·.2)) = ps := by
 induction ps with
 | nil => rfl
 | cons p ps ih => rw [List.map_cons, List.map_cons, List.zip_cons_cons, ih]
theorem getF_ps (ps : List (List UInt8 × JV)) (nm : List UInt8) : getF (objP ps) nm = (ps.find? fun p => p.1 == nm).map (·.2) := by
 unfold getF objP
 rw [if_pos (show (JV.mk 6 [] (ps.map (·.1)) (ps.map (·.2))).k = 6 from rfl)]
 show (((ps.map (·.1)).zip (ps.map (·.2))).find? _).map _ = _
 rw [zip_ps]
theorem getF_in {ps : List (List UInt8 × JV)} {nm : List UInt8} {y : JV} (hn : (ps.map (·.1)).Nodup) (h : (nm, y) ∈ ps) : getF (objP ps) nm = some y := by
 rw [getF_ps, find_key hn h]; rfl
theorem getF_out {ps : List (List UInt8 × JV)} {nm : List UInt8} (h : nm ∉ ps.map (·.1)) : getF (objP ps) nm = none := by
 rw [getF_ps, List.find?_eq_none.2 (fun p hp he => h (List.mem_map.2 ⟨p, hp, by simpa using he⟩))]
 rfl
def FldP (fs : List Fd) (ps : List (List UInt8 × JV)) : Prop := ∀ f ∈ fs, ∃ y, (f.nm, y) ∈ ps ∧ rdE f y = 0
theorem fld_back {fs : List Fd} {ps : List (List UInt8 × JV)} {o : JV} {s : List UInt8} {n : Nat} (hok : ∀ f ∈ fs, f.ok) (hn : (ps.map (·.1)).Nodup) (h : FldP fs ps) (hp : PJ (n + 1) (objP ps) o s) : ∀ f ∈ fs, ∃ y, getF o f.nm = some y ∧ rdE f y = 0 := fun f hf => by
 obtain ⟨y, h1, h2⟩ := h f hf
 obtain ⟨y', s', h3, h4⟩ := (getF_pj (nm := f.nm) hn (by simp) hp).1 y (getF_in hn h1)
 exact ⟨y', h3, rdE_pj (hok f hf) h2 h4⟩
theorem bind_lacks {pre post : List Fd} {g : Fd} {kd : Int} {ps : List (List UInt8 × JV)} {o : JV} {s : List UInt8} {n : Nat} (hok : ∀ f ∈ pre, f.ok) (hn : (ps.map (·.1)).Nodup) (h : FldP pre ps) (hg : g.nm ∉ ps.map (·.1)) (hp : PJ (n + 1) (objP ps) o s) : (bindF (pre ++ g :: post) kd o).1 = 32 := by
 have e := bindL_err (post := post) (e := 32) (fld_back hok hn h hp) (.inl ⟨(getF_pj (nm := g.nm) hn (by simp) hp).2 (getF_out hg), rfl⟩) (zCd kd) jz
 rw [bindF_e (by rw [e]; decide), e]
theorem bind_null {pre post : List Fd} {g : Fd} {kd : Int} {ps : List (List UInt8 × JV)} {o : JV} {s : List UInt8} {n : Nat} {t : List UInt8} {ns : List (List UInt8)} {l : List JV} (hok : ∀ f ∈ pre, f.ok) (hgk : g.ok) (hn : (ps.map (·.1)).Nodup) (h : FldP pre ps) (hg : (g.nm, JV.mk 0 t ns l) ∈ ps) (hp : PJ (n + 2) (objP ps) o s) : (bindF (pre ++ g :: post) kd o).1 = 13 := by
 obtain ⟨y', s', h3, h4⟩ := (getF_pj (nm := g.nm) hn (by simp) hp).1 _ (getF_in hn hg)
 have hy : y' = .mk 0 [] [] [] := by
  rcases (show _ ∨ _ ∨ _ ∨ _ from h4) with ⟨h, _⟩ | ⟨h, _⟩ | ⟨_, h, _⟩ | ⟨h, _⟩
  · exact absurd h (by decide)
  · exact absurd h (by decide)
  · exact h
  · exact absurd h (by decide)
 have hr : rdE g y' = 13 := by
  rw [hy]
  unfold rdE
  rcases hgk.kd with h | h | h
  · rw [if_pos h]; rfl
  · rw [if_neg (by omega), if_pos h]; rfl
  · rw [if_neg (by omega), if_neg (by omega)]; rfl
 have e := bindL_err (post := post) (e := 13) (fld_back hok hn h hp) (.inr ⟨y', h3, hr, by decide⟩) (zCd kd) jz
 rw [bindF_e (by rw [e]; decide), e]
theorem bind_more {fs : List Fd} {kd : Int} {ps : List (List UInt8 × JV)} {o : JV} {s : List UInt8} {n : Nat} (hok : ∀ f ∈ fs, f.ok) (hn : (ps.map (·.1)).Nodup) (h : FldP fs ps) (hl : fs.length < ps.length) (hp : PJ (n + 1) (objP ps) o s) : (bindF fs kd o).1 = 32 := by
 have e := bindL_ok (fld_back hok hn h hp) (zCd kd) jz
 have ho : o.ns.length = ps.length := by
  rcases (show _ ∨ _ ∨ _ ∨ _ from hp) with ⟨h2, _⟩ | ⟨h2, _⟩ | ⟨h2, _⟩ | ⟨_, ms, hpm, _, _, hr, _⟩
  · exact absurd h2 (by decide)
  · exact absurd h2 (by decide)
  · exact absurd h2 (by decide)
  · have := hpm.length_eq
    rw [zip_ps, List.length_map] at this
    rw [hr]; show (ms.map (·.n)).length = _
    rw [List.length_map]; exact this
 unfold bindF
 rw [if_neg (by rw [e]; decide), if_pos (by omega)]
theorem rt_names : ∀ x ∈ rtG, ((fdsOf x.2).map Fd.nm).Nodup := by
 intro x hx
 have h : ∀ y ∈ rtG.map (fun x => (fdsOf x.2).map Fd.nm), y.Nodup := by decide +kernel
 exact h _ (List.mem_map.2 ⟨x, hx, rfl⟩)
theorem objP_zip {ns : List (List UInt8)} {l : List JV} (h : ns.length = l.length) : JV.mk 6 [] ns l = objP (ns.zip l) := by
 unfold objP
 rw [List.map_fst_zip (by omega), List.map_snd_zip (by omega)]
structure Back (fs : List Fd) (rs : List (List UInt8 × JV)) : Prop where
 nd : (rs.map (·.1)).Nodup
 fld : FldP fs rs
 pm : (rs.map (·.1)).Perm (fs.map Fd.nm)
theorem req_back {c : Cd} {path s : List UInt8} {v r : JV} {k : Nat} {fl : List Fg} {c' : Cd} (hc : c.ok) (h : RqOk c path s v r k fl c') : ∃ ps rs, v = objP ps ∧ r = objP rs ∧ Back (fdsOf fl) ps ∧ Back (fdsOf fl) rs := by
 have hm := List.mem_of_getElem? h.x
 have hok : ∀ f ∈ fdsOf fl, f.ok := rt_fdok hm
 obtain ⟨vals, h1, h2, _, h4⟩ := reqL_all (fdsOf fl) c [] [] v c' hok (rt_apart _ hm) h.q
 have hnd : ((fdsOf fl).map Fd.nm).Nodup := rt_names _ hm
 simp only [List.nil_append] at h2
 have hlen : ((fdsOf fl).map Fd.nm).length = vals.length := by rw [List.length_map]; exact h1.symm
 obtain ⟨ps, hps⟩ : ∃ ps, ((fdsOf fl).map Fd.nm).zip vals = ps := ⟨_, rfl⟩
 have hfst : ps.map (·.1) = (fdsOf fl).map Fd.nm := by rw [← hps]; exact List.map_fst_zip (by omega)
 have hv : v = objP ps := by rw [h2, objP_zip hlen, hps]
 have hf : FldP (fdsOf fl) ps := by
  intro f hfm
  obtain ⟨i, hi⟩ := List.getElem?_of_mem hfm
  have hil := (List.getElem?_eq_some_iff.1 hi).1
  obtain ⟨y, hy⟩ : ∃ y, vals[i]? = some y := ⟨_, List.getElem?_eq_getElem (by omega)⟩
  refine ⟨y, ?_, rdE_val (hok f hfm) hc (h4 i f y hi hy)⟩
  rw [← hps]
  refine List.mem_of_getElem? (i := i) ?_
  rw [List.getElem?_zip_eq_some]
  exact ⟨by rw [List.getElem?_map, hi]; rfl, hy⟩
 have hb : Back (fdsOf fl) ps := ⟨by rw [hfst]; exact hnd, hf, by rw [hfst]⟩
 have hp : PJ 3 (objP ps) r s := hv ▸ h.p
 rcases (show _ ∨ _ ∨ _ ∨ _ from hp) with ⟨h2, _⟩ | ⟨h2, _⟩ | ⟨h2, _⟩ | ⟨_, ms, hpm, _, hmm, hr, _⟩
 · exact absurd h2 (by decide)
 · exact absurd h2 (by decide)
 · exact absurd h2 (by decide)
 rw [zip_ps] at hpm
 have hkp : ((ms.map fun m => (m.n, m.r)).map (·.1)).Perm (ps.map (·.1)) := by
  have e := hpm.map (·.1)
  rw [List.map_map] at e ⊢
  exact e
 refine ⟨ps, ms.map fun m => (m.n, m.r), hv, ?_, hb, ⟨(hkp.nodup_iff).2 hb.nd, fun f hfm => ?_, hkp.trans hb.pm⟩⟩
 · rw [hr]; unfold objP; rw [List.map_map, List.map_map]; rfl
 · obtain ⟨y, hy, he⟩ := hf f hfm
   obtain ⟨m, hm1, hm2⟩ := List.mem_map.1 ((hpm.mem_iff).2 hy)
   injection hm2 with e1 e2
   exact ⟨m.r, List.mem_map.2 ⟨m, hm1, by rw [e1]⟩, rdE_pj (hok f hfm) (e2 ▸ he) (hmm m hm1)⟩
theorem split_fld {fs : List Fd} {rs : List (List UInt8 × JV)} (hb : Back fs rs) {w : Nat} {p : List UInt8 × JV} (hw : rs[w]? = some p) : ∃ pre g post, fs = pre ++ g :: post ∧ g.nm = p.1 ∧ ∀ f ∈ pre, f.nm ≠ p.1 := by
 have h1 := (hb.pm.mem_iff).1 (List.mem_map.2 ⟨p, List.mem_of_getElem? hw, rfl⟩)
 obtain ⟨g, hg, e⟩ := List.mem_map.1 h1
 obtain ⟨pre, post, rfl⟩ := List.append_of_mem hg
 refine ⟨pre, g, post, rfl, e, fun f hf he => ?_⟩
 have hn := (hb.pm.nodup_iff).1 hb.nd
 rw [List.map_append, List.map_cons, List.nodup_append] at hn
 exact hn.2.2 f.nm (List.mem_map.2 ⟨f, hf, rfl⟩) g.nm (.head _) (he.trans e.symm)
def jNull : JV := .mk 0 [] [] []
theorem mid_nodup {A B : List (List UInt8 × JV)} {p : List UInt8 × JV} (h : ((A ++ p :: B).map (·.1)).Nodup) : p.1 ∉ (A ++ B).map (·.1) ∧ ((A ++ B).map (·.1)).Nodup := by
 have e : ((A ++ p :: B).map (·.1)).Perm (p.1 :: (A ++ B).map (·.1)) := by
  have := (List.perm_middle (a := p) (l₁ := A) (l₂ := B)).map (·.1)
  exact this
 exact List.nodup_cons.1 ((e.nodup_iff).1 h)
theorem mid_nodup2 {A B : List (List UInt8 × JV)} {p : List UInt8 × JV} (x : JV) (h : ((A ++ p :: B).map (·.1)).Nodup) : ((A ++ (p.1, x) :: B).map (·.1)).Nodup := by
 have e : (A ++ (p.1, x) :: B).map (·.1) = (A ++ p :: B).map (·.1) := by simp
 rw [e]; exact h
theorem mid_mem {A B : List (List UInt8 × JV)} {p q : List UInt8 × JV} (h : q ∈ A ++ p :: B) (hne : q.1 ≠ p.1) : q ∈ A ++ B := by
 rcases List.mem_append.1 h with h | h
 · exact List.mem_append.2 (.inl h)
 · rcases List.mem_cons.1 h with rfl | h
   · exact absurd rfl hne
   · exact List.mem_append.2 (.inr h)
theorem mid_at (A B : List (List UInt8 × JV)) (p : List UInt8 × JV) : (A ++ p :: B)[A.length]? = some p := by simp
theorem less_bind {fs : List Fd} {kd : Int} {A B : List (List UInt8 × JV)} {p : List UInt8 × JV} {o : JV} {s : List UInt8} {n : Nat} (hok : ∀ f ∈ fs, f.ok) (hb : Back fs (A ++ p :: B)) (hp : PJ (n + 1) (objP (A ++ B)) o s) : (bindF fs kd o).1 = 32 := by
 obtain ⟨pre, g, post, rfl, hg, hpre⟩ := split_fld hb (mid_at A B p)
 obtain ⟨h1, h2⟩ := mid_nodup hb.nd
 refine bind_lacks (fun f hf => hok f (List.mem_append.2 (.inl hf))) h2 (fun f hf => ?_) (by rw [hg]; exact h1) hp
 obtain ⟨y, hy, he⟩ := hb.fld f (List.mem_append.2 (.inl hf))
 exact ⟨y, mid_mem hy (hpre f hf), he⟩
theorem other_bind {fs : List Fd} {kd : Int} {A B : List (List UInt8 × JV)} {p : List UInt8 × JV} {o : JV} {s : List UInt8} {n : Nat} (hok : ∀ f ∈ fs, f.ok) (hb : Back fs (A ++ p :: B)) (hp : PJ (n + 2) (objP (A ++ (p.1, jNull) :: B)) o s) : (bindF fs kd o).1 = 13 := by
 obtain ⟨pre, g, post, rfl, hg, hpre⟩ := split_fld hb (mid_at A B p)
 refine bind_null (t := []) (ns := []) (l := []) (fun f hf => hok f (List.mem_append.2 (.inl hf))) (hok g (List.mem_append.2 (.inr (.head _)))) (mid_nodup2 jNull hb.nd) (fun f hf => ?_) (by rw [hg]; exact List.mem_append.2 (.inr (.head _))) hp
 obtain ⟨y, hy, he⟩ := hb.fld f (List.mem_append.2 (.inl hf))
 refine ⟨y, ?_, he⟩
 rcases List.mem_append.1 (mid_mem hy (hpre f hf)) with h | h
 · exact List.mem_append.2 (.inl h)
 · exact List.mem_append.2 (.inr (.tail _ h))
theorem more_bind {fs : List Fd} {kd : Int} {rs : List (List UInt8 × JV)} {nm : List UInt8} {o : JV} {s : List UInt8} {n : Nat} (hok : ∀ f ∈ fs, f.ok) (hb : Back fs rs) (hno : nm ∉ rs.map (·.1)) (hp : PJ (n + 1) (objP (rs ++ [(nm, jNull)])) o s) : (bindF fs kd o).1 = 32 := by
 have hnd : ((rs ++ [(nm, jNull)]).map (·.1)).Nodup := by
  rw [List.map_append, List.nodup_append]
  refine ⟨hb.nd, by simp, fun a ha b hb2 e => ?_⟩
  obtain rfl : b = nm := by simpa using hb2
  exact hno (e ▸ ha)
 have hl : fs.length = rs.length := by have := hb.pm.length_eq; simpa using this.symm
 refine bind_more hok hnd (fun f hf => ?_) (by rw [List.length_append]; simp; omega) hp
 obtain ⟨y, hy, he⟩ := hb.fld f hf
 exact ⟨y, List.mem_append.2 (.inl hy), he⟩
def lenP (n : Nat) (ps : List (List UInt8 × JV)) : Nat := (ps.map fun p => (quoteL p.1).length + 2 + lenJ n p.2).sum
theorem lenJ_ps (n : Nat) (ps : List (List UInt8 × JV)) : lenJ (n + 1) (objP ps) = if ps.isEmpty then 2 else lenP n ps + 1 := by
 unfold objP; rw [lenJ6, zip_ps]; rfl
theorem lenP_app (n : Nat) (A B : List (List UInt8 × JV)) : lenP n (A ++ B) = lenP n A + lenP n B := by unfold lenP; rw [List.map_append, List.sum_append]
theorem lenP_cons (n : Nat) (p : List UInt8 × JV) (B : List (List UInt8 × JV)) : lenP n (p :: B) = (quoteL p.1).length + 2 + lenJ n p.2 + lenP n B := rfl
theorem lenJ_le (n : Nat) (ps : List (List UInt8 × JV)) : lenJ (n + 1) (objP ps) ≤ lenP n ps + 2 ∧ (ps ≠ [] → lenJ (n + 1) (objP ps) = lenP n ps + 1) := by
 rw [lenJ_ps]
 cases ps with
 | nil => exact ⟨by simp [lenP], fun h => absurd rfl h⟩
 | cons p ps => simp
theorem good_ps {n : Nat} {ps : List (List UInt8 × JV)} : goodV (n + 1) (objP ps) ↔ ∀ p ∈ ps, goodV n p.2 := by
 constructor
 · intro h p hp
   exact h.2.2.2 rfl p.2 (List.mem_map.2 ⟨p, hp, rfl⟩)
 · intro h
   refine ⟨by omega, by omega, fun h => absurd h (by decide), fun _ x hx => ?_⟩
   obtain ⟨p, hp, rfl⟩ := List.mem_map.1 hx
   exact h p hp
theorem ok_ps {n d : Nat} {ps : List (List UInt8 × JV)} : okF (n + 1) d (objP ps) ↔ (∀ p ∈ ps, Lib.validD p.1 = true ∧ okF n (d + 1) p.2) ∧ d < 32 ∧ ps.length ≤ 1000 ∧ (ps.map (·.1)).Nodup := by
 constructor
 · intro h
   obtain ⟨h1, h2, h3, h4, h5, h6⟩ := h.2.2 rfl
   refine ⟨fun p hp => ⟨h1 _ (List.mem_map.2 ⟨p, hp, rfl⟩), h6 _ (List.mem_map.2 ⟨p, hp, rfl⟩)⟩, h3, by simpa using h4, h5⟩
 · rintro ⟨h1, h2, h3, h4⟩
   refine ⟨fun h => absurd h (by decide), fun h => absurd h (by decide), fun _ => ⟨fun x hx => ?_, by simp, h2, by simpa using h3, h4, fun x hx => ?_⟩⟩
   · obtain ⟨p, hp, rfl⟩ := List.mem_map.1 hx; exact (h1 p hp).1
   · obtain ⟨p, hp, rfl⟩ := List.mem_map.1 hx; exact (h1 p hp).2
theorem sm_ps {n : Nat} {ps : List (List UInt8 × JV)} : smV (n + 1) (objP ps) ↔ ps.length ≤ 1000000 ∧ ∀ p ∈ ps, p.1.length ≤ 1000000 ∧ smV n p.2 := by
 constructor
 · rintro ⟨_, h2, h3, h4, h5⟩
   exact ⟨by simpa using h2, fun p hp => ⟨h3 _ (List.mem_map.2 ⟨p, hp, rfl⟩), h5 _ (List.mem_map.2 ⟨p, hp, rfl⟩)⟩⟩
 · rintro ⟨h1, h2⟩
   refine ⟨Nat.zero_le _, by simpa using h1, fun x hx => ?_, by simpa using h1, fun x hx => ?_⟩
   · obtain ⟨p, hp, rfl⟩ := List.mem_map.1 hx; exact (h2 p hp).1
   · obtain ⟨p, hp, rfl⟩ := List.mem_map.1 hx; exact (h2 p hp).2
set_option maxRecDepth 100000 in
theorem fStatus25_P (w0 : World) : PureC Tryz.prog 126 [.int .i64 25] w0 (.int .i64 409) := by
 refine c_enter [(0, .int .i64 25)] [] noB Tryz.func126 rfl Tryz.ntmps126 ⟨rfl, trivial⟩ rfl (by simp) (by simp) (by simp) ?_
 intro a hS
 refine cS (cR ?_)
 refine L_e hS (e_assign rfl) rfl ?_; clear hS a; intro a hS
 refine nL (nT (cS (cS (cR ?_))))
 refine L_e hS (e_move rfl) rfl ?_; clear hS a; intro a hS
 refine nL (nT (wB (cS (cR ?_))))
 refine Rn hS (.c (e_bin rfl rfl rfl) <| .a rfl .n) ?_; clear hS a; intro a hS
 refine nL (nT ?_)
 replace hS := hS.is (t := 4) (c := false) rfl (by decide)
 refine c_if_f hS rfl ?_
 refine cS (cS (cR ?_))
 refine Rn hS (.c (e_bin rfl rfl rfl) <| .a rfl .n) ?_; clear hS a; intro a hS
 refine nL (nT ?_)
 replace hS := hS.is (t := 6) (c := false) rfl (by decide)
 refine c_if_f hS rfl ?_
 refine cS (cR ?_)
 refine Rn hS (.c (e_bin rfl rfl rfl) <| .a rfl .n) ?_; clear hS a; intro a hS
 refine nL (nT ?_)
 replace hS := hS.is (t := 6) (c := false) rfl (by decide)
 refine c_if_f hS rfl ?_
 refine cS (cR ?_)
 refine Rn hS (.c (e_bin rfl rfl rfl) <| .a rfl .n) ?_; clear hS a; intro a hS
 refine nL (nT ?_)
 replace hS := hS.is (t := 6) (c := false) rfl (by decide)
 refine c_if_f hS rfl ?_
 refine cS (cR ?_)
 refine Rn hS (.c (e_bin rfl rfl rfl) <| .a rfl .n) ?_; clear hS a; intro a hS
 refine nL (nT ?_)
 replace hS := hS.is (t := 6) (c := false) rfl (by decide)
 refine c_if_f hS rfl ?_
 refine cS (cR ?_)
 refine Rn hS (.c (e_bin rfl rfl rfl) <| .a rfl .n) ?_; clear hS a; intro a hS
 refine nL (nT ?_)
 replace hS := hS.is (t := 6) (c := false) rfl (by decide)
 refine c_if_f hS rfl ?_
 refine cS (cR ?_)
 refine Rn hS (.c (e_bin rfl rfl rfl) <| .a rfl .n) ?_; clear hS a; intro a hS
 refine nL (nT ?_)
 replace hS := hS.is (t := 6) (c := false) rfl (by decide)
 refine c_if_f hS rfl ?_
 refine cS (cR ?_)
 refine Rn hS (.c (e_bin rfl rfl rfl) <| .a rfl .n) ?_; clear hS a; intro a hS
 refine nL (nT ?_)
 replace hS := hS.is (t := 6) (c := false) rfl (by decide)
 refine c_if_f hS rfl ?_
 refine cS (cR ?_)
 refine Rn hS (.c (e_bin rfl rfl rfl) <| .a rfl .n) ?_; clear hS a; intro a hS
 refine nL (nT ?_)
 replace hS := hS.is (t := 6) (c := false) rfl (by decide)
 refine c_if_f hS rfl ?_
 refine cS (cR ?_)
 refine Rn hS (.c (e_bin rfl rfl rfl) <| .a rfl .n) ?_; clear hS a; intro a hS
 refine nL (nT ?_)
 replace hS := hS.is (t := 6) (c := false) rfl (by decide)
 refine c_if_f hS rfl ?_
 refine cS (cR ?_)
 refine Rn hS (.c (e_bin rfl rfl rfl) <| .a rfl .n) ?_; clear hS a; intro a hS
 refine nL (nT ?_)
 replace hS := hS.is (t := 6) (c := false) rfl (by decide)
 refine c_if_f hS rfl ?_
 refine cR ?_
 refine Rn hS (.c (e_bin rfl rfl rfl) <| .a rfl .n) ?_; clear hS a; intro a hS
 refine nL (nT ?_)
 replace hS := hS.is (t := 6) (c := false) rfl (by decide)
 refine c_if_f hS rfl ?_
 refine cS (cS (cR ?_))
 refine Rn hS (.c (e_bin rfl rfl rfl) <| .a rfl .n) ?_; clear hS a; intro a hS
 refine nL (nT ?_)
 replace hS := hS.is (t := 18) (c := false) rfl (by decide)
 refine c_if_f hS rfl ?_
 refine cR ?_
 refine Rn hS (.c (e_bin rfl rfl rfl) <| .a rfl .n) ?_; clear hS a; intro a hS
 refine nL (nT ?_)
 replace hS := hS.is (t := 18) (c := false) rfl (by decide)
 refine c_if_f hS rfl ?_
 refine cS (cR ?_)
 refine Rn hS (.c (e_bin rfl rfl rfl) <| .a rfl .n) ?_; clear hS a; intro a hS
 refine nL (nT ?_)
 replace hS := hS.is (t := 21) (c := false) rfl (by decide)
 refine c_if_f hS rfl ?_
 refine cS (cS (cR ?_))
 refine Rn hS (.c (e_bin rfl rfl rfl) <| .a rfl .n) ?_; clear hS a; intro a hS
 refine nL (nT ?_)
 replace hS := hS.is (t := 23) (c := false) rfl (by decide)
 refine c_if_f hS rfl ?_
 refine cS (cR ?_)
 refine Rn hS (.c (e_bin rfl rfl rfl) <| .a rfl .n) ?_; clear hS a; intro a hS
 refine nL (nT ?_)
 replace hS := hS.is (t := 23) (c := false) rfl (by decide)
 refine c_if_f hS rfl ?_
 refine cS (cR ?_)
 refine Rn hS (.c (e_bin rfl rfl rfl) <| .a rfl .n) ?_; clear hS a; intro a hS
 refine nL (nT ?_)
 replace hS := hS.is (t := 23) (c := true) rfl (by decide)
 refine c_if_t hS rfl ?_
 refine wS (nT ?_)
 replace hS := hS.is (t := 23) (c := true) rfl (by decide)
 refine c_if_t hS rfl ?_
 refine cS (cR ?_)
 refine L_e hS (e_assign rfl) rfl ?_; clear hS a; intro a hS
 refine nL (nT (wp_ret ?_))
 refine r_block (r_then ?_)
 refine c_ret1 hS Tryz.results126 (.tmp rfl) ?_
 exact ⟨rfl, hS.chg⟩
set_option maxRecDepth 100000 in
theorem fObject_P (na la : Option Addr) (nm nc lm lc : Nat) (w0 : World) : PureC Tryz.prog 128 [.slice na nm nc, .slice la lm lc] w0 (.agg [.int .i64 6, .string ⟨#[]⟩, .slice la lm lc, .slice na nm nc].toArray) := by
 refine c_enter [(0, .slice na nm nc), (1, .slice la lm lc)] [] noB Tryz.func128 rfl Tryz.ntmps128 ⟨rfl, rfl, trivial⟩ rfl (by simp) (by simp) (by simp) ?_
 intro a hS
 refine cS (cR ?_)
 refine L_op (s_alloc hS ty_z37 rfl ?_); clear hS a; intro a w b4 hS
 refine nL (nT (cS (cR ?_)))
 refine Rn hS (.m rfl <| .m rfl <| .c (e_build ty_z37 ty_pl37 (.one rfl rfl rfl (by repeat constructor) (.one rfl rfl rfl (by repeat constructor) (.one rfl rfl rfl (by repeat constructor) .nil)))) .n) ?_; clear hS a; intro a hS
 refine L_op (s_storeA hS rfl rfl ty_sz37 (by repeat constructor) (by rfl) (by rfl) (by rfl) ?_); clear hS; intro w hS
 refine nL (nT (wp_ret ?_))
 refine c_ret1 hS Tryz.results128 (.cellA rfl (by repeat constructor) ty_st37 ty_sz37 (by rfl)) ?_
 exact ⟨rfl, hS.chg⟩
def invP : List UInt8 := [47, 105, 110, 118, 111, 105, 99, 101, 115, 47]
def balP : List UInt8 := [47, 98, 97, 108, 97, 110, 99, 101, 115, 47]
def heaP : List UInt8 := [47, 104, 101, 97, 108, 116, 104]
theorem CutP_P (t p : List UInt8) (w : World) : PureC Tryz.prog 110 [.string (tx t), .string (tx p)] w (.tuple [.string (tx (Lib.trimPrefix t p)), .bool (Lib.hasPrefix t p)].toArray) :=
 (Tryz.strings_CutPrefix (tx t) (tx p) w).mono fun e w' ⟨he, hw⟩ => ⟨he, by rw [hw]; exact Chg.refl _ _⟩
set_option maxRecDepth 100000 in
theorem fAsked_P (t : List UInt8) (h1 : Lib.hasPrefix t invP = false) (h2 : Lib.hasPrefix t balP = false) (w0 : World) :
 PureC Tryz.prog 44 [.string (tx t)] w0 (.tuple [.agg (cellsC (zCd 0) (.slice none 0 0)).toArray, .bool (decide (tx t = tx heaP))].toArray) := by
 refine c_enter [(0, .string (tx t))] [] noB Tryz.func44 rfl Tryz.ntmps44 ⟨rfl, trivial⟩ rfl (by simp) (by simp) (by simp) ?_
 intro a hS
 refine cS (cR ?_)
 refine L_op (s_alloc hS ty_z24 rfl ?_); clear hS a; intro a w b2 hS
 refine L_e hS (e_assign rfl) rfl ?_; clear hS a; intro a hS
 refine nL (nT (cS (cS (cR ?_))))
 refine L_e hS (e_move rfl) rfl ?_; clear hS a; intro a hS
 refine L_op (s_callP hS (.cons rfl (.cons rfl .nil)) cf110 rfl (CutP_P t invP _) ?_); clear hS a; intro a w hS
 refine Rn hS (.m rfl <| .c (e_extract rfl rfl) <| .c (e_extract rfl rfl) <| .a rfl <| .a rfl .n) ?_; clear hS a; intro a hS
 refine nL (nT (cS (cR ?_)))
 refine L_e hS (e_move rfl) rfl ?_; clear hS a; intro a hS
 refine nL (nT ?_)
 replace hS := hS.is (t := 20) (c := false) rfl (h1)
 refine c_if_f hS rfl ?_
 refine wS (nT (cS (cS (cR ?_))))
 refine L_e hS (e_move rfl) rfl ?_; clear hS a; intro a hS
 refine L_op (s_callP hS (.cons rfl (.cons rfl .nil)) cf110 rfl (CutP_P t balP _) ?_); clear hS a; intro a w hS
 refine Rn hS (.m rfl <| .c (e_extract rfl rfl) <| .c (e_extract rfl rfl) <| .a rfl <| .a rfl .n) ?_; clear hS a; intro a hS
 refine nL (nT (cS (cR ?_)))
 refine L_e hS (e_move rfl) rfl ?_; clear hS a; intro a hS
 refine nL (nT ?_)
 replace hS := hS.is (t := 34) (c := false) rfl (h2)
 refine c_if_f hS rfl ?_
 refine wS (nT (cS (cR ?_)))
 refine Rn hS (.c (e_build ty_z24 ty_pl24 .nil) <| .m rfl <| .c (e_binS rfl rfl rfl) .n) ?_; clear hS a; intro a hS
 refine L_op (s_storeA hS rfl rfl ty_sz24 (by repeat constructor) (by rfl) (by rfl) (by rfl) ?_); clear hS; intro w hS
 refine L_e hS (e_assign rfl) rfl ?_; clear hS a; intro a hS
 refine nL (nT (wp_ret ?_))
 refine c_retN hS Tryz.results44 (.cons (.cellA rfl (by repeat constructor) ty_st24 ty_sz24 (by rfl)) (.cons (.tmp rfl) .nil)) rfl ?_
 exact ⟨rfl, hS.chg⟩
set_option maxRecDepth 100000 in
theorem fAsked03_P (W0 : World) (hG : Gj W0) (w0 : World) (ho : oldφ W0 w0) :
 PureC Tryz.prog 44 [.string (tx [47, 105, 110, 118, 111, 105, 99, 101, 115, 47, 48, 51])] w0 (.tuple [.agg (cellsC ((zCd 13).putN 11 3) (.slice none 0 0)).toArray, .bool false].toArray) := by
 refine c_enter [(0, .string (tx [47, 105, 110, 118, 111, 105, 99, 101, 115, 47, 48, 51]))] [oldA W0] noB Tryz.func44 rfl Tryz.ntmps44 ⟨rfl, trivial⟩ rfl (okC (old_ok ho) okN) dis1 (mineC rfl mineN) ?_
 intro a hS
 refine cS (cR ?_)
 refine L_op (s_alloc hS ty_z24 rfl ?_); clear hS a; intro a w b2 hS
 refine L_e hS (e_assign rfl) rfl ?_; clear hS a; intro a hS
 refine nL (nT (cS (cS (cR ?_))))
 refine L_e hS (e_move rfl) rfl ?_; clear hS a; intro a hS
 refine L_op (s_callP hS (.cons rfl (.cons rfl .nil)) cf110 rfl (CutP_P [47, 105, 110, 118, 111, 105, 99, 101, 115, 47, 48, 51] invP _) ?_); clear hS a; intro a w hS
 rw [show Lib.trimPrefix [47, 105, 110, 118, 111, 105, 99, 101, 115, 47, 48, 51] invP = [48, 51] by decide, show Lib.hasPrefix [47, 105, 110, 118, 111, 105, 99, 101, 115, 47, 48, 51] invP = true by decide] at hS
 refine Rn hS (.m rfl <| .c (e_extract rfl rfl) <| .c (e_extract rfl rfl) <| .a rfl <| .a rfl .n) ?_; clear hS a; intro a hS
 refine nL (nT (cS (cR ?_)))
 refine L_e hS (e_move rfl) rfl ?_; clear hS a; intro a hS
 refine nL (nT ?_)
 replace hS := hS.is (t := 20) (c := true) rfl (rfl)
 refine c_if_t hS rfl ?_
 refine cS (cR ?_)
 refine L_e hS (e_move rfl) rfl ?_; clear hS a; intro a hS
 refine L_op (s_callP hS (.cons rfl .nil) cf111 rfl (fNumber_P W0 hG [48, 51] 3 (by decide +kernel) (by omega) (by omega) (by decide) _ (hS.gg (X := oldA W0))) ?_); clear hS a; intro a w hS
 rw [show decide (tx (Lib.itoa 3) = tx [48, 51]) = false by decide +kernel] at hS
 refine Rn hS (.m rfl <| .c (e_extract rfl rfl) <| .c (e_extract rfl rfl) <| .a rfl <| .a rfl .n) ?_; clear hS a; intro a hS
 refine nL (nT (cS (cR ?_)))
 refine Rn hS (.m rfl <| .c (e_build ty_z24 ty_pl24 (.one rfl rfl rfl (by repeat constructor) (.one rfl rfl rfl (by repeat constructor) .nil))) <| .m rfl .n) ?_; clear hS a; intro a hS
 refine L_op (s_storeA hS rfl rfl ty_sz24 (by repeat constructor) (by rfl) (by rfl) (by rfl) ?_); clear hS; intro w hS
 refine L_e hS (e_assign rfl) rfl ?_; clear hS a; intro a hS
 refine nL (nT (wp_ret (r_then ?_)))
 refine c_retN hS Tryz.results44 (.cons (.cellA rfl (by repeat constructor) ty_st24 ty_sz24 (by rfl)) (.cons (.tmp rfl) .nil)) rfl ?_
 exact ⟨rfl, hS.chg⟩
def encI (x : Int) : List Value := fourJ 3 (tx (Lib.itoa x)) none 0 0 none 0 0
theorem ints_step {xs : List Int} {k : Nat} {x : Int} (h : xs[k]? = some x) : (xs.take (k + 1)).flatMap encI = (xs.take k).flatMap encI ++ (encI x ++ []) := by
 rw [take_next h, List.flatMap_append]; rfl
set_option maxRecDepth 100000 in
theorem fInts_N (W0 : World) (hG : Gj W0) (na : Option Addr) (nm nc : Nat) (b c : Nat) (xs : List Int) (hb : ∀ x ∈ xs, -9223372036854775808 ≤ x ∧ x ≤ 9223372036854775807) (hlen : xs.length ≤ 1000) (hx : ∀ (i : Nat) (x : Int), xs[i]? = some x → W0.cell? ⟨b, i, none⟩ = some (.int .i64 x)) (w0 : World) (ho : oldφ W0 w0) :
 NewC Tryz.prog 127 [.slice na nm nc, .slice (some ⟨b, 0, none⟩) xs.length c] w0 (fun v : Option Addr × Nat => .agg [.int .i64 6, .string ⟨#[]⟩, .slice v.1 xs.length v.2, .slice na nm nc].toArray) (fun v => ownA 37 4 (.slice v.1 xs.length v.2) xs.length (xs.flatMap encI)) := by
 refine c_enter [(0, .slice na nm nc), (1, .slice (some ⟨b, 0, none⟩) xs.length c)] [oldA W0] noB Tryz.func127 rfl Tryz.ntmps127 ⟨rfl, rfl, trivial⟩ rfl (okC (old_ok ho) okN) dis1 (mineC rfl mineN) ?_
 intro a hS
 refine cS (cR ?_)
 refine L_op (s_alloc hS ty_z37 rfl ?_); clear hS a; intro a w b4 hS
 refine nL (nT (cS (cR ?_)))
 refine L_e hS (e_assign rfl) rfl ?_; clear hS a; intro a hS
 refine nL (nT (cS (cS (cR ?_))))
 refine Rn hS (.m rfl <| .c (e_len rfl rfl ty_sl121) <| .m rfl .n) ?_; clear hS a; intro a hS
 refine nL (nT (wB ?_))
 skip
 refine c_loop (γ := Nat × Value) (fun G a w => St 23 noB w0 a w [(10, .int .i64 (G.1 : Int)), (9, .int .i64 (xs.length : Int)), (8, .slice (some ⟨b, 0, none⟩) xs.length c), (5, G.2), (0, .slice na nm nc), (4, .pointer (some ⟨b4, 0, none⟩))] [ownA 37 4 G.2 G.1 ((xs.take G.1).flatMap encI), .blk b4 zeroJ 37, oldA W0] ∧ G.1 ≤ xs.length) (fun G => xs.length - G.1) (0, .slice none 0 0) ⟨((hS.own_nil 37 4).slots (by repeat (first | exact trivial | refine ⟨rfl, ?_⟩))).pick (by repeat (first | exact Pick.nil | (refine Pick.cons (by repeat (first | exact Rem.head | apply Rem.tail)) ?_))), Nat.zero_le _⟩ ?_
 clear hS a; intro G a w hI
 obtain ⟨k, lv⟩ := G
 obtain ⟨hS, hk⟩ := hI
 simp only at hS hk
 obtain ⟨ql, cl, rfl⟩ := own_slice (hS.gg (X := ownA 37 4 lv k ((xs.take k).flatMap encI)))
 refine cS (cR ?_)
 refine L_e hS (e_bin rfl rfl rfl) rfl ?_; clear hS a; intro a hS
 refine nL (nT (cS ?_))
 (first | refine c_ifD hS rfl ?_ ?_ | refine c_if hS rfl ?_ ?_) <;> intro hc11
 ·
  have hkn : k < xs.length := by omega
  obtain ⟨y, hy⟩ : ∃ y, xs[k]? = some y := ⟨_, List.getElem?_eq_getElem hkn⟩
  have hyb := hb y (List.mem_of_getElem? hy)
  refine wS (nT (cS (wB (cS (cR ?_)))))
  refine Rn hS (.c (e_ixN rfl rfl ty_sl121 ty_sz3 (by omega)) <| .c (e_loadC rfl ty_sc3 (fun w hh => by rw [Nat.mul_one, Nat.zero_add]; exact old_cell (hh (oldA W0) (by repeat constructor)) (hx k y hy))) <| .a rfl .n) ?_; clear hS a; intro a hS
  refine nL (nT (cR ?_))
  refine Rn hS (.m rfl <| .m rfl .n) ?_; clear hS a; intro a hS
  refine L_op (s_callP hS (.cons rfl .nil) cf87 rfl (jOfInt_P W0 hG y hyb.1 hyb.2 _ (hS.gg (X := oldA W0))) ?_); clear hS a; intro a w hS
  unfold fourJ at hS
  refine L_op (s_bslice hS ty_sl34 ty_sz37 ty_z37 rfl rfl rfl rfl (.agg rfl rfl .nil) rfl ?_); clear hS a; intro a w b17 hS
  refine L_op (s_append1 hS rfl rfl ty_sl34 ty_sz37 ty_by37 ty_z37 rfl rfl rfl (by repeat constructor) (by repeat constructor) (by rfl) (by rfl) (fun _ => (by repeat constructor)) (by omega) ?_); clear hS a; intro v18 a w hv18 hS
  obtain ⟨q18, c18, rfl⟩ := own_slice (hS.gg (X := ownA 37 4 v18 (k + 1) _))
  refine L_e hS (e_assign rfl) rfl ?_; clear hS a; intro a hS
  refine nL (n_block (nT (cR ?_)))
  (first | refine L_e hS (e_binN rfl rfl rfl (by omega)) rfl ?_ | refine L_e hS (e_bin rfl rfl rfl) rfl ?_); clear hS a; intro a hS
  refine L_e hS (e_move rfl) rfl ?_; clear hS a; intro a hS
  refine nL ?_
  have e := ints_step hy
  unfold encI fourJ at e
  refine ⟨(k + 1, .slice q18 (k + 1) c18), by show xs.length - (k + 1) < xs.length - k; omega, ?_, hkn⟩
  show St _ _ _ _ _ _ [ownA _ _ _ _ ((xs.take (k + 1)).flatMap encI), _, _]
  unfold encI fourJ
  rw [e]
  exact (hS.slots (by repeat (first | exact trivial | refine ⟨rfl, ?_⟩))).pick (by repeat (first | exact Pick.nil | (refine Pick.cons (by repeat (first | exact Rem.head | apply Rem.tail)) ?_)))
 obtain rfl : k = xs.length := by omega
 rw [List.take_length] at hS
 refine wp_exit ?_
 refine x_then (x_then (x_hit ?_))
 refine nT (cS (cR ?_))
 refine Rn hS (.m rfl <| .m rfl .n) ?_; clear hS a; intro a hS
 refine L_op (s_callP hS (.cons rfl (.cons rfl .nil)) cf128 rfl (fObject_P na ql nm nc xs.length cl _) ?_); clear hS a; intro a w hS
 refine L_op (s_storeA hS rfl rfl ty_sz37 (by repeat constructor) (by rfl) (by rfl) (by rfl) ?_); clear hS; intro w hS
 refine nL (nT (wp_ret ?_))
 refine c_ret1 hS Tryz.results127 (.cellA rfl (by repeat constructor) ty_st37 ty_sz37 (by rfl)) ?_
 exact ⟨(ql, cl), rfl, hS.chg, hS.ok (ownA 37 4 (.slice ql xs.length cl) xs.length (xs.flatMap encI)) (by repeat constructor), fun b hb => (hS.mine (ownA 37 4 (.slice ql xs.length cl) xs.length (xs.flatMap encI)) (by repeat constructor) rfl b hb).resolve_right id⟩
theorem u8_keep {W w : World} (hU : Lib.Utf8Tabs 0 1 W) (h : oldφ W w) : Lib.Utf8Tabs 0 1 w :=
 ⟨fun c hc => old_cell h (hU.1 c hc), fun i hi => ⟨old_cell h (hU.2 i hi).1, old_cell h (hU.2 i hi).2⟩⟩
set_option maxRecDepth 100000 in
theorem fResponse_N (n : Nat) (v : JV) (cs : List Value) (st : Int) (cl : Bool) (w0 : World) (hU : Lib.Utf8Tabs 0 1 w0) (hg : goodV n v) (hsm : smV n v) (hj : JAt n v cs w0) (hl : lenJ n v ≤ 65536) (hok : okF n 0 v) :
 NewC Tryz.prog 66 [.int .i64 st, .agg cs.toArray, .bool cl] w0 (fun x : { x : (Nat × Nat) × JV × List UInt8 // PJ n v x.2.1 x.2.2 ∧ x.2.2.length ≤ x.1.2 } => .agg [.int .i64 st, .slice (some ⟨x.1.1.1, 0, none⟩) x.1.2.2.length x.1.1.2, .bool cl].toArray) (fun x => bbA 5 x.1.1.1 (bsI x.1.2.2)) := by
 obtain ⟨lv2, nv2, ⟨a1, a2, a3, rfl⟩, ⟨a4, a5, a6, rfl⟩, hrc⟩ := hj.four
 subst hrc
 refine c_enter [(0, .int .i64 st), (1, .agg [.int .i64 (v.k : Int), .string (tx v.t), .slice a1 a2 a3, .slice a4 a5 a6].toArray), (2, .bool cl)] [oldA w0] noB Tryz.func66 rfl Tryz.ntmps66 ⟨rfl, rfl, rfl, trivial⟩ rfl (okC (old_ok (old_refl _)) okN) dis1 (mineC rfl mineN) ?_
 intro a hS
 refine cS (cR ?_)
 refine L_op (s_boxA hS rfl rfl ?_); clear hS a; intro a w b4 hS
 refine L_op (s_alloc hS ty_z62 rfl ?_); clear hS a; intro a w b6 hS
 refine nL (nT (cS (cR ?_)))
 refine L_e hS (e_loadA rfl (by repeat constructor) ty_st37 ty_sz37 (by rfl)) rfl ?_; clear hS a; intro a hS
 refine L_op (s_callN hS (.cons rfl .nil) cf12 rfl (jPrint_N n v _ _ (u8_keep hU (hS.gg (X := oldA w0))) hg hsm (hj.old (hS.gg (X := oldA w0))) (by omega)) ?_); clear hS a; intro x11 a w hS
 rcases x11 with ⟨⟨⟨pb, pc⟩, pr, ps⟩, h1, h2, h3, h4⟩ | pe
 rotate_left
 · exact absurd (pe.2.2 hok) (by omega)
 rw [show prV n v (.inl ⟨((pb, pc), pr, ps), h1, h2, h3, h4⟩) = .tuple [.slice (some ⟨pb, 0, none⟩) ps.length pc, .int .i64 0].toArray from rfl, show prY n v (.inl ⟨((pb, pc), pr, ps), h1, h2, h3, h4⟩) = bbA 5 pb (bsI ps) from rfl] at hS
 refine Rn hS (.m rfl <| .c (e_extract rfl rfl) <| .c (e_extract rfl rfl) <| .a rfl <| .a rfl .n) ?_; clear hS a; intro a hS
 refine nL (nT (cS (cS (cR ?_))))
 refine Rn hS (.m rfl <| .c (e_bin rfl rfl rfl) .n) ?_; clear hS a; intro a hS
 refine nL (nT ?_)
 replace hS := hS.is (t := 15) (c := false) rfl (by decide)
 refine c_if_f hS rfl ?_
 refine wS (nT (cS (cR ?_)))
 refine Rn hS (.m rfl <| .m rfl <| .m rfl <| .c (e_build ty_z62 ty_pl62 (.one rfl rfl rfl (by repeat constructor) (.one rfl rfl rfl (by repeat constructor) (.one rfl rfl rfl (by repeat constructor) .nil)))) .n) ?_; clear hS a; intro a hS
 refine L_op (s_storeA hS rfl rfl ty_sz62 (by repeat constructor) (by rfl) (by rfl) (by rfl) ?_); clear hS; intro w hS
 refine nL (nT (wp_ret ?_))
 refine c_ret1 hS Tryz.results66 (.cellA rfl (by repeat constructor) ty_st62 ty_sz62 (by rfl)) ?_
 exact ⟨⟨((pb, pc), pr, ps), h2, h4⟩, rfl, hS.chg, hS.ok (bbA 5 pb (bsI ps)) (by repeat constructor), fun b hb => (hS.mine (bbA 5 pb (bsI ps)) (by repeat constructor) rfl b hb).resolve_right id⟩
def errN : List (List UInt8) := [[101, 114, 114, 111, 114], [112, 108, 97, 99, 101]]
def errJ (e p : Int) : JV := .mk 6 [] errN [jNum (Lib.itoa e), jNum (Lib.itoa p)]
theorem err_at {e p : Int} {ql : Option Addr} {cl b : Nat} {w : World} (h1 : (ownA 37 4 (.slice ql 2 cl) 2 ([e, p].flatMap encI)).ok w) (h2 : (Asn.blk b (errN.flatMap encS) 9).ok w) : JAt 2 (errJ e p) [.int .i64 6, .string ⟨#[]⟩, .slice ql 2 cl, .slice (some ⟨b, 0, none⟩) 2 2] w := by
 refine ⟨.slice ql 2 cl, .slice (some ⟨b, 0, none⟩) 2 2, [e, p].map encI, rfl, .inr ⟨b, 0, 2, by decide, rfl, row_of_flat (enc := encS) (xs := errN) (fun _ => rfl) (show w.heap[b]? = some (.cells (errN.flatMap encS).toArray 9 (0, 0)) from h2.now), h2.lt b rfl⟩, rw_of_own (xs := [e, p]) (fun _ => rfl) h1, rfl, ?_⟩
 intro i v r hv hr
 rcases i with _ | _ | i
 · cases hv; cases hr; exact (jx_leaf 0 3 _ w).now
 · cases hv; cases hr; exact (jx_leaf 0 3 _ w).now
 · cases hv
theorem itoa25 : Lib.itoa 25 = [50, 53] := by decide +kernel
theorem itoa0 : Lib.itoa 0 = [48] := by decide +kernel
theorem errJ_eq : errJ 25 0 = .mk 6 [] errN [jNum [50, 53], jNum [48]] := by unfold errJ; rw [itoa25, itoa0]
theorem num_good {t : List UInt8} (h : numLit t) (n : Nat) : goodV (n + 1) (jNum t) := ⟨by omega, by omega, fun _ => h, fun h => absurd h (by decide)⟩
theorem errJ_good : goodV 2 (errJ 25 0) := ⟨by omega, by omega, fun h => absurd h (by decide), fun _ x hx => by
  rcases List.mem_cons.1 hx with rfl | hx
  · exact num_good (itoa_lit (by omega) (by omega)) 0
  · obtain rfl := List.mem_singleton.1 hx; exact num_good (itoa_lit (by omega) (by omega)) 0⟩
theorem errJ_sm : smV 2 (errJ 25 0) := by
 rw [errJ_eq]
 refine ⟨by decide, by decide, by decide, by decide, fun x hx => ?_⟩
 rcases List.mem_cons.1 hx with rfl | hx
 · exact ⟨by decide, by decide, by decide, by decide, fun x h => by cases h⟩
 · obtain rfl := List.mem_singleton.1 hx; exact ⟨by decide, by decide, by decide, by decide, fun x h => by cases h⟩
theorem errJ_len : lenJ 2 (errJ 25 0) ≤ 65536 := by rw [errJ_eq]; decide +kernel
theorem errJ_ok : okF 2 0 (errJ 25 0) := by
 rw [errJ_eq]
 refine ⟨fun h => absurd h (by decide), fun h => absurd h (by decide), fun _ => ⟨by decide +kernel, rfl, by decide, by decide, by decide, fun x hx => ?_⟩⟩
 rcases List.mem_cons.1 hx with rfl | hx
 · exact ⟨fun _ => by decide +kernel, fun h => absurd h (by decide), fun h => absurd h (by decide)⟩
 · obtain rfl := List.mem_singleton.1 hx; exact ⟨fun _ => by decide +kernel, fun h => absurd h (by decide), fun h => absurd h (by decide)⟩
set_option maxRecDepth 100000 in
theorem fFailed25_N (W0 : World) (hG : Gj W0) (w0 : World) (ho : oldφ W0 w0) :
  NewC Tryz.prog 64 [.int .i64 25, .int .i64 0] w0 (fun x : { x : (Nat × Nat) × JV × List UInt8 // PJ 2 (errJ 25 0) x.2.1 x.2.2 ∧ x.2.2.length ≤ x.1.2 } => .agg [.int .i64 409, .slice (some ⟨x.1.1.1, 0, none⟩) x.1.2.2.length x.1.1.2, .bool false].toArray) (fun x => bbA 5 x.1.1.1 (bsI x.1.2.2)) := by
  refine c_enter [(0, .int .i64 25), (1, .int .i64 0)] [oldA W0] noB Tryz.func64 rfl Tryz.ntmps64 ⟨rfl, rfl, trivial⟩ rfl (okC (old_ok ho) okN) dis1 (mineC rfl mineN) ?_
  intro a hS
  refine cS (cR ?_)
  refine L_op (s_alloc hS ty_z62 rfl ?_); clear hS a; intro a w b4 hS
  refine nL (nT (cS (cR ?_)))
  refine L_e hS (e_move rfl) rfl ?_; clear hS a; intro a hS
  refine L_op (s_callP hS (.cons rfl .nil) cf126 rfl (fStatus25_P _) ?_); clear hS a; intro a w hS
  refine L_op (s_bslice hS ty_sl35 ty_sz9 ty_z9 rfl rfl rfl rfl (.one rfl rfl rfl (.one rfl rfl rfl .nil)) rfl ?_); clear hS a; intro a w b7 hS
  refine Rn hS (.m rfl <| .m rfl .n) ?_; clear hS a; intro a hS
  refine L_op (s_bslice hS ty_sl121 ty_sz3 ty_z3 rfl rfl rfl rfl (.one rfl rfl rfl (.one rfl rfl rfl .nil)) rfl ?_); clear hS a; intro a w b10 hS
  have hb10 := hS.gg (X := .blk b10 [.int .i64 25, .int .i64 0] 3)
  refine L_op (s_callN hS (.cons rfl (.cons rfl .nil)) cf127 rfl (fInts_N w (hG.keep (hS.gg (X := oldA W0))) (some ⟨b7, 0, none⟩) 2 2 b10 2 [25, 0] (by decide) (by decide) (fun i x hx => cell_of_blk hb10 (by
 rcases i with _ | _ | i
 · cases hx; rfl
 · cases hx; rfl
 · cases hx)) _ (old_refl w)) ?_); clear hS a; intro x11 a w hS
  obtain ⟨ql, cl⟩ := x11
  have hj := err_at (hS.ok (ownA 37 4 (.slice ql 2 cl) 2 ([25, 0].flatMap encI)) (by repeat constructor)) (hS.ok (.blk b7 (errN.flatMap encS) 9) (by repeat constructor))
  refine L_op (s_callN hS (.cons rfl (.cons rfl (.cons rfl .nil))) cf66 rfl (fResponse_N 2 (errJ 25 0) _ 409 false _ (hG.keep (hS.gg (X := oldA W0))).u8 errJ_good errJ_sm hj errJ_len errJ_ok) ?_); clear hS a; intro x12 a w hS
  refine L_op (s_storeA hS rfl rfl ty_sz62 (by repeat constructor) (by rfl) (by rfl) (by rfl) ?_); clear hS; intro w hS
  refine nL (nT (wp_ret ?_))
  refine c_ret1 hS Tryz.results64 (.cellA rfl (by repeat constructor) ty_st62 ty_sz62 (by rfl)) ?_
  exact ⟨x12, rfl, hS.chg, hS.ok (bbA 5 x12.1.1.1 (bsI x12.1.2.2)) (by repeat constructor), fun b hb => (hS.mine (bbA 5 x12.1.1.1 (bsI x12.1.2.2)) (by repeat constructor) rfl b hb).resolve_right id⟩
theorem rt_nodup : (rtG.map (·.1)).Nodup := by decide +kernel
theorem rt_asked : ∀ t ∈ rtG.map (·.1), Lib.hasPrefix t invP = false ∧ Lib.hasPrefix t balP = false ∧ t ≠ heaP := by decide +kernel
theorem rt_path {j k : Nat} {x y : List UInt8 × List Fg} (hj : rtG[j]? = some x) (hk : rtG[k]? = some y) (h : x.1 = y.1) : j = k := by
 have hj' : (rtG.map (·.1))[j]? = some x.1 := by rw [List.getElem?_map, hj]; rfl
 have hk' : (rtG.map (·.1))[k]? = some y.1 := by rw [List.getElem?_map, hk]; rfl
 obtain ⟨l1, e1⟩ := List.getElem?_eq_some_iff.1 hj'
 obtain ⟨l2, e2⟩ := List.getElem?_eq_some_iff.1 hk'
 exact (List.getElem_inj rt_nodup).1 (e1.trans (h.trans e2.symm))
def pathIs (t : ByteArray) (j : Nat) : Bool := match rtG[j]? with
 | some x => decide (tx x.1 = t)
 | none => false
theorem pathIs_some {t : ByteArray} {j : Nat} {x : List UInt8 × List Fg} (h : rtG[j]? = some x) : pathIs t j = decide (tx x.1 = t) := by unfold pathIs; rw [h]
theorem idx_path {k : Nat} {t : List UInt8} {fl : List Fg} (hx : rtG[k]? = some (t, fl)) {i : Int} (h : IdxOk (pathIs (tx t)) i) : i = k := by
 have hk : k < 12 := (List.getElem?_eq_some_iff.1 hx).1
 have hp : pathIs (tx t) k = true := by rw [pathIs_some hx]; exact decide_eq_true rfl
 rcases h with ⟨j, rfl, hj, hpj, _⟩ | ⟨_, hno⟩
 · obtain ⟨y, hy⟩ := rt_kth hj
   rw [pathIs_some hy] at hpj
   rw [rt_path hy hx (tx_inj' (of_decide_eq_true hpj))]
 · rw [hno k hk] at hp; cases hp
def bindP (fl : List Fg) (kd : Int) (l : List UInt8) : Int × Cd := match parseF l with
 | none => (10, zCd 0)
 | some v => if v.k = 6 then bindF (fdsOf fl) kd v else (13, zCd 0)
theorem bindP_none {fl : List Fg} {kd : Int} {l : List UInt8} (h : parseF l = none) : (bindP fl kd l).1 = 10 := by unfold bindP; rw [h]
theorem bindP_kind {fl : List Fg} {kd : Int} {l : List UInt8} {v : JV} (h : parseF l = some v) (hk : ¬ v.k = 6) : (bindP fl kd l).1 = 13 := by unfold bindP; rw [h]; simp only; rw [if_neg hk]
theorem bindP_some {fl : List Fg} {kd : Int} {l : List UInt8} {v : JV} (h : parseF l = some v) (hk : v.k = 6) : bindP fl kd l = bindF (fdsOf fl) kd v := by unfold bindP; rw [h]; simp only; rw [if_pos hk]
def BnR (r : Int × Cd) : Type := { _x : Value // r.1 = 0 } ⊕ { _u : Unit // r.1 ≠ 0 }
def bnV (r : Int × Cd) : BnR r → Value
 | .inl x => .tuple [.agg (cellsC r.2 x.1).toArray, .int .i64 0].toArray
 | .inr _ => .tuple [.agg (cellsC (zCd 0) (.slice none 0 0)).toArray, .int .i64 r.1].toArray
def bnY (r : Int × Cd) : BnR r → Asn
 | .inl x => ownA 160 4 x.1 r.2.fx.length (r.2.fx.flatMap encF)
 | .inr _ => none_
theorem pa_open {l : List UInt8} (r : PaR l) {w : World} (h : (paY l r).ok w) : ∃ (k : Int) (s : ByteArray) (a1 : Option Addr) (a2 a3 : Nat) (a4 : Option Addr) (a5 a6 : Nat) (p e : Int), paV l r = .tuple [.agg [.int .i64 k, .string s, .slice a1 a2 a3, .slice a4 a5 a6].toArray, .int .i64 p, .int .i64 e].toArray ∧
 ((e = 0 ∧ ∃ x : { x : JX // parseF l = some x.v }, r = .inl x ∧ x.1.cs = [.int .i64 k, .string s, .slice a1 a2 a3, .slice a4 a5 a6] ∧ k = (x.1.v.k : Int)) ∨ (e ≠ 0 ∧ parseF l = none)) := by
 rcases r with x | pe
 · obtain ⟨lv, nv, ⟨a1, a2, a3, rfl⟩, ⟨a4, a5, a6, rfl⟩, hcs⟩ := JAt.four (show (jxA 33 x.1).ok w from h).now
   exact ⟨_, _, a1, a2, a3, a4, a5, a6, 0, 0, by show Value.tuple [.agg x.1.cs.toArray, _, _].toArray = _; rw [hcs], .inl ⟨rfl, x, rfl, hcs, rfl⟩⟩
 · exact ⟨0, ⟨#[]⟩, none, 0, 0, none, 0, 0, pe.1.1, pe.1.2, rfl, .inr pe.2⟩
theorem bd_open {fs : List Fd} {kd : Int} {v : JV} (r : BdR fs kd v) {w : World} (h : (bdY fs kd v r).ok w) : ∃ (c : Cd) (a : Option Addr) (m cp : Nat) (e : Int), bdV fs kd v r = .tuple [.agg (cellsC c (.slice a m cp)).toArray, .int .i64 e].toArray ∧
 ((e = 0 ∧ ∃ x : { _x : Value // (bindF fs kd v).1 = 0 }, r = .inl x ∧ c = (bindF fs kd v).2 ∧ .slice a m cp = x.1) ∨ (e = (bindF fs kd v).1 ∧ e ≠ 0 ∧ c = zCd 0 ∧ a = none ∧ m = 0 ∧ cp = 0)) := by
 rcases r with x | x
 · obtain ⟨q, c, e⟩ := own_slice (show w.ownsRow 0 _ 4 x.1 (bindF fs kd v).2.fx.length _ from h.now)
   exact ⟨(bindF fs kd v).2, q, _, c, 0, by show Value.tuple [.agg (cellsC (bindF fs kd v).2 x.1).toArray, .int .i64 0].toArray = _; rw [e], .inl ⟨rfl, x, rfl, rfl, e.symm⟩⟩
 · exact ⟨_, none, 0, 0, _, rfl, .inr ⟨rfl, x.2, rfl, rfl, rfl, rfl⟩⟩
theorem txa_keep {W w : World} {q : Option Addr} {c : Nat} {l : List UInt8} (h : TxA W q c l) (ho : oldφ W w) : TxA w q c l := ⟨old_by ho h.lies, h.n⟩
set_option maxHeartbeats 4000000 in
set_option maxRecDepth 100000 in
theorem fBindPost_N (W0 : World) (hG : Gj W0) (kx : Nat) (t : List UInt8) (fl : List Fg) (hx : rtG[kx]? = some (t, fl)) (q : Option Addr) (cap : Nat) (l : List UInt8) (ht : TxA W0 q cap l) (hsm : ∀ v, parseF l = some v → smV 33 v) (cl : Bool) (w0 : World) (hold : oldφ W0 w0) :
 NewC Tryz.prog 14 [.agg [.string ⟨#[80, 79, 83, 84]⟩, .string (tx t), .slice q l.length cap, .bool cl].toArray] w0 (bnV (bindP fl ((kx : Int) + 1) l)) (bnY (bindP fl ((kx : Int) + 1) l)) := by
 have hln := ht.n
 obtain ⟨h1, h2, h3⟩ := rt_asked t (List.mem_map.2 ⟨_, List.mem_of_getElem? hx, rfl⟩)
 have hkx : kx < 12 := (List.getElem?_eq_some_iff.1 hx).1
 refine c_enter [(0, .agg [.string ⟨#[80, 79, 83, 84]⟩, .string (tx t), .slice q l.length cap, .bool cl].toArray)] [oldA W0] noB Tryz.func14 rfl Tryz.ntmps14 ⟨rfl, trivial⟩ rfl (okC (old_ok hold) okN) dis1 (mineC rfl mineN) ?_
 intro a hS
 refine cS (cR ?_)
 refine L_op (s_boxA hS rfl rfl ?_); clear hS a; intro a w b1 hS
 refine L_op (s_alloc hS ty_z24 rfl ?_); clear hS a; intro a w b2 hS
 refine L_e hS (e_assign rfl) rfl ?_; clear hS a; intro a hS
 refine nL (nT (cS (cR ?_)))
 obtain ⟨lo, hlo⟩ : ∃ lo, lo = w.heap.size := ⟨_, rfl⟩
 refine L_op (s_callN hS .nil cf26 rfl (fRoutes_L _ lo hlo) ?_); clear hS a; intro x11 a w hS
 obtain ⟨N, rb, f⟩ := x11
 refine L_e hS (e_assign rfl) rfl ?_; clear hS a; intro a hS
 refine nL (nT (cS (cR ?_)))
 refine Rn hS (.m rfl <| .c (e_makeFunc .nil (.cons rfl .nil)) .n) ?_; clear hS a; intro a hS
 have hcell := cell_of_blk (k := 1) (v := .string (tx t)) (hS.gg (X := .blk b1 [.string ⟨#[80, 79, 83, 84]⟩, .string (tx t), .slice q l.length cap, .bool cl] 29)) rfl
 have hrt : RtsAt lo rb f w := hS.gg (X := rtsA lo N rb f)
 refine L_op (s_callN hS (.cons rfl (.cons rfl .nil)) cf27 rfl (fIndexRt_N w lo rb f hrt 43 [.pointer (some ⟨b1, 0, none⟩)] (pathIs (tx t)) cf43 (fun j x w' hx ho => by rw [pathIs_some hx]; exact fBindF_P f j x b1 (tx t) w hcell w' ho) _ (old_refl w)) ?_); clear hS a; intro x14 a w hS
 obtain ⟨ix, hix⟩ := x14
 simp only at hS
 obtain rfl := idx_path hx hix
 refine L_e hS (e_assign rfl) rfl ?_; clear hS a; intro a hS
 refine nL (nT (cS (cR ?_)))
 (first | refine L_e hS (e_fa0 rfl ty_fo29_1) rfl ?_ | refine L_e hS (e_faK rfl ty_fo29_1) rfl ?_); clear hS a; intro a hS
 refine L_e hS (e_load rfl (by repeat constructor) ty_sc9 (by rfl)) rfl ?_; clear hS a; intro a hS
 refine L_op (s_callP hS (.cons rfl .nil) cf44 rfl (fAsked_P t h1 h2 _) ?_); clear hS a; intro a w hS
 rw [show decide (tx t = tx heaP) = false from decide_eq_false (fun e => h3 (tx_inj' e))] at hS
 refine Rn hS (.m rfl <| .c (e_extract rfl rfl) <| .c (e_extract rfl rfl) .n) ?_; clear hS a; intro a hS
 refine L_op (s_alloc hS ty_z24 rfl ?_); clear hS a; intro a w b6 hS
 refine L_op (s_storeA hS rfl rfl ty_sz24 (by repeat constructor) (by rfl) (by rfl) (by rfl) ?_); clear hS; intro w hS
 refine L_e hS (e_assign rfl) rfl ?_; clear hS a; intro a hS
 refine nL (nT (cS (wB (cS (cR ?_)))))
 refine Rn hS (.m rfl <| .c (e_bin rfl rfl rfl) <| .m rfl .n) ?_; clear hS a; intro a hS
 replace hS := hS.is (t := 24) (c := false) rfl (decide_eq_false (by omega))
 refine Rn hS (.t rfl rfl <| .t rfl rfl <| .c (e_pk rfl rfl) <| .a rfl .n) ?_; clear hS a; intro a hS
 refine nL (nT ?_)
 refine c_if_f hS rfl ?_
 refine cS (cR ?_)
 refine Rn hS (.m rfl <| .m rfl .n) ?_; clear hS a; intro a hS
 replace hS := hS.is (t := 31) (c := false) rfl (rfl)
 refine Rn hS (.t rfl rfl <| .t rfl rfl <| .t rfl rfl <| .c (e_pk rfl rfl) <| .m rfl <| .g rfl rfl (e_move rfl) <| .g rfl rfl (e_not rfl) <| .g rfl rfl (e_move rfl) .n) ?_; clear hS a; intro a hS
 (first | refine g_splitD (t := 39) hS rfl ?_ ?_ | refine g_split (t := 39) hS rfl ?_ ?_) <;> (clear hS; intro hg39 hS)
 ·
  (first | refine L_ge hS rfl rfl (e_fa0 rfl ty_fo29_0) rfl ?_ | refine L_ge hS rfl rfl (e_faK rfl ty_fo29_0) rfl ?_); clear hS a; intro a hS
  refine Rn hS (.g rfl rfl (e_load rfl (by repeat constructor) ty_sc9 (by rfl)) <| .g rfl rfl (e_binS rfl rfl rfl) <| .g rfl rfl (e_pk rfl rfl) <| .c (e_pk rfl rfl) <| .a rfl .n) ?_; clear hS a; intro a hS
  refine nL (nT ?_)
  replace hS := hS.is (t := 29) (c := false) rfl ((by rfl))
  refine c_if_f hS rfl ?_
  refine cS (cR ?_)
  refine Rn hS (.m rfl <| .m rfl .n) ?_; clear hS a; intro a hS
  replace hS := hS.is (t := 48) (c := false) rfl (rfl)
  refine Rn hS (.t rfl rfl <| .t rfl rfl <| .t rfl rfl <| .t rfl rfl <| .c (e_pk rfl rfl) <| .a rfl .n) ?_; clear hS a; intro a hS
  refine nL (nT ?_)
  refine c_if_f hS rfl ?_
  refine cS (cR ?_)
  (first | refine L_e hS (e_fa0 rfl ty_fo29_1) rfl ?_ | refine L_e hS (e_faK rfl ty_fo29_1) rfl ?_); clear hS a; intro a hS
  refine Rn hS (.c (e_load rfl (by repeat constructor) ty_sc9 (by rfl)) <| .c (e_binS rfl rfl rfl) <| .a rfl .n) ?_; clear hS a; intro a hS
  refine nL (nT ?_)
  replace hS := hS.is (t := 55) (c := false) rfl (decide_eq_false (fun e => h3 (tx_inj' e)))
  refine c_if_f hS rfl ?_
  refine cS (cR ?_)
  refine Rn hS (.m rfl <| .a rfl .n) ?_; clear hS a; intro a hS
  refine nL (nT ?_)
  replace hS := hS.is (t := 60) (c := false) rfl (rfl)
  refine c_if_f hS rfl ?_
  refine wS (n_block (nT (cS (cR ?_))))
  (first | refine L_e hS (e_fa0 rfl ty_fo29_2) rfl ?_ | refine L_e hS (e_faK rfl ty_fo29_2) rfl ?_); clear hS a; intro a hS
  refine L_e hS (e_load rfl (by repeat constructor) ty_sc27 (by rfl)) rfl ?_; clear hS a; intro a hS
  refine L_op (s_callN hS (.cons rfl .nil) cf11 rfl (jParse_N q cap l _ (hG.keep (hS.gg (X := oldA W0))).u8 (txa_keep ht (hS.gg (X := oldA W0)))) ?_); clear hS a; intro x66 a w hS
  obtain ⟨jk, js, a1, a2, a3, a4, a5, a6, pp, pe, hpv, hpc⟩ := pa_open x66 (hS.ok (paY l x66) (by repeat constructor))
  rw [hpv] at hS
  refine Rn hS (.m rfl <| .c (e_extract rfl rfl) <| .c (e_extract rfl rfl) <| .c (e_extract rfl rfl) .n) ?_; clear hS a; intro a hS
  refine L_op (s_alloc hS ty_z37 rfl ?_); clear hS a; intro a w b8 hS
  refine L_op (s_storeA hS rfl rfl ty_sz37 (by repeat constructor) (by rfl) (by rfl) (by rfl) ?_); clear hS; intro w hS
  refine Rn hS (.a rfl <| .a rfl .n) ?_; clear hS a; intro a hS
  refine nL (nT (cS (wB (cS (cR ?_)))))
  refine Rn hS (.m rfl <| .c (e_bin rfl rfl rfl) <| .a rfl .n) ?_; clear hS a; intro a hS
  refine nL (nT ?_)
  (first | refine c_ifD hS rfl ?_ ?_ | refine c_if hS rfl ?_ ?_) <;> intro hc70
  ·
   refine cS (cR ?_)
   refine L_e hS (e_build ty_z24 ty_pl24 .nil) rfl ?_; clear hS a; intro a hS
   refine L_op (s_storeA hS rfl rfl ty_sz24 (by repeat constructor) (by rfl) (by rfl) (by rfl) ?_); clear hS; intro w hS
   refine L_e hS (e_assign rfl) rfl ?_; clear hS a; intro a hS
   refine nL (nT (wp_ret ?_))
   refine r_block (r_then ?_)
   refine c_retN hS Tryz.results14 (.cons (.cellA rfl (by repeat constructor) ty_st24 ty_sz24 (by rfl)) (.cons (.tmp rfl) .nil)) rfl ?_
   have hn : parseF l = none := by
    rcases hpc with ⟨h, _⟩ | ⟨_, h⟩
    · exact absurd h hc70
    · exact h
   have he := bindP_none (fl := fl) (kd := (kx : Int) + 1) hn
   exact ⟨.inr ⟨(), by rw [he]; decide⟩, by show _ = Ending.returned (Value.tuple [.agg (cellsC (zCd 0) (.slice none 0 0)).toArray, .int .i64 (bindP fl ((kx : Int) + 1) l).1].toArray); rw [he]; rfl, hS.chg, none_ok _, fun b h => h.elim⟩
  have hpe : pe = 0 := Classical.not_not.1 hc70
  obtain ⟨xj, rfl, hxcs, rfl⟩ : ∃ x : { x : JX // parseF l = some x.v }, x66 = .inl x ∧ x.1.cs = [.int .i64 jk, .string js, .slice a1 a2 a3, .slice a4 a5 a6] ∧ jk = (x.1.v.k : Int) := by
   rcases hpc with ⟨_, h⟩ | ⟨h, _⟩
   · exact h
   · exact absurd hpe h
  rw [show paY l (.inl xj) = jxA 33 xj.1 from rfl] at hS
  refine cS (cR ?_)
  (first | refine L_e hS (e_fa0 rfl ty_fo37_0) rfl ?_ | refine L_e hS (e_faK rfl ty_fo37_0) rfl ?_); clear hS a; intro a hS
  refine Rn hS (.c (e_load rfl (by repeat constructor) ty_sc3 (by rfl)) <| .c (e_bin rfl rfl rfl) <| .a rfl .n) ?_; clear hS a; intro a hS
  refine nL (nT ?_)
  (first | refine c_ifD hS rfl ?_ ?_ | refine c_if hS rfl ?_ ?_) <;> intro hc74
  ·
   refine cS (cR ?_)
   refine L_e hS (e_build ty_z24 ty_pl24 .nil) rfl ?_; clear hS a; intro a hS
   refine L_op (s_storeA hS rfl rfl ty_sz24 (by repeat constructor) (by rfl) (by rfl) (by rfl) ?_); clear hS; intro w hS
   refine L_e hS (e_assign rfl) rfl ?_; clear hS a; intro a hS
   refine nL (nT (wp_ret ?_))
   refine r_block (r_then ?_)
   refine c_retN hS Tryz.results14 (.cons (.cellA rfl (by repeat constructor) ty_st24 ty_sz24 (by rfl)) (.cons (.tmp rfl) .nil)) rfl ?_
   have he := bindP_kind (fl := fl) (kd := (kx : Int) + 1) xj.2 (by omega)
   exact ⟨.inr ⟨(), by rw [he]; decide⟩, by show _ = Ending.returned (Value.tuple [.agg (cellsC (zCd 0) (.slice none 0 0)).toArray, .int .i64 (bindP fl ((kx : Int) + 1) l).1].toArray); rw [he]; rfl, hS.chg, none_ok _, fun b h => h.elim⟩
  have hk6 : xj.1.v.k = 6 := by omega
  have hbp := bindP_some (fl := fl) (kd := (kx : Int) + 1) xj.2 hk6
  refine wS (n_block (nT (cS ?_)))
  refine c_drawS [8] (by kernel_rfl) hS (sub_cons (X := rtsA lo N rb f) (by repeat constructor) (sub_cons (X := .blk b8 [.int .i64 (xj.1.v.k : Int), .string js, .slice a1 a2 a3, .slice a4 a5 a6] 37) (by repeat constructor) sub_nil)) ?_; clear hS; intro w hS
  simp only [List.length_cons, List.length_nil, Nat.zero_add, Nat.reduceAdd, List.replicate]
  refine Rz hS (sub_cons (by repeat constructor) (sub_cons (by repeat constructor) sub_nil)) (.o 0 (tf 1 9) rfl wN (e_move rfl) rfl <| .o 1 (tf 2 8) rfl wN (e_move rfl) rfl <| .o 2 (tf 3 7) rfl wN (e_ixN rfl rfl ty_sl78 ty_sz83 (by omega)) rfl <| .y 3 (tf 4 6) rfl wN (e_loadAC (l := [.string (tx t), .int .i64 ((kx : Int) + 1), .slice (some ⟨f kx, 0, none⟩) fl.length fl.length]) rfl ty_st83 ty_sz83 (fun w hh j u hj => rts_row (show RtsAt lo rb f w from hh (rtsA lo N rb f) (by repeat constructor)) hx j u hj)) rfl <| .y 4 (tf 5 5) rfl wN (e_loadA rfl (by repeat constructor) ty_st37 ty_sz37 (by rfl)) rfl .n) ?_; clear hS a; intro a hS
  refine Zo 5 (tf 6 4) hS rfl wN rfl (s_callN hS (.cons rfl (.cons rfl .nil)) cf45 rfl (fRouteBind_N w (hG.keep (hS.gg (X := oldA W0))) 31 (tx t) ((kx : Int) + 1) (f kx) 0 fl.length fl (rts_fds (show RtsAt lo rb f w from hS.gg (X := rtsA lo N rb f)) hx) xj.1.v _ w (by rw [← hxcs]; exact hS.gg (X := jxA 33 xj.1)) (hsm _ xj.2) (old_refl w)) ?_); clear hS a; intro x84 a w hS
  obtain ⟨c9, a9, m9, p9, e9, hbv, hbc⟩ := bd_open x84 (hS.ok (bdY (fdsOf fl) ((kx : Int) + 1) xj.1.v x84) (by repeat constructor))
  rw [hbv] at hS
  refine Z_and hS (sub_cons (by repeat constructor) (sub_cons (by repeat constructor) sub_nil)) ?_
  refine Ry hS (.o 6 (tf 7 3) rfl wN (e_extract rfl rfl) rfl <| .o 7 (tf 8 2) rfl wN (e_extract rfl rfl) rfl .n) ?_; clear hS a; intro a hS
  refine Zo 8 (tf 9 1) hS rfl wN rfl (s_storeA (l := cellsC c9 (.slice a9 m9 p9)) hS rfl rfl ty_sz24 (by repeat constructor) rfl rfl rfl ?_); clear hS; intro w hS
  refine Z_last (by simp) ?_
  refine Zt0 9 (tf 10 0) hS rfl want_none (e_assign rfl) rfl (by kernel_rfl) rfl ?_; clear hS a; intro a hS
  refine Z_done (by kernel_rfl) ?_
  refine nT (wp_ret ?_)
  refine c_retN hS Tryz.results14 (.cons (.cellA rfl (by repeat constructor) ty_st24 ty_sz24 (by rfl)) (.cons (.tmp rfl) .nil)) rfl ?_
  rcases hbc with ⟨rfl, x, rfl, rfl, hxe⟩ | ⟨rfl, h, rfl, rfl, rfl, rfl⟩
  · exact ⟨.inl ⟨x.1, by rw [hbp]; exact x.2⟩, by show _ = Ending.returned (Value.tuple [.agg (cellsC (bindP fl ((kx : Int) + 1) l).2 x.1).toArray, .int .i64 0].toArray); rw [hbp, ← hxe], hS.chg, by show (ownA 160 4 x.1 (bindP fl ((kx : Int) + 1) l).2.fx.length ((bindP fl ((kx : Int) + 1) l).2.fx.flatMap encF)).ok w; rw [hbp]; exact hS.ok (bdY (fdsOf fl) ((kx : Int) + 1) xj.1.v (.inl x)) (by repeat constructor), by
      show ∀ b, (ownA 160 4 x.1 (bindP fl ((kx : Int) + 1) l).2.fx.length ((bindP fl ((kx : Int) + 1) l).2.fx.flatMap encF)).F b → w0.heap.size ≤ b
      rw [hbp]
      exact fun b hb => (hS.mine (bdY (fdsOf fl) ((kx : Int) + 1) xj.1.v (.inl x)) (by repeat constructor) rfl b hb).resolve_right id⟩
  · exact ⟨.inr ⟨(), by rw [hbp]; exact h⟩, by show _ = Ending.returned (Value.tuple [.agg (cellsC (zCd 0) (.slice none 0 0)).toArray, .int .i64 (bindP fl ((kx : Int) + 1) l).1].toArray); rw [hbp], hS.chg, none_ok _, fun b h => h.elim⟩
 refine Rn hS (.t rfl rfl <| .t rfl rfl <| .t rfl rfl <| .g rfl rfl (e_pk rfl rfl) <| .c (e_pk rfl rfl) <| .a rfl .n) ?_; clear hS a; intro a hS
 refine nL (nT ?_)
 refine c_if_f hS rfl ?_
 refine cS (cR ?_)
 refine Rn hS (.m rfl <| .m rfl .n) ?_; clear hS a; intro a hS
 replace hS := hS.is (t := 48) (c := false) rfl (rfl)
 refine Rn hS (.t rfl rfl <| .t rfl rfl <| .t rfl rfl <| .t rfl rfl <| .c (e_pk rfl rfl) <| .a rfl .n) ?_; clear hS a; intro a hS
 refine nL (nT ?_)
 refine c_if_f hS rfl ?_
 refine cS (cR ?_)
 (first | refine L_e hS (e_fa0 rfl ty_fo29_1) rfl ?_ | refine L_e hS (e_faK rfl ty_fo29_1) rfl ?_); clear hS a; intro a hS
 refine Rn hS (.c (e_load rfl (by repeat constructor) ty_sc9 (by rfl)) <| .c (e_binS rfl rfl rfl) <| .a rfl .n) ?_; clear hS a; intro a hS
 refine nL (nT ?_)
 replace hS := hS.is (t := 55) (c := false) rfl (decide_eq_false (fun e => h3 (tx_inj' e)))
 refine c_if_f hS rfl ?_
 refine cS (cR ?_)
 refine Rn hS (.m rfl <| .a rfl .n) ?_; clear hS a; intro a hS
 refine nL (nT ?_)
 replace hS := hS.is (t := 60) (c := false) rfl (rfl)
 refine c_if_f hS rfl ?_
 refine wS (n_block (nT (cS (cR ?_))))
 (first | refine L_e hS (e_fa0 rfl ty_fo29_2) rfl ?_ | refine L_e hS (e_faK rfl ty_fo29_2) rfl ?_); clear hS a; intro a hS
 refine L_e hS (e_load rfl (by repeat constructor) ty_sc27 (by rfl)) rfl ?_; clear hS a; intro a hS
 refine L_op (s_callN hS (.cons rfl .nil) cf11 rfl (jParse_N q cap l _ (hG.keep (hS.gg (X := oldA W0))).u8 (txa_keep ht (hS.gg (X := oldA W0)))) ?_); clear hS a; intro x66 a w hS
 obtain ⟨jk, js, a1, a2, a3, a4, a5, a6, pp, pe, hpv, hpc⟩ := pa_open x66 (hS.ok (paY l x66) (by repeat constructor))
 rw [hpv] at hS
 refine Rn hS (.m rfl <| .c (e_extract rfl rfl) <| .c (e_extract rfl rfl) <| .c (e_extract rfl rfl) .n) ?_; clear hS a; intro a hS
 refine L_op (s_alloc hS ty_z37 rfl ?_); clear hS a; intro a w b8 hS
 refine L_op (s_storeA hS rfl rfl ty_sz37 (by repeat constructor) (by rfl) (by rfl) (by rfl) ?_); clear hS; intro w hS
 refine Rn hS (.a rfl <| .a rfl .n) ?_; clear hS a; intro a hS
 refine nL (nT (cS (wB (cS (cR ?_)))))
 refine Rn hS (.m rfl <| .c (e_bin rfl rfl rfl) <| .a rfl .n) ?_; clear hS a; intro a hS
 refine nL (nT ?_)
 (first | refine c_ifD hS rfl ?_ ?_ | refine c_if hS rfl ?_ ?_) <;> intro hc70
 ·
  refine cS (cR ?_)
  refine L_e hS (e_build ty_z24 ty_pl24 .nil) rfl ?_; clear hS a; intro a hS
  refine L_op (s_storeA hS rfl rfl ty_sz24 (by repeat constructor) (by rfl) (by rfl) (by rfl) ?_); clear hS; intro w hS
  refine L_e hS (e_assign rfl) rfl ?_; clear hS a; intro a hS
  refine nL (nT (wp_ret ?_))
  refine r_block (r_then ?_)
  refine c_retN hS Tryz.results14 (.cons (.cellA rfl (by repeat constructor) ty_st24 ty_sz24 (by rfl)) (.cons (.tmp rfl) .nil)) rfl ?_
  have hn : parseF l = none := by
   rcases hpc with ⟨h, _⟩ | ⟨_, h⟩
   · exact absurd h hc70
   · exact h
  have he := bindP_none (fl := fl) (kd := (kx : Int) + 1) hn
  exact ⟨.inr ⟨(), by rw [he]; decide⟩, by show _ = Ending.returned (Value.tuple [.agg (cellsC (zCd 0) (.slice none 0 0)).toArray, .int .i64 (bindP fl ((kx : Int) + 1) l).1].toArray); rw [he]; rfl, hS.chg, none_ok _, fun b h => h.elim⟩
 have hpe : pe = 0 := Classical.not_not.1 hc70
 obtain ⟨xj, rfl, hxcs, rfl⟩ : ∃ x : { x : JX // parseF l = some x.v }, x66 = .inl x ∧ x.1.cs = [.int .i64 jk, .string js, .slice a1 a2 a3, .slice a4 a5 a6] ∧ jk = (x.1.v.k : Int) := by
  rcases hpc with ⟨_, h⟩ | ⟨h, _⟩
  · exact h
  · exact absurd hpe h
 rw [show paY l (.inl xj) = jxA 33 xj.1 from rfl] at hS
 refine cS (cR ?_)
 (first | refine L_e hS (e_fa0 rfl ty_fo37_0) rfl ?_ | refine L_e hS (e_faK rfl ty_fo37_0) rfl ?_); clear hS a; intro a hS
 refine Rn hS (.c (e_load rfl (by repeat constructor) ty_sc3 (by rfl)) <| .c (e_bin rfl rfl rfl) <| .a rfl .n) ?_; clear hS a; intro a hS
 refine nL (nT ?_)
 (first | refine c_ifD hS rfl ?_ ?_ | refine c_if hS rfl ?_ ?_) <;> intro hc74
 ·
  refine cS (cR ?_)
  refine L_e hS (e_build ty_z24 ty_pl24 .nil) rfl ?_; clear hS a; intro a hS
  refine L_op (s_storeA hS rfl rfl ty_sz24 (by repeat constructor) (by rfl) (by rfl) (by rfl) ?_); clear hS; intro w hS
  refine L_e hS (e_assign rfl) rfl ?_; clear hS a; intro a hS
  refine nL (nT (wp_ret ?_))
  refine r_block (r_then ?_)
  refine c_retN hS Tryz.results14 (.cons (.cellA rfl (by repeat constructor) ty_st24 ty_sz24 (by rfl)) (.cons (.tmp rfl) .nil)) rfl ?_
  have he := bindP_kind (fl := fl) (kd := (kx : Int) + 1) xj.2 (by omega)
  exact ⟨.inr ⟨(), by rw [he]; decide⟩, by show _ = Ending.returned (Value.tuple [.agg (cellsC (zCd 0) (.slice none 0 0)).toArray, .int .i64 (bindP fl ((kx : Int) + 1) l).1].toArray); rw [he]; rfl, hS.chg, none_ok _, fun b h => h.elim⟩
 have hk6 : xj.1.v.k = 6 := by omega
 have hbp := bindP_some (fl := fl) (kd := (kx : Int) + 1) xj.2 hk6
 refine wS (n_block (nT (cS ?_)))
 refine c_drawS [8] (by kernel_rfl) hS (sub_cons (X := rtsA lo N rb f) (by repeat constructor) (sub_cons (X := .blk b8 [.int .i64 (xj.1.v.k : Int), .string js, .slice a1 a2 a3, .slice a4 a5 a6] 37) (by repeat constructor) sub_nil)) ?_; clear hS; intro w hS
 simp only [List.length_cons, List.length_nil, Nat.zero_add, Nat.reduceAdd, List.replicate]
 refine Rz hS (sub_cons (by repeat constructor) (sub_cons (by repeat constructor) sub_nil)) (.o 0 (tf 1 9) rfl wN (e_move rfl) rfl <| .o 1 (tf 2 8) rfl wN (e_move rfl) rfl <| .o 2 (tf 3 7) rfl wN (e_ixN rfl rfl ty_sl78 ty_sz83 (by omega)) rfl <| .y 3 (tf 4 6) rfl wN (e_loadAC (l := [.string (tx t), .int .i64 ((kx : Int) + 1), .slice (some ⟨f kx, 0, none⟩) fl.length fl.length]) rfl ty_st83 ty_sz83 (fun w hh j u hj => rts_row (show RtsAt lo rb f w from hh (rtsA lo N rb f) (by repeat constructor)) hx j u hj)) rfl <| .y 4 (tf 5 5) rfl wN (e_loadA rfl (by repeat constructor) ty_st37 ty_sz37 (by rfl)) rfl .n) ?_; clear hS a; intro a hS
 refine Zo 5 (tf 6 4) hS rfl wN rfl (s_callN hS (.cons rfl (.cons rfl .nil)) cf45 rfl (fRouteBind_N w (hG.keep (hS.gg (X := oldA W0))) 31 (tx t) ((kx : Int) + 1) (f kx) 0 fl.length fl (rts_fds (show RtsAt lo rb f w from hS.gg (X := rtsA lo N rb f)) hx) xj.1.v _ w (by rw [← hxcs]; exact hS.gg (X := jxA 33 xj.1)) (hsm _ xj.2) (old_refl w)) ?_); clear hS a; intro x84 a w hS
 obtain ⟨c9, a9, m9, p9, e9, hbv, hbc⟩ := bd_open x84 (hS.ok (bdY (fdsOf fl) ((kx : Int) + 1) xj.1.v x84) (by repeat constructor))
 rw [hbv] at hS
 refine Z_and hS (sub_cons (by repeat constructor) (sub_cons (by repeat constructor) sub_nil)) ?_
 refine Ry hS (.o 6 (tf 7 3) rfl wN (e_extract rfl rfl) rfl <| .o 7 (tf 8 2) rfl wN (e_extract rfl rfl) rfl .n) ?_; clear hS a; intro a hS
 refine Zo 8 (tf 9 1) hS rfl wN rfl (s_storeA (l := cellsC c9 (.slice a9 m9 p9)) hS rfl rfl ty_sz24 (by repeat constructor) rfl rfl rfl ?_); clear hS; intro w hS
 refine Z_last (by simp) ?_
 refine Zt0 9 (tf 10 0) hS rfl want_none (e_assign rfl) rfl (by kernel_rfl) rfl ?_; clear hS a; intro a hS
 refine Z_done (by kernel_rfl) ?_
 refine nT (wp_ret ?_)
 refine c_retN hS Tryz.results14 (.cons (.cellA rfl (by repeat constructor) ty_st24 ty_sz24 (by rfl)) (.cons (.tmp rfl) .nil)) rfl ?_
 rcases hbc with ⟨rfl, x, rfl, rfl, hxe⟩ | ⟨rfl, h, rfl, rfl, rfl, rfl⟩
 · exact ⟨.inl ⟨x.1, by rw [hbp]; exact x.2⟩, by show _ = Ending.returned (Value.tuple [.agg (cellsC (bindP fl ((kx : Int) + 1) l).2 x.1).toArray, .int .i64 0].toArray); rw [hbp, ← hxe], hS.chg, by show (ownA 160 4 x.1 (bindP fl ((kx : Int) + 1) l).2.fx.length ((bindP fl ((kx : Int) + 1) l).2.fx.flatMap encF)).ok w; rw [hbp]; exact hS.ok (bdY (fdsOf fl) ((kx : Int) + 1) xj.1.v (.inl x)) (by repeat constructor), by
     show ∀ b, (ownA 160 4 x.1 (bindP fl ((kx : Int) + 1) l).2.fx.length ((bindP fl ((kx : Int) + 1) l).2.fx.flatMap encF)).F b → w0.heap.size ≤ b
     rw [hbp]
     exact fun b hb => (hS.mine (bdY (fdsOf fl) ((kx : Int) + 1) xj.1.v (.inl x)) (by repeat constructor) rfl b hb).resolve_right id⟩
 · exact ⟨.inr ⟨(), by rw [hbp]; exact h⟩, by show _ = Ending.returned (Value.tuple [.agg (cellsC (zCd 0) (.slice none 0 0)).toArray, .int .i64 (bindP fl ((kx : Int) + 1) l).1].toArray); rw [hbp], hS.chg, none_ok _, fun b h => h.elim⟩
def resE : List Value := [.int .i64 25, .int .i64 0, .int .i64 0, .bool false, .int .i64 0, .int .i64 0, .int .i64 0, .int .i64 0, .string ⟨#[]⟩, .string ⟨#[]⟩, .slice none 0 0, .int .i64 0, .int .i64 0, .int .i64 0, .int .i64 0, .int .i64 0, .int .i64 0, .string ⟨#[]⟩, .int .i64 0, .int .i64 0, .slice none 0 0, .slice none 0 0]
set_option maxRecDepth 100000 in
theorem fAnswer25_N (W0 : World) (hG : Gj W0) (w0 : World) (ho : oldφ W0 w0) :
 NewC Tryz.prog 23 [.agg (cellsC (zCd 6) (.slice none 0 0)).toArray, .agg resE.toArray] w0 (fun x : { x : (Nat × Nat) × JV × List UInt8 // PJ 2 (errJ 25 0) x.2.1 x.2.2 ∧ x.2.2.length ≤ x.1.2 } => .agg [.int .i64 409, .slice (some ⟨x.1.1.1, 0, none⟩) x.1.2.2.length x.1.1.2, .bool false].toArray) (fun x => bbA 5 x.1.1.1 (bsI x.1.2.2)) := by
 refine c_enter [(0, .agg (cellsC (zCd 6) (.slice none 0 0)).toArray), (1, .agg resE.toArray)] [oldA W0] noB Tryz.func23 rfl Tryz.ntmps23 ⟨rfl, rfl, trivial⟩ rfl (okC (old_ok ho) okN) dis1 (mineC rfl mineN) ?_
 intro a hS
 refine cS (cR ?_)
 refine L_op (s_boxA hS rfl rfl ?_); clear hS a; intro a w b2 hS
 refine L_op (s_boxA hS rfl rfl ?_); clear hS a; intro a w b3 hS
 refine L_op (s_alloc hS ty_z62 rfl ?_); clear hS a; intro a w b4 hS
 refine nL (nT (cS (cS (cR ?_))))
 (first | refine L_e hS (e_fa0 rfl ty_fo72_0) rfl ?_ | refine L_e hS (e_faK rfl ty_fo72_0) rfl ?_); clear hS a; intro a hS
 refine Rn hS (.c (e_load rfl (by repeat constructor) ty_sc30 (by rfl)) <| .c (e_bin rfl rfl rfl) .n) ?_; clear hS a; intro a hS
 refine nL (nT ?_)
 replace hS := hS.is (t := 8) (c := true) rfl (by decide)
 refine c_if_t hS rfl ?_
 refine cS (cR ?_)
 (first | refine L_e hS (e_fa0 rfl ty_fo72_0) rfl ?_ | refine L_e hS (e_faK rfl ty_fo72_0) rfl ?_); clear hS a; intro a hS
 refine L_e hS (e_load rfl (by repeat constructor) ty_sc30 (by rfl)) rfl ?_; clear hS a; intro a hS
 (first | refine L_e hS (e_fa0 rfl ty_fo72_2) rfl ?_ | refine L_e hS (e_faK rfl ty_fo72_2) rfl ?_); clear hS a; intro a hS
 refine L_e hS (e_load rfl (by repeat constructor) ty_sc3 (by rfl)) rfl ?_; clear hS a; intro a hS
 refine L_op (s_callN hS (.cons rfl (.cons rfl .nil)) cf64 rfl (fFailed25_N W0 hG _ (hS.gg (X := oldA W0))) ?_); clear hS a; intro x13 a w hS
 refine L_op (s_storeA hS rfl rfl ty_sz62 (by repeat constructor) (by rfl) (by rfl) (by rfl) ?_); clear hS; intro w hS
 refine nL (nT (wp_ret (r_then ?_)))
 refine c_ret1 hS Tryz.results23 (.cellA rfl (by repeat constructor) ty_st62 ty_sz62 (by rfl)) ?_
 exact ⟨x13, rfl, hS.chg, hS.ok (bbA 5 x13.1.1.1 (bsI x13.1.2.2)) (by repeat constructor), fun b hb => (hS.mine (bbA 5 x13.1.1.1 (bsI x13.1.2.2)) (by repeat constructor) rfl b hb).resolve_right id⟩
theorem path03 : ∀ j, j < 12 → pathIs (tx [47, 105, 110, 118, 111, 105, 99, 101, 115, 47, 48, 51]) j = false := by decide +kernel
set_option maxRecDepth 100000 in
theorem fBind03_P (W0 : World) (hG : Gj W0) (w0 : World) (hold : oldφ W0 w0) :
 PureC Tryz.prog 14 [.agg [.string ⟨#[71, 69, 84]⟩, .string (tx [47, 105, 110, 118, 111, 105, 99, 101, 115, 47, 48, 51]), .slice none 0 0, .bool false].toArray] w0 (.tuple [.agg (cellsC (zCd 0) (.slice none 0 0)).toArray, .int .i64 31].toArray) := by
 refine c_enter [(0, .agg [.string ⟨#[71, 69, 84]⟩, .string (tx [47, 105, 110, 118, 111, 105, 99, 101, 115, 47, 48, 51]), .slice none 0 0, .bool false].toArray)] [oldA W0] noB Tryz.func14 rfl Tryz.ntmps14 ⟨rfl, trivial⟩ rfl (okC (old_ok hold) okN) dis1 (mineC rfl mineN) ?_
 intro a hS
 refine cS (cR ?_)
 refine L_op (s_boxA hS rfl rfl ?_); clear hS a; intro a w b1 hS
 refine L_op (s_alloc hS ty_z24 rfl ?_); clear hS a; intro a w b2 hS
 refine L_e hS (e_assign rfl) rfl ?_; clear hS a; intro a hS
 refine nL (nT (cS (cR ?_)))
 obtain ⟨lo, hlo⟩ : ∃ lo, lo = w.heap.size := ⟨_, rfl⟩
 refine L_op (s_callN hS .nil cf26 rfl (fRoutes_L _ lo hlo) ?_); clear hS a; intro x11 a w hS
 obtain ⟨N, rb, f⟩ := x11
 refine L_e hS (e_assign rfl) rfl ?_; clear hS a; intro a hS
 refine nL (nT (cS (cR ?_)))
 refine Rn hS (.m rfl <| .c (e_makeFunc .nil (.cons rfl .nil)) .n) ?_; clear hS a; intro a hS
 have hcell := cell_of_blk (k := 1) (v := .string (tx [47, 105, 110, 118, 111, 105, 99, 101, 115, 47, 48, 51])) (hS.gg (X := .blk b1 [.string ⟨#[71, 69, 84]⟩, .string (tx [47, 105, 110, 118, 111, 105, 99, 101, 115, 47, 48, 51]), .slice none 0 0, .bool false] 29)) rfl
 have hrt : RtsAt lo rb f w := hS.gg (X := rtsA lo N rb f)
 refine L_op (s_callN hS (.cons rfl (.cons rfl .nil)) cf27 rfl (fIndexRt_N w lo rb f hrt 43 [.pointer (some ⟨b1, 0, none⟩)] (pathIs (tx [47, 105, 110, 118, 111, 105, 99, 101, 115, 47, 48, 51])) cf43 (fun j x w' hx ho => by rw [pathIs_some hx]; exact fBindF_P f j x b1 (tx [47, 105, 110, 118, 111, 105, 99, 101, 115, 47, 48, 51]) w hcell w' ho) _ (old_refl w)) ?_); clear hS a; intro x14 a w hS
 obtain ⟨ix, hix⟩ := x14
 simp only at hS
 obtain rfl : ix = -1 := by
  rcases hix with ⟨j, _, hj, hp, _⟩ | ⟨h, _⟩
  · rw [path03 j hj] at hp; cases hp
  · exact h
 refine L_e hS (e_assign rfl) rfl ?_; clear hS a; intro a hS
 refine nL (nT (cS (cR ?_)))
 (first | refine L_e hS (e_fa0 rfl ty_fo29_1) rfl ?_ | refine L_e hS (e_faK rfl ty_fo29_1) rfl ?_); clear hS a; intro a hS
 refine L_e hS (e_load rfl (by repeat constructor) ty_sc9 (by rfl)) rfl ?_; clear hS a; intro a hS
 refine L_op (s_callP hS (.cons rfl .nil) cf44 rfl (fAsked03_P W0 hG _ (hS.gg (X := oldA W0))) ?_); clear hS a; intro a w hS
 refine Rn hS (.m rfl <| .c (e_extract rfl rfl) <| .c (e_extract rfl rfl) .n) ?_; clear hS a; intro a hS
 refine L_op (s_alloc hS ty_z24 rfl ?_); clear hS a; intro a w b6 hS
 refine L_op (s_storeA hS rfl rfl ty_sz24 (by repeat constructor) (by rfl) (by rfl) (by rfl) ?_); clear hS; intro w hS
 refine L_e hS (e_assign rfl) rfl ?_; clear hS a; intro a hS
 refine nL (nT (cS (wB (cS (cR ?_)))))
 refine Rn hS (.m rfl <| .c (e_bin rfl rfl rfl) <| .m rfl .n) ?_; clear hS a; intro a hS
 replace hS := hS.is (t := 24) (c := true) rfl (by decide)
 refine Rn hS (.g rfl rfl (e_move rfl) <| .g rfl rfl (e_not rfl) <| .c (e_pk rfl rfl) <| .a rfl .n) ?_; clear hS a; intro a hS
 refine nL (nT ?_)
 replace hS := hS.is (t := 21) (c := true) rfl (rfl)
 refine c_if_t hS rfl ?_
 refine cS (cR ?_)
 refine L_e hS (e_build ty_z24 ty_pl24 .nil) rfl ?_; clear hS a; intro a hS
 refine L_op (s_storeA hS rfl rfl ty_sz24 (by repeat constructor) (by rfl) (by rfl) (by rfl) ?_); clear hS; intro w hS
 refine L_e hS (e_assign rfl) rfl ?_; clear hS a; intro a hS
 refine nL (nT (wp_ret ?_))
 refine r_block (r_then ?_)
 refine c_retN hS Tryz.results14 (.cons (.cellA rfl (by repeat constructor) ty_st24 ty_sz24 (by rfl)) (.cons (.tmp rfl) .nil)) rfl ?_
 exact ⟨rfl, hS.chg⟩
def bodyE : List UInt8 := [123, 34, 97, 116, 34, 58, 53, 44, 34, 110, 117, 109, 98, 101, 114, 34, 58, 49, 44, 34, 117, 110, 105, 116, 115, 34, 58, 55, 125]
def payFl : List Fg := [fgNumber, fgUnits, fgAt]
theorem pay_rt : rtG[5]? = some ([47, 112, 97, 121, 109, 101, 110, 116, 115], payFl) := rfl
def bodyV : JV := .mk 6 [] [[97, 116], [110, 117, 109, 98, 101, 114], [117, 110, 105, 116, 115]] [jNum [53], jNum [49], jNum [55]]
theorem body_parsed : parseF bodyE = some bodyV := by kernel_rfl
theorem bodyV_sm : smV 33 bodyV := by
 refine ⟨by decide, by decide, by decide, by decide, fun x hx => ?_⟩
 rcases List.mem_cons.1 hx with rfl | hx
 · exact ⟨by decide, by decide, by decide, by decide, fun x h => by cases h⟩
 rcases List.mem_cons.1 hx with rfl | hx
 · exact ⟨by decide, by decide, by decide, by decide, fun x h => by cases h⟩
 obtain rfl := List.mem_singleton.1 hx
 exact ⟨by decide, by decide, by decide, by decide, fun x h => by cases h⟩
theorem body_bound : (bindP payFl 6 bodyE).1 = 0 ∧ (bindP payFl 6 bodyE).2.kind = 6 ∧ (bindP payFl 6 bodyE).2.n 12 = 7 ∧ (bindP payFl 6 bodyE).2.n 8 = 5 ∧ (bindP payFl 6 bodyE).2.n 11 = 1 := by
 rw [bindP_some body_parsed rfl]
 decide +kernel
def respE : List UInt8 := [123, 34, 101, 114, 114, 111, 114, 34, 58, 50, 53, 44, 34, 112, 108, 97, 99, 101, 34, 58, 48, 125]
theorem num_text {n : Nat} {t : List UInt8} {r : JV} {s : List UInt8} (h : PJ (n + 1) (jNum t) r s) : s = t := by
 rcases (show _ ∨ _ ∨ _ ∨ _ from h) with ⟨_, _, h⟩ | ⟨h, _⟩ | ⟨h, _⟩ | ⟨h, _⟩
 · exact h
 · exact absurd h (by decide)
 · exact absurd h (by decide)
 · exact absurd h (by decide)
theorem err_text {r : JV} {s : List UInt8} (h : PJ 2 (errJ 25 0) r s) : s = respE := by
 rw [errJ_eq] at h
 rcases (show _ ∨ _ ∨ _ ∨ _ from h) with ⟨h, _⟩ | ⟨h, _⟩ | ⟨h, _⟩ | ⟨_, ms, hp, hs, hm, _, ht⟩
 · exact absurd h (by decide)
 · exact absurd h (by decide)
 · exact absurd h (by decide)
 have hl : ms.length = 2 := by have := hp.length_eq; simpa [errN] using this
 match ms, hl with
 | [m1, m2], _ =>
   have hp1 : [(m1.n, m1.v), (m2.n, m2.v)].Perm [([101, 114, 114, 111, 114], jNum [50, 53]), ([112, 108, 97, 99, 101], jNum [48])] := hp
   have hle : m1.n ≤ m2.n := (List.pairwise_cons.1 hs).1 _ (.head _)
   have hm1 := hm m1 (.head _)
   have hm2 := hm m2 (.tail _ (.head _))
   have h1 := hp1.subset (.head _)
   rcases List.mem_cons.1 h1 with h1 | h1
   · rw [h1] at hp1
     have h2 := List.singleton_perm_singleton.1 hp1.cons_inv
     injection h1 with e1 e2
     injection h2 with e3 e4
     rw [e2] at hm1
     rw [e4] at hm2
     rw [ht]
     show 123 :: (((quoteL m1.n ++ 58 :: m1.t) ++ 44 :: ((quoteL m2.n ++ 58 :: m2.t) ++ [])) ++ [125]) = respE
     rw [num_text hm1, num_text hm2, e1, e3]
     decide +kernel
   · exfalso
     have h1 := List.mem_singleton.1 h1
     rw [h1] at hp1
     have h2 := List.singleton_perm_singleton.1 (hp1.trans (.swap _ _ _)).cons_inv
     injection h1 with e1 e2
     injection h2 with e3 e4
     rw [e1, e3] at hle
     exact absurd hle (by decide)
set_option maxRecDepth 100000 in
theorem lNum_P (x : Int) (w0 : World) : PureC Tryz.prog 10 [.int .i64 x] w0 (.int .i64 x) := by
 refine c_enter [(0, .int .i64 x)] [] noB Tryz.func10 rfl Tryz.ntmps10 ⟨rfl, trivial⟩ rfl (by simp) (by simp) (by simp) ?_
 intro a hS
 refine cS (cR ?_)
 refine L_e hS (e_assign rfl) rfl ?_; clear hS a; intro a hS
 refine nL (nT (cS (cR ?_)))
 refine Rn hS (.m rfl <| .a rfl .n) ?_; clear hS a; intro a hS
 refine nL (nT (wp_ret ?_))
 refine c_ret1 hS Tryz.results10 (.tmp rfl) ?_
 exact ⟨rfl, hS.chg⟩
theorem rk_by {b E : Nat} {l : List UInt8} {w : World} (h : (rkA b ((bsI l).map (Value.int .u8)) E).φ w) (hne : bsI l ≠ []) : ByAt (.slice (some ⟨b, 0, none⟩) l.length l.length) (bsI l) w := by
 obtain ⟨f, hf⟩ := h
 refine .inr ⟨b, 0, l.length, hne, by rw [bsI_len], by rw [bsI_len]; exact Nat.le_refl _, fun j x hj => ?_, (Array.getElem?_eq_some_iff.1 hf).1⟩
 rw [Nat.zero_add]
 unfold World.cell?
 rw [hf]
 simp only [List.getElem?_toArray, List.getElem?_map, hj]
 rfl
set_option maxRecDepth 100000 in
theorem frFirst_P (W0 : World) (hG : Gj W0) (w0 : World) (hold : oldφ W0 w0) : PureC Tryz.prog 7 [] w0 (.bool true) := by
 refine c_enter [] [oldA W0] noB Tryz.func7 rfl Tryz.ntmps7 trivial rfl (okC (old_ok hold) okN) dis1 (mineC rfl mineN) ?_
 intro a hS
 refine cS (cR ?_)
 refine L_e hS (e_assign rfl) rfl ?_; clear hS a; intro a hS
 refine nL (nT (cS (cR ?_)))
 refine L_op (s_bslice hS ty_sl27 ty_sz5 ty_z5 rfl rfl rfl rfl (.one rfl rfl rfl (.one rfl rfl rfl (.one rfl rfl rfl (.one rfl rfl rfl (.one rfl rfl rfl (.one rfl rfl rfl (.one rfl rfl rfl (.one rfl rfl rfl (.one rfl rfl rfl (.one rfl rfl rfl (.one rfl rfl rfl (.one rfl rfl rfl (.one rfl rfl rfl (.one rfl rfl rfl (.one rfl rfl rfl (.one rfl rfl rfl (.one rfl rfl rfl (.one rfl rfl rfl (.one rfl rfl rfl (.one rfl rfl rfl (.one rfl rfl rfl (.one rfl rfl rfl (.one rfl rfl rfl (.one rfl rfl rfl (.one rfl rfl rfl (.one rfl rfl rfl (.one rfl rfl rfl (.one rfl rfl rfl (.one rfl rfl rfl .nil))))))))))))))))))))))))))))) rfl ?_); clear hS a; intro a w b7 hS
 refine L_op (s_convConst hS rfl ty_sl27 ty_u5 rfl (by repeat constructor) ?_); clear hS a; intro a w hS
 refine L_e hS (e_build ty_z29 ty_pl29 (.one rfl rfl rfl (by repeat constructor) (.one rfl rfl rfl (by repeat constructor) (.one rfl rfl rfl (by repeat constructor) .nil)))) rfl ?_; clear hS a; intro a hS
 have htx : TxA w (some ⟨b7, 0, none⟩) 29 bodyE := ⟨rk_by (l := bodyE) (hS.gg (X := rkA b7 ((bsI bodyE).map (Value.int .u8)) 5)) (by decide), by decide⟩
 refine L_op (s_callN hS (.cons rfl .nil) cf14 rfl (fBindPost_N w (hG.keep (hS.gg (X := oldA W0))) 5 _ payFl pay_rt (some ⟨b7, 0, none⟩) 29 bodyE htx (fun v hv => by rw [body_parsed] at hv; injection hv with hv; rw [← hv]; exact bodyV_sm) false _ (old_refl w)) ?_); clear hS a; intro x10 a w hS
 rcases x10 with x10 | x10
 rotate_left
 · exact absurd body_bound.1 x10.2
 obtain ⟨qq, cq, hxe⟩ := own_slice (show w.ownsRow 0 _ 4 x10.1 (bindP payFl 6 bodyE).2.fx.length _ from (hS.ok (bnY (bindP payFl (((5 : Nat) : Int) + 1) bodyE) (.inl x10)) (by repeat constructor)).now)
 obtain ⟨_, hb2, hb3, hb4, hb5⟩ := body_bound
 rw [show bnV (bindP payFl (((5 : Nat) : Int) + 1) bodyE) (.inl x10) = .tuple [.agg (cellsC (bindP payFl 6 bodyE).2 x10.1).toArray, .int .i64 0].toArray from rfl, hxe] at hS
 generalize (bindP payFl 6 bodyE).2 = cc at hS hb2 hb3 hb4 hb5
 refine Rn hS (.m rfl <| .c (e_extract rfl rfl) <| .c (e_extract rfl rfl) .n) ?_; clear hS a; intro a hS
 refine L_op (s_alloc hS ty_z24 rfl ?_); clear hS a; intro a w b1 hS
 refine L_op (s_storeA (l := cellsC cc (.slice qq _ cq)) hS rfl rfl ty_sz24 (by repeat constructor) rfl rfl rfl ?_); clear hS; intro w hS
 refine L_e hS (e_assign rfl) rfl ?_; clear hS a; intro a hS
 refine nL (nT (cS (cR ?_)))
 refine L_e hS (e_build ty_z29 ty_pl29 (.one rfl rfl rfl (by repeat constructor) (.one rfl rfl rfl (by repeat constructor) .nil))) rfl ?_; clear hS a; intro a hS
 refine L_op (s_callP hS (.cons rfl .nil) cf14 rfl (fBind03_P W0 hG _ (hS.gg (X := oldA W0))) ?_); clear hS a; intro a w hS
 refine Rn hS (.m rfl <| .c (e_extract rfl rfl) <| .c (e_extract rfl rfl) .n) ?_; clear hS a; intro a hS
 refine L_op (s_alloc hS ty_z24 rfl ?_); clear hS a; intro a w b3 hS
 refine L_op (s_storeA hS rfl rfl ty_sz24 (by repeat constructor) (by rfl) (by rfl) (by rfl) ?_); clear hS; intro w hS
 refine L_e hS (e_assign rfl) rfl ?_; clear hS a; intro a hS
 refine nL (nT (cS (cR ?_)))
 refine Rn hS (.c (e_build ty_z24 ty_pl24 (.one rfl rfl rfl (by repeat constructor) .nil)) <| .c (e_build ty_z72 ty_pl72 (.one rfl rfl rfl (by repeat constructor) .nil)) .n) ?_; clear hS a; intro a hS
 refine L_op (s_callN hS (.cons rfl (.cons rfl .nil)) cf23 rfl (fAnswer25_N W0 hG _ (hS.gg (X := oldA W0))) ?_); clear hS a; intro x20 a w hS
 obtain ⟨⟨⟨pb, pc⟩, pr, ps⟩, hpj, hpc⟩ := x20
 obtain rfl := err_text hpj
 simp only at hS hpc
 refine L_op (s_alloc hS ty_z62 rfl ?_); clear hS a; intro a w b5 hS
 refine L_op (s_storeA hS rfl rfl ty_sz62 (by repeat constructor) (by rfl) (by rfl) (by rfl) ?_); clear hS; intro w hS
 refine nL (nT (cS (cR ?_)))
 (first | refine L_e hS (e_fa0 rfl ty_fo24_0) rfl ?_ | refine L_e hS (e_faK rfl ty_fo24_0) rfl ?_); clear hS a; intro a hS
 refine Rn hS (.c (e_load rfl (by repeat constructor) ty_sc3 (by rfl)) <| .c (e_bin rfl rfl rfl) <| .m rfl .n) ?_; clear hS a; intro a hS
 replace hS := hS.is (t := 24) (c := true) rfl (decide_eq_true hb2)
 (first | refine L_ge hS rfl rfl (e_fa0 rfl ty_fo24_12) rfl ?_ | refine L_ge hS rfl rfl (e_faK rfl ty_fo24_12) rfl ?_); clear hS a; intro a hS
 refine Rn hS (.g rfl rfl (e_load rfl (by repeat constructor) ty_sc3 (by rfl)) <| .g rfl rfl (e_bin rfl rfl rfl) <| .c (e_pk rfl rfl) <| .m rfl .n) ?_; clear hS a; intro a hS
 replace hS := hS.is (t := 29) (c := true) rfl (decide_eq_true hb3)
 (first | refine L_ge hS rfl rfl (e_fa0 rfl ty_fo24_8) rfl ?_ | refine L_ge hS rfl rfl (e_faK rfl ty_fo24_8) rfl ?_); clear hS a; intro a hS
 refine Rn hS (.g rfl rfl (e_load rfl (by repeat constructor) ty_sc3 (by rfl)) <| .g rfl rfl (e_bin rfl rfl rfl) <| .c (e_pk rfl rfl) <| .m rfl .n) ?_; clear hS a; intro a hS
 replace hS := hS.is (t := 34) (c := true) rfl (decide_eq_true hb4)
 (first | refine L_ge hS rfl rfl (e_fa0 rfl ty_fo24_11) rfl ?_ | refine L_ge hS rfl rfl (e_faK rfl ty_fo24_11) rfl ?_); clear hS a; intro a hS
 refine Rn hS (.g rfl rfl (e_load rfl (by repeat constructor) ty_sc3 (by rfl)) <| .g rfl rfl (e_bin rfl rfl rfl) <| .c (e_pk rfl rfl) <| .m rfl .n) ?_; clear hS a; intro a hS
 replace hS := hS.is (t := 39) (c := true) rfl (decide_eq_true hb5)
 refine L_ge hS rfl rfl (e_move rfl) rfl ?_; clear hS a; intro a hS
 refine L_go hS rfl rfl (s_callP hS (.cons rfl .nil) cf10 rfl (lNum_P _ _) ?_); clear hS a; intro a w hS
 refine Rn hS (.g rfl rfl (e_bin rfl rfl rfl) <| .c (e_pk rfl rfl) <| .m rfl .n) ?_; clear hS a; intro a hS
 replace hS := hS.is (t := 44) (c := true) rfl (rfl)
 refine L_ge hS rfl rfl (e_move rfl) rfl ?_; clear hS a; intro a hS
 refine L_go hS rfl rfl (s_callP hS (.cons rfl .nil) cf10 rfl (lNum_P _ _) ?_); clear hS a; intro a w hS
 refine Rn hS (.g rfl rfl (e_bin rfl rfl rfl) <| .c (e_pk rfl rfl) <| .m rfl .n) ?_; clear hS a; intro a hS
 replace hS := hS.is (t := 49) (c := true) rfl (rfl)
 (first | refine L_ge hS rfl rfl (e_fa0 rfl ty_fo62_0) rfl ?_ | refine L_ge hS rfl rfl (e_faK rfl ty_fo62_0) rfl ?_); clear hS a; intro a hS
 refine Rn hS (.g rfl rfl (e_load rfl (by repeat constructor) ty_sc3 (by rfl)) <| .g rfl rfl (e_bin rfl rfl rfl) <| .c (e_pk rfl rfl) <| .m rfl .n) ?_; clear hS a; intro a hS
 replace hS := hS.is (t := 54) (c := true) rfl (rfl)
 (first | refine L_ge hS rfl rfl (e_fa0 rfl ty_fo62_1) rfl ?_ | refine L_ge hS rfl rfl (e_faK rfl ty_fo62_1) rfl ?_); clear hS a; intro a hS
 refine Rn hS (.g rfl rfl (e_load rfl (by repeat constructor) ty_sc27 (by rfl)) <| .g rfl rfl (e_str (l := bsI respE) rfl ty_sl27 ty_u5 ty_u9 (fun w hh => bb_by (hh (bbA 5 pb (bsI respE)) (by repeat constructor)) (by rw [bsI_len]; exact hpc))) .n) ?_; clear hS a; intro a hS
 rw [str_bs] at hS
 refine Rn hS (.g rfl rfl (e_binS rfl rfl rfl) <| .c (e_pk rfl rfl) <| .m rfl .n) ?_; clear hS a; intro a hS
 replace hS := hS.is (t := 60) (c := true) rfl (by decide +kernel)
 (first | refine L_ge hS rfl rfl (e_fa0 rfl ty_fo62_2) rfl ?_ | refine L_ge hS rfl rfl (e_faK rfl ty_fo62_2) rfl ?_); clear hS a; intro a hS
 refine Rn hS (.g rfl rfl (e_load rfl (by repeat constructor) ty_sc4 (by rfl)) <| .g rfl rfl (e_not rfl) <| .c (e_pk rfl rfl) <| .a rfl .n) ?_; clear hS a; intro a hS
 refine nL (nT (wp_ret ?_))
 refine c_ret1 hS Tryz.results7 (.tmp rfl) ?_
 exact ⟨rfl, hS.chg⟩
structure FctC (W0 : World) (fa : Option Addr) (fs : List Fct) : Prop where
 c : fs ≠ [] → ∃ nb no, fa = some ⟨nb, no, none⟩ ∧ ∀ (i : Nat) (x : Fct), fs[i]? = some x → ∀ (j : Nat) (u : Value), (encF x)[j]? = some u → W0.cell? ⟨nb, no + i * 4 + j, none⟩ = some u
def fctSm (x : Fct) : Prop := x.nm.length ≤ 300 ∧ x.s.length ≤ 300
def fewFx (fs : List Fct) : Prop := fs.length ≤ 110 ∧ ∀ x ∈ fs, fctSm x
set_option maxRecDepth 100000 in
theorem fFew11_N (W0 : World) (fa : Option Addr) (fc : Nat) (fs : List Fct) (hF : FctC W0 fa fs) (w0 : World) (ho : oldφ W0 w0) :
 NewC Tryz.prog 68 [.slice fa fs.length fc] w0 (fun b : { b : Bool // b = true ↔ fewFx fs } => .bool b.1) (fun _ => none_) := by
 refine c_enter [(0, .slice fa fs.length fc)] [oldA W0] noB Tryz.func68 rfl Tryz.ntmps68 ⟨rfl, trivial⟩ rfl (okC (old_ok ho) okN) dis1 (mineC rfl mineN) ?_
 intro a hS
 refine cS (cR ?_)
 refine L_e hS (e_assign rfl) rfl ?_; clear hS a; intro a hS
 refine nL (nT (cS (cS (cR ?_))))
 refine L_e hS (e_assign rfl) rfl ?_; clear hS a; intro a hS
 refine nL (nT (wB ?_))
 skip
 refine c_loop (γ := Nat) (fun k a w => St 33 noB w0 a w [(3, .int .i64 (k : Int)), (0, .slice fa fs.length fc)] [oldA W0] ∧ k ≤ fs.length ∧ k ≤ 111 ∧ ∀ (j : Nat) (x : Fct), j < k → fs[j]? = some x → fctSm x) (fun k => fs.length - k) 0 ⟨hS.slots (by repeat (first | exact trivial | refine ⟨rfl, ?_⟩)), Nat.zero_le _, Nat.zero_le _, fun j _ hj => by omega⟩ ?_
 clear hS a; intro k a w hI
 obtain ⟨hS, hk, hk2, hno⟩ := hI
 refine cS (cS (cR ?_))
 refine Rn hS (.m rfl <| .m rfl <| .c (e_len rfl rfl ty_sl22) <| .c (e_bin rfl rfl rfl) <| .m rfl .n) ?_; clear hS a; intro a hS
 refine L_merge 3 11 (.bool (decide (k < fs.length ∧ k ≤ 110))) hS ?_ ?_
 · intro hcM11
   (first | refine g_splitD (t := 8) hS rfl ?_ ?_ | refine g_split (t := 8) hS rfl ?_ ?_) <;> (clear hS; intro hg8 hS)
   ·
    refine Rn hS (.g rfl rfl (e_move rfl) <| .g rfl rfl (e_bin rfl rfl rfl) <| .c (e_pk rfl rfl) .n) ?_; clear hS a; intro a hS
    exact hcM11 _ _ (hS.ends 4 11 8 rfl (congrArg Value.bool (by exact decide_eq_decide.2 ⟨fun h => ⟨by omega, by omega⟩, fun h => by omega⟩)) rfl rfl (by first | exact congrArg Value.bool (decide_eq_true hg8).symm | exact congrArg Value.bool hg8.symm | simp [hg8]) rfl)
   refine Rn hS (.t rfl rfl <| .t rfl rfl <| .c (e_pk rfl rfl) .n) ?_; clear hS a; intro a hS
   exact hcM11 _ _ (hS.ends 4 11 8 rfl (congrArg Value.bool (by exact (decide_eq_false (fun h => hg8 (by omega))).symm)) rfl rfl (by first | exact congrArg Value.bool (decide_eq_false hg8).symm | exact congrArg Value.bool hg8.symm | simp [hg8]) rfl)
 · clear hS a; intro a w hS
   simp only [List.drop_succ_cons, List.drop_zero]
   refine nL (nT ?_)
   (first | refine c_ifD hS rfl ?_ ?_ | refine c_if hS rfl ?_ ?_) <;> intro hc11
   ·
    obtain ⟨x, hx⟩ : ∃ x, fs[k]? = some x := ⟨_, List.getElem?_eq_getElem hc11.1⟩
    obtain ⟨nb, no, rfl, hcell⟩ := hF.c (fun e => by rw [e] at hc11; exact absurd hc11.1 (Nat.not_lt_zero _))
    have hz1 := tx_size x.nm
    have hz2 := tx_size x.s
    refine wS (nT (cS (wB (cS (cR ?_)))))
    refine Rn hS (.m rfl <| .m rfl <| .c (e_ixN rfl rfl ty_sl22 ty_sz160 (by omega)) .n) ?_; clear hS a; intro a hS
    (first | refine L_e hS (e_fa0 rfl ty_fo160_0) rfl ?_ | refine L_e hS (e_faK rfl ty_fo160_0) rfl ?_); clear hS a; intro a hS
    refine Rn hS (.c (e_loadC (v := .string (tx x.nm)) rfl ty_sc9 (fun w hh => old_cell (hh (oldA W0) (by repeat constructor)) (hcell k x hx 0 _ rfl))) <| .c (e_lenS rfl rfl ty_u9) <| .c (e_bin rfl rfl rfl) <| .m rfl .n) ?_; clear hS a; intro a hS
    refine L_merge 8 29 (.bool (decide (300 < x.nm.length ∨ 300 < x.s.length))) hS ?_ ?_
    · intro hcM29
      (first | refine g_splitD (t := 21) hS rfl ?_ ?_ | refine g_split (t := 21) hS rfl ?_ ?_) <;> (clear hS; intro hg21 hS)
      ·
       refine Rn hS (.f rfl rfl <| .f rfl rfl <| .f rfl rfl <| .f rfl rfl <| .f rfl rfl <| .f rfl rfl <| .f rfl rfl <| .c (e_pk rfl rfl) .n) ?_; clear hS a; intro a hS
       exact hcM29 _ _ (hS.ends 9 29 21 rfl (congrArg Value.bool (by exact (decide_eq_true (.inl (by omega))).symm)) rfl rfl (by first | exact congrArg Value.bool (decide_eq_true hg21).symm | exact congrArg Value.bool hg21.symm | simp [hg21]) rfl)
      refine Rn hS (.g rfl rfl (e_move rfl) <| .g rfl rfl (e_move rfl) <| .g rfl rfl (e_ixN rfl rfl ty_sl22 ty_sz160 (by omega)) .n) ?_; clear hS a; intro a hS
      (first | refine L_ge hS rfl rfl (e_fa0 rfl ty_fo160_3) rfl ?_ | refine L_ge hS rfl rfl (e_faK rfl ty_fo160_3) rfl ?_); clear hS a; intro a hS
      refine Rn hS (.g rfl rfl (e_loadC (v := .string (tx x.s)) rfl ty_sc9 (fun w hh => old_cell (hh (oldA W0) (by repeat constructor)) (hcell k x hx 3 _ rfl))) <| .g rfl rfl (e_lenS rfl rfl ty_u9) <| .g rfl rfl (e_bin rfl rfl rfl) <| .c (e_pk rfl rfl) .n) ?_; clear hS a; intro a hS
      exact hcM29 _ _ (hS.ends 9 29 21 rfl (congrArg Value.bool (by exact decide_eq_decide.2 ⟨fun h => .inr (by omega), fun h => by have := h.resolve_left (fun h => hg21 (by omega)); omega⟩)) rfl rfl (by first | exact congrArg Value.bool (decide_eq_false hg21).symm | exact congrArg Value.bool hg21.symm | simp [hg21]) rfl)
    · clear hS a; intro a w hS
      simp only [List.drop_succ_cons, List.drop_zero]
      refine nL (nT ?_)
      (first | refine c_ifD hS rfl ?_ ?_ | refine c_if hS rfl ?_ ?_) <;> intro hc29
      ·
       refine cS (cR ?_)
       refine L_e hS (e_assign rfl) rfl ?_; clear hS a; intro a hS
       refine nL (nT (wp_ret ?_))
       refine r_block (r_then (r_then (r_block (r_then ?_))))
       refine c_ret1 hS Tryz.results68 (.tmp rfl) ?_
       have hbad : ¬ fewFx fs := fun h => by have := h.2 x (List.mem_of_getElem? hx); unfold fctSm at this; omega
       exact ⟨⟨false, iff_of_false Bool.false_ne_true hbad⟩, rfl, hS.chg, none_ok _, fun b hb => hb.elim⟩
      refine wS (n_block (nT (cR ?_)))
      refine L_e hS (e_move rfl) rfl ?_; clear hS a; intro a hS
      (first | refine L_e hS (e_binN rfl rfl rfl (by omega)) rfl ?_ | refine L_e hS (e_bin rfl rfl rfl) rfl ?_); clear hS a; intro a hS
      refine L_e hS (e_assign rfl) rfl ?_; clear hS a; intro a hS
      refine nL ?_
      refine ⟨k + 1, by omega, hS.slots (by repeat (first | exact trivial | refine ⟨rfl, ?_⟩)), hc11.1, by omega, fun j y hj hy => ?_⟩
      by_cases e : j = k
      · subst e; rw [hx] at hy; cases hy; exact ⟨by omega, by omega⟩
      · exact hno j y (by omega) hy
   refine wp_exit ?_
   refine x_then (x_then (x_hit ?_))
   refine nT (cS (cR ?_))
   refine Rn hS (.m rfl <| .c (e_len rfl rfl ty_sl22) <| .c (e_bin rfl rfl rfl) <| .a rfl .n) ?_; clear hS a; intro a hS
   refine nL (nT (wp_ret ?_))
   refine c_ret1 hS Tryz.results68 (.tmp rfl) ?_
   refine ⟨⟨decide ((fs.length : Int) ≤ 110), ?_⟩, rfl, hS.chg, none_ok _, fun b hb => hb.elim⟩
   rw [decide_eq_true_iff]
   refine ⟨fun h => ⟨by omega, fun x hx => ?_⟩, fun h => by have := h.1; omega⟩
   obtain ⟨j, hj⟩ := List.getElem?_of_mem hx
   exact hno j x (by have := (List.getElem?_eq_some_iff.1 hj).1; omega) hj
def mnI (i j : Int) : Int := if j < i then j else i
section
variable {P : Program} {n : NN} {a : Act} {L : List (Nat × Value)} {Γ : List Asn} {dst : Option Nat} {ty : Nat} {pos : String} {af : Array Edge} {g : Option (Nat × Bool)}
theorem e_min2 {x y : Operand} {i j : Int} {k k' : IntKind} {ts : Array TypeId} (hx : ev L x = some (.int k i)) (hy : ev L y = some (.int k' j)) : Ex P n a L Γ ⟨dst, .call ⟨.builtin .min, #[x, y], ts⟩, ty, pos, af, g⟩ (.int k (mnI i j)) := fun hs w hh => by
 have h : ∀ t, (Builtin.min_ ts t #[.int k i, .int k' j]).run P w = .ok (.int k (mnI i j)) w := fun t => by rw [run_min_int2]; rfl
 simp [execOp, resolve, invoke, builtin, hs.ev hx, hs.ev hy, h]
end
theorem mn_c (u : Nat) : 0 ≤ mnI (u : Int) 30000 ∧ mnI (u : Int) 30000 ≤ 30000 := by
 unfold mnI; split <;> omega
def mnT (x : List UInt8) : Int := mnI ((tx x).size : Int) 30000
def sumT (c : Cd) : Int := mnI (0 + mnT (c.t 1) + mnT (c.t 2) + mnT (c.t 3) + mnT (c.t 4) + mnT (c.t 5) + mnT (c.t 6)) 60000
def fewC (c : Cd) : Prop := fewFx c.fx ∧ sumT c ≤ 30000
set_option maxRecDepth 100000 in
theorem fFew21_N (W0 : World) (fa : Option Addr) (fc : Nat) (c : Cd) (hF : FctC W0 fa c.fx) (b : Nat) (hc : ∀ (j : Nat) (v : Value), (cellsC c (.slice fa c.fx.length fc))[j]? = some v → W0.cell? ⟨b, 0 + 0 * 15 + j, none⟩ = some v) (w0 : World) (ho : oldφ W0 w0) :
 NewC Tryz.prog 24 [.slice (some ⟨b, 0, none⟩) 1 1, .int .i64 1] w0 (fun b : { b : Bool // b = true ↔ fewC c } => .bool b.1) (fun _ => none_) := by
 refine c_enter [(0, .slice (some ⟨b, 0, none⟩) 1 1), (1, .int .i64 1)] [oldA W0] noB Tryz.func24 rfl Tryz.ntmps24 ⟨rfl, rfl, trivial⟩ rfl (okC (old_ok ho) okN) dis1 (mineC rfl mineN) ?_
 intro a hS
 refine cS (cR ?_)
 refine L_e hS (e_assign rfl) rfl ?_; clear hS a; intro a hS
 refine nL (nT (cS (cR ?_)))
 refine L_e hS (e_assign rfl) rfl ?_; clear hS a; intro a hS
 refine nL (nT (cS (cS (cR ?_))))
 refine L_e hS (e_assign rfl) rfl ?_; clear hS a; intro a hS
 refine nL (nT (wB ?_))
 skip
 refine c_loop (γ := Nat × Int) (fun G a w => St 67 noB w0 a w [(6, .int .i64 (G.1 : Int)), (5, .int .i64 G.2), (0, .slice (some ⟨b, 0, none⟩) 1 1), (1, .int .i64 1)] [oldA W0] ∧ G.1 ≤ 1 ∧ (G.1 = 0 → G.2 = 0) ∧ (G.1 = 1 → G.2 = sumT c ∧ fewFx c.fx)) (fun G => 1 - G.1) (0, 0) ⟨hS.slots (by repeat (first | exact trivial | refine ⟨rfl, ?_⟩)), Nat.zero_le _, fun _ => rfl, fun h => by cases h⟩ ?_
 clear hS a; intro G a w hI
 obtain ⟨k, nn⟩ := G
 obtain ⟨hS, hk, h0, h1⟩ := hI
 simp only at hS hk h0 h1
 refine cS (cS (cR ?_))
 refine Rn hS (.m rfl <| .m rfl <| .c (e_len rfl rfl ty_sl74) <| .c (e_bin rfl rfl rfl) <| .m rfl .n) ?_; clear hS a; intro a hS
 refine L_merge 4 16 (.bool (decide (k = 0))) hS ?_ ?_
 · intro hcM16
   (first | refine g_splitD (t := 12) hS rfl ?_ ?_ | refine g_split (t := 12) hS rfl ?_ ?_) <;> (clear hS; intro hg12 hS)
   ·
    refine Rn hS (.g rfl rfl (e_move rfl) <| .g rfl rfl (e_move rfl) <| .g rfl rfl (e_bin rfl rfl rfl) <| .c (e_pk rfl rfl) .n) ?_; clear hS a; intro a hS
    exact hcM16 _ _ (hS.ends 5 16 12 rfl (congrArg Value.bool (by exact decide_eq_decide.2 ⟨fun h => by omega, fun h => by omega⟩)) rfl rfl (by first | exact congrArg Value.bool (decide_eq_true hg12).symm | exact congrArg Value.bool hg12.symm | simp [hg12]) rfl)
   refine Rn hS (.t rfl rfl <| .t rfl rfl <| .t rfl rfl <| .c (e_pk rfl rfl) .n) ?_; clear hS a; intro a hS
   exact hcM16 _ _ (hS.ends 5 16 12 rfl (congrArg Value.bool (by exact (decide_eq_false (fun h => hg12 (by omega))).symm)) rfl rfl (by first | exact congrArg Value.bool (decide_eq_false hg12).symm | exact congrArg Value.bool hg12.symm | simp [hg12]) rfl)
 · clear hS a; intro a w hS
   simp only [List.drop_succ_cons, List.drop_zero]
   refine nL (nT ?_)
   (first | refine c_ifD hS rfl ?_ ?_ | refine c_if hS rfl ?_ ?_) <;> intro hc16
   ·
    obtain rfl : k = 0 := hc16
    obtain rfl := h0 rfl
    have z1 := mn_c (tx (c.t 1)).size
    have z2 := mn_c (tx (c.t 2)).size
    have z3 := mn_c (tx (c.t 3)).size
    have z4 := mn_c (tx (c.t 4)).size
    have z5 := mn_c (tx (c.t 5)).size
    have z6 := mn_c (tx (c.t 6)).size
    refine wS (nT (cS (wB (cS (cR ?_)))))
    refine Rn hS (.m rfl <| .m rfl <| .c (e_ixN rfl rfl ty_sl74 ty_sz24 (by omega)) <| .c (e_loadAC (l := cellsC c (.slice fa c.fx.length fc)) rfl ty_st24 ty_sz24 (fun w hh j u hj => old_cell (hh (oldA W0) (by repeat constructor)) (hc j u hj))) .n) ?_; clear hS a; intro a hS
    refine L_op (s_alloc hS ty_z24 rfl ?_); clear hS a; intro a w b7 hS
    refine L_op (s_storeA hS rfl rfl ty_sz24 (by repeat constructor) (by rfl) (by rfl) (by rfl) ?_); clear hS; intro w hS
    refine nL (nT (cS (cR ?_)))
    refine L_e hS (e_move rfl) rfl ?_; clear hS a; intro a hS
    (first | refine L_e hS (e_fa0 rfl ty_fo24_1) rfl ?_ | refine L_e hS (e_faK rfl ty_fo24_1) rfl ?_); clear hS a; intro a hS
    refine Rn hS (.c (e_load rfl (by repeat constructor) ty_sc9 (by rfl)) <| .c (e_lenS rfl rfl ty_u9) <| .c (e_min2 rfl rfl) .n) ?_; clear hS a; intro a hS
    (first | refine L_e hS (e_binN rfl rfl rfl (by omega)) rfl ?_ | refine L_e hS (e_bin rfl rfl rfl) rfl ?_); clear hS a; intro a hS
    (first | refine L_e hS (e_fa0 rfl ty_fo24_2) rfl ?_ | refine L_e hS (e_faK rfl ty_fo24_2) rfl ?_); clear hS a; intro a hS
    refine Rn hS (.c (e_load rfl (by repeat constructor) ty_sc9 (by rfl)) <| .c (e_lenS rfl rfl ty_u9) <| .c (e_min2 rfl rfl) .n) ?_; clear hS a; intro a hS
    (first | refine L_e hS (e_binN rfl rfl rfl (by omega)) rfl ?_ | refine L_e hS (e_bin rfl rfl rfl) rfl ?_); clear hS a; intro a hS
    (first | refine L_e hS (e_fa0 rfl ty_fo24_3) rfl ?_ | refine L_e hS (e_faK rfl ty_fo24_3) rfl ?_); clear hS a; intro a hS
    refine Rn hS (.c (e_load rfl (by repeat constructor) ty_sc9 (by rfl)) <| .c (e_lenS rfl rfl ty_u9) <| .c (e_min2 rfl rfl) .n) ?_; clear hS a; intro a hS
    (first | refine L_e hS (e_binN rfl rfl rfl (by omega)) rfl ?_ | refine L_e hS (e_bin rfl rfl rfl) rfl ?_); clear hS a; intro a hS
    (first | refine L_e hS (e_fa0 rfl ty_fo24_4) rfl ?_ | refine L_e hS (e_faK rfl ty_fo24_4) rfl ?_); clear hS a; intro a hS
    refine Rn hS (.c (e_load rfl (by repeat constructor) ty_sc9 (by rfl)) <| .c (e_lenS rfl rfl ty_u9) <| .c (e_min2 rfl rfl) .n) ?_; clear hS a; intro a hS
    (first | refine L_e hS (e_binN rfl rfl rfl (by omega)) rfl ?_ | refine L_e hS (e_bin rfl rfl rfl) rfl ?_); clear hS a; intro a hS
    (first | refine L_e hS (e_fa0 rfl ty_fo24_5) rfl ?_ | refine L_e hS (e_faK rfl ty_fo24_5) rfl ?_); clear hS a; intro a hS
    refine Rn hS (.c (e_load rfl (by repeat constructor) ty_sc9 (by rfl)) <| .c (e_lenS rfl rfl ty_u9) <| .c (e_min2 rfl rfl) .n) ?_; clear hS a; intro a hS
    (first | refine L_e hS (e_binN rfl rfl rfl (by omega)) rfl ?_ | refine L_e hS (e_bin rfl rfl rfl) rfl ?_); clear hS a; intro a hS
    (first | refine L_e hS (e_fa0 rfl ty_fo24_6) rfl ?_ | refine L_e hS (e_faK rfl ty_fo24_6) rfl ?_); clear hS a; intro a hS
    refine Rn hS (.c (e_load rfl (by repeat constructor) ty_sc9 (by rfl)) <| .c (e_lenS rfl rfl ty_u9) <| .c (e_min2 rfl rfl) .n) ?_; clear hS a; intro a hS
    (first | refine L_e hS (e_binN rfl rfl rfl (by omega)) rfl ?_ | refine L_e hS (e_bin rfl rfl rfl) rfl ?_); clear hS a; intro a hS
    refine L_e hS (e_min2 rfl rfl) rfl ?_; clear hS a; intro a hS
    rw [show mnI (0 + mnI ((tx (c.t 1)).size : Int) 30000 + mnI ((tx (c.t 2)).size : Int) 30000 + mnI ((tx (c.t 3)).size : Int) 30000 + mnI ((tx (c.t 4)).size : Int) 30000 + mnI ((tx (c.t 5)).size : Int) 30000 + mnI ((tx (c.t 6)).size : Int) 30000) 60000 = sumT c from rfl] at hS
    refine L_e hS (e_assign rfl) rfl ?_; clear hS a; intro a hS
    refine nL (nT (cS (cR ?_)))
    (first | refine L_e hS (e_fa0 rfl ty_fo24_14) rfl ?_ | refine L_e hS (e_faK rfl ty_fo24_14) rfl ?_); clear hS a; intro a hS
    refine L_e hS (e_load rfl (by repeat constructor) ty_sc22 (by rfl)) rfl ?_; clear hS a; intro a hS
    refine L_op (s_callN hS (.cons rfl .nil) cf68 rfl (fFew11_N W0 fa fc c.fx hF _ (hS.gg (X := oldA W0))) ?_); clear hS a; intro x57 a w hS
    refine L_e hS (e_not rfl) rfl ?_; clear hS a; intro a hS
    refine nL (nT ?_)
    (first | refine c_ifD hS rfl ?_ ?_ | refine c_if hS rfl ?_ ?_) <;> intro hc58
    ·
     refine cS (cR ?_)
     refine L_e hS (e_assign rfl) rfl ?_; clear hS a; intro a hS
     refine nL (nT (wp_ret ?_))
     refine r_block (r_then (r_then (r_block (r_then ?_))))
     refine c_ret1 hS Tryz.results24 (.tmp rfl) ?_
     have hb : x57.1 = false := by simpa using hc58
     exact ⟨⟨false, iff_of_false Bool.false_ne_true (fun h => by rw [x57.2.2 h.1] at hb; cases hb)⟩, rfl, hS.chg, none_ok _, fun b hb => hb.elim⟩
    refine wS (n_block (nT (cR ?_)))
    refine L_e hS (e_move rfl) rfl ?_; clear hS a; intro a hS
    (first | refine L_e hS (e_binN rfl rfl rfl (by omega)) rfl ?_ | refine L_e hS (e_bin rfl rfl rfl) rfl ?_); clear hS a; intro a hS
    refine L_e hS (e_assign rfl) rfl ?_; clear hS a; intro a hS
    refine nL ?_
    have hb : x57.1 = true := by simpa using hc58
    have e1 : ((1 : Nat) : Int) = ((0 : Nat) : Int) + 1 := rfl
    refine ⟨(1, sumT c), (by decide : (1 : Nat) - 1 < 1 - 0), (by show St _ _ _ _ _ [(6, .int .i64 ((1 : Nat) : Int)), (5, .int .i64 (sumT c)), (0, .slice (some ⟨b, 0, none⟩) 1 1), (1, .int .i64 1)] [oldA W0]; rw [e1]; exact (hS.slots (by repeat (first | exact trivial | refine ⟨rfl, ?_⟩))).pick (by repeat (first | exact Pick.nil | (refine Pick.cons (by repeat (first | exact Rem.head | apply Rem.tail)) ?_)))), Nat.le_refl _, (fun h => absurd (show (1 : Nat) = 0 from h) (by decide)), fun _ => ⟨rfl, x57.2.1 hb⟩⟩
   obtain rfl : k = 1 := by omega
   obtain ⟨rfl, hfx⟩ := h1 rfl
   refine wp_exit ?_
   refine x_then (x_then (x_hit ?_))
   refine nT (cS (cR ?_))
   refine Rn hS (.m rfl <| .c (e_len rfl rfl ty_sl74) <| .m rfl <| .c (e_bin rfl rfl rfl) <| .m rfl .n) ?_; clear hS a; intro a hS
   replace hS := hS.is (t := 63) (c := true) rfl (decide_eq_true (by decide))
   refine Rn hS (.g rfl rfl (e_move rfl) <| .g rfl rfl (e_bin rfl rfl rfl) <| .c (e_pk rfl rfl) <| .a rfl .n) ?_; clear hS a; intro a hS
   refine nL (nT (wp_ret ?_))
   refine c_ret1 hS Tryz.results24 (.tmp rfl) ?_
   refine ⟨⟨decide (sumT c ≤ 30000), ?_⟩, rfl, hS.chg, none_ok _, fun b hb => hb.elim⟩
   rw [decide_eq_true_iff]
   exact ⟨fun h => ⟨hfx, h⟩, fun h => h.2⟩
end Go.Proofs.YtlccmgeclhdegaaGreatDoor
namespace Go.Proofs.YtlccmgeclhdegaaGreatDoor
open Go.RowKit
theorem FctC.keep {W w : World} {fa : Option Addr} {fs : List Fct} (h : FctC W fa fs) (ho : oldφ W w) : FctC w fa fs := ⟨fun hne => by
  obtain ⟨nb, no, e, hc⟩ := h.c hne
  exact ⟨nb, no, e, fun i x hx j u hu => old_cell ho (hc i x hx j u hu)⟩⟩
def smallC (c : Cd) : Prop := fewC c ∧ (c.t 6).length ≤ 10000
set_option maxRecDepth 100000 in
theorem frFew_N (W0 : World) (fa : Option Addr) (fc : Nat) (c : Cd) (hF : FctC W0 fa c.fx) (w0 : World) (ho : oldφ W0 w0) :
 NewC Tryz.prog 8 [.agg (cellsC c (.slice fa c.fx.length fc)).toArray] w0 (fun b : { b : Bool // b = true ↔ smallC c } => .bool b.1) (fun _ => none_) := by
 have hz := tx_size (c.t 6)
 refine c_enter [(0, .agg (cellsC c (.slice fa c.fx.length fc)).toArray)] [oldA W0] noB Tryz.func8 rfl Tryz.ntmps8 ⟨rfl, trivial⟩ rfl (okC (old_ok ho) okN) dis1 (mineC rfl mineN) ?_
 intro a hS
 refine cS (cR ?_)
 refine L_op (s_boxA hS rfl rfl ?_); clear hS a; intro a w b1 hS
 refine L_e hS (e_assign rfl) rfl ?_; clear hS a; intro a hS
 refine nL (nT (cS (cR ?_)))
 refine L_e hS (e_loadA rfl (by repeat constructor) ty_st24 ty_sz24 (by rfl)) rfl ?_; clear hS a; intro a hS
 refine L_op (s_bslice hS ty_sl74 ty_sz24 ty_z24 rfl rfl rfl rfl (.agg rfl rfl .nil) rfl ?_); clear hS a; intro a w b4 hS
 have hb4 := hS.gg (X := .blk b4 (cellsC c (.slice fa c.fx.length fc) ++ []) 24)
 refine L_op (s_callN hS (.cons rfl (.cons rfl .nil)) cf24 rfl (fFew21_N w fa fc c (hF.keep (hS.gg (X := oldA W0))) b4 (fun j v hv => cell_of_blk hb4 (by rw [List.append_nil, show 0 + 0 * 15 + j = j by omega]; exact hv)) _ (old_refl w)) ?_); clear hS a; intro x5 a w hS
 refine L_e hS (e_move rfl) rfl ?_; clear hS a; intro a hS
 (first | refine g_splitD (t := 6) hS rfl ?_ ?_ | refine g_split (t := 6) hS rfl ?_ ?_) <;> (clear hS; intro hg6 hS)
 ·
  (first | refine L_ge hS rfl rfl (e_fa0 rfl ty_fo24_6) rfl ?_ | refine L_ge hS rfl rfl (e_faK rfl ty_fo24_6) rfl ?_); clear hS a; intro a hS
  refine Rn hS (.g rfl rfl (e_load rfl (by repeat constructor) ty_sc9 (by rfl)) <| .g rfl rfl (e_lenS rfl rfl ty_u9) <| .g rfl rfl (e_bin rfl rfl rfl) <| .c (e_pk rfl rfl) <| .a rfl .n) ?_; clear hS a; intro a hS
  refine nL (nT (wp_ret ?_))
  refine c_ret1 hS Tryz.results8 (.tmp rfl) ?_
  first
   | exact ⟨⟨decide (((tx (c.t 6)).size : Int) ≤ 10000), by rw [decide_eq_true_iff]; exact ⟨fun h => ⟨x5.2.1 hg6, by omega⟩, fun h => by have := h.2; omega⟩⟩, rfl, hS.chg, none_ok _, fun b hb => hb.elim⟩
   | exact ⟨⟨false, iff_of_false Bool.false_ne_true (fun h => by rw [x5.2.2 h.1] at hg6; cases hg6)⟩, rfl, hS.chg, none_ok _, fun b hb => hb.elim⟩
 refine Rn hS (.t rfl rfl <| .t rfl rfl <| .t rfl rfl <| .t rfl rfl <| .c (e_pk rfl rfl) <| .a rfl .n) ?_; clear hS a; intro a hS
 refine nL (nT (wp_ret ?_))
 refine c_ret1 hS Tryz.results8 (.tmp rfl) ?_
 first
  | exact ⟨⟨decide (((tx (c.t 6)).size : Int) ≤ 10000), by rw [decide_eq_true_iff]; exact ⟨fun h => ⟨x5.2.1 hg6, by omega⟩, fun h => by have := h.2; omega⟩⟩, rfl, hS.chg, none_ok _, fun b hb => hb.elim⟩
  | exact ⟨⟨false, iff_of_false Bool.false_ne_true (fun h => by rw [x5.2.2 h.1] at hg6; cases hg6)⟩, rfl, hS.chg, none_ok _, fun b hb => hb.elim⟩
def FxB (fs : List Fct) : Prop := ∀ x ∈ fs, -9223372036854775808 ≤ x.n ∧ x.n ≤ 9223372036854775807
theorem fact_good {x : Fct} {y : JV} {n : Nat} (hb : -9223372036854775808 ≤ x.n ∧ x.n ≤ 9223372036854775807) (h : factJ x = some y) : goodV (n + 1) y := by
 unfold factJ at h
 split at h
 · split at h
   · injection h with h; rw [← h]; exact num_good (itoa_lit hb.1 hb.2) n
   · cases h
 · split at h
   · split at h
     · injection h with h
       rw [← h]
       split <;> exact ⟨by omega, by omega, fun h => absurd h (by decide), fun h => absurd h (by decide)⟩
     · cases h
   · split at h
     · injection h with h; rw [← h]; exact ⟨by omega, by omega, fun h => absurd h (by decide), fun h => absurd h (by decide)⟩
     · cases h
theorem factsJ_all : ∀ (fs : List Fct) (ns : List (List UInt8)) (l : List JV) (v : JV), factsJ fs ns l = some v → ∃ ys : List JV, v = .mk 6 [] (ns ++ fs.map Fct.nm) (l ++ ys) ∧ ys.length = fs.length ∧ ∀ (i : Nat) (x : Fct) (y : JV), fs[i]? = some x → ys[i]? = some y → factJ x = some y
 | [], ns, l, v, h => by
   injection h with h
   exact ⟨[], by rw [← h]; simp, rfl, fun i x y hx => by cases hx⟩
 | x :: r, ns, l, v, h => by
   unfold factsJ at h
   cases hx : factJ x with
   | none => rw [hx] at h; cases h
   | some y =>
     rw [hx] at h
     have hgo : factsJ r (ns ++ [x.nm]) (l ++ [y]) = some v := by
      simp only at h
      split at h
      · split at h
        · exact h
        · cases h
      · split at h
        · exact h
        · cases h
     obtain ⟨ys, h1, h2, h3⟩ := factsJ_all r _ _ v hgo
     refine ⟨y :: ys, by rw [h1]; simp, by simp [h2], fun i z w hz hw => ?_⟩
     cases i with
     | zero =>
       obtain rfl : x = z := by simpa using hz
       obtain rfl : y = w := by simpa using hw
       exact hx
     | succ i => exact h3 i z w (by simpa using hz) (by simpa using hw)
theorem val_good {f : Fd} {c : Cd} {y : JV} (hf : f.ok) (hc : c.ok) (hx : FxB c.fx) (h : (valC f c).1 = some y) : goodV 2 y := by
 unfold valC at h
 rcases hf.kd with h1 | h1 | h1
 · rw [if_pos h1] at h
   simp only at h
   split at h
   · injection h with h; rw [← h]; exact ⟨by omega, by omega, fun h => absurd h (by decide), fun h => absurd h (by decide)⟩
   · cases h
 · rw [if_neg (by omega), if_pos h1] at h
   injection h with h
   obtain ⟨n0, n1⟩ := hc.n f.off (hf.n h1).1 (hf.n h1).2
   rw [← h]; exact num_good (itoa_lit n0 n1) 1
 · rw [if_neg (by omega), if_neg (by omega)] at h
   obtain ⟨ys, h2, h3, h4⟩ := factsJ_all c.fx [] [] y h
   rw [h2]
   refine ⟨by omega, by omega, fun h => absurd h (by decide), fun _ z hz => ?_⟩
   obtain ⟨i, hi⟩ := List.getElem?_of_mem (show z ∈ ys by simpa using hz)
   have hil := (List.getElem?_eq_some_iff.1 hi).1
   obtain ⟨x, hxi⟩ : ∃ x, c.fx[i]? = some x := ⟨_, List.getElem?_eq_getElem (by omega)⟩
   exact fact_good (hx x (List.mem_of_getElem? hxi)) (h4 i x z hxi hi)
theorem req_good {c : Cd} {k : Nat} {x : List UInt8 × List Fg} {v : JV} {c' : Cd} (hc : c.ok) (hfx : FxB c.fx) (hx : rtG[k]? = some x) (h : reqL (fdsOf x.2) c [] [] = some (v, c')) : goodV 3 v := by
 have hm := List.mem_of_getElem? hx
 obtain ⟨vals, h1, h2, _, h4⟩ := reqL_all (fdsOf x.2) c [] [] v c' (rt_fdok hm) (rt_apart _ hm) h
 rw [h2]
 refine ⟨by omega, by omega, fun h => absurd h (by decide), fun _ z hz => ?_⟩
 obtain ⟨i, hi⟩ := List.getElem?_of_mem (show z ∈ vals by simpa using hz)
 have hil := (List.getElem?_eq_some_iff.1 hi).1
 obtain ⟨f, hf⟩ : ∃ f, (fdsOf x.2)[i]? = some f := ⟨_, List.getElem?_eq_getElem (by omega)⟩
 exact val_good (rt_fdok hm f (List.mem_of_getElem? hf)) hc hfx (h4 i f z hf hi)
theorem qB_le6 (c : UInt8) : (qB c).length ≤ 6 := by
 have h : ∀ n : Fin 256, (qB (UInt8.ofNat n.val)).length ≤ 6 := by decide +kernel
 have := h ⟨c.toNat, c.toNat_lt⟩
 simpa using this
theorem quote_le6 (l : List UInt8) : (quoteL l).length ≤ 6 * l.length + 2 := by
 have h : (l.flatMap qB).length ≤ 6 * l.length := by
  induction l with
  | nil => simp
  | cons c l ih =>
    rw [List.flatMap_cons, List.length_append, List.length_cons]
    have := qB_le6 c
    omega
 unfold quoteL
 rw [List.cons_append, List.length_cons, List.length_append]
 simp only [List.length_cons, List.length_nil]
 omega
theorem fact_sm {x : Fct} {y : JV} {n : Nat} (hb : -9223372036854775808 ≤ x.n ∧ x.n ≤ 9223372036854775807) (hs : fctSm x) (h : factJ x = some y) : smV (n + 1) y ∧ lenJ (n + 1) y ≤ 1802 := by
 have hi := itoa_len hb.1 hb.2
 have hq := quote_le6 x.s
 have hs2 := hs.2
 unfold factJ at h
 split at h
 · split at h
   · injection h with h
     rw [← h]
     exact ⟨⟨by omega, Nat.zero_le _, (fun x h => by cases h), Nat.zero_le _, (fun x h => by cases h)⟩, by show (Lib.itoa x.n).length ≤ 1802; omega⟩
   · cases h
 · split at h
   · split at h
     · injection h with h
       rw [← h]
       exact ⟨⟨Nat.zero_le _, Nat.zero_le _, (fun x h => by cases h), Nat.zero_le _, (fun x h => by cases h)⟩, by
         split
         · exact (by decide : (wordsJ.getD 2 []).length ≤ 1802)
         · exact (by decide : (wordsJ.getD 1 []).length ≤ 1802)⟩
     · cases h
   · split at h
     · injection h with h
       rw [← h]
       exact ⟨⟨by show x.s.length ≤ 1100000; omega, Nat.zero_le _, (fun x h => by cases h), Nat.zero_le _, (fun x h => by cases h)⟩, Nat.le_trans hq (show 6 * x.s.length + 2 ≤ 1802 by omega)⟩
     · cases h
theorem sum_le {α : Type} (f : α → Nat) (b : Nat) (l : List α) (h : ∀ x ∈ l, f x ≤ b) : (l.map f).sum ≤ l.length * b := by
 induction l with
 | nil => simp
 | cons x l ih =>
   rw [List.map_cons, List.sum_cons, List.length_cons, Nat.succ_mul]
   have := h x (.head _)
   have := ih (fun y hy => h y (.tail _ hy))
   omega
theorem facts_sm {fs : List Fct} {v : JV} (hb : FxB fs) (hs : fewFx fs) (h : factsJ fs [] [] = some v) : smV 2 v ∧ lenJ 2 v ≤ 410000 := by
 obtain ⟨ys, h1, h2, h3⟩ := factsJ_all fs [] [] v h
 have hl := hs.1
 have hall : ∀ p ∈ (fs.map Fct.nm).zip ys, p.1.length ≤ 300 ∧ smV 1 p.2 ∧ lenJ 1 p.2 ≤ 1802 := by
  intro p hp
  obtain ⟨i, hi⟩ := List.getElem?_of_mem hp
  rw [List.getElem?_zip_eq_some] at hi
  obtain ⟨hi1, hi2⟩ := hi
  rw [List.getElem?_map] at hi1
  obtain ⟨x, hx1, hx2⟩ := Option.map_eq_some_iff.1 hi1
  have hxm := List.mem_of_getElem? hx1
  have := fact_sm (n := 0) (hb x hxm) (hs.2 x hxm) (h3 i x p.2 hx1 hi2)
  exact ⟨by rw [← hx2]; exact (hs.2 x hxm).1, this.1, this.2⟩
 have hz : ((fs.map Fct.nm).zip ys).length ≤ 110 := by rw [List.length_zip, List.length_map]; omega
 rw [h1]
 simp only [List.nil_append]
 rw [objP_zip (by rw [List.length_map]; exact h2.symm)]
 refine ⟨sm_ps.2 ⟨by omega, fun p hp => ⟨by have := (hall p hp).1; omega, (hall p hp).2.1⟩⟩, ?_⟩
 have e : lenJ 2 (objP ((fs.map Fct.nm).zip ys)) ≤ _ := (lenJ_le 1 ((fs.map Fct.nm).zip ys)).1
 have e2 : lenP 1 ((fs.map Fct.nm).zip ys) ≤ ((fs.map Fct.nm).zip ys).length * (1802 + 2 + 1802) := by
  unfold lenP
  refine sum_le _ (1802 + 2 + 1802) _ fun p hp => ?_
  have h1 := hall p hp
  have h2 : (quoteL p.1).length ≤ 1802 := Nat.le_trans (quote_le6 p.1) (show 6 * p.1.length + 2 ≤ 1802 by omega)
  exact Nat.add_le_add (Nat.add_le_add h2 (Nat.le_refl 2)) h1.2.2
 omega
theorem sum_le2 {α β : Type} (f : α → Nat) (g : β → Nat) : ∀ (l : List α) (r : List β), l.length = r.length → (∀ (i : Nat) (x : α) (y : β), l[i]? = some x → r[i]? = some y → f x ≤ g y) → (l.map f).sum ≤ (r.map g).sum
 | [], [], _, _ => Nat.le_refl _
 | [], _ :: _, h, _ => by cases h
 | _ :: _, [], h, _ => by cases h
 | x :: l, y :: r, h, hh => by
   rw [List.map_cons, List.map_cons, List.sum_cons, List.sum_cons]
   exact Nat.add_le_add (hh 0 x y rfl rfl) (sum_le2 f g l r (by simpa using h) (fun i a b ha hb => hh (i + 1) a b (by simpa using ha) (by simpa using hb)))
def wgt (c : Cd) (f : Fd) : Nat := if f.kd = 0 then 6 * (c.t f.off).length + 2 else 410000
theorem val_sm {f : Fd} {c : Cd} {y : JV} (hf : f.ok) (hc : c.ok) (hx : FxB c.fx) (hs : fewFx c.fx) (h : (valC f c).1 = some y) : smV 2 y ∧ lenJ 2 y ≤ wgt c f := by
 unfold valC at h
 unfold wgt
 rcases hf.kd with h1 | h1 | h1
 · rw [if_pos h1] at h ⊢
   simp only at h
   have ho := hf.t h1
   split at h
   · injection h with h; rw [← h]
     exact ⟨⟨hc.t f.off ho.1 ho.2, Nat.zero_le _, (fun x h => by cases h), Nat.zero_le _, (fun x h => by cases h)⟩, quote_le6 (c.t f.off)⟩
   · cases h
 · rw [if_neg (by omega), if_pos h1] at h
   rw [if_neg (by omega)]
   injection h with h
   obtain ⟨n0, n1⟩ := hc.n f.off (hf.n h1).1 (hf.n h1).2
   have hi := itoa_len n0 n1
   rw [← h]
   exact ⟨⟨Nat.le_trans hi (by decide), Nat.zero_le _, (fun x h => by cases h), Nat.zero_le _, (fun x h => by cases h)⟩, Nat.le_trans hi (by decide)⟩
 · rw [if_neg (by omega), if_neg (by omega)] at h
   rw [if_neg (by omega)]
   exact facts_sm hx hs h
theorem rt_nms : ∀ x ∈ rtG, (fdsOf x.2).length ≤ 5 ∧ ∀ f ∈ fdsOf x.2, f.nm.length ≤ 6 := by
 intro x hx
 have h : ∀ y ∈ rtG.map (fun x => (fdsOf x.2).map Fd.nm), y.length ≤ 5 ∧ ∀ z ∈ y, z.length ≤ 6 := by decide +kernel
 obtain ⟨h1, h2⟩ := h _ (List.mem_map.2 ⟨x, hx, rfl⟩)
 exact ⟨by simpa using h1, fun f hf => h2 _ (List.mem_map.2 ⟨f, hf, rfl⟩)⟩
def totT (c : Cd) : Nat := (c.t 1).length + (c.t 2).length + (c.t 3).length + (c.t 4).length + (c.t 5).length + (c.t 6).length
def wgtB (b : Nat) (c : Cd) (f : Fd) : Nat := if f.kd = 0 then 6 * (c.t f.off).length + 2 else b
theorem rt_wgtB (b : Nat) (c : Cd) {k : Nat} {x : List UInt8 × List Fg} (hx : rtG[k]? = some x) : ((fdsOf x.2).map (wgtB b c)).sum ≤ 6 * totT c + 5 * b + 10 := by
 have hk : k < 12 := (List.getElem?_eq_some_iff.1 hx).1
 unfold totT
 rcases k with _ | _ | _ | _ | _ | _ | _ | _ | _ | _ | _ | _ | k
 case succ.succ.succ.succ.succ.succ.succ.succ.succ.succ.succ.succ => omega
 all_goals
  obtain rfl : _ = x := by injection hx
  simp [fdsOf, wgtB, fgSet, fgName, fgCur, fgKey, fgMeter, fgSource, fgText, fgAt, fgFrom, fgTo, fgQty, fgNumber, fgUnits, fgNano, fgFacts, fdSet, fdName, fdCur, fdKey, fdMeter, fdSource, fdText, fdAt, fdFrom, fdTo, fdQty, fdNumber, fdUnits, fdNano, fdFacts]
  try omega
theorem rt_wgt (c : Cd) {k : Nat} {x : List UInt8 × List Fg} (hx : rtG[k]? = some x) : ((fdsOf x.2).map (wgt c)).sum ≤ 6 * totT c + 2050010 := rt_wgtB 410000 c hx
theorem req_sm {c : Cd} {k : Nat} {x : List UInt8 × List Fg} {v : JV} {c' : Cd} (hc : c.ok) (hfx : FxB c.fx) (hs : fewFx c.fx) (ht : totT c ≤ 1048576) (hx : rtG[k]? = some x) (h : reqL (fdsOf x.2) c [] [] = some (v, c')) : smV 3 v ∧ lenJ 3 v ≤ 9000000 := by
 have hm := List.mem_of_getElem? hx
 obtain ⟨hl5, hnm⟩ := rt_nms _ hm
 obtain ⟨vals, h1, h2, _, h4⟩ := reqL_all (fdsOf x.2) c [] [] v c' (rt_fdok hm) (rt_apart _ hm) h
 simp only [List.nil_append] at h2
 have hlen : ((fdsOf x.2).map Fd.nm).length = vals.length := by rw [List.length_map]; exact h1.symm
 obtain ⟨ps, hps⟩ : ∃ ps, ((fdsOf x.2).map Fd.nm).zip vals = ps := ⟨_, rfl⟩
 rw [h2, objP_zip hlen, hps]
 have hpl : ps.length = (fdsOf x.2).length := by rw [← hps, List.length_zip, List.length_map]; omega
 have hat : ∀ (i : Nat) (p : List UInt8 × JV) (f : Fd), ps[i]? = some p → (fdsOf x.2)[i]? = some f → p.1 = f.nm ∧ (valC f c).1 = some p.2 := by
  intro i p f hp hf
  rw [← hps, List.getElem?_zip_eq_some] at hp
  obtain ⟨hp1, hp2⟩ := hp
  rw [List.getElem?_map, hf] at hp1
  injection hp1 with hp1
  exact ⟨hp1.symm, h4 i f p.2 hf hp2⟩
 constructor
 · refine sm_ps.2 ⟨by omega, fun p hp => ?_⟩
   obtain ⟨i, hi⟩ := List.getElem?_of_mem hp
   have hil := (List.getElem?_eq_some_iff.1 hi).1
   obtain ⟨f, hf⟩ : ∃ f, (fdsOf x.2)[i]? = some f := ⟨_, List.getElem?_eq_getElem (by omega)⟩
   obtain ⟨e1, e2⟩ := hat i p f hi hf
   have hfm := List.mem_of_getElem? hf
   refine ⟨by rw [e1]; have := hnm f hfm; omega, (val_sm (rt_fdok hm f hfm) hc hfx hs e2).1⟩
 · have e : lenJ 3 (objP ps) ≤ lenP 2 ps + 2 := (lenJ_le 2 ps).1
   have e2 : lenP 2 ps ≤ ((fdsOf x.2).map fun f => 40 + wgt c f).sum := by
    unfold lenP
    refine sum_le2 _ _ _ _ hpl fun i p f hp hf => ?_
    obtain ⟨e1, e2⟩ := hat i p f hp hf
    have hfm := List.mem_of_getElem? hf
    have h6 := hnm f hfm
    have hq : (quoteL p.1).length ≤ 38 := Nat.le_trans (quote_le6 p.1) (by rw [e1]; omega)
    exact Nat.add_le_add (Nat.add_le_add hq (Nat.le_refl 2)) (val_sm (rt_fdok hm f hfm) hc hfx hs e2).2
   have e3 : ∀ l : List Fd, (l.map fun f => 40 + wgt c f).sum = l.length * 40 + (l.map (wgt c)).sum := by
    intro l
    induction l with
    | nil => rfl
    | cons f l ih => rw [List.map_cons, List.sum_cons, ih, List.map_cons, List.sum_cons, List.length_cons]; omega
   have e4 := e3 (fdsOf x.2)
   have e5 := rt_wgt c hx
   omega
set_option maxHeartbeats 4000000 in
set_option maxRecDepth 100000 in
theorem fRequest_N (W0 : World) (hG : Gj W0) (c : Cd) (hc : c.ok) (fa : Option Addr) (fc : Nat) (hF : FctAt W0 fa c.fx) (w0 : World) (hold : oldφ W0 w0)
 (hb : ∀ (k : Nat) (x : List UInt8 × List Fg) (v : JV) (c' : Cd), rtG[k]? = some x → reqL (fdsOf x.2) c [] [] = some (v, c') → goodV 3 v ∧ smV 3 v ∧ lenJ 3 v ≤ 9000000) :
 NewC Tryz.prog 9 [.agg (cellsC c (.slice fa c.fx.length fc)).toArray] w0 (rqV c) (rqY c) := by
 have hfl0 := hF.n
 refine c_enter [(0, .agg (cellsC c (.slice fa c.fx.length fc)).toArray)] [oldA W0] noB Tryz.func9 rfl Tryz.ntmps9 ⟨rfl, trivial⟩ rfl (okC (old_ok hold) okN) dis1 (mineC rfl mineN) ?_
 intro a hS
 refine cS (cR ?_)
 refine L_op (s_boxA hS rfl rfl ?_); clear hS a; intro a w b1 hS
 refine L_op (s_alloc hS ty_z29 rfl ?_); clear hS a; intro a w b2 hS
 refine L_e hS (e_assign rfl) rfl ?_; clear hS a; intro a hS
 refine nL (nT (cS (cS (cR ?_))))
 have hcb : W0.heap.size ≤ b1 := Nat.le_trans hold.1 ((hS.mine (.blk b1 (cellsC c (.slice fa c.fx.length fc)) 24) (by repeat constructor) rfl b1 rfl).resolve_right id)
 (first | refine L_e hS (e_fa0 rfl ty_fo24_0) rfl ?_ | refine L_e hS (e_faK rfl ty_fo24_0) rfl ?_); clear hS a; intro a hS
 refine Rn hS (.c (e_load rfl (by repeat constructor) ty_sc3 (by rfl)) <| .c (e_bin rfl rfl rfl) <| .m rfl .n) ?_; clear hS a; intro a hS
 refine L_merge 4 22 (.bool (decide (c.kind = 13 ∨ c.kind = 14))) hS ?_ ?_
 · intro hcM22
   (first | refine g_splitD (t := 18) hS rfl ?_ ?_ | refine g_split (t := 18) hS rfl ?_ ?_) <;> (clear hS; intro hg18 hS)
   ·
    refine Rn hS (.f rfl rfl <| .f rfl rfl <| .f rfl rfl <| .c (e_pk rfl rfl) .n) ?_; clear hS a; intro a hS
    exact hcM22 _ _ (hS.ends 5 22 18 rfl (congrArg Value.bool (by exact (decide_eq_true (.inl hg18)).symm)) rfl rfl (by first | exact congrArg Value.bool (decide_eq_true hg18).symm | exact congrArg Value.bool hg18.symm | simp [hg18]) rfl)
   (first | refine L_ge hS rfl rfl (e_fa0 rfl ty_fo24_0) rfl ?_ | refine L_ge hS rfl rfl (e_faK rfl ty_fo24_0) rfl ?_); clear hS a; intro a hS
   refine Rn hS (.g rfl rfl (e_load rfl (by repeat constructor) ty_sc3 (by rfl)) <| .g rfl rfl (e_bin rfl rfl rfl) <| .c (e_pk rfl rfl) .n) ?_; clear hS a; intro a hS
   exact hcM22 _ _ (hS.ends 5 22 18 rfl (congrArg Value.bool (by exact decide_eq_decide.2 ⟨.inr, fun h => h.resolve_left hg18⟩)) rfl rfl (by first | exact congrArg Value.bool (decide_eq_false hg18).symm | exact congrArg Value.bool hg18.symm | simp [hg18]) rfl)
 · clear hS a; intro a w hS
   simp only [List.drop_succ_cons, List.drop_zero]
   refine nL (nT ?_)
   (first | refine c_ifD hS rfl ?_ ?_ | refine c_if hS rfl ?_ ?_) <;> intro hc22
   ·
    refine cS (cR ?_)
    refine L_op (s_callM hS (.cons rfl .nil) cf25 rfl (fPath_M W0 hG c hc fa fc (by omega) b1 hcb _ (hS.gg (X := oldA W0)) (hS.ok (.blk b1 (cellsC c (.slice fa c.fx.length fc)) 24) (by repeat constructor))) (fun x => (by repeat constructor)) rfl ?_); clear hS a; intro x24 a w hS
    refine Rn hS (.m rfl <| .c (e_extract rfl rfl) <| .c (e_extract rfl rfl) <| .a rfl <| .a rfl .n) ?_; clear hS a; intro a hS
    refine nL (nT (cS (cS (cR ?_))))
    refine Rn hS (.m rfl <| .c (e_not rfl) .n) ?_; clear hS a; intro a hS
    refine nL (nT ?_)
    (first | refine c_ifD hS rfl ?_ ?_ | refine c_if hS rfl ?_ ?_) <;> intro hc28
    ·
     refine cS (cR ?_)
     refine L_e hS (e_build ty_z29 ty_pl29 .nil) rfl ?_; clear hS a; intro a hS
     refine L_op (s_storeA hS rfl rfl ty_sz29 (by repeat constructor) (by rfl) (by rfl) (by rfl) ?_); clear hS; intro w hS
     refine L_e hS (e_assign rfl) rfl ?_; clear hS a; intro a hS
     refine nL (nT (wp_ret ?_))
     refine r_then (r_then ?_)
     refine c_retN hS Tryz.results9 (.cons (.cellA rfl (by repeat constructor) ty_st29 ty_sz29 (by rfl)) (.cons (.tmp rfl) .nil)) rfl ?_
     exact ⟨.inr (.inr ⟨10, by decide⟩), rfl, hS.chg, none_ok _, fun b h => h.elim⟩
    refine wS (nT (cS (cR ?_)))
    refine Rn hS (.m rfl <| .c (e_build ty_z29 ty_pl29 (.one rfl rfl rfl (by repeat constructor) (.one rfl rfl rfl (by repeat constructor) .nil))) .n) ?_; clear hS a; intro a hS
    refine L_op (s_storeA hS rfl rfl ty_sz29 (by repeat constructor) (by rfl) (by rfl) (by rfl) ?_); clear hS; intro w hS
    refine L_e hS (e_assign rfl) rfl ?_; clear hS a; intro a hS
    refine nL (nT (wp_ret (r_then ?_)))
    refine c_retN hS Tryz.results9 (.cons (.cellA rfl (by repeat constructor) ty_st29 ty_sz29 (by rfl)) (.cons (.tmp rfl) .nil)) rfl ?_
    exact ⟨.inr (.inl ⟨(pathF c).1, hc22⟩), rfl, hS.chg, none_ok _, fun b h => h.elim⟩
   refine wS (nT (cS (cR ?_)))
   obtain ⟨lo, hlo⟩ : ∃ lo, lo = w.heap.size := ⟨_, rfl⟩
   refine L_op (s_callN hS .nil cf26 rfl (fRoutes_L _ lo hlo) ?_); clear hS a; intro x32 a w hS
   obtain ⟨N, rb, f⟩ := x32
   refine L_e hS (e_assign rfl) rfl ?_; clear hS a; intro a hS
   refine nL (nT (cS (cR ?_)))
   refine Rn hS (.m rfl <| .c (e_makeFunc .nil (.cons rfl .nil)) .n) ?_; clear hS a; intro a hS
   have hcell := cell_of_blk (k := 0) (v := .int .i64 c.kind) (hS.gg (X := .blk b1 (cellsC c (.slice fa c.fx.length fc)) 24)) rfl
   have hrt : RtsAt lo rb f w := hS.gg (X := rtsA lo N rb f)
   refine L_op (s_callN hS (.cons rfl (.cons rfl .nil)) cf27 rfl (fIndexRt_N w lo rb f hrt 28 [.pointer (some ⟨b1, 0, none⟩)] (fun k => decide ((k : Int) + 1 = c.kind)) cf28 (fun k x w' _ ho => fRequestF_P f k x b1 c.kind w hcell w' ho) _ (old_refl w)) ?_); clear hS a; intro x35 a w hS
   obtain ⟨ix, hix⟩ := x35
   refine L_e hS (e_assign rfl) rfl ?_; clear hS a; intro a hS
   refine nL (nT (cS (cS (cR ?_))))
   refine Rn hS (.m rfl <| .c (e_bin rfl rfl rfl) .n) ?_; clear hS a; intro a hS
   refine nL (nT ?_)
   (first | refine c_ifD hS rfl ?_ ?_ | refine c_if hS rfl ?_ ?_) <;> intro hc37
   ·
    refine cS (cR ?_)
    refine L_e hS (e_build ty_z29 ty_pl29 .nil) rfl ?_; clear hS a; intro a hS
    refine L_op (s_storeA hS rfl rfl ty_sz29 (by repeat constructor) (by rfl) (by rfl) (by rfl) ?_); clear hS; intro w hS
    refine L_e hS (e_assign rfl) rfl ?_; clear hS a; intro a hS
    refine nL (nT (wp_ret (r_then ?_)))
    refine c_retN hS Tryz.results9 (.cons (.cellA rfl (by repeat constructor) ty_st29 ty_sz29 (by rfl)) (.cons (.tmp rfl) .nil)) rfl ?_
    exact ⟨.inr (.inr ⟨7, by decide⟩), rfl, hS.chg, none_ok _, fun b h => h.elim⟩
   obtain ⟨kx, rfl, hkx, hkd⟩ : ∃ kx : Nat, ix = kx ∧ kx < 12 ∧ (kx : Int) + 1 = c.kind := by
    rcases hix with ⟨kx, h1, h2, h3, _⟩ | ⟨h1, _⟩
    · exact ⟨kx, h1, h2, of_decide_eq_true h3⟩
    · exact absurd (show ix < 0 by omega) hc37
   obtain ⟨⟨path, fl⟩, hx⟩ := rt_kth hkx
   have hgx := rtG_ok _ (List.mem_of_getElem? hx)
   have hfn := hgx.n
   simp only at hfn
   refine wS (nT (cS (cR ?_)))
   refine L_e hS (e_build ty_z37 ty_pl37 (.one rfl rfl rfl (by repeat constructor) .nil)) rfl ?_; clear hS a; intro a hS
   refine L_op (s_alloc hS ty_z37 rfl ?_); clear hS a; intro a w b8 hS
   refine L_op (s_storeA hS rfl rfl ty_sz37 (by repeat constructor) (by rfl) (by rfl) (by rfl) ?_); clear hS; intro w hS
   refine nL (nT (cS (cS (cR ?_))))
   refine Rn hS (.m rfl <| .m rfl <| .c (e_ixN rfl rfl ty_sl78 ty_sz83 (by omega)) .n) ?_; clear hS a; intro a hS
   (first | refine L_e hS (e_fa0 rfl ty_fo83_2) rfl ?_ | refine L_e hS (e_faK rfl ty_fo83_2) rfl ?_); clear hS a; intro a hS
   refine Rn hS (.c (e_loadC rfl ty_sc81 (fun w hh => rts_row (show RtsAt lo rb f w from hh (rtsA lo N rb f) (by repeat constructor)) hx 2 (.slice (some ⟨f kx, 0, none⟩) fl.length fl.length) rfl)) <| .c (e_len rfl rfl ty_sl81) <| .m rfl .n) ?_; clear hS a; intro a hS
   refine nL (nT (wB ?_))
   skip
   refine c_loop (γ := List JX × Value × Value × Cd × Option Addr × Nat) (fun G a w => St 105 noB w0 a w [(46, .int .i64 (G.1.length : Int)), (45, .int .i64 (fl.length : Int)), (44, .slice (some ⟨f kx, 0, none⟩) fl.length fl.length), (6, .slice (some ⟨rb, 0, none⟩) 12 12), (7, .int .i64 (kx : Int)), (1, .pointer (some ⟨b1, 0, none⟩)), (2, .pointer (some ⟨b2, 0, none⟩)), (8, .pointer (some ⟨b8, 0, none⟩)), (3, .int .i64 0)] [ownA 37 4 G.2.1 G.1.length (G.1.flatMap JX.cs), ownA 9 1 G.2.2.1 G.1.length ((nmsF fl G.1.length).flatMap encS), kidsA 2 G.1, .blk b8 [.int .i64 6, .string ⟨#[]⟩, G.2.1, G.2.2.1] 37, .blk b2 [.string ⟨#[]⟩, .string ⟨#[]⟩, .slice none 0 0, .bool false] 29, .blk b1 (cellsC G.2.2.2.1 (.slice G.2.2.2.2.1 G.2.2.2.1.fx.length G.2.2.2.2.2)) 24, rtsA lo N rb f, oldA W0] ∧ G.1.length ≤ fl.length ∧ reqL (fdsOf (fl.drop G.1.length)) G.2.2.2.1 (nmsF fl G.1.length) (G.1.map JX.v) = reqL (fdsOf fl) c [] [] ∧ G.2.2.2.1.ok ∧ FctAt W0 G.2.2.2.2.1 G.2.2.2.1.fx) (fun G => fl.length - G.1.length) ([], .slice none 0 0, .slice none 0 0, c, fa, fc) ⟨((((hS.own_nil 9 1).own_nil 37 4).more (Y := kidsA 2 []) (kids_ok (fun x hx => by cases hx)) (fun b ⟨x, hx, _⟩ => by cases hx)).slots (by repeat (first | exact trivial | refine ⟨rfl, ?_⟩))).pick (by repeat (first | exact Pick.nil | (refine Pick.cons (by repeat (first | exact Rem.head | apply Rem.tail)) ?_))), Nat.zero_le _, rfl, hc, hF⟩ ?_
   clear hS a; intro G a w hI
   obtain ⟨kids, lv, nv, c2, fa2, fc2⟩ := G
   obtain ⟨hS, hk, hgo, hc2, hF2⟩ := hI
   simp only at hS hk hgo hc2 hF2
   obtain ⟨ql, cl, rfl⟩ := own_slice (hS.gg (X := ownA 37 4 lv kids.length (kids.flatMap JX.cs)))
   obtain ⟨qn, cn, rfl⟩ := own_slice (hS.gg (X := ownA 9 1 nv kids.length ((nmsF fl kids.length).flatMap encS)))
   refine cS (cR ?_)
   refine L_e hS (e_bin rfl rfl rfl) rfl ?_; clear hS a; intro a hS
   refine nL (nT (cS ?_))
   (first | refine c_ifD hS rfl ?_ ?_ | refine c_if hS rfl ?_ ?_) <;> intro hc47
   ·
    have hkn : kids.length < fl.length := by omega
    obtain ⟨y, hy⟩ : ∃ y, fl[kids.length]? = some y := ⟨_, List.getElem?_eq_getElem hkn⟩
    have hym := List.mem_of_getElem? hy
    have hyo := hgx.ok y hym
    obtain ⟨u1, u2, hfg, o1, o2⟩ := fg_three y
    refine wS (nT (cS (wB (cS (cR ?_)))))
    refine Rn hS (.c (e_ixN rfl rfl ty_sl81 ty_sz88 (by omega)) <| .c (e_loadAC (l := [.string (tx y.f.nm), u1, u2]) rfl ty_st88 ty_sz88 (fun w hh j u hj => (rts_fds (show RtsAt lo rb f w from hh (rtsA lo N rb f) (by repeat constructor)) hx).c kids.length y hy j u (by rw [hfg]; exact hj))) .n) ?_; clear hS a; intro a hS
    refine L_op (s_alloc hS ty_z88 rfl ?_); clear hS a; intro a w b10 hS
    refine L_op (s_storeB hS rfl rfl ty_sz88 (cs' := [.string (tx y.f.nm), u1, u2]) (by repeat constructor) rfl (.cons .z (.cons (.s .z) (.cons (.s (.s .z)) .nil))) (by have h1 : isOne (Value.string (tx y.f.nm)) = true := rfl; simp [o1, o2, h1]) ?_); clear hS; intro w hS
    refine nL (nT (cS (cR ?_)))
    refine L_e hS (e_loadA rfl (by repeat constructor) ty_st88 ty_sz88 (by rfl)) rfl ?_; clear hS a; intro a hS
    refine L_op (s_callM hS (.cons rfl (.cons rfl .nil)) cf29 rfl ((by have := fValue_M W0 hG y hyo c2 hc2 fa2 fc2 hF2 b1 hcb _ (hS.gg (X := oldA W0)) (hS.ok (.blk b1 (cellsC c2 (.slice fa2 c2.fx.length fc2)) 24) (by repeat constructor)); rw [hfg] at this; exact this)) (fun x => (by repeat constructor)) rfl ?_); clear hS a; intro x52 a w hS
    obtain ⟨jk, js, a1, a2, a3, a4, a5, a6, bv, hvt, hcase⟩ := vl_open x52 (hS.ok (vlY y.f c2 b1 (.slice fa2 c2.fx.length fc2) x52) (by repeat constructor))
    rw [hvt] at hS
    refine Rn hS (.m rfl <| .c (e_extract rfl rfl) <| .c (e_extract rfl rfl) .n) ?_; clear hS a; intro a hS
    refine L_op (s_alloc hS ty_z37 rfl ?_); clear hS a; intro a w b11 hS
    refine L_op (s_storeA hS rfl rfl ty_sz37 (by repeat constructor) (by rfl) (by rfl) (by rfl) ?_); clear hS; intro w hS
    refine L_e hS (e_assign rfl) rfl ?_; clear hS a; intro a hS
    refine nL (nT (cS (cS (cR ?_))))
    refine Rn hS (.m rfl <| .c (e_not rfl) .n) ?_; clear hS a; intro a hS
    refine nL (nT ?_)
    (first | refine c_ifD hS rfl ?_ ?_ | refine c_if hS rfl ?_ ?_) <;> intro hc56
    ·
     refine cS (cR ?_)
     refine L_e hS (e_build ty_z29 ty_pl29 .nil) rfl ?_; clear hS a; intro a hS
     refine L_op (s_storeA hS rfl rfl ty_sz29 (by repeat constructor) (by rfl) (by rfl) (by rfl) ?_); clear hS; intro w hS
     refine L_e hS (e_assign rfl) rfl ?_; clear hS a; intro a hS
     refine nL (nT (wp_ret ?_))
     refine r_then (r_block (r_then (r_then (r_block (r_then ?_)))))
     refine c_retN hS Tryz.results9 (.cons (.cellA rfl (by repeat constructor) ty_st29 ty_sz29 (by rfl)) (.cons (.tmp rfl) .nil)) rfl ?_
     exact ⟨.inr (.inr ⟨10, by decide⟩), rfl, hS.chg, none_ok _, fun b h => h.elim⟩
    have hbv : bv = true := by simpa using hc56
    obtain ⟨xj, rfl, hxcs⟩ : ∃ x : { x : JX // (valC y.f c2).1 = some x.v }, x52 = .inl x ∧ x.1.cs = [.int .i64 jk, .string js, .slice a1 a2 a3, .slice a4 a5 a6] := by
     rcases hcase with ⟨_, h⟩ | ⟨h, _⟩
     · exact h
     · rw [h] at hbv; cases hbv
    rw [reqL_some _ _ hy xj.2] at hgo
    have e52 : vlY y.f c2 b1 (.slice fa2 c2.fx.length fc2) (.inl xj) = duo (.blk b1 (cellsC (valC y.f c2).2 (if y.f.kd = 2 then .slice none 0 0 else .slice fa2 c2.fx.length fc2)) 24) (jxA 2 xj.1) := rfl
    rw [e52, valC_fv hyo.fd] at hS
    have hc3 := valC_ok (f := y.f) hc2
    have hF3 := valC_fct hyo.fd hF2
    obtain ⟨c3, hc3e⟩ : ∃ c3, (valC y.f c2).2 = c3 := ⟨_, rfl⟩
    rw [hc3e] at hS hgo hc3 hF3
    replace hS := (hS.pick (Γ' := [duo (.blk b1 (cellsC c3 (.slice (fvA y.f fa2) c3.fx.length (fvC y.f fc2))) 24) (jxA 2 xj.1), .blk b11 [.int .i64 jk, .string js, .slice a1 a2 a3, .slice a4 a5 a6] 37, .blk b10 [.string (tx y.f.nm), u1, u2] 88, ownA 37 4 (.slice ql kids.length cl) kids.length (kids.flatMap JX.cs), ownA 9 1 (.slice qn kids.length cn) kids.length ((nmsF fl kids.length).flatMap encS), kidsA 2 kids, .blk b8 [.int .i64 6, .string ⟨#[]⟩, .slice ql kids.length cl, .slice qn kids.length cn] 37, .blk b2 [.string ⟨#[]⟩, .string ⟨#[]⟩, .slice none 0 0, .bool false] 29, rtsA lo N rb f, oldA W0]) (by repeat (first | exact Pick.nil | (refine Pick.cons (by repeat (first | exact Rem.head | apply Rem.tail)) ?_)))).unduo
    refine wS (nT ?_)
    refine c_drawS [12, 14] (by kernel_rfl) hS (sub_cons (X := .blk b8 [.int .i64 6, .string ⟨#[]⟩, .slice ql kids.length cl, .slice qn kids.length cn] 37) (by repeat constructor) (sub_cons (X := .blk b10 [.string (tx y.f.nm), u1, u2] 88) (by repeat constructor) (sub_cons (X := .blk b11 [.int .i64 jk, .string js, .slice a1 a2 a3, .slice a4 a5 a6] 37) (by repeat constructor) sub_nil))) ?_; clear hS; intro w hS
    simp only [List.length_cons, List.length_nil, Nat.zero_add, Nat.reduceAdd, List.replicate]
    (first | refine Zt0 0 (tf 1 14) hS rfl want_none (e_fa0 rfl ty_fo37_3) rfl (by kernel_rfl) rfl ?_ | refine Zt0 0 (tf 1 14) hS rfl want_none (e_faK rfl ty_fo37_3) rfl (by kernel_rfl) rfl ?_); clear hS a; intro a hS
    refine Zt 1 (tf 2 13) hS rfl want_none (e_load rfl (by repeat constructor) ty_sc35 (by rfl)) rfl (by kernel_rfl) (sub_cons (by repeat constructor) (sub_cons (by repeat constructor) (sub_cons (by repeat constructor) sub_nil))) rfl ?_; clear hS a; intro a hS
    (first | refine Zt0 2 (tf 3 12) hS rfl want_none (e_fa0 rfl ty_fo88_0) rfl (by kernel_rfl) rfl ?_ | refine Zt0 2 (tf 3 12) hS rfl want_none (e_faK rfl ty_fo88_0) rfl (by kernel_rfl) rfl ?_); clear hS a; intro a hS
    refine Zt 3 (tf 4 11) hS rfl want_none (e_load rfl (by repeat constructor) ty_sc9 (by rfl)) rfl (by kernel_rfl) (sub_cons (by repeat constructor) (sub_cons (by repeat constructor) (sub_cons (by repeat constructor) sub_nil))) rfl ?_; clear hS a; intro a hS
    (first | refine Zt0 6 [true, true, true, true, false, false, true, false, false, false, false, false, false, false, false] hS rfl want_none (e_fa0 rfl ty_fo37_2) rfl (by kernel_rfl) rfl ?_ | refine Zt0 6 [true, true, true, true, false, false, true, false, false, false, false, false, false, false, false] hS rfl want_none (e_faK rfl ty_fo37_2) rfl (by kernel_rfl) rfl ?_); clear hS a; intro a hS
    refine Rz hS (sub_cons (by repeat constructor) (sub_cons (by repeat constructor) (sub_cons (by repeat constructor) sub_nil))) (.y 7 [true, true, true, true, false, false, true, true, false, false, false, false, false, false, false] rfl wN (e_load rfl (by repeat constructor) ty_sc34 (by rfl)) rfl <| .y 8 [true, true, true, true, false, false, true, true, true, false, false, false, false, false, false] rfl wN (e_loadA rfl (by repeat constructor) ty_st37 ty_sz37 (by rfl)) rfl .n) ?_; clear hS a; intro a hS
    refine Z_many (j := 4) (js := [9]) (by kernel_rfl) ⟨?_, ?_, trivial⟩
    ·
     refine Z_op (i := 4) rfl (want_none a hS.sl) (listed' := [true, true, true, true, true, false, true, true, true, false, false, false, false, false, false]) rfl (s_bslice hS ty_sl35 ty_sz9 ty_z9 rfl rfl rfl rfl (.one rfl rfl rfl .nil) rfl ?_); clear hS a; intro a w b62 hS
     refine Z_and hS (sub_cons (by repeat constructor) (sub_cons (by repeat constructor) (sub_cons (by repeat constructor) sub_nil))) ?_
     refine Z_many (j := 5) (js := [9]) (by kernel_rfl) ⟨?_, ?_, trivial⟩
     ·
      refine Z_op (i := 5) rfl (want_none a hS.sl) (listed' := (tf 9 6)) rfl (s_append1 hS rfl rfl ty_sl35 ty_sz9 ty_by9 ty_z9 rfl rfl rfl (by repeat constructor) (by repeat constructor) (by rfl) (by rfl) (fun _ => (by repeat constructor)) (by omega) ?_); clear hS a; intro v63 a w hv63 hS
      obtain ⟨q63, c63, rfl⟩ := own_slice (hS.gg (X := ownA 9 1 v63 (kids.length + 1) ((nmsF fl kids.length).flatMap encS ++ [.string (tx y.f.nm)])))
      refine Z_and hS (sub_cons (by repeat constructor) (sub_cons (by repeat constructor) (sub_cons (by repeat constructor) sub_nil))) ?_
      (first | refine Zt0 11 [true, true, true, true, true, true, true, true, true, false, false, true, false, false, false] hS rfl want_none (e_fa0 rfl ty_fo37_3) rfl (by kernel_rfl) rfl ?_ | refine Zt0 11 [true, true, true, true, true, true, true, true, true, false, false, true, false, false, false] hS rfl want_none (e_faK rfl ty_fo37_3) rfl (by kernel_rfl) rfl ?_); clear hS a; intro a hS
      refine Zo 9 [true, true, true, true, true, true, true, true, true, true, false, true, false, false, false] hS rfl wN rfl (s_bslice hS ty_sl34 ty_sz37 ty_z37 rfl rfl rfl rfl (.agg rfl rfl .nil) rfl ?_); clear hS a; intro a w b67 hS
      refine Z_and hS (sub_cons (by repeat constructor) (sub_cons (by repeat constructor) (sub_cons (by repeat constructor) sub_nil))) ?_
      refine Zo 10 (tf 12 3) hS rfl wN rfl (s_append1 hS rfl rfl ty_sl34 ty_sz37 ty_by37 ty_z37 rfl rfl rfl (by repeat constructor) (by repeat constructor) (by rfl) (by rfl) (fun _ => (by repeat constructor)) (by omega) ?_); clear hS a; intro v68 a w hv68 hS
      obtain ⟨q68, c68, rfl⟩ := own_slice (hS.gg (X := ownA 37 4 v68 (kids.length + 1) _))
      refine Z_and hS (sub_cons (by repeat constructor) (sub_cons (by repeat constructor) (sub_cons (by repeat constructor) sub_nil))) ?_
      refine Zo 12 (tf 13 2) hS rfl wN rfl (s_store hS rfl rfl rfl ty_sz35 (by repeat constructor) (by repeat constructor) ?_); clear hS; intro w hS
      refine Z_last (by simp) ?_
      (first | refine Zt0 13 (tf 14 1) hS rfl want_none (e_fa0 rfl ty_fo37_2) rfl (by kernel_rfl) rfl ?_ | refine Zt0 13 (tf 14 1) hS rfl want_none (e_faK rfl ty_fo37_2) rfl (by kernel_rfl) rfl ?_); clear hS a; intro a hS
      refine Zo 14 (tf 15 0) hS rfl wN rfl (s_store hS rfl rfl rfl ty_sz34 (by repeat constructor) (by repeat constructor) ?_); clear hS; intro w hS
      refine Z_last (by simp) ?_
      refine Z_done (by kernel_rfl) ?_
      refine n_block (nT (cR ?_))
      (first | refine L_e hS (e_binN rfl rfl rfl (by omega)) rfl ?_ | refine L_e hS (e_bin rfl rfl rfl) rfl ?_); clear hS a; intro a hS
      refine L_e hS (e_move rfl) rfl ?_; clear hS a; intro a hS
      refine nL ?_
      have hfl2 : (kids ++ [xj.1]).flatMap JX.cs = kids.flatMap JX.cs ++ ([.int .i64 jk, .string js, .slice a1 a2 a3, .slice a4 a5 a6] ++ []) := by rw [List.flatMap_append, ← hxcs]; simp
      have hkl1 : (kids ++ [xj.1]).length = kids.length + 1 := by simp
      have hns := nmsF_next hy
      have hnf : (nmsF fl (kids.length + 1)).flatMap encS = (nmsF fl kids.length).flatMap encS ++ [.string (tx y.f.nm)] := by rw [hns, List.flatMap_append]; rfl
      replace hS := kids_add (hS.pick (Γ' := [jxA 2 xj.1, kidsA 2 kids, ownA 37 4 (.slice q68 (kids.length + 1) c68) (kids.length + 1) (kids.flatMap JX.cs ++ ([.int .i64 jk, .string js, .slice a1 a2 a3, .slice a4 a5 a6] ++ [])), ownA 9 1 (.slice q63 (kids.length + 1) c63) (kids.length + 1) ((nmsF fl kids.length).flatMap encS ++ [.string (tx y.f.nm)]), .blk b8 [.int .i64 6, .string ⟨#[]⟩, .slice q68 (kids.length + 1) c68, .slice q63 (kids.length + 1) c63] 37, .blk b2 [.string ⟨#[]⟩, .string ⟨#[]⟩, .slice none 0 0, .bool false] 29, .blk b1 (cellsC c3 (.slice (fvA y.f fa2) c3.fx.length (fvC y.f fc2))) 24, rtsA lo N rb f, oldA W0]) (by repeat (first | exact Pick.nil | (refine Pick.cons (by repeat (first | exact Rem.head | apply Rem.tail)) ?_))))
      rw [← hfl2, ← hnf] at hS
      refine ⟨(kids ++ [xj.1], .slice q68 (kids.length + 1) c68, .slice q63 (kids.length + 1) c63, c3, fvA y.f fa2, fvC y.f fc2), by show fl.length - (kids ++ [xj.1]).length < fl.length - kids.length; omega, ?_, by show (kids ++ [xj.1]).length ≤ fl.length; omega, by show reqL (fdsOf (fl.drop (kids ++ [xj.1]).length)) c3 (nmsF fl (kids ++ [xj.1]).length) ((kids ++ [xj.1]).map JX.v) = _; rw [hkl1, hns, List.map_append, List.map_singleton]; exact hgo, hc3, hF3⟩
      show St _ _ _ _ _ [(46, .int .i64 ((kids ++ [xj.1]).length : Int)), _, _, _, _, _, _, _, _] [ownA _ _ _ (kids ++ [xj.1]).length _, ownA _ _ _ (kids ++ [xj.1]).length ((nmsF fl (kids ++ [xj.1]).length).flatMap encS), _, _, _, _, _, _]
      rw [hkl1]
      exact (hS.slots (by repeat (first | exact trivial | refine ⟨rfl, ?_⟩))).pick (by repeat (first | exact Pick.nil | (refine Pick.cons (by repeat (first | exact Rem.head | apply Rem.tail)) ?_)))
     refine Z_op (i := 9) rfl (want_none a hS.sl) (listed' := [true, true, true, true, true, false, true, true, true, true, false, false, false, false, false]) rfl (s_bslice hS ty_sl34 ty_sz37 ty_z37 rfl rfl rfl rfl (.agg rfl rfl .nil) rfl ?_); clear hS a; intro a w b67 hS
     refine Z_and hS (sub_cons (by repeat constructor) (sub_cons (by repeat constructor) (sub_cons (by repeat constructor) sub_nil))) ?_
     refine Zo 5 (tf 10 5) hS rfl wN rfl (s_append1 hS rfl rfl ty_sl35 ty_sz9 ty_by9 ty_z9 rfl rfl rfl (by repeat constructor) (by repeat constructor) (by rfl) (by rfl) (fun _ => (by repeat constructor)) (by omega) ?_); clear hS a; intro v63 a w hv63 hS
     obtain ⟨q63, c63, rfl⟩ := own_slice (hS.gg (X := ownA 9 1 v63 (kids.length + 1) ((nmsF fl kids.length).flatMap encS ++ [.string (tx y.f.nm)])))
     refine Z_and hS (sub_cons (by repeat constructor) (sub_cons (by repeat constructor) (sub_cons (by repeat constructor) sub_nil))) ?_
     (first | refine Zt0 11 [true, true, true, true, true, true, true, true, true, true, false, true, false, false, false] hS rfl want_none (e_fa0 rfl ty_fo37_3) rfl (by kernel_rfl) rfl ?_ | refine Zt0 11 [true, true, true, true, true, true, true, true, true, true, false, true, false, false, false] hS rfl want_none (e_faK rfl ty_fo37_3) rfl (by kernel_rfl) rfl ?_); clear hS a; intro a hS
     refine Zo 10 (tf 12 3) hS rfl wN rfl (s_append1 hS rfl rfl ty_sl34 ty_sz37 ty_by37 ty_z37 rfl rfl rfl (by repeat constructor) (by repeat constructor) (by rfl) (by rfl) (fun _ => (by repeat constructor)) (by omega) ?_); clear hS a; intro v68 a w hv68 hS
     obtain ⟨q68, c68, rfl⟩ := own_slice (hS.gg (X := ownA 37 4 v68 (kids.length + 1) _))
     refine Z_and hS (sub_cons (by repeat constructor) (sub_cons (by repeat constructor) (sub_cons (by repeat constructor) sub_nil))) ?_
     refine Zo 12 (tf 13 2) hS rfl wN rfl (s_store hS rfl rfl rfl ty_sz35 (by repeat constructor) (by repeat constructor) ?_); clear hS; intro w hS
     refine Z_last (by simp) ?_
     (first | refine Zt0 13 (tf 14 1) hS rfl want_none (e_fa0 rfl ty_fo37_2) rfl (by kernel_rfl) rfl ?_ | refine Zt0 13 (tf 14 1) hS rfl want_none (e_faK rfl ty_fo37_2) rfl (by kernel_rfl) rfl ?_); clear hS a; intro a hS
     refine Zo 14 (tf 15 0) hS rfl wN rfl (s_store hS rfl rfl rfl ty_sz34 (by repeat constructor) (by repeat constructor) ?_); clear hS; intro w hS
     refine Z_last (by simp) ?_
     refine Z_done (by kernel_rfl) ?_
     refine n_block (nT (cR ?_))
     (first | refine L_e hS (e_binN rfl rfl rfl (by omega)) rfl ?_ | refine L_e hS (e_bin rfl rfl rfl) rfl ?_); clear hS a; intro a hS
     refine L_e hS (e_move rfl) rfl ?_; clear hS a; intro a hS
     refine nL ?_
     have hfl2 : (kids ++ [xj.1]).flatMap JX.cs = kids.flatMap JX.cs ++ ([.int .i64 jk, .string js, .slice a1 a2 a3, .slice a4 a5 a6] ++ []) := by rw [List.flatMap_append, ← hxcs]; simp
     have hkl1 : (kids ++ [xj.1]).length = kids.length + 1 := by simp
     have hns := nmsF_next hy
     have hnf : (nmsF fl (kids.length + 1)).flatMap encS = (nmsF fl kids.length).flatMap encS ++ [.string (tx y.f.nm)] := by rw [hns, List.flatMap_append]; rfl
     replace hS := kids_add (hS.pick (Γ' := [jxA 2 xj.1, kidsA 2 kids, ownA 37 4 (.slice q68 (kids.length + 1) c68) (kids.length + 1) (kids.flatMap JX.cs ++ ([.int .i64 jk, .string js, .slice a1 a2 a3, .slice a4 a5 a6] ++ [])), ownA 9 1 (.slice q63 (kids.length + 1) c63) (kids.length + 1) ((nmsF fl kids.length).flatMap encS ++ [.string (tx y.f.nm)]), .blk b8 [.int .i64 6, .string ⟨#[]⟩, .slice q68 (kids.length + 1) c68, .slice q63 (kids.length + 1) c63] 37, .blk b2 [.string ⟨#[]⟩, .string ⟨#[]⟩, .slice none 0 0, .bool false] 29, .blk b1 (cellsC c3 (.slice (fvA y.f fa2) c3.fx.length (fvC y.f fc2))) 24, rtsA lo N rb f, oldA W0]) (by repeat (first | exact Pick.nil | (refine Pick.cons (by repeat (first | exact Rem.head | apply Rem.tail)) ?_))))
     rw [← hfl2, ← hnf] at hS
     refine ⟨(kids ++ [xj.1], .slice q68 (kids.length + 1) c68, .slice q63 (kids.length + 1) c63, c3, fvA y.f fa2, fvC y.f fc2), by show fl.length - (kids ++ [xj.1]).length < fl.length - kids.length; omega, ?_, by show (kids ++ [xj.1]).length ≤ fl.length; omega, by show reqL (fdsOf (fl.drop (kids ++ [xj.1]).length)) c3 (nmsF fl (kids ++ [xj.1]).length) ((kids ++ [xj.1]).map JX.v) = _; rw [hkl1, hns, List.map_append, List.map_singleton]; exact hgo, hc3, hF3⟩
     show St _ _ _ _ _ [(46, .int .i64 ((kids ++ [xj.1]).length : Int)), _, _, _, _, _, _, _, _] [ownA _ _ _ (kids ++ [xj.1]).length _, ownA _ _ _ (kids ++ [xj.1]).length ((nmsF fl (kids ++ [xj.1]).length).flatMap encS), _, _, _, _, _, _]
     rw [hkl1]
     exact (hS.slots (by repeat (first | exact trivial | refine ⟨rfl, ?_⟩))).pick (by repeat (first | exact Pick.nil | (refine Pick.cons (by repeat (first | exact Rem.head | apply Rem.tail)) ?_)))
    refine Z_op (i := 9) rfl (want_none a hS.sl) (listed' := [true, true, true, true, false, false, true, true, true, true, false, false, false, false, false]) rfl (s_bslice hS ty_sl34 ty_sz37 ty_z37 rfl rfl rfl rfl (.agg rfl rfl .nil) rfl ?_); clear hS a; intro a w b67 hS
    refine Z_and hS (sub_cons (by repeat constructor) (sub_cons (by repeat constructor) (sub_cons (by repeat constructor) sub_nil))) ?_
    refine Zo 4 [true, true, true, true, true, false, true, true, true, true, false, false, false, false, false] hS rfl wN rfl (s_bslice hS ty_sl35 ty_sz9 ty_z9 rfl rfl rfl rfl (.one rfl rfl rfl .nil) rfl ?_); clear hS a; intro a w b62 hS
    refine Z_and hS (sub_cons (by repeat constructor) (sub_cons (by repeat constructor) (sub_cons (by repeat constructor) sub_nil))) ?_
    refine Zo 5 (tf 10 5) hS rfl wN rfl (s_append1 hS rfl rfl ty_sl35 ty_sz9 ty_by9 ty_z9 rfl rfl rfl (by repeat constructor) (by repeat constructor) (by rfl) (by rfl) (fun _ => (by repeat constructor)) (by omega) ?_); clear hS a; intro v63 a w hv63 hS
    obtain ⟨q63, c63, rfl⟩ := own_slice (hS.gg (X := ownA 9 1 v63 (kids.length + 1) ((nmsF fl kids.length).flatMap encS ++ [.string (tx y.f.nm)])))
    refine Z_and hS (sub_cons (by repeat constructor) (sub_cons (by repeat constructor) (sub_cons (by repeat constructor) sub_nil))) ?_
    (first | refine Zt0 11 [true, true, true, true, true, true, true, true, true, true, false, true, false, false, false] hS rfl want_none (e_fa0 rfl ty_fo37_3) rfl (by kernel_rfl) rfl ?_ | refine Zt0 11 [true, true, true, true, true, true, true, true, true, true, false, true, false, false, false] hS rfl want_none (e_faK rfl ty_fo37_3) rfl (by kernel_rfl) rfl ?_); clear hS a; intro a hS
    refine Zo 10 (tf 12 3) hS rfl wN rfl (s_append1 hS rfl rfl ty_sl34 ty_sz37 ty_by37 ty_z37 rfl rfl rfl (by repeat constructor) (by repeat constructor) (by rfl) (by rfl) (fun _ => (by repeat constructor)) (by omega) ?_); clear hS a; intro v68 a w hv68 hS
    obtain ⟨q68, c68, rfl⟩ := own_slice (hS.gg (X := ownA 37 4 v68 (kids.length + 1) _))
    refine Z_and hS (sub_cons (by repeat constructor) (sub_cons (by repeat constructor) (sub_cons (by repeat constructor) sub_nil))) ?_
    refine Zo 12 (tf 13 2) hS rfl wN rfl (s_store hS rfl rfl rfl ty_sz35 (by repeat constructor) (by repeat constructor) ?_); clear hS; intro w hS
    refine Z_last (by simp) ?_
    (first | refine Zt0 13 (tf 14 1) hS rfl want_none (e_fa0 rfl ty_fo37_2) rfl (by kernel_rfl) rfl ?_ | refine Zt0 13 (tf 14 1) hS rfl want_none (e_faK rfl ty_fo37_2) rfl (by kernel_rfl) rfl ?_); clear hS a; intro a hS
    refine Zo 14 (tf 15 0) hS rfl wN rfl (s_store hS rfl rfl rfl ty_sz34 (by repeat constructor) (by repeat constructor) ?_); clear hS; intro w hS
    refine Z_last (by simp) ?_
    refine Z_done (by kernel_rfl) ?_
    refine n_block (nT (cR ?_))
    (first | refine L_e hS (e_binN rfl rfl rfl (by omega)) rfl ?_ | refine L_e hS (e_bin rfl rfl rfl) rfl ?_); clear hS a; intro a hS
    refine L_e hS (e_move rfl) rfl ?_; clear hS a; intro a hS
    refine nL ?_
    have hfl2 : (kids ++ [xj.1]).flatMap JX.cs = kids.flatMap JX.cs ++ ([.int .i64 jk, .string js, .slice a1 a2 a3, .slice a4 a5 a6] ++ []) := by rw [List.flatMap_append, ← hxcs]; simp
    have hkl1 : (kids ++ [xj.1]).length = kids.length + 1 := by simp
    have hns := nmsF_next hy
    have hnf : (nmsF fl (kids.length + 1)).flatMap encS = (nmsF fl kids.length).flatMap encS ++ [.string (tx y.f.nm)] := by rw [hns, List.flatMap_append]; rfl
    replace hS := kids_add (hS.pick (Γ' := [jxA 2 xj.1, kidsA 2 kids, ownA 37 4 (.slice q68 (kids.length + 1) c68) (kids.length + 1) (kids.flatMap JX.cs ++ ([.int .i64 jk, .string js, .slice a1 a2 a3, .slice a4 a5 a6] ++ [])), ownA 9 1 (.slice q63 (kids.length + 1) c63) (kids.length + 1) ((nmsF fl kids.length).flatMap encS ++ [.string (tx y.f.nm)]), .blk b8 [.int .i64 6, .string ⟨#[]⟩, .slice q68 (kids.length + 1) c68, .slice q63 (kids.length + 1) c63] 37, .blk b2 [.string ⟨#[]⟩, .string ⟨#[]⟩, .slice none 0 0, .bool false] 29, .blk b1 (cellsC c3 (.slice (fvA y.f fa2) c3.fx.length (fvC y.f fc2))) 24, rtsA lo N rb f, oldA W0]) (by repeat (first | exact Pick.nil | (refine Pick.cons (by repeat (first | exact Rem.head | apply Rem.tail)) ?_))))
    rw [← hfl2, ← hnf] at hS
    refine ⟨(kids ++ [xj.1], .slice q68 (kids.length + 1) c68, .slice q63 (kids.length + 1) c63, c3, fvA y.f fa2, fvC y.f fc2), by show fl.length - (kids ++ [xj.1]).length < fl.length - kids.length; omega, ?_, by show (kids ++ [xj.1]).length ≤ fl.length; omega, by show reqL (fdsOf (fl.drop (kids ++ [xj.1]).length)) c3 (nmsF fl (kids ++ [xj.1]).length) ((kids ++ [xj.1]).map JX.v) = _; rw [hkl1, hns, List.map_append, List.map_singleton]; exact hgo, hc3, hF3⟩
    show St _ _ _ _ _ [(46, .int .i64 ((kids ++ [xj.1]).length : Int)), _, _, _, _, _, _, _, _] [ownA _ _ _ (kids ++ [xj.1]).length _, ownA _ _ _ (kids ++ [xj.1]).length ((nmsF fl (kids ++ [xj.1]).length).flatMap encS), _, _, _, _, _, _]
    rw [hkl1]
    exact (hS.slots (by repeat (first | exact trivial | refine ⟨rfl, ?_⟩))).pick (by repeat (first | exact Pick.nil | (refine Pick.cons (by repeat (first | exact Rem.head | apply Rem.tail)) ?_)))
   have hk2 : kids.length = fl.length := by omega
   have hgo' : reqL (fdsOf fl) c [] [] = some (.mk 6 [] (nmsF fl kids.length) (kids.map JX.v), c2) := by rw [← hgo, hk2]; exact reqL_done _ _ _ fl
   have hnl : (nmsF fl kids.length).length = kids.length := by unfold nmsF; rw [List.length_map, List.length_take, hk2, Nat.min_self]
   refine wp_exit ?_
   refine x_then (x_then (x_hit ?_))
   refine nT (cS (cS (cR ?_)))
   refine L_e hS (e_loadA (cs := cellsC c2 (.slice fa2 c2.fx.length fc2)) rfl (by repeat constructor) ty_st24 ty_sz24 rfl) rfl ?_; clear hS a; intro a hS
   refine L_op (s_callP hS (.cons rfl .nil) cf30 rfl (fEmpty_P c2 hc2 fa2 fc2 (by have := hF2.n; omega) _) ?_); clear hS a; intro a w hS
   refine L_e hS (e_not rfl) rfl ?_; clear hS a; intro a hS
   refine nL (nT ?_)
   (first | refine c_ifD hS rfl ?_ ?_ | refine c_if hS rfl ?_ ?_) <;> intro hc74
   ·
    refine cS (cR ?_)
    refine L_e hS (e_build ty_z29 ty_pl29 .nil) rfl ?_; clear hS a; intro a hS
    refine L_op (s_storeA hS rfl rfl ty_sz29 (by repeat constructor) (by rfl) (by rfl) (by rfl) ?_); clear hS; intro w hS
    refine L_e hS (e_assign rfl) rfl ?_; clear hS a; intro a hS
    refine nL (nT (wp_ret (r_then ?_)))
    refine c_retN hS Tryz.results9 (.cons (.cellA rfl (by repeat constructor) ty_st29 ty_sz29 (by rfl)) (.cons (.tmp rfl) .nil)) rfl ?_
    exact ⟨.inr (.inr ⟨10, by decide⟩), rfl, hS.chg, none_ok _, fun b h => h.elim⟩
   have hem : emptyC c2 := emptyB_t.1 (by simpa using hc74)
   obtain ⟨g1, g2, g3⟩ := hb kx (path, fl) _ c2 hx hgo'
   replace hS := jx_node (d := 2) (k := 6) (t := []) (ns := nmsF fl kids.length) (kids := kids) (by rw [hnl]; exact hS.pick (Γ' := [ownA 37 4 (.slice ql kids.length cl) kids.length (kids.flatMap JX.cs), ownA 9 1 (.slice qn kids.length cn) kids.length ((nmsF fl kids.length).flatMap encS), kidsA 2 kids, .blk b8 [.int .i64 6, .string ⟨#[]⟩, .slice ql kids.length cl, .slice qn kids.length cn] 37, .blk b2 [.string ⟨#[]⟩, .string ⟨#[]⟩, .slice none 0 0, .bool false] 29, rtsA lo N rb f, oldA W0]) (by repeat (first | exact Pick.nil | (refine Pick.cons (by repeat (first | exact Rem.head | apply Rem.tail)) ?_))))
   have hj : JAt 3 (.mk 6 [] (nmsF fl kids.length) (kids.map JX.v)) [.int .i64 6, .string ⟨#[]⟩, .slice ql kids.length cl, .slice qn kids.length cn] w := hS.get (.head _)
   obtain ⟨v, hv⟩ : ∃ v, JV.mk 6 [] (nmsF fl kids.length) (kids.map JX.v) = v := ⟨_, rfl⟩
   rw [hv] at hgo' g1 g2 g3 hj
   refine wS (nT (cS (cR ?_)))
   refine L_e hS (e_loadA rfl (by repeat constructor) ty_st37 ty_sz37 (by rfl)) rfl ?_; clear hS a; intro a hS
   refine L_op (s_callN hS (.cons rfl .nil) cf12 rfl (jPrint_N 3 v _ _ (hG.keep (hS.gg (X := oldA W0))).u8 g1 g2 hj g3) ?_); clear hS a; intro x78 a w hS
   obtain ⟨pq, pm, pc, pe, hpv, hpc⟩ := pr_open x78
   rw [hpv] at hS
   refine Rn hS (.m rfl <| .c (e_extract rfl rfl) <| .c (e_extract rfl rfl) <| .a rfl <| .a rfl .n) ?_; clear hS a; intro a hS
   refine nL (nT (cS (wB (cS (cR ?_)))))
   refine Rn hS (.m rfl <| .c (e_bin rfl rfl rfl) <| .m rfl .n) ?_; clear hS a; intro a hS
   refine L_merge 3 87 (.bool (decide (pe ≠ 0 ∧ pe ≠ 8))) hS ?_ ?_
   · intro hcM87
     (first | refine g_splitD (t := 84) hS rfl ?_ ?_ | refine g_split (t := 84) hS rfl ?_ ?_) <;> (clear hS; intro hg84 hS)
     ·
      refine Rn hS (.g rfl rfl (e_move rfl) <| .g rfl rfl (e_bin rfl rfl rfl) <| .c (e_pk rfl rfl) .n) ?_; clear hS a; intro a hS
      exact hcM87 _ _ (hS.ends 4 87 84 rfl (congrArg Value.bool (by exact decide_eq_decide.2 ⟨fun h => ⟨hg84, h⟩, fun h => h.2⟩)) rfl rfl (by first | exact congrArg Value.bool (decide_eq_true hg84).symm | exact congrArg Value.bool hg84.symm | simp [hg84]) rfl)
     refine Rn hS (.t rfl rfl <| .t rfl rfl <| .c (e_pk rfl rfl) .n) ?_; clear hS a; intro a hS
     exact hcM87 _ _ (hS.ends 4 87 84 rfl (congrArg Value.bool (by exact (decide_eq_false (fun h => hg84 h.1)).symm)) rfl rfl (by first | exact congrArg Value.bool (decide_eq_false hg84).symm | exact congrArg Value.bool hg84.symm | simp [hg84]) rfl)
   · clear hS a; intro a w hS
     simp only [List.drop_succ_cons, List.drop_zero]
     refine L_e hS (e_assign rfl) rfl ?_; clear hS a; intro a hS
     refine nL (nT ?_)
     (first | refine c_ifD hS rfl ?_ ?_ | refine c_if hS rfl ?_ ?_) <;> intro hc81
     ·
      refine cS (cR ?_)
      refine L_e hS (e_build ty_z29 ty_pl29 .nil) rfl ?_; clear hS a; intro a hS
      refine L_op (s_storeA hS rfl rfl ty_sz29 (by repeat constructor) (by rfl) (by rfl) (by rfl) ?_); clear hS; intro w hS
      refine L_e hS (e_assign rfl) rfl ?_; clear hS a; intro a hS
      refine nL (nT (wp_ret ?_))
      refine r_block (r_then ?_)
      refine c_retN hS Tryz.results9 (.cons (.cellA rfl (by repeat constructor) ty_st29 ty_sz29 (by rfl)) (.cons (.tmp rfl) .nil)) rfl ?_
      exact ⟨.inr (.inr ⟨10, by decide⟩), rfl, hS.chg, none_ok _, fun b h => h.elim⟩
     refine cS (cR ?_)
     refine Rn hS (.m rfl <| .c (e_bin rfl rfl rfl) <| .m rfl .n) ?_; clear hS a; intro a hS
     refine L_merge 4 96 (.bool (decide (pe = 8 ∨ 32768 < pm))) hS ?_ ?_
     · intro hcM96
       (first | refine g_splitD (t := 92) hS rfl ?_ ?_ | refine g_split (t := 92) hS rfl ?_ ?_) <;> (clear hS; intro hg92 hS)
       ·
        refine Rn hS (.f rfl rfl <| .f rfl rfl <| .f rfl rfl <| .c (e_pk rfl rfl) .n) ?_; clear hS a; intro a hS
        exact hcM96 _ _ (hS.ends 5 96 92 rfl (congrArg Value.bool (by exact (decide_eq_true (.inl hg92)).symm)) rfl rfl (by first | exact congrArg Value.bool (decide_eq_true hg92).symm | exact congrArg Value.bool hg92.symm | simp [hg92]) rfl)
       refine Rn hS (.g rfl rfl (e_move rfl) <| .g rfl rfl (e_len rfl rfl ty_sl27) <| .g rfl rfl (e_bin rfl rfl rfl) <| .c (e_pk rfl rfl) .n) ?_; clear hS a; intro a hS
       exact hcM96 _ _ (hS.ends 5 96 92 rfl (congrArg Value.bool (by exact decide_eq_decide.2 ⟨fun h => .inr (by omega), fun h => by have := h.resolve_left hg92; omega⟩)) rfl rfl (by first | exact congrArg Value.bool (decide_eq_false hg92).symm | exact congrArg Value.bool hg92.symm | simp [hg92]) rfl)
     · clear hS a; intro a w hS
       simp only [List.drop_succ_cons, List.drop_zero]
       refine L_e hS (e_assign rfl) rfl ?_; clear hS a; intro a hS
       refine nL (nT ?_)
       (first | refine c_ifD hS rfl ?_ ?_ | refine c_if hS rfl ?_ ?_) <;> intro hc89
       ·
        refine cS (cR ?_)
        refine L_e hS (e_build ty_z29 ty_pl29 .nil) rfl ?_; clear hS a; intro a hS
        refine L_op (s_storeA hS rfl rfl ty_sz29 (by repeat constructor) (by rfl) (by rfl) (by rfl) ?_); clear hS; intro w hS
        refine L_e hS (e_assign rfl) rfl ?_; clear hS a; intro a hS
        refine nL (nT (wp_ret ?_))
        refine r_block (r_then ?_)
        refine c_retN hS Tryz.results9 (.cons (.cellA rfl (by repeat constructor) ty_st29 ty_sz29 (by rfl)) (.cons (.tmp rfl) .nil)) rfl ?_
        exact ⟨.inr (.inr ⟨8, by decide⟩), rfl, hS.chg, none_ok _, fun b h => h.elim⟩
       have hpe : pe = 0 := by omega
       obtain ⟨px, rfl, rfl, rfl, rfl⟩ : ∃ x : { x : (Nat × Nat) × JV × List UInt8 // okF 3 0 v ∧ PJ 3 v x.2.1 x.2.2 ∧ x.2.2.length ≤ 65536 ∧ x.2.2.length ≤ x.1.2 }, x78 = .inl x ∧ pq = some ⟨x.1.1.1, 0, none⟩ ∧ pm = x.1.2.2.length ∧ pc = x.1.1.2 := by
        rcases hpc with ⟨_, h⟩ | h
        · exact h
        · exact absurd hpe h
       refine wS (n_block (nT (cS (cR ?_))))
       refine Rn hS (.m rfl <| .m rfl <| .c (e_ixN rfl rfl ty_sl78 ty_sz83 (by omega)) .n) ?_; clear hS a; intro a hS
       (first | refine L_e hS (e_fa0 rfl ty_fo83_0) rfl ?_ | refine L_e hS (e_faK rfl ty_fo83_0) rfl ?_); clear hS a; intro a hS
       refine Rn hS (.c (e_loadC rfl ty_sc9 (fun w hh => rts_row (show RtsAt lo rb f w from hh (rtsA lo N rb f) (by repeat constructor)) hx 0 (.string (tx path)) rfl)) <| .m rfl <| .c (e_build ty_z29 ty_pl29 (.one rfl rfl rfl (by repeat constructor) (.one rfl rfl rfl (by repeat constructor) (.one rfl rfl rfl (by repeat constructor) .nil)))) .n) ?_; clear hS a; intro a hS
       refine L_op (s_storeA hS rfl rfl ty_sz29 (by repeat constructor) (by rfl) (by rfl) (by rfl) ?_); clear hS; intro w hS
       refine L_e hS (e_assign rfl) rfl ?_; clear hS a; intro a hS
       refine nL (nT (wp_ret ?_))
       refine c_retN hS Tryz.results9 (.cons (.cellA rfl (by repeat constructor) ty_st29 ty_sz29 (by rfl)) (.cons (.tmp rfl) .nil)) rfl ?_
       obtain ⟨⟨⟨pb, pcap⟩, pr, ps⟩, h1, h2, h3, h4⟩ := px
       exact ⟨.inl ⟨((pb, pcap), path, ps), ⟨v, pr, kx, fl, c2, ⟨hx, hkd, hgo', hem, h1, h2, Nat.not_lt.1 (fun h => hc89 (.inr h))⟩⟩, h4⟩, rfl, hS.chg, hS.ok (bbA 5 pb (bsI ps)) (by repeat constructor), fun b hb => (hS.mine (bbA 5 pb (bsI ps)) (by repeat constructor) rfl b hb).resolve_right id⟩
theorem fRequest_S (W0 : World) (hG : Gj W0) (c : Cd) (hc : c.ok) (hfx : FxB c.fx) (hs : fewFx c.fx) (ht : totT c ≤ 1048576) (fa : Option Addr) (fc : Nat) (hF : FctC W0 fa c.fx) (w0 : World) (hold : oldφ W0 w0) :
 NewC Tryz.prog 9 [.agg (cellsC c (.slice fa c.fx.length fc)).toArray] w0 (rqV c) (rqY c) :=
 fRequest_N W0 hG c hc fa fc ⟨hF.c, by have := hs.1; omega, hfx⟩ w0 hold fun _ _ _ _ hx h => ⟨req_good hc hfx hx h, req_sm hc hfx hs ht hx h⟩
theorem less_ok {A B : List (List UInt8 × JV)} {p : List UInt8 × JV} {n d : Nat} (h : okF (n + 1) d (objP (A ++ p :: B))) : okF (n + 1) d (objP (A ++ B)) := by
 obtain ⟨h1, h2, h3, h4⟩ := ok_ps.1 h
 refine ok_ps.2 ⟨fun q hq => h1 q ?_, h2, ?_, (mid_nodup h4).2⟩
 · rcases List.mem_append.1 hq with hq | hq
   · exact List.mem_append.2 (.inl hq)
   · exact List.mem_append.2 (.inr (.tail _ hq))
 · rw [List.length_append] at h3 ⊢
   rw [List.length_cons] at h3
   omega
theorem null_ok (n d : Nat) : okF (n + 1) d jNull := ⟨fun h => absurd h (by decide), fun h => absurd h (by decide), fun h => absurd h (by decide)⟩
theorem other_ok {A B : List (List UInt8 × JV)} {p : List UInt8 × JV} {n d : Nat} (h : okF (n + 2) d (objP (A ++ p :: B))) : okF (n + 2) d (objP (A ++ (p.1, jNull) :: B)) := by
 obtain ⟨h1, h2, h3, h4⟩ := ok_ps.1 h
 refine ok_ps.2 ⟨fun q hq => ?_, h2, by simpa using h3, mid_nodup2 jNull h4⟩
 rcases List.mem_append.1 hq with hq | hq
 · exact h1 q (List.mem_append.2 (.inl hq))
 · rcases List.mem_cons.1 hq with rfl | hq
   · exact ⟨(h1 p (List.mem_append.2 (.inr (.head _)))).1, null_ok n (d + 1)⟩
   · exact h1 q (List.mem_append.2 (.inr (.tail _ hq)))
theorem less_len {A B : List (List UInt8 × JV)} {p : List UInt8 × JV} {n : Nat} : lenJ (n + 1) (objP (A ++ B)) ≤ lenJ (n + 1) (objP (A ++ p :: B)) := by
 have e := (lenJ_le n (A ++ B)).1
 have e2 := (lenJ_le n (A ++ p :: B)).2 (by simp)
 rw [lenP_app] at e e2
 rw [lenP_cons] at e2
 omega
theorem other_len {A B : List (List UInt8 × JV)} {p : List UInt8 × JV} {n : Nat} : lenJ (n + 2) (objP (A ++ (p.1, jNull) :: B)) ≤ lenJ (n + 2) (objP (A ++ p :: B)) + 4 := by
 have e : lenJ (n + 2) (objP (A ++ (p.1, jNull) :: B)) = _ := (lenJ_le (n + 1) (A ++ (p.1, jNull) :: B)).2 (by simp)
 have e2 : lenJ (n + 2) (objP (A ++ p :: B)) = _ := (lenJ_le (n + 1) (A ++ p :: B)).2 (by simp)
 rw [lenP_app, lenP_cons] at e e2
 have e3 : lenJ (n + 1) jNull = 4 := rfl
 simp only [e3] at e
 omega
theorem goodV_up : ∀ (n : Nat) (v : JV), goodV n v → goodV (n + 1) v
 | 0, _, h => h.elim
 | n + 1, .mk k t ns l, ⟨h1, h2, h3, h4⟩ => ⟨h1, h2, h3, fun hk x hx => goodV_up n x (h4 hk x hx)⟩
theorem goodV_mono {n m : Nat} {v : JV} (h : goodV n v) (hm : n ≤ m) : goodV m v := by
 induction hm with
 | refl => exact h
 | step _ ih => exact goodV_up _ _ ih
theorem okF_up : ∀ (n d : Nat) (v : JV), okF n d v → okF (n + 1) d v
 | 0, _, _, h => h.elim
 | n + 1, d, .mk k t ns l, ⟨h1, h2, h3⟩ => ⟨h1, h2, fun hk => by
   obtain ⟨g1, g2, g3, g4, g5, g6⟩ := h3 hk
   exact ⟨g1, g2, g3, g4, g5, fun x hx => okF_up n (d + 1) x (g6 x hx)⟩⟩
theorem okF_mono {n m d : Nat} {v : JV} (h : okF n d v) (hm : n ≤ m) : okF m d v := by
 induction hm with
 | refl => exact h
 | step _ ih => exact okF_up _ _ _ ih
theorem smV_up : ∀ (n : Nat) (v : JV), smV n v → smV (n + 1) v
 | 0, _, h => h.elim
 | n + 1, .mk k t ns l, ⟨h1, h2, h3, h4, h5⟩ => ⟨h1, h2, h3, h4, fun x hx => smV_up n x (h5 x hx)⟩
theorem smV_mono {n m : Nat} {v : JV} (h : smV n v) (hm : n ≤ m) : smV m v := by
 induction hm with
 | refl => exact h
 | step _ ih => exact smV_up _ _ ih
theorem lenJ_up : ∀ (n : Nat) (v : JV), goodV n v → lenJ (n + 1) v = lenJ n v
 | 0, _, h => h.elim
 | n + 1, .mk k t ns l, ⟨_, _, _, h4⟩ => by
   by_cases hk : k = 6
   · subst hk
     rw [lenJ6, lenJ6]
     have e : ((ns.zip l).map fun p => (quoteL p.1).length + 2 + lenJ (n + 1) p.2) = ((ns.zip l).map fun p => (quoteL p.1).length + 2 + lenJ n p.2) := by
      refine List.map_congr_left fun p hp => ?_
      rw [lenJ_up n p.2 (h4 rfl p.2 (List.of_mem_zip hp).2)]
     rw [e]
   · unfold lenJ
     rw [if_neg hk, if_neg hk]
theorem lenJ_mono {n m : Nat} {v : JV} (h : goodV n v) (hm : n ≤ m) : lenJ m v = lenJ n v := by
 induction hm with
 | refl => rfl
 | step hm ih => rw [lenJ_up _ _ (goodV_mono h hm), ih]
theorem which_ok (i : Int) {n : Nat} (hn : 0 < n) : -(n : Int) < i.tmod n ∧ i.tmod n < n ∧ 0 ≤ (i.tmod n + n).tmod n ∧ (i.tmod n + n).tmod n < n := by
 have h1 := Int.tmod_lt_of_pos i (show (0 : Int) < n by omega)
 have h2 : -(n : Int) < i.tmod n := by
  have h3 := Int.lt_tmod_of_pos i (show (0 : Int) < n by omega)
  exact h3
 have h4 := Int.tmod_lt_of_pos (i.tmod n + n) (show (0 : Int) < n by omega)
 have h5 := Int.tmod_nonneg (n : Int) (show (0 : Int) ≤ i.tmod n + n by omega)
 exact ⟨h2, h1, h5, h4⟩
theorem take_split {α : Type} {l : List α} {w : Nat} {p : α} (h : l[w]? = some p) : l = l.take w ++ p :: l.drop (w + 1) := by
 obtain ⟨h1, h2⟩ := List.getElem?_eq_some_iff.1 h
 conv => lhs; rw [← List.take_append_drop w l, List.drop_eq_getElem_cons h1, h2]
theorem req_parse {c : Cd} {path s : List UInt8} {v r : JV} {k : Nat} {fl : List Fg} {c' : Cd} (hc : c.ok) (hfx : FxB c.fx) (h : RqOk c path s v r k fl c') : parseF s = some r := by
 have hg : goodV 3 v := req_good hc hfx h.x h.q
 exact pj_parse hg h.f h.p (Nat.le_trans h.n (by decide))
theorem req_print {c : Cd} {path s : List UInt8} {v r : JV} {k : Nat} {fl : List Fg} {c' : Cd} (hc : c.ok) (hfx : FxB c.fx) (hs : fewFx c.fx) (ht : totT c ≤ 1048576) (h : RqOk c path s v r k fl c') {n : Nat} (hn : 3 ≤ n) : goodV n r ∧ okF n 0 r ∧ smV n r ∧ lenJ n r = s.length := by
 have hg := goodV_pj 3 v r s (req_good hc hfx h.x h.q) h.p
 refine ⟨goodV_mono hg hn, okF_mono (okF_pj 3 0 v r s h.f h.p) hn, smV_mono (smV_pj 3 v r s (req_sm hc hfx hs ht h.x h.q).1 h.p) hn, ?_⟩
 rw [lenJ_mono hg hn, lenJ_pj 3 v r s h.p, pj_len 3 v r s h.p]
def voidW (w : World) (b : Nat) : World := { w with heap := w.heap.setIfInBounds b (.cells #[] 0 (0, 0)) }
theorem void_ne (w : World) {b k : Nat} (h : k ≠ b) : (voidW w b).heap[k]? = w.heap[k]? := by
 show (w.heap.setIfInBounds b _)[k]? = _
 rw [Array.getElem?_setIfInBounds_ne (fun e => h e.symm)]
theorem void_cell (w : World) {b : Nat} (hb : b < w.heap.size) (o : Int) (n : Nat) (x : Value) : ¬ (voidW w b).cell? ⟨b, n, none⟩ = some x := by
 have e : (voidW w b).heap[b]? = some (.cells #[] 0 (0, 0)) := by
  show (w.heap.setIfInBounds b _)[b]? = _
  rw [Array.getElem?_setIfInBounds_self_of_lt hb]
 unfold World.cell?
 rw [e]
 simp
def rowsL (s : Nat) (rows : List (List Value)) : Prop := ∀ r ∈ rows, r.length = s
theorem rw_void {s : Nat} {lv : Value} {rows rows' : List (List Value)} {w : World} {b : Nat} (hs : 0 < s) (hl : rowsL s rows') (hlen : rows'.length = rows.length) (hne : rows ≠ []) (h : RwAt s lv rows w) (hb : lv.ownBlock = some b) (h2 : RwAt s lv rows' (voidW w b)) : False := by
 rcases h with ⟨h, _⟩ | ⟨b', off, c, _, rfl, _, hlt⟩
 · exact hne h
 have e : b' = b := by simpa [Value.ownBlock] using hb
 subst e
 rcases h2 with ⟨h, _⟩ | ⟨b2, off2, c2, _, e2, hr, _⟩
 · rw [h] at hlen; exact hne (List.eq_nil_of_length_eq_zero hlen.symm)
 have e3 : b2 = b' := by injection e2 with e2 _ _; injection e2 with e2; injection e2 with e2 _ _; exact e2.symm
 subst e3
 cases rows' with
 | nil => exact hne (List.eq_nil_of_length_eq_zero hlen.symm)
 | cons r rows' =>
   cases r with
   | nil => have := hl [] (.head _); simp at this; omega
   | cons x r => exact void_cell w hlt 0 _ x (hr 0 (x :: r) rfl 0 x rfl)
theorem rw_same {s : Nat} {lv : Value} {rows rows' : List (List Value)} {w w' : World} (hl : rowsL s rows) (hl' : rowsL s rows') (hlen : rows'.length = rows.length) (hw : ∀ b, lv.ownBlock = some b → rows ≠ [] → w'.heap[b]? = w.heap[b]?) (h : RwAt s lv rows w) (h2 : RwAt s lv rows' w') : rows' = rows := by
 rcases h with ⟨h, _⟩ | ⟨b, off, c, hne, rfl, hr, hlt⟩
 · subst h; exact List.eq_nil_of_length_eq_zero hlen
 rcases h2 with ⟨h, _⟩ | ⟨b2, off2, c2, _, e2, hr2, _⟩
 · subst h; exact absurd (List.eq_nil_of_length_eq_zero hlen.symm) hne
 injection e2 with e2 _ _; injection e2 with e2; injection e2 with e3 e4 _
 subst e3 e4
 have hwb := hw b rfl hne
 refine List.ext_getElem? fun i => ?_
 rcases Nat.lt_or_ge i rows.length with hi | hi
 · obtain ⟨x, hx⟩ : ∃ x, rows[i]? = some x := ⟨_, List.getElem?_eq_getElem hi⟩
   obtain ⟨y, hy⟩ : ∃ y, rows'[i]? = some y := ⟨_, List.getElem?_eq_getElem (by omega)⟩
   rw [hx, hy]
   have lx := hl x (List.mem_of_getElem? hx)
   have ly := hl' y (List.mem_of_getElem? hy)
   congr 1
   refine List.ext_getElem? fun j => ?_
   rcases Nat.lt_or_ge j s with hj | hj
   · obtain ⟨u, hu⟩ : ∃ u, x[j]? = some u := ⟨_, List.getElem?_eq_getElem (by omega)⟩
     obtain ⟨v, hv⟩ : ∃ v, y[j]? = some v := ⟨_, List.getElem?_eq_getElem (by omega)⟩
     have c1 := hr i x hx j u hu
     have c2 := hr2 i y hy j v hv
     unfold World.cell? at c1 c2
     rw [hwb] at c2
     rw [c1] at c2
     rw [hu, hv]; exact c2.symm
   · rw [List.getElem?_eq_none (by omega), List.getElem?_eq_none (by omega)]
 · rw [List.getElem?_eq_none hi, List.getElem?_eq_none (by omega)]
theorem kid_rows {d : Nat} {l : List JV} {rows : List (List Value)} {w : World} (hlen : rows.length = l.length) (h : ∀ (i : Nat) (v : JV) (r : List Value), l[i]? = some v → rows[i]? = some r → JAt d v r w) : rowsL 4 rows := fun r hr => by
 obtain ⟨i, hi⟩ := List.getElem?_of_mem hr
 have hil := (List.getElem?_eq_some_iff.1 hi).1
 obtain ⟨v, hv⟩ : ∃ v, l[i]? = some v := ⟨_, List.getElem?_eq_getElem (by omega)⟩
 obtain ⟨lv, nv, _, _, e⟩ := (h i v r hv hi).four
 rw [e]; rfl
theorem jx_open {d : Nat} {x : JX} {w : World} (h : (jxA (d + 1) x).ok w) : ∃ (lv nv : Value) (rows : List (List Value)), x.cs = [.int .i64 (x.v.k : Int), .string (tx x.v.t), lv, nv] ∧ rows.length = x.v.l.length ∧ rowsL 4 rows ∧
 ∀ w', (∀ b, x.F b → w'.heap[b]? = w.heap[b]?) → RwAt 1 nv (x.v.ns.map encS) w' ∧ RwAt 4 lv rows w' ∧ ∀ (i : Nat) (v : JV) (r : List Value), x.v.l[i]? = some v → rows[i]? = some r → JAt d v r w' := by
 obtain ⟨v, cs, F, hlen, hone⟩ := x
 have hh : ∀ w', (∀ b, F b → w'.heap[b]? = w.heap[b]?) → JAt (d + 1) v cs w' := h.hold
 clear h
 obtain ⟨k, t, ns, l⟩ := v
 obtain ⟨lv, nv, rows, e, hn, hr, hl, hk⟩ := hh w (fun _ _ => rfl)
 have hrl := kid_rows hl hk
 have hF : ∀ b, lv.ownBlock = some b → rows ≠ [] → F b := fun b hb hne => by
  apply Classical.byContradiction
  intro hnf
  obtain ⟨lv', nv', rows', e', hn', hr', hl', hk'⟩ := hh (voidW w b) (fun k hk => void_ne w (fun ek => hnf (ek ▸ hk)))
  rw [e] at e'
  injection e' with _ e'; injection e' with _ e'; injection e' with e1 e'; injection e' with e2 _
  subst e1 e2
  exact rw_void (by decide) (kid_rows hl' hk') (hl'.trans hl.symm) hne hr hb hr'
 refine ⟨lv, nv, rows, e, hl, hrl, fun w' hw => ?_⟩
 obtain ⟨lv', nv', rows', e', hn', hr', hl', hk'⟩ := hh w' hw
 rw [e] at e'
 injection e' with _ e'; injection e' with _ e'; injection e' with e1 e'; injection e' with e2 _
 subst e1 e2
 obtain rfl : rows' = rows := rw_same hrl (kid_rows hl' hk') (hl'.trans hl.symm) (fun b hb hne => hw b (hF b hb hne)) hr hr'
 exact ⟨hn', hr', hk'⟩
def kidX (v : JV) (cs : List Value) (h : cs.length = 4) (h1 : cs.all isOne = true) : JX := ⟨v, cs, fun _ => False, h, h1⟩
theorem jat_one {d : Nat} {v : JV} {cs : List Value} {w : World} (h : JAt d v cs w) : cs.length = 4 ∧ cs.all isOne = true := by
 obtain ⟨lv, nv, ⟨a, m, c, rfl⟩, ⟨a2, m2, c2, rfl⟩, rfl⟩ := h.four
 exact ⟨rfl, rfl⟩
theorem kids_of {d : Nat} {w : World} : ∀ (l : List JV) (rows : List (List Value)), rows.length = l.length → (∀ (i : Nat) (v : JV) (r : List Value), l[i]? = some v → rows[i]? = some r → JAt d v r w) → ∃ ks : List JX, ks.map JX.v = l ∧ ks.map JX.cs = rows
 | [], [], _, _ => ⟨[], rfl, rfl⟩
 | [], _ :: _, h, _ => by simp at h
 | _ :: _, [], h, _ => by simp at h
 | v :: l, r :: rows, h, hk => by
   obtain ⟨ks, h1, h2⟩ := kids_of l rows (by simpa using h) (fun i v r hv hr => hk (i + 1) v r hv hr)
   obtain ⟨l4, lo⟩ := jat_one (hk 0 v r rfl rfl)
   exact ⟨kidX v r l4 lo :: ks, by rw [List.map_cons, h1]; rfl, by rw [List.map_cons, h2]; rfl⟩
def objφ (nv lv : Value) (ns : List (List UInt8)) (ks : List JX) (d : Nat) (w : World) : Prop := RwAt 1 nv (ns.map encS) w ∧ RwAt 4 lv (ks.map JX.cs) w ∧ ∀ x ∈ ks, JAt d x.v x.cs w
def objA (F : Nat → Prop) (nv lv : Value) (ns : List (List UInt8)) (ks : List JX) (d : Nat) : Asn := .any F (objφ nv lv ns ks d) true
theorem jx_obj {d : Nat} {x : JX} {w : World} (h : (jxA (d + 1) x).ok w) : ∃ (lv nv : Value) (ks : List JX), x.cs = [.int .i64 (x.v.k : Int), .string (tx x.v.t), lv, nv] ∧ ks.map JX.v = x.v.l ∧ (objA x.F nv lv x.v.ns ks d).ok w := by
 obtain ⟨lv, nv, rows, e, hl, _, hh⟩ := jx_open h
 obtain ⟨hn, hr, hk⟩ := hh w (fun _ _ => rfl)
 obtain ⟨ks, h1, h2⟩ := kids_of _ rows hl hk
 refine ⟨lv, nv, ks, e, h1, h.lt, fun w' hw => ?_⟩
 obtain ⟨hn', hr', hk'⟩ := hh w' hw
 refine ⟨hn', by rw [h2]; exact hr', fun y hy => ?_⟩
 obtain ⟨i, hi⟩ := List.getElem?_of_mem hy
 exact hk' i y.v y.cs (by rw [← h1, List.getElem?_map, hi]; rfl) (by rw [← h2, List.getElem?_map, hi]; rfl)
theorem rw_cell {s : Nat} {v : Value} {rows : List (List Value)} {w : World} (h : RwAt s v rows w) {i : Nat} {r : List Value} (hi : rows[i]? = some r) : ∃ b off c, v = .slice (some ⟨b, off, none⟩) rows.length c ∧ ∀ (j : Nat) (u : Value), r[j]? = some u → w.cell? ⟨b, off + i * s + j, none⟩ = some u := by
 rcases h with ⟨rfl, _⟩ | ⟨b, off, c, _, rfl, hr, _⟩
 · cases hi
 · exact ⟨b, off, c, rfl, fun j u hj => hr i r hi j u hj⟩
theorem pj_k6 {n : Nat} {ps : List (List UInt8 × JV)} {o : JV} {s : List UInt8} (h : PJ (n + 1) (objP ps) o s) : o.k = 6 := by
 rcases (show _ ∨ _ ∨ _ ∨ _ from h) with ⟨h2, _⟩ | ⟨h2, _⟩ | ⟨h2, _⟩ | ⟨_, ms, _, _, _, hr, _⟩
 · exact absurd h2 (by decide)
 · exact absurd h2 (by decide)
 · exact absurd h2 (by decide)
 · rw [hr]; rfl
theorem bind_of {ps : List (List UInt8 × JV)} {o : JV} {s : List UInt8} (hg : goodV 33 (objP ps)) (hf : okF 33 0 (objP ps)) (hm : smV 33 (objP ps)) (hp : PJ 33 (objP ps) o s) (hs : s.length ≤ 65536) (fl : List Fg) (kd : Int) : (∀ v, parseF s = some v → smV 33 v) ∧ bindP fl kd s = bindF (fdsOf fl) kd o := by
 have h := pj_parse hg hf hp hs
 refine ⟨fun v hv => ?_, bindP_some h (pj_k6 (n := 32) hp)⟩
 rw [h] at hv
 injection hv with hv
 subst hv
 exact smV_pj 33 _ _ _ hm hp
structure Bad (ps : List (List UInt8 × JV)) (fl : List Fg) (kd e : Int) : Prop where
 g : goodV 33 (objP ps)
 f : okF 33 0 (objP ps)
 m : smV 33 (objP ps)
 n : lenJ 33 (objP ps) ≤ 65536
 b : ∀ o s, PJ 33 (objP ps) o s → s.length ≤ 65536 → (∀ v, parseF s = some v → smV 33 v) ∧ (bindP fl kd s).1 = e
theorem ff_less {A B : List (List UInt8 × JV)} {p : List UInt8 × JV} {fl : List Fg} {kd : Int} (hok : ∀ f ∈ fdsOf fl, f.ok) (hb : Back (fdsOf fl) (A ++ p :: B)) (hg : goodV 33 (objP (A ++ p :: B))) (hf : okF 33 0 (objP (A ++ p :: B))) (hm : smV 33 (objP (A ++ p :: B))) (hn : lenJ 33 (objP (A ++ p :: B)) ≤ 20000) : Bad (A ++ B) fl kd 32 := by
 have hsub : ∀ q ∈ A ++ B, q ∈ A ++ p :: B := fun q hq => by
  rcases List.mem_append.1 hq with hq | hq
  · exact List.mem_append.2 (.inl hq)
  · exact List.mem_append.2 (.inr (.tail _ hq))
 have g : goodV 33 (objP (A ++ B)) := good_ps.2 fun q hq => good_ps.1 hg q (hsub q hq)
 have f := less_ok (n := 32) hf
 have m : smV 33 (objP (A ++ B)) := by
  obtain ⟨h1, h2⟩ := sm_ps.1 hm
  refine sm_ps.2 ⟨?_, fun q hq => h2 q (hsub q hq)⟩
  rw [List.length_append] at h1 ⊢
  rw [List.length_cons] at h1
  omega
 refine ⟨g, f, m, Nat.le_trans (less_len (n := 32) (p := p)) (Nat.le_trans hn (by decide)), fun o s hp hs => ?_⟩
 obtain ⟨h1, h2⟩ := bind_of g f m hp hs fl kd
 exact ⟨h1, by rw [h2]; exact less_bind (n := 32) hok hb hp⟩
theorem ff_other {A B : List (List UInt8 × JV)} {p : List UInt8 × JV} {fl : List Fg} {kd : Int} (hok : ∀ f ∈ fdsOf fl, f.ok) (hb : Back (fdsOf fl) (A ++ p :: B)) (hg : goodV 33 (objP (A ++ p :: B))) (hf : okF 33 0 (objP (A ++ p :: B))) (hm : smV 33 (objP (A ++ p :: B))) (hn : lenJ 33 (objP (A ++ p :: B)) ≤ 20000) : Bad (A ++ (p.1, jNull) :: B) fl kd 13 := by
 have hsub : ∀ q ∈ A ++ (p.1, jNull) :: B, q = (p.1, jNull) ∨ q ∈ A ++ p :: B := fun q hq => by
  rcases List.mem_append.1 hq with hq | hq
  · exact .inr (List.mem_append.2 (.inl hq))
  · rcases List.mem_cons.1 hq with rfl | hq
    · exact .inl rfl
    · exact .inr (List.mem_append.2 (.inr (.tail _ hq)))
 have g : goodV 33 (objP (A ++ (p.1, jNull) :: B)) := good_ps.2 fun q hq => by
  rcases hsub q hq with rfl | hq
  · exact ⟨by decide, by decide, fun h => absurd h (by decide), fun h => absurd h (by decide)⟩
  · exact good_ps.1 hg q hq
 have f := other_ok (n := 31) hf
 have m : smV 33 (objP (A ++ (p.1, jNull) :: B)) := by
  obtain ⟨h1, h2⟩ := sm_ps.1 hm
  refine sm_ps.2 ⟨by simpa using h1, fun q hq => ?_⟩
  rcases hsub q hq with rfl | hq
  · exact ⟨(h2 p (List.mem_append.2 (.inr (.head _)))).1, Nat.zero_le _, Nat.zero_le _, (fun x h => by cases h), Nat.zero_le _, (fun x h => by cases h)⟩
  · exact h2 q hq
 refine ⟨g, f, m, by
   have e : lenJ 33 (objP (A ++ (p.1, jNull) :: B)) ≤ lenJ 33 (objP (A ++ p :: B)) + 4 := other_len (n := 31)
   omega, fun o s hp hs => ?_⟩
 obtain ⟨h1, h2⟩ := bind_of g f m hp hs fl kd
 exact ⟨h1, by rw [h2]; exact other_bind (n := 31) hok hb hp⟩
theorem ff_more {rs : List (List UInt8 × JV)} {nm : List UInt8} {fl : List Fg} {kd : Int} (hnm : nm.length ≤ 100) (hok : ∀ f ∈ fdsOf fl, f.ok) (hb : Back (fdsOf fl) rs) (hne : rs ≠ []) (hg : goodV 33 (objP rs)) (hm : smV 33 (objP rs)) (hl : rs.length ≤ 1000) (hn : lenJ 33 (objP rs) ≤ 20000) :
 goodV 33 (objP (rs ++ [(nm, jNull)])) ∧ smV 33 (objP (rs ++ [(nm, jNull)])) ∧ lenJ 33 (objP (rs ++ [(nm, jNull)])) ≤ 65536 ∧
 (nm ∉ rs.map (·.1) → okF 33 0 (objP (rs ++ [(nm, jNull)])) → ∀ o s, PJ 33 (objP (rs ++ [(nm, jNull)])) o s → s.length ≤ 65536 → (∀ v, parseF s = some v → smV 33 v) ∧ (bindP fl kd s).1 = 32) := by
 have g : goodV 33 (objP (rs ++ [(nm, jNull)])) := good_ps.2 fun q hq => by
  rcases List.mem_append.1 hq with hq | hq
  · exact good_ps.1 hg q hq
  · rw [List.mem_singleton.1 hq]
    exact ⟨by decide, by decide, fun h => absurd h (by decide), fun h => absurd h (by decide)⟩
 have m : smV 33 (objP (rs ++ [(nm, jNull)])) := by
  obtain ⟨h1, h2⟩ := sm_ps.1 hm
  refine sm_ps.2 ⟨by rw [List.length_append, List.length_singleton]; omega, fun q hq => ?_⟩
  rcases List.mem_append.1 hq with hq | hq
  · exact h2 q hq
  · rw [List.mem_singleton.1 hq]
    exact ⟨by show nm.length ≤ 1000000; omega, Nat.zero_le _, Nat.zero_le _, (fun x h => by cases h), Nat.zero_le _, (fun x h => by cases h)⟩
 refine ⟨g, m, ?_, fun hno f o s hp hs => ?_⟩
 · have e1 : lenJ 33 (objP rs) = _ := (lenJ_le 32 rs).2 hne
   have e2 : lenJ 33 (objP (rs ++ [(nm, jNull)])) = _ := (lenJ_le 32 (rs ++ [(nm, jNull)])).2 (by simp)
   rw [lenP_app] at e2
   have e3 : lenP 32 [(nm, jNull)] = (quoteL nm).length + 2 + lenJ 32 jNull + 0 := rfl
   have e4 : lenJ 32 jNull = 4 := rfl
   have e5 := quote_le6 nm
   omega
 · obtain ⟨h1, h2⟩ := bind_of g f m hp hs fl kd
   exact ⟨h1, by rw [h2]; exact more_bind (n := 32) hok hb hno hp⟩
section
variable {α : Type} {l : List α} {k wn : Nat} {x : α}
theorem tk_succ (h : l[k]? = some x) : l.take (k + 1) = l.take k ++ [x] := by rw [List.take_add_one, h]; rfl
theorem tk_len (h : l[k]? = some x) : (l.take k).length = k := by
 have := (List.getElem?_eq_some_iff.1 h).1
 rw [List.length_take]; omega
theorem er_ne (h : l[k]? = some x) (hne : ¬ k = wn) : (l.take (k + 1)).eraseIdx wn = (l.take k).eraseIdx wn ++ [x] := by
 rw [tk_succ h]
 have hl := tk_len h
 rcases Nat.lt_or_ge wn k with h1 | h1
 · rw [List.eraseIdx_append_of_lt_length (by omega)]
 · rw [List.eraseIdx_of_length_le (by rw [List.length_append, List.length_singleton]; omega), List.eraseIdx_of_length_le (by omega)]
theorem er_eq (h : l[k]? = some x) (e : k = wn) : (l.take (k + 1)).eraseIdx wn = (l.take k).eraseIdx wn := by
 subst e
 rw [tk_succ h]
 have hl := tk_len h
 rw [List.eraseIdx_append_of_length_le (by omega), hl, Nat.sub_self, List.eraseIdx_of_length_le (by omega : (l.take k).length ≤ k)]
 simp
theorem st_ne {y : α} (h : l[k]? = some x) (hne : ¬ k = wn) : (l.take (k + 1)).set wn y = (l.take k).set wn y ++ [x] := by
 rw [tk_succ h]
 have hl := tk_len h
 rcases Nat.lt_or_ge wn k with h1 | h1
 · rw [List.set_append_left _ _ (by omega)]
 · rw [List.set_eq_of_length_le (by rw [List.length_append, List.length_singleton]; omega), List.set_eq_of_length_le (by omega)]
theorem st_eq {y : α} (h : l[k]? = some x) (e : k = wn) : (l.take (k + 1)).set wn y = (l.take k).set wn y ++ [y] := by
 subst e
 rw [tk_succ h]
 have hl := tk_len h
 have e : (l.take k).set k y = l.take k := List.set_eq_of_length_le (by omega)
 rw [e, List.set_append_right _ _ (by omega), hl, Nat.sub_self]
 rfl
theorem er_len (hk : k ≤ l.length) : ((l.take k).eraseIdx wn).length ≤ k := by
 rw [List.length_eraseIdx, List.length_take]
 split <;> omega
end
def nullX : JX := kidX jNull [.int .i64 0, .string ⟨#[]⟩, .slice none 0 0, .slice none 0 0] rfl rfl
theorem null_at (d : Nat) (w : World) : JAt (d + 1) nullX.v nullX.cs w := ⟨_, _, [], rfl, .inl ⟨rfl, _, _, rfl⟩, .inl ⟨rfl, _, _, rfl⟩, rfl, fun i v r h => by cases h⟩
theorem obj_at {d k : Nat} {t : List UInt8} {ns : List (List UInt8)} {ks : List JX} {lv nv : Value} {m m2 : Nat} {w : World} (h1 : m = ks.length) (h2 : m2 = ns.length) (o1 : (ownA 37 4 lv m (ks.flatMap JX.cs)).ok w) (o2 : (ownA 9 1 nv m2 (ns.flatMap encS)).ok w) (hk : ∀ x ∈ ks, JAt d x.v x.cs w) :
 JAt (d + 1) (.mk k t ns (ks.map JX.v)) [.int .i64 (k : Int), .string (tx t), lv, nv] w := by
 subst h1 h2
 refine ⟨lv, nv, ks.map JX.cs, rfl, rw_of_own (fun _ => rfl) o2, rw_of_own (enc := JX.cs) JX.len o1, by simp, fun i v r hv hr => ?_⟩
 rw [List.getElem?_map, Option.map_eq_some_iff] at hv hr
 obtain ⟨x, hx, rfl⟩ := hv
 obtain ⟨y, hy, rfl⟩ := hr
 rw [hx] at hy
 cases hy
 exact hk x (List.mem_of_getElem? hx)
theorem pr_done {n : Nat} {v : JV} (x : PrR n v) (hok : okF n 0 v) (hl : lenJ n v ≤ 65536) : ∃ (b cap : Nat) (o : JV) (s : List UInt8), prV n v x = .tuple [.slice (some ⟨b, 0, none⟩) s.length cap, .int .i64 0].toArray ∧ prY n v x = bbA 5 b (bsI s) ∧ PJ n v o s ∧ s.length ≤ 65536 ∧ s.length ≤ cap := by
 rcases x with ⟨⟨⟨b, cap⟩, o, s⟩, h1, h2, h3, h4⟩ | ⟨e, _, h⟩
 · exact ⟨b, cap, o, s, rfl, rfl, h2, h3, h4⟩
 · have := h hok; omega
theorem bn_err {r : Int × Cd} (x : BnR r) {e : Int} (h : r.1 = e) (he : e ≠ 0) : bnV r x = .tuple [.agg (cellsC (zCd 0) (.slice none 0 0)).toArray, .int .i64 e].toArray ∧ bnY r x = none_ := by
 rcases x with ⟨_, h2⟩ | _
 · exact absurd (h.symm.trans h2) he
 · exact ⟨by show Value.tuple [.agg (cellsC (zCd 0) (.slice none 0 0)).toArray, .int .i64 r.1].toArray = _; rw [h], rfl⟩
theorem txa_bb {b c : Nat} {l : List UInt8} {w : World} (h : (bbA 5 b (bsI l)).φ w) (hc : l.length ≤ c) (hn : l.length ≤ 1100000) : TxA w (some ⟨b, 0, none⟩) c l :=
 ⟨by have h2 := bb_by h (c := c) (by rw [bsI_len]; exact hc); rwa [bsI_len] at h2, hn⟩
theorem rq_open {c : Cd} (x : RqR c) : ∃ (me pa : ByteArray) (q : Option Addr) (m cp : Nat) (e : Int), rqV c x = .tuple [.agg [.string me, .string pa, .slice q m cp, .bool false].toArray, .int .i64 e].toArray ∧
 ((e = 0 ∧ ∃ pb path s v r k fl c', RqOk c path s v r k fl c' ∧ s.length ≤ cp ∧ me = ⟨#[80, 79, 83, 84]⟩ ∧ pa = tx path ∧ q = some ⟨pb, 0, none⟩ ∧ m = s.length ∧ rqY c x = bbA 5 pb (bsI s)) ∨ m = 0 ∨ e ≠ 0) := by
 rcases x with ⟨⟨⟨pb, cap⟩, path, s⟩, ⟨v, r, k, fl, c', h⟩, hc⟩ | ⟨p, h⟩ | ⟨e, h⟩
 · exact ⟨_, _, _, _, _, _, rfl, .inl ⟨rfl, pb, path, s, v, r, k, fl, c', h, hc, rfl, rfl, rfl, rfl, rfl⟩⟩
 · exact ⟨_, _, _, _, _, _, rfl, .inr (.inl rfl)⟩
 · exact ⟨_, _, _, _, _, _, rfl, .inr (.inr h)⟩
theorem rt_ne : ∀ x ∈ rtG, x.2 ≠ [] := by
 intro x hx
 have h : ∀ y ∈ rtG.map (fun x => x.2.length), y ≠ 0 := by decide +kernel
 exact fun e => h _ (List.mem_map.2 ⟨x, hx, rfl⟩) (by rw [e]; rfl)
theorem back_len {fl : List Fg} {rs : List (List UInt8 × JV)} (hb : Back (fdsOf fl) rs) : rs.length = fl.length := by
 have := hb.pm.length_eq
 rw [List.length_map, List.length_map] at this
 rw [this]; unfold fdsOf; rw [List.length_map]
def parA (F : Nat → Prop) (nb no nc lb lo lc : Nat) (ns : List (List UInt8)) (ks : List JX) : Asn := objA F (.slice (some ⟨nb, no, none⟩) ks.length nc) (.slice (some ⟨lb, lo, none⟩) ks.length lc) ns ks 32
theorem rw_head {s b off m c : Nat} {rows : List (List Value)} {w : World} (h : RwAt s (.slice (some ⟨b, off, none⟩) m c) rows w) : RowAt b off s rows w := by
 rcases h with ⟨rfl, _⟩ | ⟨b', off', c', _, e, hr, _⟩
 · intro i x hx; cases hx
 · injection e with e _ _; injection e with e; injection e with e1 e2 _
   subst e1 e2; exact hr
section
variable {F : Nat → Prop} {nb no nc lb lo lc : Nat} {ns : List (List UInt8)} {ks : List JX} {w : World}
theorem par_name (h : (parA F nb no nc lb lo lc ns ks).φ w) {k : Nat} {x : List UInt8} (hx : ns[k]? = some x) : w.cell? ⟨nb, no + k * 1, none⟩ = some (.string (tx x)) := by
 have := rw_head h.1 k (encS x) (by rw [List.getElem?_map, hx]; rfl) 0 (.string (tx x)) rfl
 exact this
theorem par_kid (h : (parA F nb no nc lb lo lc ns ks).φ w) {k : Nat} {x : JX} (hx : ks[k]? = some x) : ∀ (j : Nat) (u : Value), x.cs[j]? = some u → w.cell? ⟨lb, lo + k * 4 + j, none⟩ = some u :=
 rw_head h.2.1 k x.cs (by rw [List.getElem?_map, hx]; rfl)
theorem par_kids (h : (parA F nb no nc lb lo lc ns ks).φ w) : ∀ x ∈ ks, JAt 32 x.v x.cs w := h.2.2
theorem row_flat {α : Type} {enc : α → List Value} {s b off : Nat} (hs : 0 < s) (hl : ∀ x, (enc x).length = s) {xs : List α} (h : RowAt b off s (xs.map enc) w) : ∀ (j : Nat) (u : Value), (xs.flatMap enc)[j]? = some u → w.cell? ⟨b, off + j, none⟩ = some u := by
 intro j u hj
 have hjl := (List.getElem?_eq_some_iff.1 hj).1
 rw [flat_len enc s hl] at hjl
 have hi : j / s < xs.length := Nat.div_lt_of_lt_mul (by rw [Nat.mul_comm]; exact hjl)
 have hr : j % s < s := Nat.mod_lt _ hs
 have hjs : j / s * s + j % s = j := by rw [Nat.mul_comm]; exact Nat.div_add_mod j s
 obtain ⟨x, hx⟩ : ∃ x, xs[j / s]? = some x := ⟨_, List.getElem?_eq_getElem hi⟩
 obtain ⟨v, hv⟩ : ∃ v, (enc x)[j % s]? = some v := ⟨_, List.getElem?_eq_getElem (by rw [hl]; exact hr)⟩
 have h1 := flat_get enc s hl xs (j / s) x hx (j % s) v hv
 rw [hjs, hj] at h1
 injection h1 with h1
 subst h1
 have h2 := h (j / s) (enc x) (by rw [List.getElem?_map, hx]; rfl) (j % s) u hv
 rw [Nat.add_assoc, hjs] at h2
 exact h2
theorem par_names (h : (parA F nb no nc lb lo lc ns ks).φ w) : ∀ (j : Nat) (u : Value), (ns.flatMap encS)[j]? = some u → w.cell? ⟨nb, no + j, none⟩ = some u := row_flat (enc := encS) (s := 1) (by decide) (fun _ => rfl) (rw_head h.1)
theorem par_all (h : (parA F nb no nc lb lo lc ns ks).φ w) : ∀ (j : Nat) (u : Value), (ks.flatMap JX.cs)[j]? = some u → w.cell? ⟨lb, lo + j, none⟩ = some u := row_flat (enc := JX.cs) (s := 4) (by decide) JX.len (rw_head h.2.1)
end
theorem kid_four {x : JX} {d : Nat} {w : World} (h : JAt d x.v x.cs w) : ∃ (k : Int) (s : ByteArray) (a1 : Option Addr) (a2 a3 : Nat) (a4 : Option Addr) (a5 a6 : Nat), x.cs = [.int .i64 k, .string s, .slice a1 a2 a3, .slice a4 a5 a6] := by
 obtain ⟨lv, nv, ⟨a1, a2, a3, rfl⟩, ⟨a4, a5, a6, rfl⟩, e⟩ := h.four
 exact ⟨_, _, a1, a2, a3, a4, a5, a6, e⟩
theorem kids_one (ks : List JX) : ∀ u ∈ ks.flatMap JX.cs, isOne u = true := fun u hu => by
 obtain ⟨x, _, hx⟩ := List.mem_flatMap.1 hu
 exact List.all_eq_true.1 x.one u hx
theorem names_one (ns : List (List UInt8)) : ∀ u ∈ ns.flatMap encS, isOne u = true := fun u hu => by
 obtain ⟨x, _, hx⟩ := List.mem_flatMap.1 hu
 obtain rfl := List.mem_singleton.1 hx; rfl
theorem obj_open {x : JX} {rs : List (List UInt8 × JV)} {w : World} (h : (jxA 33 x).ok w) (hx : x.v = objP rs) (hne : rs ≠ []) : ∃ (nb no nc lb lo lc : Nat) (ks : List JX), x.cs = [.int .i64 6, .string ⟨#[]⟩, .slice (some ⟨lb, lo, none⟩) ks.length lc, .slice (some ⟨nb, no, none⟩) ks.length nc] ∧ ks.map JX.v = rs.map (·.2) ∧ (parA x.F nb no nc lb lo lc (rs.map (·.1)) ks).ok w := by
 obtain ⟨lv, nv, ks, e1, hks, hob⟩ := jx_obj h
 rw [hx] at e1 hks hob
 have hks2 : ks.map JX.v = rs.map (·.2) := hks
 have hl : ks.length = rs.length := by have := congrArg List.length hks2; simpa using this
 have h0 : 0 < rs.length := List.length_pos_iff.2 hne
 obtain ⟨hn, hk, _⟩ := hob.now
 have hn2 : RwAt 1 nv ((rs.map (·.1)).map encS) w := hn
 obtain ⟨r0, hr0⟩ : ∃ r, ((rs.map (·.1)).map encS)[0]? = some r := ⟨_, List.getElem?_eq_getElem (by simpa using h0)⟩
 obtain ⟨nb, no, nc, hnv, _⟩ := rw_cell hn2 hr0
 obtain ⟨r1, hr1⟩ : ∃ r, (ks.map JX.cs)[0]? = some r := ⟨_, List.getElem?_eq_getElem (by rw [List.length_map]; omega)⟩
 obtain ⟨lb, lo, lc, hlv, _⟩ := rw_cell hk hr1
 rw [List.length_map, List.length_map, ← hl] at hnv
 rw [List.length_map] at hlv
 subst hnv hlv
 exact ⟨nb, no, nc, lb, lo, lc, ks, e1, hks2, hob⟩
theorem there_step {ns : List (List UInt8)} {k : Nat} {x m : List UInt8} (h : ns[k]? = some x) : m ∈ ns.take (k + 1) ↔ m ∈ ns.take k ∨ x = m := by
 rw [tk_succ h, List.mem_append, List.mem_singleton]
 exact ⟨fun h => h.imp id Eq.symm, fun h => h.imp id Eq.symm⟩
section
variable {rs : List (List UInt8 × JV)} {ks : List JX} {ns : List (List UInt8)} {wn : Nat}
theorem v_less (hks : ks.map JX.v = rs.map (·.2)) (hns : rs.map (·.1) = ns) : JV.mk 6 [] (ns.eraseIdx wn) ((ks.eraseIdx wn).map JX.v) = objP (rs.take wn ++ rs.drop (wn + 1)) := by
 subst hns
 unfold objP
 rw [List.eraseIdx_eq_take_drop_succ, List.eraseIdx_eq_take_drop_succ]
 simp [List.map_take, List.map_drop, hks]
theorem v_other {p : List UInt8 × JV} (hp : rs[wn]? = some p) (hks : ks.map JX.v = rs.map (·.2)) (hns : rs.map (·.1) = ns) : JV.mk 6 [] ns ((ks.set wn nullX).map JX.v) = objP (rs.take wn ++ (p.1, jNull) :: rs.drop (wn + 1)) := by
 subst hns
 have e1 : (rs.take wn ++ (p.1, jNull) :: rs.drop (wn + 1)).map (·.1) = rs.map (·.1) := by
  conv => rhs; rw [take_split hp]
  simp
 have hkl : ks.length = rs.length := by have := congrArg List.length hks; simpa using this
 have hw := (List.getElem?_eq_some_iff.1 hp).1
 unfold objP
 rw [e1, List.set_eq_take_append_cons_drop, if_pos (by omega)]
 simp [List.map_take, List.map_drop, hks, nullX, kidX]
theorem v_more {m : List UInt8} (hks : ks.map JX.v = rs.map (·.2)) (hns : rs.map (·.1) = ns) : JV.mk 6 [] (ns ++ [m]) ((ks ++ [nullX]).map JX.v) = objP (rs ++ [(m, jNull)]) := by
 subst hns
 unfold objP
 simp [hks, nullX, kidX]
end
end Go.Proofs.YtlccmgeclhdegaaGreatDoor
namespace Go.Proofs.YtlccmgeclhdegaaGreatDoor
open Go.RowKit
set_option maxHeartbeats 8000000 in
set_option maxRecDepth 100000 in
theorem FrontFields_P (W0 : World) (hG : Gj W0) (c : Cd) (hc : c.ok) (hfx : FxB c.fx) (htt : totT c ≤ 1048576) (fa : Option Addr) (fc : Nat) (hF : FctC W0 fa c.fx) (i : Int) (m : List UInt8) (w0 : World) (hold : oldφ W0 w0) :
  PureC Tryz.prog 4 [.agg (cellsC c (.slice fa c.fx.length fc)).toArray, .int .i64 i, .string (tx m)] w0 (.bool true) := by
  have hz := tx_size m
  refine c_enter [(0, .agg (cellsC c (.slice fa c.fx.length fc)).toArray), (1, .int .i64 i), (2, .string (tx m))] [oldA W0] noB Tryz.func4 rfl Tryz.ntmps4 ⟨rfl, rfl, rfl, trivial⟩ rfl (okC (old_ok hold) okN) dis1 (mineC rfl mineN) ?_
  intro a hS
  refine cS (cR ?_)
  refine L_op (s_boxA hS rfl rfl ?_); clear hS a; intro a w b3 hS
  refine L_e hS (e_assign rfl) rfl ?_; clear hS a; intro a hS
  refine nL (nT (cS (cR ?_)))
  refine L_op (s_callP hS .nil cf7 rfl (frFirst_P W0 hG _ (hS.gg (X := oldA W0))) ?_); clear hS a; intro a w hS
  refine L_e hS (e_assign rfl) rfl ?_; clear hS a; intro a hS
  refine nL (nT (cS (cS (cR ?_))))
  refine Rn hS (.m rfl <| .c (e_not rfl) <| .m rfl .n) ?_; clear hS a; intro a hS
  replace hS := hS.is (t := 29) (c := false) rfl (rfl)
  refine L_ge hS rfl rfl (e_loadA (cs := cellsC c (.slice fa c.fx.length fc)) rfl (by repeat constructor) ty_st24 ty_sz24 rfl) rfl ?_; clear hS a; intro a hS
  refine L_go hS rfl rfl (s_callN hS (.cons rfl .nil) cf8 rfl (frFew_N W0 fa fc c hF _ (hS.gg (X := oldA W0))) ?_); clear hS a; intro x31 a w hS
  obtain ⟨bs, hbs⟩ := x31
  simp only at hS
  refine Rn hS (.g rfl rfl (e_not rfl) <| .c (e_pk rfl rfl) <| .m rfl .n) ?_; clear hS a; intro a hS
  refine L_merge 4 38 (.bool (!bs || decide (100 < m.length))) hS ?_ ?_
  · intro hcM38
    (first | refine g_splitD (t := 34) hS rfl ?_ ?_ | refine g_split (t := 34) hS rfl ?_ ?_) <;> (clear hS; intro hg34 hS)
    ·
     refine Rn hS (.f rfl rfl <| .f rfl rfl <| .f rfl rfl <| .c (e_pk rfl rfl) .n) ?_; clear hS a; intro a hS
     exact hcM38 _ _ (hS.ends 5 38 34 rfl (congrArg Value.bool (by rw [hg34]; rfl)) rfl rfl (by first | exact congrArg Value.bool (decide_eq_true hg34).symm | exact congrArg Value.bool hg34.symm | simp [hg34]) rfl)
    refine Rn hS (.g rfl rfl (e_move rfl) <| .g rfl rfl (e_lenS rfl rfl ty_u9) <| .g rfl rfl (e_bin rfl rfl rfl) <| .c (e_pk rfl rfl) .n) ?_; clear hS a; intro a hS
    exact hcM38 _ _ (hS.ends 5 38 34 rfl (congrArg Value.bool (by rw [hg34, Bool.false_or]; exact decide_eq_decide.2 (by rw [hz]; omega))) rfl rfl (by first | exact congrArg Value.bool (decide_eq_false hg34).symm | exact congrArg Value.bool hg34.symm | simp [hg34]) rfl)
  · clear hS a; intro a w hS
    simp only [List.drop_succ_cons, List.drop_zero]
    refine nL (nT ?_)
    (first | refine c_ifD hS rfl ?_ ?_ | refine c_if hS rfl ?_ ?_) <;> intro hc38
    ·
     refine cS (cR ?_)
     refine Rn hS (.m rfl <| .a rfl .n) ?_; clear hS a; intro a hS
     refine nL (nT (wp_ret (r_then ?_)))
     refine c_ret1 hS Tryz.results4 (.tmp rfl) ?_
     exact ⟨rfl, hS.chg⟩
    have hsmall : smallC c := hbs.1 (by cases bs with | true => rfl | false => exact absurd hc38 (by simp))
    have hm100 : m.length ≤ 100 := by
     rw [Bool.or_eq_false_iff, decide_eq_false_iff_not] at hc38
     omega
    refine wS (nT (cS (cR ?_)))
    refine L_e hS (e_loadA (cs := cellsC c (.slice fa c.fx.length fc)) rfl (by repeat constructor) ty_st24 ty_sz24 rfl) rfl ?_; clear hS a; intro a hS
    refine L_op (s_callN hS (.cons rfl .nil) cf9 rfl (fRequest_S W0 hG c hc hfx hsmall.1.1 htt fa fc hF _ (hS.gg (X := oldA W0))) ?_); clear hS a; intro x42 a w hS
    obtain ⟨me, pa, q, mm, cp, e, hrv, hrc⟩ := rq_open x42
    rw [hrv] at hS
    refine Rn hS (.m rfl <| .c (e_extract rfl rfl) <| .c (e_extract rfl rfl) .n) ?_; clear hS a; intro a hS
    refine L_op (s_alloc hS ty_z29 rfl ?_); clear hS a; intro a w b8 hS
    refine L_op (s_storeA hS rfl rfl ty_sz29 (by repeat constructor) (by rfl) (by rfl) (by rfl) ?_); clear hS; intro w hS
    refine L_e hS (e_assign rfl) rfl ?_; clear hS a; intro a hS
    refine nL (nT (cS (cS (cR ?_))))
    refine L_e hS (e_move rfl) rfl ?_; clear hS a; intro a hS
    refine L_op (s_callP hS (.cons rfl .nil) cf10 rfl (lNum_P e _) ?_); clear hS a; intro a w hS
    refine Rn hS (.c (e_bin rfl rfl rfl) <| .m rfl .n) ?_; clear hS a; intro a hS
    refine L_merge 5 53 (.bool (decide (e ≠ 0 ∨ mm = 0))) hS ?_ ?_
    · intro hcM53
      (first | refine g_splitD (t := 48) hS rfl ?_ ?_ | refine g_split (t := 48) hS rfl ?_ ?_) <;> (clear hS; intro hg48 hS)
      ·
       refine Rn hS (.f rfl rfl <| .f rfl rfl <| .f rfl rfl <| .f rfl rfl <| .c (e_pk rfl rfl) .n) ?_; clear hS a; intro a hS
       exact hcM53 _ _ (hS.ends 6 53 48 rfl (congrArg Value.bool (by exact (decide_eq_true (.inl hg48)).symm)) rfl rfl (by first | exact congrArg Value.bool (decide_eq_true hg48).symm | exact congrArg Value.bool hg48.symm | simp [hg48]) rfl)
      (first | refine L_ge hS rfl rfl (e_fa0 rfl ty_fo29_2) rfl ?_ | refine L_ge hS rfl rfl (e_faK rfl ty_fo29_2) rfl ?_); clear hS a; intro a hS
      refine Rn hS (.g rfl rfl (e_load rfl (by repeat constructor) ty_sc27 (by rfl)) <| .g rfl rfl (e_len rfl rfl ty_sl27) <| .g rfl rfl (e_bin rfl rfl rfl) <| .c (e_pk rfl rfl) .n) ?_; clear hS a; intro a hS
      exact hcM53 _ _ (hS.ends 6 53 48 rfl (congrArg Value.bool (by exact decide_eq_decide.2 ⟨fun h => .inr (by omega), fun h => by have := h.resolve_left hg48; omega⟩)) rfl rfl (by first | exact congrArg Value.bool (decide_eq_false hg48).symm | exact congrArg Value.bool hg48.symm | simp [hg48]) rfl)
    · clear hS a; intro a w hS
      simp only [List.drop_succ_cons, List.drop_zero]
      refine L_e hS (e_move rfl) rfl ?_; clear hS a; intro a hS
      refine L_merge 5 59 (.bool (decide ((e ≠ 0 ∨ mm = 0) ∨ 20000 < mm))) hS ?_ ?_
      · intro hcM59
        (first | refine g_splitD (t := 54) hS rfl ?_ ?_ | refine g_split (t := 54) hS rfl ?_ ?_) <;> (clear hS; intro hg54 hS)
        ·
         refine Rn hS (.f rfl rfl <| .f rfl rfl <| .f rfl rfl <| .f rfl rfl <| .c (e_pk rfl rfl) .n) ?_; clear hS a; intro a hS
         exact hcM59 _ _ (hS.ends 6 59 54 rfl (congrArg Value.bool (by exact (decide_eq_true (.inl hg54)).symm)) rfl rfl (by first | exact congrArg Value.bool (decide_eq_true hg54).symm | exact congrArg Value.bool hg54.symm | simp [hg54]) rfl)
        (first | refine L_ge hS rfl rfl (e_fa0 rfl ty_fo29_2) rfl ?_ | refine L_ge hS rfl rfl (e_faK rfl ty_fo29_2) rfl ?_); clear hS a; intro a hS
        refine Rn hS (.g rfl rfl (e_load rfl (by repeat constructor) ty_sc27 (by rfl)) <| .g rfl rfl (e_len rfl rfl ty_sl27) <| .g rfl rfl (e_bin rfl rfl rfl) <| .c (e_pk rfl rfl) .n) ?_; clear hS a; intro a hS
        exact hcM59 _ _ (hS.ends 6 59 54 rfl (congrArg Value.bool (by exact decide_eq_decide.2 ⟨fun h => .inr (by omega), fun h => by have := h.resolve_left hg54; omega⟩)) rfl rfl (by first | exact congrArg Value.bool (decide_eq_false hg54).symm | exact congrArg Value.bool hg54.symm | simp [hg54]) rfl)
      · clear hS a; intro a w hS
        simp only [List.drop_succ_cons, List.drop_zero]
        refine nL (nT ?_)
        (first | refine c_ifD hS rfl ?_ ?_ | refine c_if hS rfl ?_ ?_) <;> intro hc59
        ·
         refine cS (cR ?_)
         refine L_e hS (e_assign rfl) rfl ?_; clear hS a; intro a hS
         refine nL (nT (wp_ret (r_then ?_)))
         refine c_ret1 hS Tryz.results4 (.tmp rfl) ?_
         exact ⟨rfl, hS.chg⟩
        obtain ⟨he0, pb, path, s, v, r, kx, fl, c', hrq, hcap, hme, hpa, hq, hmm, hry⟩ : e = 0 ∧ ∃ pb path s v r k fl c', RqOk c path s v r k fl c' ∧ s.length ≤ cp ∧ me = ⟨#[80, 79, 83, 84]⟩ ∧ pa = tx path ∧ q = some ⟨pb, 0, none⟩ ∧ mm = s.length ∧ rqY c x42 = bbA 5 pb (bsI s) := by
         rcases hrc with h | h | h
         · exact h
         · exact absurd (.inl (.inr h)) hc59
         · exact absurd (.inl (.inl h)) hc59
        subst he0 hme hpa hq hmm
        rw [hry] at hS
        have hs20 : s.length ≤ 20000 := Nat.not_lt.1 fun h => hc59 (.inr h)
        have hxm := List.mem_of_getElem? hrq.x
        have hfok : ∀ f ∈ fdsOf fl, f.ok := rt_fdok hxm
        obtain ⟨pg, pf, psm, pln⟩ := req_print hc hfx hsmall.1.1 htt hrq (n := 33) (by decide)
        refine wS (nT (cS (cR ?_)))
        (first | refine L_e hS (e_fa0 rfl ty_fo29_2) rfl ?_ | refine L_e hS (e_faK rfl ty_fo29_2) rfl ?_); clear hS a; intro a hS
        refine L_e hS (e_load rfl (by repeat constructor) ty_sc27 (by rfl)) rfl ?_; clear hS a; intro a hS
        refine L_op (s_callN hS (.cons rfl .nil) cf11 rfl (jParse_N (some ⟨pb, 0, none⟩) cp s _ (hG.keep (hS.gg (X := oldA W0))).u8 (txa_bb (hS.gg (X := bbA 5 pb (bsI s))) hcap (by omega))) ?_); clear hS a; intro x63 a w hS
        have hpars := req_parse hc hfx hrq
        obtain ⟨xx, rfl⟩ : ∃ x : { x : JX // parseF s = some x.v }, x63 = .inl x := by
         rcases x63 with x | pe
         · exact ⟨x, rfl⟩
         · have h := pe.2.2; rw [hpars] at h; cases h
        obtain ⟨xx, hxv⟩ := xx
        have hxr : r = xx.v := by rw [hpars] at hxv; injection hxv
        obtain ⟨ps, rs, _, hrs, _, hbk⟩ := req_back hc hrq
        subst hrs
        have hlen := back_len hbk
        have hne : rs ≠ [] := fun h => rt_ne _ hxm (List.eq_nil_of_length_eq_zero (by rw [← hlen, h]; rfl))
        have hr0 : 0 < rs.length := List.length_pos_iff.2 hne
        rw [show paY s (.inl ⟨xx, hxv⟩) = jxA 33 xx from rfl, show paV s (.inl ⟨xx, hxv⟩) = .tuple [.agg xx.cs.toArray, .int .i64 0, .int .i64 0].toArray from rfl] at hS
        obtain ⟨nb, no, nc, lb, lo, lc, ks, hxcs, hks, hob⟩ := obj_open (hS.ok (jxA 33 xx) (by repeat constructor)) hxr.symm hne
        replace hS := hS.upd (X := jxA 33 xx) (Y := parA xx.F nb no nc lb lo lc (rs.map (·.1)) ks) (by repeat constructor) (Chg.refl _ _) hob (fun b hb => .inl hb) rfl
        rw [hxcs] at hS
        clear hob
        obtain ⟨FX, hFX⟩ : ∃ F, xx.F = F := ⟨_, rfl⟩
        obtain ⟨ns, hns⟩ : ∃ ns, rs.map (·.1) = ns := ⟨_, rfl⟩
        rw [hFX, hns] at hS
        have hkl : ks.length = rs.length := by have := congrArg List.length hks; simpa using this
        have hnl : ns.length = ks.length := by rw [hkl, ← hns, List.length_map]
        obtain ⟨ok1, ok2, ok3, ok4⟩ := ok_ps.1 pf
        have hk0 : 0 < ks.length := by omega
        have hk1000 : ks.length ≤ 1000 := by omega
        refine Rn hS (.m rfl <| .c (e_extract rfl rfl) <| .c (e_extract rfl rfl) <| .c (e_extract rfl rfl) .n) ?_; clear hS a; intro a hS
        refine L_op (s_alloc hS ty_z37 rfl ?_); clear hS a; intro a w b10 hS
        refine L_op (s_storeA hS rfl rfl ty_sz37 (by repeat constructor) (by rfl) (by rfl) (by rfl) ?_); clear hS; intro w hS
        refine Rn hS (.a rfl <| .a rfl .n) ?_; clear hS a; intro a hS
        refine nL (nT (cS (cS (cR ?_))))
        refine L_e hS (e_move rfl) rfl ?_; clear hS a; intro a hS
        refine L_op (s_callP hS (.cons rfl .nil) cf10 rfl (lNum_P 0 _) ?_); clear hS a; intro a w hS
        refine Rn hS (.c (e_bin rfl rfl rfl) <| .m rfl .n) ?_; clear hS a; intro a hS
        replace hS := hS.is (t := 70) (c := false) rfl (rfl)
        (first | refine L_ge hS rfl rfl (e_fa0 rfl ty_fo37_2) rfl ?_ | refine L_ge hS rfl rfl (e_faK rfl ty_fo37_2) rfl ?_); clear hS a; intro a hS
        refine Rn hS (.g rfl rfl (e_load rfl (by repeat constructor) ty_sc34 (by rfl)) <| .g rfl rfl (e_len rfl rfl ty_sl34) <| .g rfl rfl (e_bin rfl rfl rfl) <| .c (e_pk rfl rfl) .n) ?_; clear hS a; intro a hS
        refine nL (nT ?_)
        replace hS := hS.is (t := 75) (c := false) rfl ((decide_eq_false (by omega)))
        refine c_if_f hS rfl ?_
        refine wS (nT (cS ?_))
        obtain ⟨wk1, wk2, wk3, wk4⟩ := which_ok i (n := ks.length) hk0
        refine c_drawS [] (by kernel_rfl) hS (sub_cons (X := .blk b10 [.int .i64 6, .string ⟨#[]⟩, .slice (some ⟨lb, lo, none⟩) ks.length lc, .slice (some ⟨nb, no, none⟩) ks.length nc] 37) (by repeat constructor) sub_nil) ?_; clear hS; intro w hS
        simp only [List.length_cons, List.length_nil, Nat.zero_add, Nat.reduceAdd, List.replicate]
        refine Zt0 0 (tf 1 13) hS rfl want_none (e_move rfl) rfl (by kernel_rfl) rfl ?_; clear hS a; intro a hS
        (first | refine Zt0 1 (tf 2 12) hS rfl want_none (e_fa0 rfl ty_fo37_2) rfl (by kernel_rfl) rfl ?_ | refine Zt0 1 (tf 2 12) hS rfl want_none (e_faK rfl ty_fo37_2) rfl (by kernel_rfl) rfl ?_); clear hS a; intro a hS
        refine Rz hS (sub_cons (by repeat constructor) sub_nil) (.y 2 (tf 3 11) rfl wN (e_load rfl (by repeat constructor) ty_sc34 (by rfl)) rfl <| .o 3 (tf 4 10) rfl wN (e_len rfl rfl ty_sl34) rfl <| .o 4 (tf 5 9) rfl wN (e_rem rfl rfl (by omega)) rfl .n) ?_; clear hS a; intro a hS
        (first | refine Zt0 5 (tf 6 8) hS rfl want_none (e_fa0 rfl ty_fo37_2) rfl (by kernel_rfl) rfl ?_ | refine Zt0 5 (tf 6 8) hS rfl want_none (e_faK rfl ty_fo37_2) rfl (by kernel_rfl) rfl ?_); clear hS a; intro a hS
        refine Rz hS (sub_cons (by repeat constructor) sub_nil) (.y 6 (tf 7 7) rfl wN (e_load rfl (by repeat constructor) ty_sc34 (by rfl)) rfl <| .o 7 (tf 8 6) rfl wN (e_len rfl rfl ty_sl34) rfl .n) ?_; clear hS a; intro a hS
        (first | refine Zt0 8 (tf 9 5) hS rfl want_none (e_binN rfl rfl rfl (by omega)) rfl (by kernel_rfl) rfl ?_ | refine Zt0 8 (tf 9 5) hS rfl want_none (e_bin rfl rfl rfl) rfl (by kernel_rfl) rfl ?_); clear hS a; intro a hS
        (first | refine Zt0 9 (tf 10 4) hS rfl want_none (e_fa0 rfl ty_fo37_2) rfl (by kernel_rfl) rfl ?_ | refine Zt0 9 (tf 10 4) hS rfl want_none (e_faK rfl ty_fo37_2) rfl (by kernel_rfl) rfl ?_); clear hS a; intro a hS
        refine Rz hS (sub_cons (by repeat constructor) sub_nil) (.y 10 (tf 11 3) rfl wN (e_load rfl (by repeat constructor) ty_sc34 (by rfl)) rfl <| .o 11 (tf 12 2) rfl wN (e_len rfl rfl ty_sl34) rfl <| .o 12 (tf 13 1) rfl wN (e_rem rfl rfl (by omega)) rfl <| .o 13 (tf 14 0) rfl wN (e_assign rfl) rfl .n) ?_; clear hS a; intro a hS
        refine Z_done (by kernel_rfl) ?_
        refine nT (cS ?_)
        obtain ⟨wn, hwe⟩ : ∃ wn : Nat, (i.tmod (ks.length : Int) + (ks.length : Int)).tmod (ks.length : Int) = (wn : Int) := ⟨_, (Int.toNat_of_nonneg wk3).symm⟩
        rw [hwe] at hS wk4
        have hwn : wn < ks.length := by omega
        refine cR ?_
        refine L_e hS (e_build ty_z37 ty_pl37 (.one rfl rfl rfl (by repeat constructor) .nil)) rfl ?_; clear hS a; intro a hS
        refine L_op (s_alloc hS ty_z37 rfl ?_); clear hS a; intro a w b13 hS
        refine L_op (s_storeA hS rfl rfl ty_sz37 (by repeat constructor) (by rfl) (by rfl) (by rfl) ?_); clear hS; intro w hS
        refine nL (nT (cS (cR ?_)))
        refine L_e hS (e_build ty_z37 ty_pl37 (.one rfl rfl rfl (by repeat constructor) .nil)) rfl ?_; clear hS a; intro a hS
        refine L_op (s_alloc hS ty_z37 rfl ?_); clear hS a; intro a w b14 hS
        refine L_op (s_storeA hS rfl rfl ty_sz37 (by repeat constructor) (by rfl) (by rfl) (by rfl) ?_); clear hS; intro w hS
        refine nL (nT (cS (cR ?_)))
        refine L_e hS (e_assign rfl) rfl ?_; clear hS a; intro a hS
        refine nL (nT (cS (cS (cR ?_))))
        refine L_e hS (e_assign rfl) rfl ?_; clear hS a; intro a hS
        refine nL (nT (wB ?_))
        skip
        refine c_loop (γ := Nat × (Value × Value) × (Value × Value)) (fun G a w => St 220 noB w0 a w [(16, .int .i64 (G.1 : Int)), (15, .bool (decide (m ∈ ns.take G.1))), (10, .pointer (some ⟨b10, 0, none⟩)), (13, .pointer (some ⟨b13, 0, none⟩)), (14, .pointer (some ⟨b14, 0, none⟩)), (8, .pointer (some ⟨b8, 0, none⟩)), (1, .int .i64 (wn : Int)), (2, .string (tx m))] [.blk b13 [.int .i64 6, .string ⟨#[]⟩, G.2.1.2, G.2.1.1] 37, ownA 9 1 G.2.1.1 ((ns.take G.1).eraseIdx wn).length (((ns.take G.1).eraseIdx wn).flatMap encS), ownA 37 4 G.2.1.2 ((ks.take G.1).eraseIdx wn).length (((ks.take G.1).eraseIdx wn).flatMap JX.cs), .blk b14 [.int .i64 6, .string ⟨#[]⟩, G.2.2.2, G.2.2.1] 37, ownA 9 1 G.2.2.1 (ns.take G.1).length ((ns.take G.1).flatMap encS), ownA 37 4 G.2.2.2 ((ks.take G.1).set wn nullX).length (((ks.take G.1).set wn nullX).flatMap JX.cs), .blk b10 [.int .i64 6, .string ⟨#[]⟩, .slice (some ⟨lb, lo, none⟩) ks.length lc, .slice (some ⟨nb, no, none⟩) ks.length nc] 37, parA FX nb no nc lb lo lc ns ks, .blk b8 [.string ⟨#[80, 79, 83, 84]⟩, .string (tx path), .slice (some ⟨pb, 0, none⟩) s.length cp, .bool false] 29, oldA W0] ∧ G.1 ≤ ks.length) (fun G => ks.length - G.1) (0, (.slice none 0 0, .slice none 0 0), (.slice none 0 0, .slice none 0 0)) ⟨((((((hS.own_nil 9 1).own_nil 9 1).own_nil 37 4).own_nil 37 4)).slots (by repeat (first | exact trivial | refine ⟨rfl, ?_⟩))).pick (by repeat (first | exact Pick.nil | (refine Pick.cons (by repeat (first | exact Rem.head | apply Rem.tail)) ?_))), Nat.zero_le _⟩ ?_
        clear hS a; intro G a w hI
        obtain ⟨k, ⟨lnv, llv⟩, ⟨onv, olv⟩⟩ := G
        obtain ⟨hS, hk⟩ := hI
        simp only at hS hk
        obtain ⟨LN, hLN⟩ : ∃ z, (ns.take k).eraseIdx wn = z := ⟨_, rfl⟩
        obtain ⟨LK, hLK⟩ : ∃ z, (ks.take k).eraseIdx wn = z := ⟨_, rfl⟩
        obtain ⟨ON, hON⟩ : ∃ z, ns.take k = z := ⟨_, rfl⟩
        obtain ⟨OK, hOK⟩ : ∃ z, (ks.take k).set wn nullX = z := ⟨_, rfl⟩
        have lLN : LN.length ≤ k := by rw [← hLN]; exact er_len (by omega)
        have lLK : LK.length ≤ k := by rw [← hLK]; exact er_len hk
        have lON : ON.length = k := by rw [← hON, List.length_take]; omega
        have lOK : OK.length = k := by rw [← hOK, List.length_set, List.length_take]; omega
        rw [hLN, hLK, hON, hOK] at hS
        obtain ⟨q125, c125, rfl⟩ := own_slice (hS.gg (X := ownA 9 1 lnv LN.length (LN.flatMap encS)))
        obtain ⟨q135, c135, rfl⟩ := own_slice (hS.gg (X := ownA 37 4 llv LK.length (LK.flatMap JX.cs)))
        obtain ⟨qo1, co1, rfl⟩ := own_slice (hS.gg (X := ownA 9 1 onv ON.length (ON.flatMap encS)))
        obtain ⟨qo2, co2, rfl⟩ := own_slice (hS.gg (X := ownA 37 4 olv OK.length (OK.flatMap JX.cs)))
        refine cS (cS (cR ?_))
        refine L_e hS (e_move rfl) rfl ?_; clear hS a; intro a hS
        (first | refine L_e hS (e_fa0 rfl ty_fo37_2) rfl ?_ | refine L_e hS (e_faK rfl ty_fo37_2) rfl ?_); clear hS a; intro a hS
        refine Rn hS (.c (e_load rfl (by repeat constructor) ty_sc34 (by rfl)) <| .c (e_len rfl rfl ty_sl34) <| .c (e_bin rfl rfl rfl) .n) ?_; clear hS a; intro a hS
        refine nL (nT ?_)
        (first | refine c_ifD hS rfl ?_ ?_ | refine c_if hS rfl ?_ ?_) <;> intro hc95
        ·
         have hkn : k < ks.length := by omega
         obtain ⟨x, hx⟩ : ∃ x, ns[k]? = some x := ⟨_, List.getElem?_eq_getElem (by omega)⟩
         obtain ⟨y, hy⟩ : ∃ y, ks[k]? = some y := ⟨_, List.getElem?_eq_getElem hkn⟩
         obtain ⟨yk, ys, y1, y2, y3, y4, y5, y6, hycs⟩ := kid_four (par_kids (hS.gg (X := parA FX nb no nc lb lo lc ns ks)) y (List.mem_of_getElem? hy))
         refine wS (nT (cS (wB (cS (cR ?_)))))
         refine Rn hS (.m rfl <| .m rfl .n) ?_; clear hS a; intro a hS
         refine L_merge 8 107 (.bool (decide (m ∈ ns.take (k + 1)))) hS ?_ ?_
         · intro hcM107
           (first | refine g_splitD (t := 99) hS rfl ?_ ?_ | refine g_split (t := 99) hS rfl ?_ ?_) <;> (clear hS; intro hg99 hS)
           ·
            refine Rn hS (.f rfl rfl <| .f rfl rfl <| .f rfl rfl <| .f rfl rfl <| .f rfl rfl <| .f rfl rfl <| .f rfl rfl <| .c (e_pk rfl rfl) .n) ?_; clear hS a; intro a hS
            exact hcM107 _ _ (hS.ends 9 107 99 rfl (congrArg Value.bool (by exact (decide_eq_true ((there_step hx).2 (.inl (by rw [hON]; exact hg99)))).symm)) rfl rfl (by first | exact congrArg Value.bool (decide_eq_true hg99).symm | exact congrArg Value.bool hg99.symm | simp [hg99]) rfl)
           (first | refine L_ge hS rfl rfl (e_fa0 rfl ty_fo37_3) rfl ?_ | refine L_ge hS rfl rfl (e_faK rfl ty_fo37_3) rfl ?_); clear hS a; intro a hS
           refine Rn hS (.g rfl rfl (e_load rfl (by repeat constructor) ty_sc35 (by rfl)) <| .g rfl rfl (e_move rfl) <| .g rfl rfl (e_ixN rfl rfl ty_sl35 ty_sz9 (by omega)) <| .g rfl rfl (e_loadC rfl ty_sc9 (fun w hh => par_name (hh (parA FX nb no nc lb lo lc ns ks) (by repeat constructor)) hx)) <| .g rfl rfl (e_move rfl) <| .g rfl rfl (e_binS rfl rfl rfl) <| .c (e_pk rfl rfl) .n) ?_; clear hS a; intro a hS
           exact hcM107 _ _ (hS.ends 9 107 99 rfl (congrArg Value.bool (by exact decide_eq_decide.2 ⟨fun h => (there_step hx).2 (.inr (tx_inj' h)), fun h => congrArg tx (((there_step hx).1 h).resolve_left (fun h2 => hg99 (by rw [← hON]; exact h2)))⟩)) rfl rfl (by first | exact congrArg Value.bool (decide_eq_false hg99).symm | exact congrArg Value.bool hg99.symm | simp [hg99]) rfl)
         · clear hS a; intro a w hS
           simp only [List.drop_succ_cons, List.drop_zero]
           refine L_e hS (e_assign rfl) rfl ?_; clear hS a; intro a hS
           refine nL (nT (cS (cR ?_)))
           (first | refine L_e hS (e_fa0 rfl ty_fo37_2) rfl ?_ | refine L_e hS (e_faK rfl ty_fo37_2) rfl ?_); clear hS a; intro a hS
           refine Rn hS (.c (e_load rfl (by repeat constructor) ty_sc34 (by rfl)) <| .m rfl <| .c (e_ixN rfl rfl ty_sl34 ty_sz37 (by omega)) <| .c (e_loadAC (l := [.int .i64 yk, .string ys, .slice y1 y2 y3, .slice y4 y5 y6]) rfl ty_st37 ty_sz37 (fun w hh j u hj => par_kid (hh (parA FX nb no nc lb lo lc ns ks) (by repeat constructor)) hy j u (by rw [hycs]; exact hj))) .n) ?_; clear hS a; intro a hS
           refine L_op (s_alloc hS ty_z37 rfl ?_); clear hS a; intro a w b17 hS
           refine L_op (s_storeA hS rfl rfl ty_sz37 (by repeat constructor) (by rfl) (by rfl) (by rfl) ?_); clear hS; intro w hS
           refine nL (nT (cS (cS (cR ?_))))
           refine Rn hS (.m rfl <| .m rfl <| .c (e_bin rfl rfl rfl) .n) ?_; clear hS a; intro a hS
           refine nL (nT ?_)
           (first | refine c_ifD hS rfl ?_ ?_ | refine c_if hS rfl ?_ ?_) <;> intro hc115
           ·
            refine cR ?_
            refine L_e hS (e_build ty_z37 ty_pl37 (.one rfl rfl rfl (by repeat constructor) .nil)) rfl ?_; clear hS a; intro a hS
            refine L_op (s_storeA hS rfl rfl ty_sz37 (by repeat constructor) (by rfl) (by rfl) (by rfl) ?_); clear hS; intro w hS
            have hkw : k = wn := by omega
            obtain ⟨LN2, hLN2⟩ : ∃ z, LN = z := ⟨_, rfl⟩
            obtain ⟨LK2, hLK2⟩ : ∃ z, LK = z := ⟨_, rfl⟩
            have eLN : (ns.take (k + 1)).eraseIdx wn = LN2 := by rw [er_eq hx hkw, hLN, hLN2]
            have eLK : (ks.take (k + 1)).eraseIdx wn = LK2 := by rw [er_eq hy hkw, hLK, hLK2]
            rw [hLN2, hLK2] at hS
            replace hS := hS.pick (Γ' := [.blk b17 nullX.cs 37, .blk b13 [.int .i64 6, .string ⟨#[]⟩, .slice q135 LK2.length c135, .slice q125 LN2.length c125] 37, ownA 9 1 (.slice q125 LN2.length c125) LN2.length (LN2.flatMap encS), ownA 37 4 (.slice q135 LK2.length c135) LK2.length (LK2.flatMap JX.cs), .blk b14 [.int .i64 6, .string ⟨#[]⟩, .slice qo2 OK.length co2, .slice qo1 ON.length co1] 37, ownA 9 1 (.slice qo1 ON.length co1) ON.length (ON.flatMap encS), ownA 37 4 (.slice qo2 OK.length co2) OK.length (OK.flatMap JX.cs), .blk b10 [.int .i64 6, .string ⟨#[]⟩, .slice (some ⟨lb, lo, none⟩) ks.length lc, .slice (some ⟨nb, no, none⟩) ks.length nc] 37, parA FX nb no nc lb lo lc ns ks, .blk b8 [.string ⟨#[80, 79, 83, 84]⟩, .string (tx path), .slice (some ⟨pb, 0, none⟩) s.length cp, .bool false] 29, oldA W0]) (by repeat (first | exact Pick.nil | (refine Pick.cons (by repeat (first | exact Rem.head | apply Rem.tail)) ?_)))
            obtain ⟨zk, zs, z1, z2, z3, z4, z5, z6, hz0⟩ := kid_four (null_at 31 w)
            have hzs0 : (ks.take (k + 1)).set wn nullX = OK ++ [nullX] := by rw [st_eq hy hkw, hOK]
            rw [hz0] at hS
            obtain ⟨z, hz4, hzs⟩ : ∃ z : JX, z.cs = [.int .i64 zk, .string zs, .slice z1 z2 z3, .slice z4 z5 z6] ∧ (ks.take (k + 1)).set wn nullX = OK ++ [z] := ⟨nullX, hz0, hzs0⟩
            refine nL (nT (cS ?_))
            refine c_drawS [10] (by kernel_rfl) hS (sub_cons (X := .blk b14 [.int .i64 6, .string ⟨#[]⟩, .slice qo2 OK.length co2, .slice qo1 ON.length co1] 37) (by repeat constructor) (sub_cons (X := .blk b10 [.int .i64 6, .string ⟨#[]⟩, .slice (some ⟨lb, lo, none⟩) ks.length lc, .slice (some ⟨nb, no, none⟩) ks.length nc] 37) (by repeat constructor) (sub_cons (X := parA FX nb no nc lb lo lc ns ks) (by repeat constructor) sub_nil))) ?_; clear hS; intro w hS
            simp only [List.length_cons, List.length_nil, Nat.zero_add, Nat.reduceAdd, List.replicate]
            (first | refine Zt0 0 (tf 1 10) hS rfl want_none (e_fa0 rfl ty_fo37_3) rfl (by kernel_rfl) rfl ?_ | refine Zt0 0 (tf 1 10) hS rfl want_none (e_faK rfl ty_fo37_3) rfl (by kernel_rfl) rfl ?_); clear hS a; intro a hS
            refine Zt 1 (tf 2 9) hS rfl want_none (e_load rfl (by repeat constructor) ty_sc35 (by rfl)) rfl (by kernel_rfl) (sub_cons (by repeat constructor) (sub_cons (by repeat constructor) (sub_cons (by repeat constructor) sub_nil))) rfl ?_; clear hS a; intro a hS
            (first | refine Zt0 2 (tf 3 8) hS rfl want_none (e_fa0 rfl ty_fo37_3) rfl (by kernel_rfl) rfl ?_ | refine Zt0 2 (tf 3 8) hS rfl want_none (e_faK rfl ty_fo37_3) rfl (by kernel_rfl) rfl ?_); clear hS a; intro a hS
            refine Rz hS (sub_cons (by repeat constructor) (sub_cons (by repeat constructor) (sub_cons (by repeat constructor) sub_nil))) (.y 3 (tf 4 7) rfl wN (e_load rfl (by repeat constructor) ty_sc35 (by rfl)) rfl <| .o 4 (tf 5 6) rfl wN (e_move rfl) rfl <| .o 5 (tf 6 5) rfl wN (e_ixN rfl rfl ty_sl35 ty_sz9 (by omega)) rfl <| .y 6 (tf 7 4) rfl wN (e_loadC rfl ty_sc9 (fun w hh => par_name (hh (parA FX nb no nc lb lo lc ns ks) (by repeat constructor)) hx)) rfl .n) ?_; clear hS a; intro a hS
            refine Zo 7 (tf 8 3) hS rfl wN rfl (s_bslice hS ty_sl35 ty_sz9 ty_z9 rfl rfl rfl rfl (.one rfl rfl rfl .nil) rfl ?_); clear hS a; intro a w b144 hS
            refine Z_and hS (sub_cons (by repeat constructor) (sub_cons (by repeat constructor) (sub_cons (by repeat constructor) sub_nil))) ?_
            refine Zo 8 (tf 9 2) hS rfl wN rfl (s_append1 hS rfl rfl ty_sl35 ty_sz9 ty_by9 ty_z9 rfl rfl rfl (by repeat constructor) (by repeat constructor) (by rfl) (by rfl) (fun _ => (by repeat constructor)) (by omega) ?_); clear hS a; intro v145 a w hv145 hS
            obtain ⟨q145, c145, rfl⟩ := own_slice (hS.gg (X := ownA 9 1 v145 (ON.length + 1) (ON.flatMap encS ++ [.string (tx x)])))
            refine Z_and hS (sub_cons (by repeat constructor) (sub_cons (by repeat constructor) (sub_cons (by repeat constructor) sub_nil))) ?_
            (first | refine Zt0 9 (tf 10 1) hS rfl want_none (e_fa0 rfl ty_fo37_3) rfl (by kernel_rfl) rfl ?_ | refine Zt0 9 (tf 10 1) hS rfl want_none (e_faK rfl ty_fo37_3) rfl (by kernel_rfl) rfl ?_); clear hS a; intro a hS
            refine Zo 10 (tf 11 0) hS rfl wN rfl (s_store hS rfl rfl rfl ty_sz35 (by repeat constructor) (by repeat constructor) ?_); clear hS; intro w hS
            refine Z_last (by simp) ?_
            refine Z_done (by kernel_rfl) ?_
            refine nT (cR ?_)
            (first | refine L_e hS (e_fa0 rfl ty_fo37_2) rfl ?_ | refine L_e hS (e_faK rfl ty_fo37_2) rfl ?_); clear hS a; intro a hS
            refine Rn hS (.c (e_load rfl (by repeat constructor) ty_sc34 (by rfl)) <| .c (e_loadA rfl (by repeat constructor) ty_st37 ty_sz37 (by rfl)) .n) ?_; clear hS a; intro a hS
            refine L_op (s_bslice hS ty_sl34 ty_sz37 ty_z37 rfl rfl rfl rfl (.agg rfl rfl .nil) rfl ?_); clear hS a; intro a w b150 hS
            refine L_op (s_append1 hS rfl rfl ty_sl34 ty_sz37 ty_by37 ty_z37 rfl rfl rfl (by repeat constructor) (by repeat constructor) (by rfl) (by rfl) (fun _ => (by repeat constructor)) (by omega) ?_); clear hS a; intro v151 a w hv151 hS
            obtain ⟨q151, c151, rfl⟩ := own_slice (hS.gg (X := ownA 37 4 v151 (OK.length + 1) _))
            (first | refine L_e hS (e_fa0 rfl ty_fo37_2) rfl ?_ | refine L_e hS (e_faK rfl ty_fo37_2) rfl ?_); clear hS a; intro a hS
            refine L_op (s_store hS rfl rfl rfl ty_sz34 (by repeat constructor) (by repeat constructor) ?_); clear hS; intro w hS
            refine nL (n_block (nT (cR ?_)))
            refine L_e hS (e_move rfl) rfl ?_; clear hS a; intro a hS
            (first | refine L_e hS (e_binN rfl rfl rfl (by omega)) rfl ?_ | refine L_e hS (e_bin rfl rfl rfl) rfl ?_); clear hS a; intro a hS
            refine L_e hS (e_assign rfl) rfl ?_; clear hS a; intro a hS
            refine nL ?_
            have eON : ns.take (k + 1) = ON ++ [x] := by rw [tk_succ hx, hON]
            have g1 : ON.length + 1 = (ON ++ [x]).length := by simp
            have g2 : ON.flatMap encS ++ [.string (tx x)] = (ON ++ [x]).flatMap encS := by rw [List.flatMap_append]; rfl
            have g3 : OK.length + 1 = (OK ++ [z]).length := by simp
            have g4 : (OK ++ [z]).flatMap JX.cs = OK.flatMap JX.cs ++ (z.cs ++ []) := by rw [List.flatMap_append]; rfl
            rw [hz4] at g4
            rw [eON, g1, g2, g3, ← g4] at hS
            refine ⟨(k + 1, (.slice q125 LN2.length c125, .slice q135 LK2.length c135), (.slice q145 (ON ++ [x]).length c145, .slice q151 (OK ++ [z]).length c151)), by show ks.length - (k + 1) < ks.length - k; omega, ?_, by show k + 1 ≤ ks.length; omega⟩
            dsimp only
            rw [eLN, eLK, hzs, eON]
            exact (hS.slots (by repeat (first | exact trivial | refine ⟨rfl, ?_⟩))).pick (by repeat (first | exact Pick.nil | (refine Pick.cons (by repeat (first | exact Rem.head | apply Rem.tail)) ?_)))
           refine cS ?_
           refine c_drawS [10] (by kernel_rfl) hS (sub_cons (X := .blk b13 [.int .i64 6, .string ⟨#[]⟩, .slice q135 LK.length c135, .slice q125 LN.length c125] 37) (by repeat constructor) (sub_cons (X := .blk b10 [.int .i64 6, .string ⟨#[]⟩, .slice (some ⟨lb, lo, none⟩) ks.length lc, .slice (some ⟨nb, no, none⟩) ks.length nc] 37) (by repeat constructor) (sub_cons (X := parA FX nb no nc lb lo lc ns ks) (by repeat constructor) sub_nil))) ?_; clear hS; intro w hS
           simp only [List.length_cons, List.length_nil, Nat.zero_add, Nat.reduceAdd, List.replicate]
           (first | refine Zt0 0 (tf 1 10) hS rfl want_none (e_fa0 rfl ty_fo37_3) rfl (by kernel_rfl) rfl ?_ | refine Zt0 0 (tf 1 10) hS rfl want_none (e_faK rfl ty_fo37_3) rfl (by kernel_rfl) rfl ?_); clear hS a; intro a hS
           refine Zt 1 (tf 2 9) hS rfl want_none (e_load rfl (by repeat constructor) ty_sc35 (by rfl)) rfl (by kernel_rfl) (sub_cons (by repeat constructor) (sub_cons (by repeat constructor) (sub_cons (by repeat constructor) sub_nil))) rfl ?_; clear hS a; intro a hS
           (first | refine Zt0 2 (tf 3 8) hS rfl want_none (e_fa0 rfl ty_fo37_3) rfl (by kernel_rfl) rfl ?_ | refine Zt0 2 (tf 3 8) hS rfl want_none (e_faK rfl ty_fo37_3) rfl (by kernel_rfl) rfl ?_); clear hS a; intro a hS
           refine Rz hS (sub_cons (by repeat constructor) (sub_cons (by repeat constructor) (sub_cons (by repeat constructor) sub_nil))) (.y 3 (tf 4 7) rfl wN (e_load rfl (by repeat constructor) ty_sc35 (by rfl)) rfl <| .o 4 (tf 5 6) rfl wN (e_move rfl) rfl <| .o 5 (tf 6 5) rfl wN (e_ixN rfl rfl ty_sl35 ty_sz9 (by omega)) rfl <| .y 6 (tf 7 4) rfl wN (e_loadC rfl ty_sc9 (fun w hh => par_name (hh (parA FX nb no nc lb lo lc ns ks) (by repeat constructor)) hx)) rfl .n) ?_; clear hS a; intro a hS
           refine Zo 7 (tf 8 3) hS rfl wN rfl (s_bslice hS ty_sl35 ty_sz9 ty_z9 rfl rfl rfl rfl (.one rfl rfl rfl .nil) rfl ?_); clear hS a; intro a w b124 hS
           refine Z_and hS (sub_cons (by repeat constructor) (sub_cons (by repeat constructor) (sub_cons (by repeat constructor) sub_nil))) ?_
           refine Zo 8 (tf 9 2) hS rfl wN rfl (s_append1 hS rfl rfl ty_sl35 ty_sz9 ty_by9 ty_z9 rfl rfl rfl (by repeat constructor) (by repeat constructor) (by rfl) (by rfl) (fun _ => (by repeat constructor)) (by omega) ?_); clear hS a; intro v125 a w hv125 hS
           obtain ⟨q125, c125, rfl⟩ := own_slice (hS.gg (X := ownA 9 1 v125 (LN.length + 1) (LN.flatMap encS ++ [.string (tx x)])))
           refine Z_and hS (sub_cons (by repeat constructor) (sub_cons (by repeat constructor) (sub_cons (by repeat constructor) sub_nil))) ?_
           (first | refine Zt0 9 (tf 10 1) hS rfl want_none (e_fa0 rfl ty_fo37_3) rfl (by kernel_rfl) rfl ?_ | refine Zt0 9 (tf 10 1) hS rfl want_none (e_faK rfl ty_fo37_3) rfl (by kernel_rfl) rfl ?_); clear hS a; intro a hS
           refine Zo 10 (tf 11 0) hS rfl wN rfl (s_store hS rfl rfl rfl ty_sz35 (by repeat constructor) (by repeat constructor) ?_); clear hS; intro w hS
           refine Z_last (by simp) ?_
           refine Z_done (by kernel_rfl) ?_
           refine nT ?_
           refine c_drawS [10] (by kernel_rfl) hS (sub_cons (X := .blk b13 [.int .i64 6, .string ⟨#[]⟩, .slice q135 LK.length c135, .slice q125 (LN.length + 1) c125] 37) (by repeat constructor) (sub_cons (X := .blk b10 [.int .i64 6, .string ⟨#[]⟩, .slice (some ⟨lb, lo, none⟩) ks.length lc, .slice (some ⟨nb, no, none⟩) ks.length nc] 37) (by repeat constructor) (sub_cons (X := parA FX nb no nc lb lo lc ns ks) (by repeat constructor) sub_nil))) ?_; clear hS; intro w hS
           simp only [List.length_cons, List.length_nil, Nat.zero_add, Nat.reduceAdd, List.replicate]
           (first | refine Zt0 0 (tf 1 10) hS rfl want_none (e_fa0 rfl ty_fo37_2) rfl (by kernel_rfl) rfl ?_ | refine Zt0 0 (tf 1 10) hS rfl want_none (e_faK rfl ty_fo37_2) rfl (by kernel_rfl) rfl ?_); clear hS a; intro a hS
           refine Zt 1 (tf 2 9) hS rfl want_none (e_load rfl (by repeat constructor) ty_sc34 (by rfl)) rfl (by kernel_rfl) (sub_cons (by repeat constructor) (sub_cons (by repeat constructor) (sub_cons (by repeat constructor) sub_nil))) rfl ?_; clear hS a; intro a hS
           (first | refine Zt0 2 (tf 3 8) hS rfl want_none (e_fa0 rfl ty_fo37_2) rfl (by kernel_rfl) rfl ?_ | refine Zt0 2 (tf 3 8) hS rfl want_none (e_faK rfl ty_fo37_2) rfl (by kernel_rfl) rfl ?_); clear hS a; intro a hS
           refine Rz hS (sub_cons (by repeat constructor) (sub_cons (by repeat constructor) (sub_cons (by repeat constructor) sub_nil))) (.y 3 (tf 4 7) rfl wN (e_load rfl (by repeat constructor) ty_sc34 (by rfl)) rfl <| .o 4 (tf 5 6) rfl wN (e_move rfl) rfl <| .o 5 (tf 6 5) rfl wN (e_ixN rfl rfl ty_sl34 ty_sz37 (by omega)) rfl <| .y 6 (tf 7 4) rfl wN (e_loadAC (l := [.int .i64 yk, .string ys, .slice y1 y2 y3, .slice y4 y5 y6]) rfl ty_st37 ty_sz37 (fun w hh j u hj => par_kid (hh (parA FX nb no nc lb lo lc ns ks) (by repeat constructor)) hy j u (by rw [hycs]; exact hj))) rfl .n) ?_; clear hS a; intro a hS
           refine Zo 7 (tf 8 3) hS rfl wN rfl (s_bslice hS ty_sl34 ty_sz37 ty_z37 rfl rfl rfl rfl (.agg rfl rfl .nil) rfl ?_); clear hS a; intro a w b134 hS
           refine Z_and hS (sub_cons (by repeat constructor) (sub_cons (by repeat constructor) (sub_cons (by repeat constructor) sub_nil))) ?_
           refine Zo 8 (tf 9 2) hS rfl wN rfl (s_append1 hS rfl rfl ty_sl34 ty_sz37 ty_by37 ty_z37 rfl rfl rfl (by repeat constructor) (by repeat constructor) (by rfl) (by rfl) (fun _ => (by repeat constructor)) (by omega) ?_); clear hS a; intro v135 a w hv135 hS
           obtain ⟨q135, c135, rfl⟩ := own_slice (hS.gg (X := ownA 37 4 v135 (LK.length + 1) _))
           refine Z_and hS (sub_cons (by repeat constructor) (sub_cons (by repeat constructor) (sub_cons (by repeat constructor) sub_nil))) ?_
           (first | refine Zt0 9 (tf 10 1) hS rfl want_none (e_fa0 rfl ty_fo37_2) rfl (by kernel_rfl) rfl ?_ | refine Zt0 9 (tf 10 1) hS rfl want_none (e_faK rfl ty_fo37_2) rfl (by kernel_rfl) rfl ?_); clear hS a; intro a hS
           refine Zo 10 (tf 11 0) hS rfl wN rfl (s_store hS rfl rfl rfl ty_sz34 (by repeat constructor) (by repeat constructor) ?_); clear hS; intro w hS
           have hkw : ¬ k = wn := fun h => hc115 (by omega)
           obtain ⟨LN2, hLN2⟩ : ∃ z, LN ++ [x] = z := ⟨_, rfl⟩
           obtain ⟨LK2, hLK2⟩ : ∃ z, LK ++ [y] = z := ⟨_, rfl⟩
           have eLN : (ns.take (k + 1)).eraseIdx wn = LN2 := by rw [er_ne hx hkw, hLN, hLN2]
           have eLK : (ks.take (k + 1)).eraseIdx wn = LK2 := by rw [er_ne hy hkw, hLK, hLK2]
           have f1 : LN.length + 1 = LN2.length := by rw [← hLN2]; simp
           have f2 : LN.flatMap encS ++ [.string (tx x)] = LN2.flatMap encS := by rw [← hLN2, List.flatMap_append]; rfl
           have f3 : LK.length + 1 = LK2.length := by rw [← hLK2]; simp
           have f4 : LK.flatMap JX.cs ++ ([.int .i64 yk, .string ys, .slice y1 y2 y3, .slice y4 y5 y6] ++ []) = LK2.flatMap JX.cs := by rw [← hLK2, List.flatMap_append, ← hycs]; simp
           rw [f1, f2, f3, f4] at hS
           have hzs0 : (ks.take (k + 1)).set wn nullX = OK ++ [y] := by rw [st_ne hy hkw, hOK]
           obtain ⟨z, zk, zs, z1, z2, z3, z4, z5, z6, hz4, hzs, e1, e2, e3, e4, e5, e6, e7, e8⟩ : ∃ (z : JX) (zk : Int) (zs : ByteArray) (z1 : Option Addr) (z2 z3 : Nat) (z4 : Option Addr) (z5 z6 : Nat), z.cs = [.int .i64 zk, .string zs, .slice z1 z2 z3, .slice z4 z5 z6] ∧ (ks.take (k + 1)).set wn nullX = OK ++ [z] ∧ yk = zk ∧ ys = zs ∧ y1 = z1 ∧ y2 = z2 ∧ y3 = z3 ∧ y4 = z4 ∧ y5 = z5 ∧ y6 = z6 := ⟨y, yk, ys, y1, y2, y3, y4, y5, y6, hycs, hzs0, rfl, rfl, rfl, rfl, rfl, rfl, rfl, rfl⟩
           subst e1 e2 e3 e4 e5 e6 e7 e8
           replace hS := hS.pick (Γ' := [.blk b17 [.int .i64 yk, .string ys, .slice y1 y2 y3, .slice y4 y5 y6] 37, .blk b13 [.int .i64 6, .string ⟨#[]⟩, .slice q135 LK2.length c135, .slice q125 LN2.length c125] 37, ownA 9 1 (.slice q125 LN2.length c125) LN2.length (LN2.flatMap encS), ownA 37 4 (.slice q135 LK2.length c135) LK2.length (LK2.flatMap JX.cs), .blk b14 [.int .i64 6, .string ⟨#[]⟩, .slice qo2 OK.length co2, .slice qo1 ON.length co1] 37, ownA 9 1 (.slice qo1 ON.length co1) ON.length (ON.flatMap encS), ownA 37 4 (.slice qo2 OK.length co2) OK.length (OK.flatMap JX.cs), .blk b10 [.int .i64 6, .string ⟨#[]⟩, .slice (some ⟨lb, lo, none⟩) ks.length lc, .slice (some ⟨nb, no, none⟩) ks.length nc] 37, parA FX nb no nc lb lo lc ns ks, .blk b8 [.string ⟨#[80, 79, 83, 84]⟩, .string (tx path), .slice (some ⟨pb, 0, none⟩) s.length cp, .bool false] 29, oldA W0]) (by repeat (first | exact Pick.nil | (refine Pick.cons (by repeat (first | exact Rem.head | apply Rem.tail)) ?_)))
           refine Z_last (by simp) ?_
           refine Z_done (by kernel_rfl) ?_
           refine nT (cS ?_)
           refine c_drawS [10] (by kernel_rfl) hS (sub_cons (X := .blk b14 [.int .i64 6, .string ⟨#[]⟩, .slice qo2 OK.length co2, .slice qo1 ON.length co1] 37) (by repeat constructor) (sub_cons (X := .blk b10 [.int .i64 6, .string ⟨#[]⟩, .slice (some ⟨lb, lo, none⟩) ks.length lc, .slice (some ⟨nb, no, none⟩) ks.length nc] 37) (by repeat constructor) (sub_cons (X := parA FX nb no nc lb lo lc ns ks) (by repeat constructor) sub_nil))) ?_; clear hS; intro w hS
           simp only [List.length_cons, List.length_nil, Nat.zero_add, Nat.reduceAdd, List.replicate]
           (first | refine Zt0 0 (tf 1 10) hS rfl want_none (e_fa0 rfl ty_fo37_3) rfl (by kernel_rfl) rfl ?_ | refine Zt0 0 (tf 1 10) hS rfl want_none (e_faK rfl ty_fo37_3) rfl (by kernel_rfl) rfl ?_); clear hS a; intro a hS
           refine Zt 1 (tf 2 9) hS rfl want_none (e_load rfl (by repeat constructor) ty_sc35 (by rfl)) rfl (by kernel_rfl) (sub_cons (by repeat constructor) (sub_cons (by repeat constructor) (sub_cons (by repeat constructor) sub_nil))) rfl ?_; clear hS a; intro a hS
           (first | refine Zt0 2 (tf 3 8) hS rfl want_none (e_fa0 rfl ty_fo37_3) rfl (by kernel_rfl) rfl ?_ | refine Zt0 2 (tf 3 8) hS rfl want_none (e_faK rfl ty_fo37_3) rfl (by kernel_rfl) rfl ?_); clear hS a; intro a hS
           refine Rz hS (sub_cons (by repeat constructor) (sub_cons (by repeat constructor) (sub_cons (by repeat constructor) sub_nil))) (.y 3 (tf 4 7) rfl wN (e_load rfl (by repeat constructor) ty_sc35 (by rfl)) rfl <| .o 4 (tf 5 6) rfl wN (e_move rfl) rfl <| .o 5 (tf 6 5) rfl wN (e_ixN rfl rfl ty_sl35 ty_sz9 (by omega)) rfl <| .y 6 (tf 7 4) rfl wN (e_loadC rfl ty_sc9 (fun w hh => par_name (hh (parA FX nb no nc lb lo lc ns ks) (by repeat constructor)) hx)) rfl .n) ?_; clear hS a; intro a hS
           refine Zo 7 (tf 8 3) hS rfl wN rfl (s_bslice hS ty_sl35 ty_sz9 ty_z9 rfl rfl rfl rfl (.one rfl rfl rfl .nil) rfl ?_); clear hS a; intro a w b144 hS
           refine Z_and hS (sub_cons (by repeat constructor) (sub_cons (by repeat constructor) (sub_cons (by repeat constructor) sub_nil))) ?_
           refine Zo 8 (tf 9 2) hS rfl wN rfl (s_append1 hS rfl rfl ty_sl35 ty_sz9 ty_by9 ty_z9 rfl rfl rfl (by repeat constructor) (by repeat constructor) (by rfl) (by rfl) (fun _ => (by repeat constructor)) (by omega) ?_); clear hS a; intro v145 a w hv145 hS
           obtain ⟨q145, c145, rfl⟩ := own_slice (hS.gg (X := ownA 9 1 v145 (ON.length + 1) (ON.flatMap encS ++ [.string (tx x)])))
           refine Z_and hS (sub_cons (by repeat constructor) (sub_cons (by repeat constructor) (sub_cons (by repeat constructor) sub_nil))) ?_
           (first | refine Zt0 9 (tf 10 1) hS rfl want_none (e_fa0 rfl ty_fo37_3) rfl (by kernel_rfl) rfl ?_ | refine Zt0 9 (tf 10 1) hS rfl want_none (e_faK rfl ty_fo37_3) rfl (by kernel_rfl) rfl ?_); clear hS a; intro a hS
           refine Zo 10 (tf 11 0) hS rfl wN rfl (s_store hS rfl rfl rfl ty_sz35 (by repeat constructor) (by repeat constructor) ?_); clear hS; intro w hS
           refine Z_last (by simp) ?_
           refine Z_done (by kernel_rfl) ?_
           refine nT (cR ?_)
           (first | refine L_e hS (e_fa0 rfl ty_fo37_2) rfl ?_ | refine L_e hS (e_faK rfl ty_fo37_2) rfl ?_); clear hS a; intro a hS
           refine Rn hS (.c (e_load rfl (by repeat constructor) ty_sc34 (by rfl)) <| .c (e_loadA rfl (by repeat constructor) ty_st37 ty_sz37 (by rfl)) .n) ?_; clear hS a; intro a hS
           refine L_op (s_bslice hS ty_sl34 ty_sz37 ty_z37 rfl rfl rfl rfl (.agg rfl rfl .nil) rfl ?_); clear hS a; intro a w b150 hS
           refine L_op (s_append1 hS rfl rfl ty_sl34 ty_sz37 ty_by37 ty_z37 rfl rfl rfl (by repeat constructor) (by repeat constructor) (by rfl) (by rfl) (fun _ => (by repeat constructor)) (by omega) ?_); clear hS a; intro v151 a w hv151 hS
           obtain ⟨q151, c151, rfl⟩ := own_slice (hS.gg (X := ownA 37 4 v151 (OK.length + 1) _))
           (first | refine L_e hS (e_fa0 rfl ty_fo37_2) rfl ?_ | refine L_e hS (e_faK rfl ty_fo37_2) rfl ?_); clear hS a; intro a hS
           refine L_op (s_store hS rfl rfl rfl ty_sz34 (by repeat constructor) (by repeat constructor) ?_); clear hS; intro w hS
           refine nL (n_block (nT (cR ?_)))
           refine L_e hS (e_move rfl) rfl ?_; clear hS a; intro a hS
           (first | refine L_e hS (e_binN rfl rfl rfl (by omega)) rfl ?_ | refine L_e hS (e_bin rfl rfl rfl) rfl ?_); clear hS a; intro a hS
           refine L_e hS (e_assign rfl) rfl ?_; clear hS a; intro a hS
           refine nL ?_
           have eON : ns.take (k + 1) = ON ++ [x] := by rw [tk_succ hx, hON]
           have g1 : ON.length + 1 = (ON ++ [x]).length := by simp
           have g2 : ON.flatMap encS ++ [.string (tx x)] = (ON ++ [x]).flatMap encS := by rw [List.flatMap_append]; rfl
           have g3 : OK.length + 1 = (OK ++ [z]).length := by simp
           have g4 : (OK ++ [z]).flatMap JX.cs = OK.flatMap JX.cs ++ (z.cs ++ []) := by rw [List.flatMap_append]; rfl
           rw [hz4] at g4
           rw [eON, g1, g2, g3, ← g4] at hS
           refine ⟨(k + 1, (.slice q125 LN2.length c125, .slice q135 LK2.length c135), (.slice q145 (ON ++ [x]).length c145, .slice q151 (OK ++ [z]).length c151)), by show ks.length - (k + 1) < ks.length - k; omega, ?_, by show k + 1 ≤ ks.length; omega⟩
           dsimp only
           rw [eLN, eLK, hzs, eON]
           exact (hS.slots (by repeat (first | exact trivial | refine ⟨rfl, ?_⟩))).pick (by repeat (first | exact Pick.nil | (refine Pick.cons (by repeat (first | exact Rem.head | apply Rem.tail)) ?_)))
        have hke : ks.length ≤ k := by omega
        have hON' : ON = ns := by rw [← hON, List.take_of_length_le (by omega)]
        have hLN' : LN = ns.eraseIdx wn := by rw [← hLN, List.take_of_length_le (by omega)]
        have hLK' : LK = ks.eraseIdx wn := by rw [← hLK, List.take_of_length_le hke]
        have hOK' : OK = ks.set wn nullX := by rw [← hOK, List.take_of_length_le hke]
        obtain ⟨p, hp⟩ : ∃ p, rs[wn]? = some p := ⟨_, List.getElem?_eq_getElem (by omega)⟩
        have hsp := take_split hp
        have eL : JV.mk 6 [] LN (LK.map JX.v) = objP (rs.take wn ++ rs.drop (wn + 1)) := by rw [hLN', hLK']; exact v_less hks hns
        have eO : JV.mk 6 [] ON (OK.map JX.v) = objP (rs.take wn ++ (p.1, jNull) :: rs.drop (wn + 1)) := by rw [hON', hOK']; exact v_other hp hks hns
        obtain ⟨A, hA⟩ : ∃ A, rs.take wn = A := ⟨_, rfl⟩
        obtain ⟨B, hB⟩ : ∃ B, rs.drop (wn + 1) = B := ⟨_, rfl⟩
        rw [hA, hB] at hsp eL eO
        have hn20 : lenJ 33 (objP rs) ≤ 20000 := by rw [pln]; exact hs20
        have hL : Bad (A ++ B) fl ((kx : Int) + 1) 32 := ff_less (p := p) hfok (by rw [← hsp]; exact hbk) (by rw [← hsp]; exact pg) (by rw [← hsp]; exact pf) (by rw [← hsp]; exact psm) (by rw [← hsp]; exact hn20)
        have hO : Bad (A ++ (p.1, jNull) :: B) fl ((kx : Int) + 1) 13 := ff_other hfok (by rw [← hsp]; exact hbk) (by rw [← hsp]; exact pg) (by rw [← hsp]; exact pf) (by rw [← hsp]; exact psm) (by rw [← hsp]; exact hn20)
        obtain ⟨mg, mh, mn, mb⟩ := ff_more (nm := m) (kd := (kx : Int) + 1) hm100 hfok hbk hne pg psm (by omega) hn20
        have eM : JV.mk 6 [] (ns ++ [m]) ((ks ++ [nullX]).map JX.v) = objP (rs ++ [(m, jNull)]) := v_more hks hns
        refine wp_exit ?_
        refine x_then (x_then (x_hit ?_))
        refine nT (cS (cR ?_))
        refine L_e hS (e_loadA rfl (by repeat constructor) ty_st37 ty_sz37 (by rfl)) rfl ?_; clear hS a; intro a hS
        refine L_op (s_callN hS (.cons rfl .nil) cf12 rfl (jPrint_N 33 (objP (A ++ B)) [.int .i64 6, .string ⟨#[]⟩, .slice q135 LK.length c135, .slice q125 LN.length c125] _ (hG.keep (hS.gg (X := oldA W0))).u8 hL.g hL.m (by rw [← eL]; exact obj_at (t := []) rfl rfl (hS.ok (ownA 37 4 (.slice q135 LK.length c135) LK.length (LK.flatMap JX.cs)) (by repeat constructor)) (hS.ok (ownA 9 1 (.slice q125 LN.length c125) LN.length (LN.flatMap encS)) (by repeat constructor)) (fun x hx => par_kids (hS.gg (X := parA FX nb no nc lb lo lc ns ks)) x (by rw [hLK'] at hx; exact List.mem_of_mem_eraseIdx hx))) (Nat.le_trans hL.n (by decide))) ?_); clear hS a; intro x155 a w hS
        obtain ⟨pb1, pc1, po1, ps1, e1, e1', hp1, hs1, hc1⟩ := pr_done x155 hL.f hL.n
        rw [e1, e1'] at hS
        refine Rn hS (.m rfl <| .c (e_extract rfl rfl) <| .c (e_extract rfl rfl) .n) ?_; clear hS a; intro a hS
        (first | refine L_e hS (e_fa0 rfl ty_fo29_2) rfl ?_ | refine L_e hS (e_faK rfl ty_fo29_2) rfl ?_); clear hS a; intro a hS
        refine L_op (s_store hS rfl rfl rfl ty_sz27 (by repeat constructor) (by repeat constructor) ?_); clear hS; intro w hS
        refine nL (nT (cS (cR ?_)))
        refine L_e hS (e_loadA rfl (by repeat constructor) ty_st29 ty_sz29 (by rfl)) rfl ?_; clear hS a; intro a hS
        refine L_op (s_callN hS (.cons rfl .nil) cf14 rfl (fBindPost_N w (hG.keep (hS.gg (X := oldA W0))) kx path fl hrq.x (some ⟨pb1, 0, none⟩) pc1 ps1 (txa_bb (hS.gg (X := bbA 5 pb1 (bsI ps1))) hc1 (by omega)) (hL.b _ _ hp1 hs1).1 false w (old_refl w)) ?_); clear hS a; intro x161 a w hS
        obtain ⟨f1, f2⟩ := bn_err x161 (hL.b _ _ hp1 hs1).2 (by decide)
        rw [f1, f2] at hS
        refine Rn hS (.m rfl <| .c (e_extract rfl rfl) <| .c (e_extract rfl rfl) .n) ?_; clear hS a; intro a hS
        refine L_op (s_alloc hS ty_z24 rfl ?_); clear hS a; intro a w b18 hS
        refine L_op (s_storeA (l := cellsC (zCd 0) (.slice none 0 0)) hS rfl rfl ty_sz24 (by repeat constructor) rfl rfl rfl ?_); clear hS; intro w hS
        refine L_e hS (e_assign rfl) rfl ?_; clear hS a; intro a hS
        refine nL (nT (cS (cR ?_)))
        refine L_e hS (e_loadA rfl (by repeat constructor) ty_st37 ty_sz37 (by rfl)) rfl ?_; clear hS a; intro a hS
        refine L_op (s_callN hS (.cons rfl .nil) cf12 rfl (jPrint_N 33 (objP (A ++ (p.1, jNull) :: B)) [.int .i64 6, .string ⟨#[]⟩, .slice qo2 OK.length co2, .slice qo1 ON.length co1] _ (hG.keep (hS.gg (X := oldA W0))).u8 hO.g hO.m (by rw [← eO]; exact obj_at (t := []) rfl rfl (hS.ok (ownA 37 4 (.slice qo2 OK.length co2) OK.length (OK.flatMap JX.cs)) (by repeat constructor)) (hS.ok (ownA 9 1 (.slice qo1 ON.length co1) ON.length (ON.flatMap encS)) (by repeat constructor)) (fun x hx => by
 rw [hOK'] at hx
 rcases List.mem_or_eq_of_mem_set hx with hx | rfl
 · exact par_kids (hS.gg (X := parA FX nb no nc lb lo lc ns ks)) x hx
 · exact null_at 31 _)) (Nat.le_trans hO.n (by decide))) ?_); clear hS a; intro x166 a w hS
        obtain ⟨pb2, pc2, po2, ps2, e2, e2', hp2, hs2, hc2⟩ := pr_done x166 hO.f hO.n
        rw [e2, e2'] at hS
        refine Rn hS (.m rfl <| .c (e_extract rfl rfl) <| .c (e_extract rfl rfl) .n) ?_; clear hS a; intro a hS
        (first | refine L_e hS (e_fa0 rfl ty_fo29_2) rfl ?_ | refine L_e hS (e_faK rfl ty_fo29_2) rfl ?_); clear hS a; intro a hS
        refine L_op (s_store hS rfl rfl rfl ty_sz27 (by repeat constructor) (by repeat constructor) ?_); clear hS; intro w hS
        refine nL (nT (cS (cR ?_)))
        refine L_e hS (e_loadA rfl (by repeat constructor) ty_st29 ty_sz29 (by rfl)) rfl ?_; clear hS a; intro a hS
        refine L_op (s_callN hS (.cons rfl .nil) cf14 rfl (fBindPost_N w (hG.keep (hS.gg (X := oldA W0))) kx path fl hrq.x (some ⟨pb2, 0, none⟩) pc2 ps2 (txa_bb (hS.gg (X := bbA 5 pb2 (bsI ps2))) hc2 (by omega)) (hO.b _ _ hp2 hs2).1 false w (old_refl w)) ?_); clear hS a; intro x172 a w hS
        obtain ⟨f3, f4⟩ := bn_err x172 (hO.b _ _ hp2 hs2).2 (by decide)
        rw [f3, f4] at hS
        refine Rn hS (.m rfl <| .c (e_extract rfl rfl) <| .c (e_extract rfl rfl) .n) ?_; clear hS a; intro a hS
        refine L_op (s_alloc hS ty_z24 rfl ?_); clear hS a; intro a w b20 hS
        refine L_op (s_storeA (l := cellsC (zCd 0) (.slice none 0 0)) hS rfl rfl ty_sz24 (by repeat constructor) rfl rfl rfl ?_); clear hS; intro w hS
        refine L_e hS (e_assign rfl) rfl ?_; clear hS a; intro a hS
        refine nL (nT (cS (cS (cR ?_))))
        refine L_e hS (e_move rfl) rfl ?_; clear hS a; intro a hS
        refine L_op (s_callP hS (.cons rfl .nil) cf10 rfl (lNum_P 32 _) ?_); clear hS a; intro a w hS
        refine Rn hS (.c (e_bin rfl rfl rfl) <| .m rfl .n) ?_; clear hS a; intro a hS
        replace hS := hS.is (t := 178) (c := false) rfl (rfl)
        refine L_ge hS rfl rfl (e_move rfl) rfl ?_; clear hS a; intro a hS
        refine L_go hS rfl rfl (s_callP hS (.cons rfl .nil) cf10 rfl (lNum_P 13 _) ?_); clear hS a; intro a w hS
        refine Rn hS (.g rfl rfl (e_bin rfl rfl rfl) <| .c (e_pk rfl rfl) .n) ?_; clear hS a; intro a hS
        refine nL (nT ?_)
        replace hS := hS.is (t := 182) (c := false) rfl (rfl)
        refine c_if_f hS rfl ?_
        refine wS (nT (cS (cR ?_)))
        refine L_op (s_bslice hS ty_sl35 ty_sz9 ty_z9 rfl rfl rfl rfl .nil rfl ?_); clear hS a; intro a w b183 hS
        replace hS := hS.swap (X := .blk b183 [] 9) (Y := ownA 9 1 (.slice (some ⟨b183, 0, none⟩) 0 0) 0 []) (by repeat constructor) (own_empty (hS.gg (X := .blk b183 [] 9))) (fun b hb => by simpa [ownA, Asn.F, Value.ownBlock, eq_comm] using hb) rfl
        (first | refine L_e hS (e_fa0 rfl ty_fo37_3) rfl ?_ | refine L_e hS (e_faK rfl ty_fo37_3) rfl ?_); clear hS a; intro a hS
        refine L_e hS (e_load rfl (by repeat constructor) ty_sc35 (by rfl)) rfl ?_; clear hS a; intro a hS
        refine L_op (s_appendL hS rfl rfl ty_sl35 ty_sz9 ty_by9 ty_z9 rfl rfl rfl (by repeat constructor) (ys := ns.flatMap encS) (by rw [flat_len encS 1 (fun _ => rfl), hnl]) (.inr ⟨nb, no, rfl, par_names (hS.gg (X := parA FX nb no nc lb lo lc ns ks))⟩) (names_one ns) (by omega) (fun _ => (by repeat constructor)) ?_); clear hS a; intro v186 a w hv186 hS
        obtain ⟨q186, c186, rfl⟩ := own_slice (hS.gg (X := ownA 9 1 v186 (0 + ks.length) ([] ++ ns.flatMap encS)))
        rw [Nat.zero_add, List.nil_append] at hS
        refine L_e hS (e_move rfl) rfl ?_; clear hS a; intro a hS
        refine L_op (s_bslice hS ty_sl35 ty_sz9 ty_z9 rfl rfl rfl rfl (.one rfl rfl rfl .nil) rfl ?_); clear hS a; intro a w b188 hS
        refine L_op (s_append1 hS rfl rfl ty_sl35 ty_sz9 ty_by9 ty_z9 rfl rfl rfl (by repeat constructor) (by repeat constructor) (by rfl) (by rfl) (fun _ => (by repeat constructor)) (by omega) ?_); clear hS a; intro v189 a w hv189 hS
        obtain ⟨q189, c189, rfl⟩ := own_slice (hS.gg (X := ownA 9 1 v189 (ks.length + 1) (ns.flatMap encS ++ [.string (tx m)])))
        (first | refine L_e hS (e_fa0 rfl ty_fo37_3) rfl ?_ | refine L_e hS (e_faK rfl ty_fo37_3) rfl ?_); clear hS a; intro a hS
        refine L_op (s_store hS rfl rfl rfl ty_sz35 (by repeat constructor) (by repeat constructor) ?_); clear hS; intro w hS
        refine nL (nT (cS (cR ?_)))
        refine L_op (s_bslice hS ty_sl34 ty_sz37 ty_z37 rfl rfl rfl rfl .nil rfl ?_); clear hS a; intro a w b191 hS
        replace hS := hS.swap (X := .blk b191 [] 37) (Y := ownA 37 4 (.slice (some ⟨b191, 0, none⟩) 0 0) 0 []) (by repeat constructor) (own_empty (hS.gg (X := .blk b191 [] 37))) (fun b hb => by simpa [ownA, Asn.F, Value.ownBlock, eq_comm] using hb) rfl
        (first | refine L_e hS (e_fa0 rfl ty_fo37_2) rfl ?_ | refine L_e hS (e_faK rfl ty_fo37_2) rfl ?_); clear hS a; intro a hS
        refine L_e hS (e_load rfl (by repeat constructor) ty_sc34 (by rfl)) rfl ?_; clear hS a; intro a hS
        refine L_op (s_appendL hS rfl rfl ty_sl34 ty_sz37 ty_by37 ty_z37 rfl rfl rfl (by repeat constructor) (ys := ks.flatMap JX.cs) (flat_len JX.cs 4 JX.len ks) (.inr ⟨lb, lo, rfl, par_all (hS.gg (X := parA FX nb no nc lb lo lc ns ks))⟩) (kids_one ks) (by omega) (fun _ => (by repeat constructor)) ?_); clear hS a; intro v194 a w hv194 hS
        obtain ⟨q194, c194, rfl⟩ := own_slice (hS.gg (X := ownA 37 4 v194 (0 + ks.length) ([] ++ ks.flatMap JX.cs)))
        rw [Nat.zero_add, List.nil_append] at hS
        refine L_e hS (e_build ty_z37 ty_pl37 (.one rfl rfl rfl (by repeat constructor) .nil)) rfl ?_; clear hS a; intro a hS
        refine L_op (s_bslice hS ty_sl34 ty_sz37 ty_z37 rfl rfl rfl rfl (.agg rfl rfl .nil) rfl ?_); clear hS a; intro a w b196 hS
        refine L_op (s_append1 hS rfl rfl ty_sl34 ty_sz37 ty_by37 ty_z37 rfl rfl rfl (by repeat constructor) (by repeat constructor) (by rfl) (by rfl) (fun _ => (by repeat constructor)) (by omega) ?_); clear hS a; intro v197 a w hv197 hS
        obtain ⟨q197, c197, rfl⟩ := own_slice (hS.gg (X := ownA 37 4 v197 (ks.length + 1) _))
        (first | refine L_e hS (e_fa0 rfl ty_fo37_2) rfl ?_ | refine L_e hS (e_faK rfl ty_fo37_2) rfl ?_); clear hS a; intro a hS
        refine L_op (s_store hS rfl rfl rfl ty_sz34 (by repeat constructor) (by repeat constructor) ?_); clear hS; intro w hS
        refine nL (nT (cS ?_))
        have m1 : (ks ++ [nullX]).flatMap JX.cs = ks.flatMap JX.cs ++ ([.int .i64 0, .string ⟨#[]⟩, .slice none 0 0, .slice none 0 0] ++ []) := by rw [List.flatMap_append]; rfl
        have m2 : ns.flatMap encS ++ [.string (tx m)] = (ns ++ [m]).flatMap encS := by rw [List.flatMap_append]; rfl
        rw [← m1, m2] at hS
        refine cR ?_
        refine L_e hS (e_loadA rfl (by repeat constructor) ty_st37 ty_sz37 (by rfl)) rfl ?_; clear hS a; intro a hS
        refine L_op (s_callN hS (.cons rfl .nil) cf12 rfl (jPrint_N 33 (objP (rs ++ [(m, jNull)])) [.int .i64 6, .string ⟨#[]⟩, .slice q197 (ks.length + 1) c197, .slice q189 (ks.length + 1) c189] _ (hG.keep (hS.gg (X := oldA W0))).u8 mg mh (by rw [← eM]; exact obj_at (t := []) (m := ks.length + 1) (m2 := ks.length + 1) (by simp) (by simp [hnl]) (hS.ok (ownA 37 4 (.slice q197 (ks.length + 1) c197) (ks.length + 1) ((ks ++ [nullX]).flatMap JX.cs)) (by repeat constructor)) (hS.ok (ownA 9 1 (.slice q189 (ks.length + 1) c189) (ks.length + 1) ((ns ++ [m]).flatMap encS)) (by repeat constructor)) (fun x hx => by
 rcases List.mem_append.1 hx with hx | hx
 · exact par_kids (hS.gg (X := parA FX nb no nc lb lo lc ns ks)) x hx
 · rw [List.mem_singleton.1 hx]; exact null_at 31 _)) (by omega)) ?_); clear hS a; intro x201 a w hS
        obtain ⟨pq, pm, pc, pe, hpv, hpc⟩ := pr_open x201
        rw [hpv] at hS
        rw [hON'] at hS
        refine Rn hS (.m rfl <| .c (e_extract rfl rfl) <| .c (e_extract rfl rfl) <| .a rfl <| .a rfl .n) ?_; clear hS a; intro a hS
        refine nL (nT (cS (cS (cR ?_))))
        refine Rn hS (.m rfl <| .m rfl .n) ?_; clear hS a; intro a hS
        refine L_merge 4 209 (.bool (decide (m ∈ ns ∨ pe ≠ 0))) hS ?_ ?_
        · intro hcM209
          (first | refine g_splitD (t := 205) hS rfl ?_ ?_ | refine g_split (t := 205) hS rfl ?_ ?_) <;> (clear hS; intro hg205 hS)
          ·
           refine Rn hS (.f rfl rfl <| .f rfl rfl <| .f rfl rfl <| .c (e_pk rfl rfl) .n) ?_; clear hS a; intro a hS
           exact hcM209 _ _ (hS.ends 5 209 205 rfl (congrArg Value.bool (by exact (decide_eq_true (.inl hg205)).symm)) rfl rfl (by first | exact congrArg Value.bool (decide_eq_true hg205).symm | exact congrArg Value.bool hg205.symm | simp [hg205]) rfl)
          refine L_ge hS rfl rfl (e_move rfl) rfl ?_; clear hS a; intro a hS
          refine L_go hS rfl rfl (s_callP hS (.cons rfl .nil) cf10 rfl (lNum_P pe _) ?_); clear hS a; intro a w hS
          refine Rn hS (.g rfl rfl (e_bin rfl rfl rfl) <| .c (e_pk rfl rfl) .n) ?_; clear hS a; intro a hS
          exact hcM209 _ _ (hS.ends 5 209 205 rfl (congrArg Value.bool (by exact decide_eq_decide.2 ⟨.inr, fun h => h.resolve_left hg205⟩)) rfl rfl (by first | exact congrArg Value.bool (decide_eq_false hg205).symm | exact congrArg Value.bool hg205.symm | simp [hg205]) rfl)
        · clear hS a; intro a w hS
          simp only [List.drop_succ_cons, List.drop_zero]
          refine nL (nT ?_)
          (first | refine c_ifD hS rfl ?_ ?_ | refine c_if hS rfl ?_ ?_) <;> intro hc209
          ·
           refine cS (cR ?_)
           refine L_e hS (e_assign rfl) rfl ?_; clear hS a; intro a hS
           refine nL (nT (wp_ret (r_then ?_)))
           refine c_ret1 hS Tryz.results4 (.tmp rfl) ?_
           exact ⟨rfl, hS.chg⟩
          have hno : m ∉ ns := fun h => hc209 (.inl h)
          have hpe : pe = 0 := Classical.not_not.1 fun h => hc209 (.inr h)
          obtain ⟨px, rfl, rfl, rfl, rfl⟩ : ∃ x : { x : (Nat × Nat) × JV × List UInt8 // okF 33 0 (objP (rs ++ [(m, jNull)])) ∧ PJ 33 (objP (rs ++ [(m, jNull)])) x.2.1 x.2.2 ∧ x.2.2.length ≤ 65536 ∧ x.2.2.length ≤ x.1.2 }, x201 = .inl x ∧ pq = some ⟨x.1.1.1, 0, none⟩ ∧ pm = x.1.2.2.length ∧ pc = x.1.1.2 := by
           rcases hpc with ⟨_, h⟩ | h
           · exact h
           · exact absurd hpe h
          obtain ⟨⟨⟨xb, xc⟩, xr, xs⟩, hx1, hx2, hx3, hx4⟩ := px
          simp only at hS
          obtain ⟨hbs2, hbe⟩ := mb (by rw [hns]; exact hno) hx1 _ _ hx2 hx3
          refine wS (nT (cS (cR ?_)))
          refine L_e hS (e_move rfl) rfl ?_; clear hS a; intro a hS
          (first | refine L_e hS (e_fa0 rfl ty_fo29_2) rfl ?_ | refine L_e hS (e_faK rfl ty_fo29_2) rfl ?_); clear hS a; intro a hS
          refine L_op (s_store hS rfl rfl rfl ty_sz27 (by repeat constructor) (by repeat constructor) ?_); clear hS; intro w hS
          refine nL (nT (cS (cR ?_)))
          refine L_e hS (e_loadA rfl (by repeat constructor) ty_st29 ty_sz29 (by rfl)) rfl ?_; clear hS a; intro a hS
          refine L_op (s_callN hS (.cons rfl .nil) cf14 rfl (fBindPost_N w (hG.keep (hS.gg (X := oldA W0))) kx path fl hrq.x (some ⟨xb, 0, none⟩) xc xs (txa_bb (hS.gg (X := bbA 5 xb (bsI xs))) hx4 (Nat.le_trans hx3 (by decide))) hbs2 false w (old_refl w)) ?_); clear hS a; intro x214 a w hS
          obtain ⟨f5, f6⟩ := bn_err x214 hbe (by decide)
          rw [f5, f6] at hS
          refine Rn hS (.m rfl <| .c (e_extract rfl rfl) <| .c (e_extract rfl rfl) .n) ?_; clear hS a; intro a hS
          refine L_op (s_alloc hS ty_z24 rfl ?_); clear hS a; intro a w b24 hS
          refine L_op (s_storeA (l := cellsC (zCd 0) (.slice none 0 0)) hS rfl rfl ty_sz24 (by repeat constructor) rfl rfl rfl ?_); clear hS; intro w hS
          refine L_e hS (e_assign rfl) rfl ?_; clear hS a; intro a hS
          refine nL (nT (cS (cR ?_)))
          refine L_e hS (e_move rfl) rfl ?_; clear hS a; intro a hS
          refine L_op (s_callP hS (.cons rfl .nil) cf10 rfl (lNum_P 32 _) ?_); clear hS a; intro a w hS
          refine Rn hS (.c (e_bin rfl rfl rfl) <| .a rfl .n) ?_; clear hS a; intro a hS
          refine nL (nT (wp_ret ?_))
          refine c_ret1 hS Tryz.results4 (.tmp rfl) ?_
          exact ⟨rfl, hS.chg⟩
theorem maxLen_any {w : World} (h : w.ShapedOpen Tryz.prog) : ∃ m, w.cell? ⟨2, 0, none⟩ = some (.int .i64 m) :=
 cell_of_shapedOpen_int (zero := #[.int .i64 0]) h (of_decide_eq_true (by kernel_rfl)) (by kernel_rfl) (by kernel_rfl) (by kernel_rfl) (by kernel_rfl) Tryz.underlying3
open Go.Lib
def rhoU : Shelf.Ren := ⟨fun n => n, fun | 5 => 5 | 119 => 200 | 138 => 202 | 139 => 203 | n => n, fun | 3 => 0 | 4 => 1 | n => n⟩
theorem u8ty : U8Types Tryz.prog rhoU := ⟨by kernel_rfl, by kernel_rfl, by kernel_rfl, by kernel_rfl⟩
theorem u8ex : U8Extra Tryz.prog rhoU := ⟨by kernel_rfl, by kernel_rfl, by kernel_rfl, by kernel_rfl, by kernel_rfl, by kernel_rfl, by kernel_rfl⟩
theorem gER : Tryz.prog.globalNamed "strconv.ErrRange" = some 5 := by kernel_rfl
theorem starES : "*" ++ "errors.errorString" = "*errors.errorString" := by decide
theorem rowES (u : TypeId) (h : Tryz.prog.typeName? 3 u = some "*errors.errorString") : u = 313 :=
 typeName_ptr_named (nm := "errors.errorString") (by rw [starES]; kernel_rfl) (by kernel_rfl) (by decide) u (by rw [starES]; exact h)
theorem gPow : Tryz.prog.globalNamed "internal/strconv.uint64pow10" = some 3 := by kernel_rfl
theorem old_tab {W w : World} (ho : oldφ W w) {g : Nat} {nm : String} {k : IntKind} {zs : List Int} (hg : Tryz.prog.globalNamed nm = some g) (h : TabIs Tryz.prog W nm k zs) : TabIs Tryz.prog w nm k zs := by
 unfold TabIs World.var? at *
 rw [hg] at h ⊢
 simp only [Option.bind_some] at h ⊢
 have hlt : g < W.heap.size := by
  rcases Nat.lt_or_ge g W.heap.size with h1 | h1
  · exact h1
  · rw [Array.getElem?_eq_none h1] at h; simp at h
 rw [ho.2 g hlt]; exact h
theorem pow_data : (Rows.laid_internal_strconv_uint64pow10 : DataW Unit) = tabData .u64 pow10Tab := by kernel_rfl
set_option maxRecDepth 100000 in
theorem gj_of {W : World} (hsh : W.ShapedOpen Tryz.prog) (hl : laidMetH Tryz.prog Rows.frontFieldsUptoRow.laid W) : Gj W := by
 have hL : laidMet Tryz.prog Rows.frontFieldsUptoRow.laid W := by rwa [MakeChecks.laidMetH_plain _ _ _ (by kernel_rfl)] at hl
 refine ⟨?_, ?_, ?_, maxLen_any hsh⟩
 · exact utf8Tabs_of_readsT u8ty u8ex (Lib.laidMet.reads hL (.tail _ (.tail _ (.tail _ (.tail _ (.tail _ (.tail _ (.head _)))))))) (Lib.laidMet.reads hL (.tail _ (.tail _ (.tail _ (.head _)))))
 · obtain ⟨a1, s1, hv1, -, -, -⟩ := laid_sentinel (tp := 313) hL.tail.tail.tail.tail gER (ti := 111) (by kernel_rfl) Tryz.underlying111 rowES Tryz.underlying313 Tryz.underlying315 rfl rfl Tryz.underlying9 (by kernel_rfl) (by kernel_rfl)
   exact ⟨_, by have h0 := World.var?_cell gER hv1 0; simpa using h0, .inr ⟨_, _, rfl⟩⟩
 · have h2 : laidMet Tryz.prog (("internal/strconv.uint64pow10", Rows.laid_internal_strconv_uint64pow10) :: _) W := hL.tail.tail
   rw [pow_data] at h2
   exact fun w ho => old_tab ho gPow (tabIs_of_head (n := 20) (t := 294) (e := 252) gPow (by kernel_rfl) Tryz.underlying294 Tryz.underlying252 (by kernel_rfl) (by kernel_rfl) h2)
end Go.Proofs.YtlccmgeclhdegaaGreatDoor
namespace Go.Proofs.YtlccmgeclhdegaaGreatDoor.Open
set_option maxRecDepth 100000
open Go.ChangeShapes Go.WideShapes Go.Deep
section
variable {H : Type} {enc : TypeId × Value → H} {P : Program} {w : World} {base : Nat} {spare : Nat → Bool} {held : Bool}
theorem open_slice_fields {t e : TypeId} {fs : Array Field} {fuel : Nat} {cs : List Value} {x : DataW H × List MemPlace} (ht : P.underlying t = some (.slice e)) (he : P.underlying e = some (.struct fs))
 (hone : oneCellFields P fs = true) (hC : P.cellsOf e = fs.size) (h : DataW.trod enc P w base spare held fuel t cs = some x) :
 (cs = [.slice none 0 0] ∧ x = (.nil, [])) ∨
 ∃ (a : Addr) (len cap m : Nat) (D : Nat → DataW H) (Pl : Nat → List MemPlace), cs = [.slice (some a) len cap] ∧ base ≤ a.block ∧ len ≤ cap ∧ cap ≤ maxLen ∧ m = (if spare a.block then cap else len) ∧
  x = (.slice ((List.range len).map D) ((List.range (m - len)).map fun j => D (len + j)), MemPlace.row a (m * fs.size) ++ (List.range m).flatMap Pl) ∧
  ∀ i, i < m → ∃ (ys : List (DataW H × List MemPlace)) (n : Nat), D i = .agg (ys.map (·.1)) ∧ Pl i = ys.flatMap (·.2) ∧ ys.length = fs.size ∧
   ∀ (j : Nat) (f : Field), fs[j]? = some f → ∃ (v : Value) (y : DataW H × List MemPlace), w.cell? (a.add (i * fs.size + j)) = some v ∧ ys[j]? = some y ∧ DataW.trod enc P w base spare held n f.type [v] = some y := by
 rcases open_slice ht h with h0 | ⟨a, len, cap, m, n, D, Pl, hcs, hb, hl, hm, hmm, hx, hi⟩
 · exact .inl h0
 · refine .inr ⟨a, len, cap, m, D, Pl, hcs, hb, hl, hm, hmm, by rw [hC] at hx; exact hx, fun i him => ?_⟩
   obtain ⟨cs', hc, ht'⟩ := hi i him
   rw [hC] at hc
   obtain ⟨ys, n', hn', hy, hlen, hyl, hf⟩ := DataW.trod_struct he ht'
   obtain ⟨_, hcl, hat⟩ := World.cells?_some hc
   simp only [Prod.mk.injEq] at hy
   refine ⟨ys, n', hy.1, hy.2, hyl, fun j f hj => ?_⟩
   obtain ⟨ho, hk⟩ := hone_of hone j f hj
   have hjl : j < fs.size := (Array.getElem?_eq_some_iff.1 hj).1
   have hcell := hat j hjl
   have hv : cs'[j]? = some (cs'[j]'(by omega)) := List.getElem?_eq_getElem (by omega)
   have h1 := hf j f hj
   rw [ho, hk] at h1
   have hone' : (cs'.drop j).take 1 = [cs'[j]'(by omega)] := by
    rw [List.drop_eq_getElem_cons (by omega)]
    rfl
   rw [hone'] at h1
   have hys : ys[j]? = some (ys[j]'(by omega)) := List.getElem?_eq_getElem (by omega)
   refine ⟨_, _, ?_, hys, h1.trans hys⟩
   rw [← Go.Deep.add_add, hcell, hv]
end
section
variable {H : Type} {enc : TypeId × Value → H}
theorem add_spot {a : Addr} (h : a.spot = none) (n : Nat) : a.add n = ⟨a.block, a.off + n, none⟩ := by
 unfold Addr.add
 split
 · next h0 => subst h0; cases a; simp_all
 · rfl
end
end Go.Proofs.YtlccmgeclhdegaaGreatDoor.Open
namespace Go.Proofs.YtlccmgeclhdegaaGreatDoor.Open
set_option maxRecDepth 100000
open Go.ChangeShapes Go.WideShapes Go.Deep
section
variable {H : Type} {enc : TypeId × Value → H} {P : Program} {w : World} {base : Nat} {spare : Nat → Bool} {held : Bool}
theorem open_fields {r : Reach} {b0 : Nat} {t : TypeId} {fs : Array Field} {v : Value} {d : DataW H} {p : List MemPlace} (hs : P.underlying t = some (.struct fs)) (hone : oneCellFields P fs = true) (hC : P.cellsOf t = fs.size)
 (hv : Value.okWide P w r b0 t v) (h : DataW.Trod enc P w base spare held t v d p) :
 ∃ (cs : Array Value) (ys : List (DataW H × List MemPlace)) (n : Nat), v = .agg cs ∧ d = .agg (ys.map (·.1)) ∧ cs.size = fs.size ∧ ys.length = fs.size ∧
  ∀ (j : Nat) (f : Field), fs[j]? = some f → ∃ (u : Value) (y : DataW H × List MemPlace), cs[j]? = some u ∧ ys[j]? = some y ∧ DataW.trod enc P w base spare held n f.type [u] = some y := by
 obtain ⟨cs, rfl, hsz⟩ := okWide_struct hs hv
 obtain ⟨fuel, hf⟩ := h
 obtain ⟨ys, n', _, hy, hlen, hyl, hff⟩ := DataW.trod_struct hs hf
 simp only [Prod.mk.injEq] at hy
 refine ⟨cs, ys, n', rfl, hy.1, hsz.trans hC, hyl, fun j f hj => ?_⟩
 obtain ⟨ho, hk⟩ := hone_of hone j f hj
 have hjl : j < fs.size := (Array.getElem?_eq_some_iff.1 hj).1
 have hjc : j < cs.size := by rw [hsz, hC]; exact hjl
 have h1 := hff j f hj
 rw [ho, hk] at h1
 have hv : cs.toList[j]? = some (cs[j]'hjc) := by
  rw [Array.getElem?_toList, Array.getElem?_eq_getElem hjc]
 have hone' : (cs.toList.drop j).take 1 = [cs[j]'hjc] := by
  obtain ⟨h2, h3⟩ := List.getElem?_eq_some_iff.1 hv
  rw [List.drop_eq_getElem_cons h2, h3]
  rfl
 change DataW.trod enc P w base spare held n' f.type ((cs.toList.drop j).take 1) = ys[j]? at h1
 rw [hone'] at h1
 have hys : ys[j]? = some (ys[j]'(by omega)) := List.getElem?_eq_getElem (by omega)
 exact ⟨_, _, Array.getElem?_eq_getElem hjc, hys, h1.trans hys⟩
end
section
variable {H : Type} {enc : TypeId × Value → H}
theorem open_facts {W : World} {n : Nat} {u : Value} {y : DataW H × List MemPlace} (h : DataW.trod enc Tryz.prog W 0 (fun _ => true) true n 22 [u] = some y) :
 ∃ (fa : Option Addr) (fc : Nat) (l : List Fct), u = .slice fa l.length fc ∧ FxB l ∧ FctC W fa l := by
 have hu := Tryz.underlying22
 rcases open_slice_fields hu Tryz.underlying160 (by kernel_rfl) (by kernel_rfl) h with ⟨hc, _⟩ | ⟨a, len, cap, m, D, Pl, hc, _, hl, hm, hmm, hx, hi⟩
 · simp only [List.cons.injEq, and_true] at hc
   exact ⟨none, 0, [], hc, fun x hx => (by cases hx), ⟨fun h => absurd rfl h⟩⟩
 · simp only [List.cons.injEq, and_true] at hc
   simp only [if_true] at hmm
   rw [hmm] at hi
   have each : ∀ i, i < len → ∃ x : Fct, (-9223372036854775808 ≤ x.n ∧ x.n ≤ 9223372036854775807) ∧ ∀ j u, (encF x)[j]? = some u → W.cell? (a.add (i * 4 + j)) = some u := by
    intro i hil
    obtain ⟨ys, n, hD, _, hys, hfl⟩ := hi i (by omega)
    obtain ⟨v0, y0, c0, g0, t0⟩ := hfl 0 _ rfl
    obtain ⟨v1, y1, c1, g1, t1⟩ := hfl 1 _ rfl
    obtain ⟨v2, y2, c2, g2, t2⟩ := hfl 2 _ rfl
    obtain ⟨v3, y3, c3, g3, t3⟩ := hfl 3 _ rfl
    obtain ⟨s0, e0, z0, w0⟩ := DataW.trod_string Tryz.underlying9 t0
    obtain ⟨n1, e1, z1, w1⟩ := DataW.trod_int Tryz.underlying3 t1
    obtain ⟨n2, e2, z2, w2⟩ := DataW.trod_int Tryz.underlying3 t2
    obtain ⟨s3, e3, z3, w3⟩ := DataW.trod_string Tryz.underlying9 t3
    simp only [List.cons.injEq, and_true] at e0 e1 e2 e3
    subst e0 e1 e2 e3
    refine ⟨⟨s0.data.toList, n1, n2, s3.data.toList⟩, bounds_i64 w2, fun j u hj => ?_⟩
    match j, hj with
    | 0, hj => cases hj; exact c0
    | 1, hj => cases hj; exact c1
    | 2, hj => cases hj; exact c2
    | 3, hj => cases hj; exact c3
    | (k + 4), hj => simp [encF] at hj
   haveI : Inhabited Fct := ⟨⟨[], 0, 0, []⟩⟩
   obtain ⟨f, hfn⟩ := choose_lt each
   have hll : ((List.range len).map f).length = len := by simp
   refine ⟨some a, cap, (List.range len).map f, by rw [hll]; exact hc, fun x hx => ?_, ⟨fun hne => ?_⟩⟩
   · obtain ⟨i, hi', rfl⟩ := List.mem_map.1 hx
     exact (hfn i (List.mem_range.1 hi')).1
   · have hlen : 0 < len := by
      rcases Nat.eq_zero_or_pos len with h0 | h0
      · subst h0; exact absurd rfl hne
      · exact h0
     have hc0 := (hfn 0 hlen).2 0 _ rfl
     have e0 : a.add (0 * 4 + 0) = a := by unfold Addr.add; rw [if_pos rfl]
     rw [e0] at hc0
     obtain ⟨_, _, hsh, _, hsp⟩ := World.shape?_of_cell? hc0
     refine ⟨a.block, a.off, ?_, fun i x hx j u hj => ?_⟩
     · cases a
       simp only at hsp
       subst hsp
       rfl
     · simp only [List.getElem?_map, Option.map_eq_some_iff] at hx
       obtain ⟨k, hk, rfl⟩ := hx
       obtain ⟨hk1, hk2⟩ := List.getElem?_eq_some_iff.1 hk
       simp only [List.length_range] at hk1
       simp only [List.getElem_range] at hk2
       subst hk2
       have := (hfn i hk1).2 j u hj
       rw [add_spot hsp] at this
       rw [← this]
       simp only [Nat.add_assoc]
set_option maxHeartbeats 1000000 in
theorem open_cmd {W : World} {base : Nat} {v : Value} {d : DataW H} {pl : List MemPlace} (hval : Value.okWide Tryz.prog W .any base 24 v) (h : DataW.Trod enc Tryz.prog W 0 (fun _ => true) true 24 v d pl) (hb : Rows.uptoBulk d ≤ 1048576) :
 ∃ (c : Cd) (fa : Option Addr) (fc : Nat), v = .agg (cellsC c (.slice fa c.fx.length fc)).toArray ∧ c.ok ∧ FxB c.fx ∧ totT c ≤ 1048576 ∧ FctC W fa c.fx := by
 obtain ⟨cs, ys, n, rfl, rfl, hcs, hys, hf⟩ := open_fields Tryz.underlying24 (by kernel_rfl) (by kernel_rfl) hval h
 obtain ⟨cs⟩ := cs
 match cs, hcs, ys, hys with
 | [a0, a1, a2, a3, a4, a5, a6, a7, a8, a9, a10, a11, a12, a13, a14], _, [b0, b1, b2, b3, b4, b5, b6, b7, b8, b9, b10, b11, b12, b13, b14], _ =>
 obtain ⟨u0, y0, c0, g0, t0⟩ := hf 0 _ rfl
 obtain rfl : a0 = u0 := Option.some.inj c0
 obtain rfl : b0 = y0 := Option.some.inj g0
 clear c0 g0
 obtain ⟨u1, y1, c1, g1, t1⟩ := hf 1 _ rfl
 obtain rfl : a1 = u1 := Option.some.inj c1
 obtain rfl : b1 = y1 := Option.some.inj g1
 clear c1 g1
 obtain ⟨u2, y2, c2, g2, t2⟩ := hf 2 _ rfl
 obtain rfl : a2 = u2 := Option.some.inj c2
 obtain rfl : b2 = y2 := Option.some.inj g2
 clear c2 g2
 obtain ⟨u3, y3, c3, g3, t3⟩ := hf 3 _ rfl
 obtain rfl : a3 = u3 := Option.some.inj c3
 obtain rfl : b3 = y3 := Option.some.inj g3
 clear c3 g3
 obtain ⟨u4, y4, c4, g4, t4⟩ := hf 4 _ rfl
 obtain rfl : a4 = u4 := Option.some.inj c4
 obtain rfl : b4 = y4 := Option.some.inj g4
 clear c4 g4
 obtain ⟨u5, y5, c5, g5, t5⟩ := hf 5 _ rfl
 obtain rfl : a5 = u5 := Option.some.inj c5
 obtain rfl : b5 = y5 := Option.some.inj g5
 clear c5 g5
 obtain ⟨u6, y6, c6, g6, t6⟩ := hf 6 _ rfl
 obtain rfl : a6 = u6 := Option.some.inj c6
 obtain rfl : b6 = y6 := Option.some.inj g6
 clear c6 g6
 obtain ⟨u7, y7, c7, g7, t7⟩ := hf 7 _ rfl
 obtain rfl : a7 = u7 := Option.some.inj c7
 obtain rfl : b7 = y7 := Option.some.inj g7
 clear c7 g7
 obtain ⟨u8, y8, c8, g8, t8⟩ := hf 8 _ rfl
 obtain rfl : a8 = u8 := Option.some.inj c8
 obtain rfl : b8 = y8 := Option.some.inj g8
 clear c8 g8
 obtain ⟨u9, y9, c9, g9, t9⟩ := hf 9 _ rfl
 obtain rfl : a9 = u9 := Option.some.inj c9
 obtain rfl : b9 = y9 := Option.some.inj g9
 clear c9 g9
 obtain ⟨u10, y10, c10, g10, t10⟩ := hf 10 _ rfl
 obtain rfl : a10 = u10 := Option.some.inj c10
 obtain rfl : b10 = y10 := Option.some.inj g10
 clear c10 g10
 obtain ⟨u11, y11, c11, g11, t11⟩ := hf 11 _ rfl
 obtain rfl : a11 = u11 := Option.some.inj c11
 obtain rfl : b11 = y11 := Option.some.inj g11
 clear c11 g11
 obtain ⟨u12, y12, c12, g12, t12⟩ := hf 12 _ rfl
 obtain rfl : a12 = u12 := Option.some.inj c12
 obtain rfl : b12 = y12 := Option.some.inj g12
 clear c12 g12
 obtain ⟨u13, y13, c13, g13, t13⟩ := hf 13 _ rfl
 obtain rfl : a13 = u13 := Option.some.inj c13
 obtain rfl : b13 = y13 := Option.some.inj g13
 clear c13 g13
 obtain ⟨u14, y14, c14, g14, t14⟩ := hf 14 _ rfl
 obtain rfl : a14 = u14 := Option.some.inj c14
 obtain rfl : b14 = y14 := Option.some.inj g14
 clear c14 g14
 obtain ⟨n0, e0, z0, w0⟩ := DataW.trod_int Tryz.underlying3 t0
 simp only [List.cons.injEq, and_true] at e0
 subst e0 z0
 obtain ⟨s1, e1, z1, w1⟩ := DataW.trod_string Tryz.underlying9 t1
 simp only [List.cons.injEq, and_true] at e1
 subst e1 z1
 obtain ⟨s2, e2, z2, w2⟩ := DataW.trod_string Tryz.underlying9 t2
 simp only [List.cons.injEq, and_true] at e2
 subst e2 z2
 obtain ⟨s3, e3, z3, w3⟩ := DataW.trod_string Tryz.underlying9 t3
 simp only [List.cons.injEq, and_true] at e3
 subst e3 z3
 obtain ⟨s4, e4, z4, w4⟩ := DataW.trod_string Tryz.underlying9 t4
 simp only [List.cons.injEq, and_true] at e4
 subst e4 z4
 obtain ⟨s5, e5, z5, w5⟩ := DataW.trod_string Tryz.underlying9 t5
 simp only [List.cons.injEq, and_true] at e5
 subst e5 z5
 obtain ⟨s6, e6, z6, w6⟩ := DataW.trod_string Tryz.underlying9 t6
 simp only [List.cons.injEq, and_true] at e6
 subst e6 z6
 obtain ⟨n7, e7, z7, w7⟩ := DataW.trod_int Tryz.underlying3 t7
 simp only [List.cons.injEq, and_true] at e7
 subst e7 z7
 obtain ⟨n8, e8, z8, w8⟩ := DataW.trod_int Tryz.underlying3 t8
 simp only [List.cons.injEq, and_true] at e8
 subst e8 z8
 obtain ⟨n9, e9, z9, w9⟩ := DataW.trod_int Tryz.underlying3 t9
 simp only [List.cons.injEq, and_true] at e9
 subst e9 z9
 obtain ⟨n10, e10, z10, w10⟩ := DataW.trod_int Tryz.underlying3 t10
 simp only [List.cons.injEq, and_true] at e10
 subst e10 z10
 obtain ⟨n11, e11, z11, w11⟩ := DataW.trod_int Tryz.underlying3 t11
 simp only [List.cons.injEq, and_true] at e11
 subst e11 z11
 obtain ⟨n12, e12, z12, w12⟩ := DataW.trod_int Tryz.underlying3 t12
 simp only [List.cons.injEq, and_true] at e12
 subst e12 z12
 obtain ⟨n13, e13, z13, w13⟩ := DataW.trod_int Tryz.underlying3 t13
 simp only [List.cons.injEq, and_true] at e13
 subst e13 z13
 obtain ⟨fa, fc, l, hu, hfx, hft⟩ := open_facts t14
 subst hu
 simp only [List.map_cons, List.map_nil, Rows.uptoBulk, Rows.uptoBulkAll] at hb
 refine ⟨⟨n0, fun i => ([[], s1.data.toList, s2.data.toList, s3.data.toList, s4.data.toList, s5.data.toList, s6.data.toList] : List (List UInt8)).getD i [], fun i => ([0, 0, 0, 0, 0, 0, 0, n7, n8, n9, n10, n11, n12, n13] : List Int).getD i 0, l⟩, fa, fc, rfl, ⟨fun i h1 h2 => ?_, fun i h1 h2 => ?_⟩, hfx, ?_, hft⟩
 · match i, h1, h2 with
   | 1, _, _ => show s1.data.toList.length ≤ 1100000; omega
   | 2, _, _ => show s2.data.toList.length ≤ 1100000; omega
   | 3, _, _ => show s3.data.toList.length ≤ 1100000; omega
   | 4, _, _ => show s4.data.toList.length ≤ 1100000; omega
   | 5, _, _ => show s5.data.toList.length ≤ 1100000; omega
   | 6, _, _ => show s6.data.toList.length ≤ 1100000; omega
 · match i, h1, h2 with
   | 7, _, _ => exact bounds_i64 w7
   | 8, _, _ => exact bounds_i64 w8
   | 9, _, _ => exact bounds_i64 w9
   | 10, _, _ => exact bounds_i64 w10
   | 11, _, _ => exact bounds_i64 w11
   | 12, _, _ => exact bounds_i64 w12
   | 13, _, _ => exact bounds_i64 w13
 · show s1.data.toList.length + s2.data.toList.length + s3.data.toList.length + s4.data.toList.length + s5.data.toList.length + s6.data.toList.length ≤ 1048576
   omega
end
end Go.Proofs.YtlccmgeclhdegaaGreatDoor.Open
