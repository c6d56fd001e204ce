/- A part of the proof of a law: its words, walks of functions, or plain lemmas. -/
-- Written by this session's own programs (wip/printx.py, gen_*.py, assemble.py) and by hand.
import Derived.Test.YtakabkjhnncbhaaS12
import Derived.Test.YtakabkjhnncbhaaS09
namespace Go.Proofs.Ytakabkjhnncbhaa.PX
open Go.RowKit Go.Proofs.YtakabkjhnncbhaaW.PrintWords Go.Proofs.YtakabkjhnncbhaaW.PrintLast Go.Proofs.YtakabkjhnncbhaaW.PrintMore
set_option linter.unusedVariables false
set_option linter.unusedSimpArgs false
theorem fresh_iff (l : List (S46)) (i : Nat) (nm : ByteArray) (hi : i ≤ l.length) : Y2 l i nm = true ↔ ∀ j : Nat, j < i → hasG (Q3 l j) nm = false := by
  unfold Y2
  rw [Bool.not_eq_true', List.any_eq_false]
  constructor
  · intro h j hj
    refine Bool.eq_false_iff.2 (h _ ?_)
    unfold Q3
    rw [Int.toNat_natCast, List.getD_eq_getElem?_getD, List.getElem?_eq_getElem (by omega : j < l.length)]
    exact List.mem_take_iff_getElem.2 ⟨j, by omega, rfl⟩
  · intro h x hx
    obtain ⟨j, hj, rfl⟩ := List.mem_take_iff_getElem.1 hx
    have := h j (by omega)
    unfold Q3 at this
    rw [Int.toNat_natCast, List.getD_eq_getElem?_getD, List.getElem?_eq_getElem (by omega : j < l.length)] at this
    exact Bool.eq_false_iff.1 this
theorem Yp (l : List (S46)) (i j : Nat) (h : j < i) : Q3 (l.take i) (j : Int) = Q3 l j := by
  unfold Q3
  rw [Int.toNat_natCast, List.getD_eq_getElem?_getD, List.getD_eq_getElem?_getD, List.getElem?_take_of_lt h]
theorem hasG_at (l : List (S46)) (i j : Nat) (hj : j < (Q3 l i).f3.length) : hasG (Q3 l i) (Qh (Q3 l i).f3 j).f0 = true := any_rd.2 ⟨j, hj, beq_iff_eq.2 rfl⟩
theorem first_is (l : List (S46)) (hG : GoodL l) (i j : Nat) (hi : i < l.length) (hj : j < (Q3 l i).f3.length) :
    (if (XW l (Qh (Q3 l i).f3 j).f0 l.length 0).1 = i then (XW l (Qh (Q3 l i).f3 j).f0 l.length 0).2 == (j : Int) else false) = Y2 l i (Qh (Q3 l i).f3 j).f0 := by
  obtain ⟨h1, h2, h3⟩ := firstG_fresh l (Qh (Q3 l i).f3 j).f0 l.length 0
  have hat := hasG_at l i j hj
  have hgd := hG.good i (by omega) (by omega)
  generalize hr : XW l (Qh (Q3 l i).f3 j).f0 l.length 0 = r at h1 h2 h3 ⊢
  have hpos : 0 ≤ r.1 := by
    rcases h3 with ⟨a, _⟩ | a
    · exfalso
      have := h1.1 (by omega) i (by omega) (by omega)
      rw [hat] at this
      exact absurd this (by decide)
    · exact a
  obtain ⟨q, hq⟩ : ∃ q : Nat, r.1 = q := ⟨r.1.toNat, by omega⟩
  obtain ⟨a1, a2, a3, a4, a5⟩ := h2 q hq
  have hqi : q ≤ i := by
    by_cases e : q ≤ i
    · exact e
    · have := a5 i (by omega) (by omega)
      rw [hat] at this
      exact absurd this (by decide)
  by_cases e : q = i
  · subst e
    rw [if_pos hq]
    have hf : fidx (fun x : S49 => x.f0.toList == (Qh (Q3 l q).f3 j).f0.toList) (Q3 l q).f3 = j := fidx_hit (d := z49) hj (by
        show _ = true
        unfold Qh
        rw [Int.toNat_natCast]
        exact beq_iff_eq.2 rfl) (fun j' hj' => by
        have := hgd.names j' j (by omega) (by omega) (by omega)
        unfold Qh at this ⊢
        rw [Int.toNat_natCast, Int.toNat_natCast] at this
        rw [Int.toNat_natCast]
        exact beq_eq_false_iff_ne.2 this)
    rw [a4, hf, beq_self_eq_true]
    exact ((fresh_iff l q _ (by omega)).2 (fun j' hj' => a5 j' (by omega) hj')).symm
  · rw [if_neg (by omega)]
    symm
    refine Bool.eq_false_iff.2 (fun hh => ?_)
    have := (fresh_iff l i _ (by omega)).1 hh q (by omega)
    rw [a3] at this
    exact absurd this (by decide)
theorem mem_drop_rd {secs : List Int} {p : Nat} (h : p < secs.length) (b : Int) : b ∈ secs.drop p ↔ b = rd secs p ∨ b ∈ secs.drop (p + 1) := by
  rw [List.drop_eq_getElem_cons h, List.mem_cons]
  have : rd secs (p : Int) = secs[p] := by unfold rd; rw [Int.toNat_natCast, List.getD_eq_getElem?_getD, List.getElem?_eq_getElem h]; rfl
  rw [this]
theorem rd_mem {secs : List Int} {p : Nat} (h : p < secs.length) : rd secs (p : Int) ∈ secs := by
  have : rd secs (p : Int) = secs[p] := by unfold rd; rw [Int.toNat_natCast, List.getD_eq_getElem?_getD, List.getElem?_eq_getElem h]; rfl
  rw [this]
  exact List.getElem_mem h
theorem any_drop49 {gs : List (S49)} {j : Nat} (h : j < gs.length) (p : S49 → Bool) : (gs.drop j).any p = (p (Qh gs j) || (gs.drop (j + 1)).any p) := by
  rw [List.drop_eq_getElem_cons h, List.any_cons]
  have : Qh gs (j : Int) = gs[j] := by unfold Qh; rw [Int.toNat_natCast, List.getD_eq_getElem?_getD, List.getElem?_eq_getElem h]; rfl
  rw [this]
section
variable {Q : List (List Bool) × Int × Int → Prop} (l : List (S46)) (hG : GoodL l) (hz : ∀ i j : Int, (Qh (Q3 l i).f3 j).f1.length ≤ 9223372036854775807) (i : Nat) (hi : i < l.length)
include hG hz hi
theorem choose_l3 (c : Nat → Bool) : ∀ (n q : Nat) (F : Nat → Nat → Bool), q + n = (Q3 l i).f1.length →
    TotP Q (fun k => Qf.l0 k l (T2 l (fun a b => if a = i ∧ q ≤ b then F a b || c b else F a b)) l (l.length : Int) ((i + 1 : Nat) : Int)) →
    TotP Q (fun k => Qf.l3 k l (T2 l F) (i : Int) l (l.length : Int) (i : Int) (tab (Q3 l i).f1.length c) ((Q3 l i).f1.length : Int) (q : Int)) := by
  have hz' := hz
  clear hz'
  have h8 := hG.few
  have hns := (hG.good i (by omega) (by omega)).many.1
  have e : wrap64 ((i : Int) + 1) = ((i + 1 : Nat) : Int) := IntWalk.wrap64_in _ (by omega)
  intro n
  induction n with
  | zero =>
    intro q F hq hn
    refine TotP.step (fun k => by rw [Qf.l3]) ?_
    rw [e]
    refine TotP.ite (fun _ => by exfalso; omega) (fun _ => ?_)
    rwa [Y7 l (G := F) (fun a ha b hb => by
      by_cases ea : a = i
      · subst ea; rw [if_neg (by omega)]
      · rw [if_neg (fun h => ea h.1)])] at hn
  | succ n ih =>
    intro q F hq hn
    have e' : wrap64 ((q : Int) + 1) = ((q + 1 : Nat) : Int) := IntWalk.wrap64_in _ (by omega)
    refine TotP.step (fun k => by rw [Qf.l3]) ?_
    rw [e', e]
    have hrow : QM (T2 l F) (i : Int) = tab (Q3 l i).f1.length (F i) := by unfold QM; rw [Int.toNat_natCast]; exact T2_row l F i hi
    have hset : ∀ v, (T2 l F).set (i : Int).toNat ((QM (T2 l F) (i : Int)).set (q : Int).toNat v) = T2 l (fun a b => if a = i ∧ b = q then v else F a b) := by
      intro v
      rw [Int.toNat_natCast, Int.toNat_natCast]
      unfold QM
      rw [Int.toNat_natCast]
      exact T2_set l F i q v hi
    have hfin : ∀ v, v = (F i q || c q) → TotP Q (fun k => Qf.l3 k l (T2 l (fun a b => if a = i ∧ b = q then v else F a b)) (i : Int) l (l.length : Int) (i : Int) (tab (Q3 l i).f1.length c) ((Q3 l i).f1.length : Int) ((q + 1 : Nat) : Int)) := by
      intro v hv
      refine ih (q + 1) _ (by omega) ?_
      rwa [Y7 l (G := fun a b => if a = i ∧ q ≤ b then F a b || c b else F a b) (fun a ha b hb => by
        by_cases ea : a = i
        · subst ea
          by_cases eb : b = q
          · subst eb
            rw [if_neg (by omega), if_pos ⟨rfl, rfl⟩, if_pos ⟨rfl, Nat.le_refl _⟩, hv]
          · by_cases eq : q ≤ b
            · rw [if_pos ⟨rfl, by omega⟩, if_neg (fun h => eb h.2), if_pos ⟨rfl, eq⟩]
            · rw [if_neg (fun h => eq (by omega)), if_neg (fun h => eb h.2), if_neg (fun h => eq h.2)]
        · rw [if_neg (fun h => ea h.1), if_neg (fun h => ea h.1), if_neg (fun h => ea h.1)])]
    refine TotP.ite (fun _ => ?_) (fun _ => by exfalso; omega)
    refine TotP.ite (fun _ => ?_) (fun _ => by exfalso; omega)
    refine TotP.ite (fun _ => ?_) (fun hc => by exfalso; rw [tab_len] at hc; omega)
    refine TotP.ite (fun _ => ?_) (fun _ => by exfalso; omega)
    refine TotP.ite (fun _ => ?_) (fun hc => by exfalso; rw [T2_len] at hc; omega)
    refine TotP.ite (fun _ => ?_) (fun hc => by exfalso; rw [hrow, tab_len] at hc; omega)
    have hF : rdOf false (QM (T2 l F) (i : Int)) (q : Int) = F i q := by rw [hrow]; unfold rdOf; rw [Int.toNat_natCast]; exact tab_get _ _ _ (by omega)
    have hc : rdOf false (tab (Q3 l i).f1.length c) (q : Int) = c q := by unfold rdOf; rw [Int.toNat_natCast]; exact tab_get _ _ _ (by omega)
    rw [hF, hc]
    refine TotP.ite (fun ht => ?_) (fun ht => ?_)
    · rw [hset]; exact hfin _ (by rw [ht]; rfl)
    · rw [hset]; exact hfin _ (by rw [Bool.eq_false_iff.2 ht]; rfl)
theorem choose_l2 (j : Nat) (hj : j < (Q3 l i).f3.length) (fa fb : Int) (e : Bool) (he : (if fa = i then fb == (j : Int) else false) = e) : ∀ (n p : Nat) (F : Nat → Nat → Bool) (c : Nat → Bool), p + n = (Qh (Q3 l i).f3 j).f1.length →
    TotP Q (fun k => Qf.l1 k l (T2 l (fun a b => if a = i ∧ (b : Int) ∈ (Qh (Q3 l i).f3 j).f1.drop p then false else F a b)) (i : Int) (tab (Q3 l i).f1.length (fun b => if (b : Int) ∈ (Qh (Q3 l i).f3 j).f1.drop p then c b || e else c b)) l (l.length : Int) (i : Int) (Q3 l i).f3 ((Q3 l i).f3.length : Int) ((j + 1 : Nat) : Int)) →
    TotP Q (fun k => Qf.l2 k l (T2 l F) (i : Int) (tab (Q3 l i).f1.length c) (j : Int) fa fb l (l.length : Int) (i : Int) (Q3 l i).f3 ((Q3 l i).f3.length : Int) (j : Int) (Qh (Q3 l i).f3 j).f1 ((Qh (Q3 l i).f3 j).f1.length : Int) (p : Int)) := by
  have h8 := hG.few
  have hgd := hG.good i (by omega) (by omega)
  have hns := hgd.many
  have hsl := hz i j
  have e1 : wrap64 ((j : Int) + 1) = ((j + 1 : Nat) : Int) := IntWalk.wrap64_in _ (by omega)
  intro n
  induction n with
  | zero =>
    intro p F c hp hn
    refine TotP.step (fun k => by rw [Qf.l2]) ?_
    rw [e1]
    refine TotP.ite (fun _ => by exfalso; omega) (fun _ => ?_)
    have hd : (Qh (Q3 l i).f3 j).f1.drop p = [] := List.drop_eq_nil_of_le (by omega)
    simp only [hd, List.not_mem_nil, and_false, if_false] at hn
    exact hn
  | succ n ih =>
    intro p F c hp hn
    have hpl : p < (Qh (Q3 l i).f3 j).f1.length := by omega
    obtain ⟨hs0, hs1⟩ := hgd.mem j (by omega) (by omega) _ (rd_mem hpl)
    have e2 : wrap64 ((p : Int) + 1) = ((p + 1 : Nat) : Int) := IntWalk.wrap64_in _ (by omega)
    refine TotP.step (fun k => by rw [Qf.l2]) ?_
    rw [e2, e1]
    have hmem := mem_drop_rd hpl
    generalize rd (Qh (Q3 l i).f3 j).f1 (p : Int) = s at hs0 hs1 hmem ⊢
    obtain ⟨s, rfl⟩ : ∃ m : Nat, s = m := ⟨s.toNat, by omega⟩
    have hrow : QM (T2 l F) (i : Int) = tab (Q3 l i).f1.length (F i) := by unfold QM; rw [Int.toNat_natCast]; exact T2_row l F i hi
    have hset : ∀ v, (T2 l F).set (i : Int).toNat ((QM (T2 l F) (i : Int)).set (s : Int).toNat v) = T2 l (fun a b => if a = i ∧ b = s then v else F a b) := by
      intro v
      rw [Int.toNat_natCast, Int.toNat_natCast]
      unfold QM
      rw [Int.toNat_natCast]
      exact T2_set l F i s v hi
    have hc : rdOf false (tab (Q3 l i).f1.length c) (s : Int) = c s := by unfold rdOf; rw [Int.toNat_natCast]; exact tab_get _ _ _ (by omega)
    have hfin : ∀ v, v = (c s || e) → TotP Q (fun k => Qf.l2 k l (T2 l (fun a b => if a = i ∧ b = s then false else F a b)) (i : Int) ((tab (Q3 l i).f1.length c).set (s : Int).toNat v) (j : Int) fa fb l (l.length : Int) (i : Int) (Q3 l i).f3 ((Q3 l i).f3.length : Int) (j : Int) (Qh (Q3 l i).f3 j).f1 ((Qh (Q3 l i).f3 j).f1.length : Int) ((p + 1 : Nat) : Int)) := by
      intro v hv
      rw [Int.toNat_natCast, tab_set]
      refine ih (p + 1) _ _ (by omega) ?_
      rwa [Y7 l (G := fun a b => if a = i ∧ (b : Int) ∈ (Qh (Q3 l i).f3 j).f1.drop p then false else F a b) (fun a ha b hb => by
        by_cases ea : a = i
        · subst ea
          by_cases eb : b = s
          · subst eb
            rw [if_pos (⟨rfl, (hmem _).2 (Or.inl rfl)⟩ : _ ∧ _), if_pos (⟨rfl, rfl⟩ : _ ∧ _)]; split <;> rfl
          · have : ((b : Int) ∈ (Qh (Q3 l a).f3 j).f1.drop (p + 1)) ↔ ((b : Int) ∈ (Qh (Q3 l a).f3 j).f1.drop p) := ⟨fun h => (hmem _).2 (Or.inr h), fun h => ((hmem _).1 h).resolve_left (by omega)⟩
            by_cases em : (b : Int) ∈ (Qh (Q3 l a).f3 j).f1.drop p
            · rw [if_pos ⟨rfl, this.2 em⟩, if_pos ⟨rfl, em⟩]
            · rw [if_neg (fun h => em (this.1 h.2)), if_neg (fun h => eb h.2), if_neg (fun h => em h.2)]
        · rw [if_neg (fun h => ea h.1), if_neg (fun h => ea h.1), if_neg (fun h => ea h.1)]),
        tab_congr _ (g := fun b => if (b : Int) ∈ (Qh (Q3 l i).f3 j).f1.drop p then c b || e else c b) (fun b hb => by
          by_cases eb : b = s
          · subst eb
            rw [if_pos ((hmem _).2 (Or.inl rfl)), if_pos rfl, hv]; cases c b <;> cases e <;> simp
          · have : ((b : Int) ∈ (Qh (Q3 l i).f3 j).f1.drop (p + 1)) ↔ ((b : Int) ∈ (Qh (Q3 l i).f3 j).f1.drop p) := ⟨fun h => (hmem _).2 (Or.inr h), fun h => ((hmem _).1 h).resolve_left (by omega)⟩
            by_cases em : (b : Int) ∈ (Qh (Q3 l i).f3 j).f1.drop p
            · rw [if_pos (this.2 em), if_neg eb, if_pos em]
            · rw [if_neg (fun h => em (this.1 h)), if_neg eb, if_neg em])]
    refine TotP.ite (fun _ => ?_) (fun hh => absurd (show (p : Int) < _ from by omega) hh)
    refine TotP.ite (fun _ => ?_) (fun hh => absurd (Int.natCast_nonneg p) hh)
    refine TotP.ite (fun _ => ?_) (fun hh => absurd (show (p : Int) < _ from by omega) hh)
    refine TotP.ite (fun _ => ?_) (fun hh => absurd (Int.natCast_nonneg i) hh)
    refine TotP.ite (fun _ => ?_) (fun hh => by exfalso; rw [T2_len] at hh; omega)
    refine TotP.ite (fun _ => ?_) (fun hh => absurd (Int.natCast_nonneg s) hh)
    refine TotP.ite (fun _ => ?_) (fun hh => by exfalso; rw [hrow, tab_len] at hh; omega)
    simp only [Option.bind_some]
    refine TotP.ite (fun _ => ?_) (fun hh => by exfalso; rw [tab_len] at hh; omega)
    rw [hc, hset]
    refine TotP.ite (fun ht => ?_) (fun ht => TotP.ite (fun ha => ?_) (fun ha => ?_))
    · exact hfin _ (by rw [ht]; rfl)
    · exact hfin _ (by rw [if_pos ha] at he; rw [Bool.eq_false_iff.2 ht, ← he]; rfl)
    · exact hfin _ (by rw [if_neg ha] at he; rw [Bool.eq_false_iff.2 ht, ← he]; rfl)
theorem choose_l1 : ∀ (n j : Nat) (F : Nat → Nat → Bool) (c : Nat → Bool), j + n = (Q3 l i).f3.length →
    TotP Q (fun k => Qf.l3 k l (T2 l (fun a b => if a = i ∧ ((Q3 l i).f3.drop j).any (fun g => decide ((b : Int) ∈ g.f1)) = true then false else F a b)) (i : Int) l (l.length : Int) (i : Int) (tab (Q3 l i).f1.length (fun b => c b || ((Q3 l i).f3.drop j).any (fun g => decide ((b : Int) ∈ g.f1) && Y2 l i g.f0))) ((Q3 l i).f1.length : Int) 0) →
    TotP Q (fun k => Qf.l1 k l (T2 l F) (i : Int) (tab (Q3 l i).f1.length c) l (l.length : Int) (i : Int) (Q3 l i).f3 ((Q3 l i).f3.length : Int) (j : Int)) := by
  have h8 := hG.few
  have hgd := hG.good i (by omega) (by omega)
  have hns := hgd.many
  intro n
  induction n with
  | zero =>
    intro j F c hj hn
    refine TotP.step (fun k => by rw [Qf.l1]) ?_
    refine TotP.ite (fun _ => by exfalso; omega) (fun _ => ?_)
    have hd : (Q3 l i).f3.drop j = [] := List.drop_eq_nil_of_le (by omega)
    simp only [hd, List.any_nil, Bool.false_eq_true, and_false, if_false, Bool.or_false] at hn
    rw [tab_len]
    exact hn
  | succ n ih =>
    intro j F c hj hn
    refine TotP.step (fun k => by rw [Qf.l1]) ?_
    refine TotP.ite (fun _ => ?_) (fun _ => by exfalso; omega)
    refine TotP.ite (fun _ => ?_) (fun _ => by exfalso; omega)
    refine TotP.ite (fun _ => ?_) (fun _ => by exfalso; omega)
    refine TotP.bind (tot_first l _ (by omega)) (fun r hr => ?_)
    subst hr
    refine choose_l2 l hG hz i hi j (by omega) _ _ _ (first_is l hG i j hi (by omega)) _ 0 F c (Nat.zero_add _) ?_
    refine ih (j + 1) _ _ (by omega) ?_
    rw [List.drop_zero]
    rwa [Y7 l (G := fun a b => if a = i ∧ ((Q3 l i).f3.drop j).any (fun g => decide ((b : Int) ∈ g.f1)) = true then false else F a b) (fun a ha b hb => by
        rw [any_drop49 (by omega : j < (Q3 l i).f3.length)]
        by_cases ea : a = i
        · subst ea
          by_cases e1 : ((Q3 l a).f3.drop (j + 1)).any (fun g => decide ((b : Int) ∈ g.f1)) = true
          · rw [if_pos ⟨rfl, e1⟩, if_pos ⟨rfl, by rw [e1, Bool.or_true]⟩]
          · rw [if_neg (fun h => e1 h.2), Bool.eq_false_iff.2 e1, Bool.or_false]
            simp only [decide_eq_true_eq]
        · rw [if_neg (fun h => ea h.1), if_neg (fun h => ea h.1), if_neg (fun h => ea h.1)]),
      tab_congr _ (g := fun b => c b || ((Q3 l i).f3.drop j).any (fun g => decide ((b : Int) ∈ g.f1) && Y2 l i g.f0)) (fun b hb => by
        rw [any_drop49 (by omega : j < (Q3 l i).f3.length)]
        by_cases em : (b : Int) ∈ (Qh (Q3 l i).f3 j).f1
        · rw [if_pos em, decide_eq_true em, Bool.true_and, Bool.or_assoc]
        · rw [if_neg em, decide_eq_false em, Bool.false_and, Bool.false_or])]
end
end Go.Proofs.Ytakabkjhnncbhaa.PX
