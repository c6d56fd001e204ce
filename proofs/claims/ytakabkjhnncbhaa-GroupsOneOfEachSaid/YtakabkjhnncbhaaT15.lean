/- A part of the proof of a law: its words, walks of functions, or plain lemmas. -/
-- Written by this session's own programs (wip/printx.py, gen_*.py, assemble.py) and by hand.
import Derived.Test.YtakabkjhnncbhaaT13
import Derived.Test.YtakabkjhnncbhaaT09
import Derived.Test.YtakabkjhnncbhaaT10
import Derived.Test.YtakabkjhnncbhaaT14
import Derived.Test.YtakabkjhnncbhaaT12
import Derived.ChangeArms
import Derived.DataReads
import Derived.SliceStrings
namespace Go.Proofs.Ytakabkjhnncbhaa.PX
open Go.RowKit Go.Proofs.YtakabkjhnncbhaaW.PrintWords Go.Proofs.YtakabkjhnncbhaaW.PrintLast Go.Proofs.YtakabkjhnncbhaaW.PrintMore
set_option linter.unusedVariables false
set_option linter.unusedSimpArgs false
theorem bit_mem (l : List (S46)) (hG : GoodL l) (i j s : Nat) (hi : i < l.length) (hj : j < (Q3 l i).f3.length) (hs : (s : Int) ∈ (Qa (Q3 l i).f3 j).f1) : bitL l i s = Y5 l i (Qa (Q3 l i).f3 j).f0 := by
  have hgd := hG.good i (by omega) (by omega);unfold bitL
  cases hf : Y5 l i (Qa (Q3 l i).f3 j).f0 with
  | true =>
    rw [Bool.not_eq_true', ← Bool.not_eq_true, any_rd];rintro ⟨j', hj', hp⟩;rw [Bool.and_eq_true, decide_eq_true_eq] at hp;have := hgd.apart j' j (by omega) (by omega) (by omega) (by omega) _ hp.1 hs;(have : j' = j := by omega);subst this;rw [hf] at hp
    exact absurd hp.2 (by decide)
  | false =>
    rw [Bool.not_eq_false', any_rd];exact ⟨j, hj, by rw [hf, decide_eq_true hs]; rfl⟩
theorem bit_free (l : List (S46)) (i s : Nat) (h : ∀ j : Nat, j < (Q3 l i).f3.length → (s : Int) ∉ (Qa (Q3 l i).f3 j).f1) : bitL l i s = true := by
  unfold bitL;rw [Bool.not_eq_true', ← Bool.not_eq_true, any_rd];rintro ⟨j, hj, hp⟩;rw [Bool.and_eq_true, decide_eq_true_eq] at hp;exact h j hj hp.1
theorem choose_bit (l : List (S46)) (hG : GoodL l) (i s : Nat) (hi : i < l.length) :
    ((if (Q3 l i).f3.any (fun g => decide ((s : Int) ∈ g.f1)) = true then false else true) || (false || (Q3 l i).f3.any (fun g => decide ((s : Int) ∈ g.f1) && Y5 l i g.f0))) = bitL l i s := by
  by_cases h : (Q3 l i).f3.any (fun g => decide ((s : Int) ∈ g.f1)) = true
  · rw [if_pos h];obtain ⟨j, hj, hp⟩ := any_rd.1 h;have hp := of_decide_eq_true hp;rw [bit_mem l hG i j s hi hj hp, Bool.false_or, Bool.false_or]
    cases hf : Y5 l i (Qa (Q3 l i).f3 j).f0 with
    | true => exact any_rd.2 ⟨j, hj, by rw [hf, decide_eq_true hp]; rfl⟩
    | false =>
      rw [← Bool.not_eq_true, any_rd];rintro ⟨j', hj', hq⟩;rw [Bool.and_eq_true, decide_eq_true_eq] at hq;have := (hG.good i (by omega) (by omega)).apart j' j (by omega) (by omega) (by omega) (by omega) _ hq.1 hp;(have : j' = j := by omega);subst this;rw [hf] at hq;exact absurd hq.2 (by decide)
  · rw [if_neg h, bit_free l i s (fun j hj hs => h (any_rd.2 ⟨j, hj, decide_eq_true hs⟩))];rfl
theorem glenOf {l : List (S46)} (hG : GoodL l) (i j : Int) : (Qa (Q3 l i).f3 j).f1.length ≤ 9223372036854775807 := (hG.sz i).glen j
theorem choose_l0 (l : List (S46)) (hG : GoodL l) : ∀ (n i : Nat), i + n = l.length → TotP (fun r => r = (T2 l (bitL l), (0 : Int), (0 : Int))) (fun k => Qh.l0 k l (T2 l (fun a b => if a < i then bitL l a b else true)) l (l.length : Int) (i : Int)) := by
  have h8 := hG.few;intro n
  induction n with
  | zero =>
    intro i h;refine TotP.step (fun k => by rw [Qh.l0]) ?_;refine TotP.ite (fun hc => absurd hc (by omega)) (fun _ => TotP.now ?_)
    rw [Y8 l (F := fun a b => if a < i then bitL l a b else true) (G := bitL l) (fun a ha b hb => if_pos (by omega))]
  | succ n ih =>
    intro i h;(have hi : i < l.length := by omega);have hns := (hG.good i (by omega) (by omega)).many;refine TotP.step (fun k => by rw [Qh.l0]) ?_;refine TotP.ite (fun _ => ?_) (fun hc => absurd (show (i : Int) < _ from by omega) hc);refine TotP.ite (fun _ => ?_) (fun hc => absurd (Int.natCast_nonneg i) hc);refine TotP.ite (fun _ => ?_) (fun hc => absurd (show (i : Int) < _ from by omega) hc);refine TotP.ite (fun _ => ?_) (fun hc => absurd (Int.natCast_nonneg _) hc);refine TotP.ite (fun _ => ?_) (fun hc => absurd (show Int.toNat _ ≤ _ from by rw [Int.toNat_natCast]; omega) hc);rw [Int.toNat_natCast, tab_rep];refine choose_l1 l hG (glenOf hG) i hi (Q3 l i).f3.length 0 _ _ (Nat.zero_add _) ?_;refine choose_l3 l hG (glenOf hG) i hi _ (Q3 l i).f1.length 0 _ (Nat.zero_add _) ?_;have := ih (i + 1) (by omega)
    rwa [Y8 l (F := fun a b => if a < i + 1 then bitL l a b else true) (G := fun a b => if a = i ∧ 0 ≤ b then (if a = i ∧ ((Q3 l i).f3.drop 0).any (fun g => decide ((b : Int) ∈ g.f1)) = true then false else if a < i then bitL l a b else true) || (false || ((Q3 l i).f3.drop 0).any (fun g => decide ((b : Int) ∈ g.f1) && Y5 l i g.f0)) else if a = i ∧ ((Q3 l i).f3.drop 0).any (fun g => decide ((b : Int) ∈ g.f1)) = true then false else if a < i then bitL l a b else true) (fun a ha b hb => by
      rw [List.drop_zero]
      by_cases ea : a = i
      · subst ea
        simp only [Nat.lt_succ_self, Nat.lt_irrefl, if_true, if_false, Nat.zero_le, true_and, and_self]
        exact (choose_bit l hG a b ha).symm
      · simp only [ea, false_and, if_false]
        by_cases e2 : a < i
        · rw [if_pos e2, if_pos (show a < i + 1 from by omega)]
        · rw [if_neg e2, if_neg (show ¬ a < i + 1 from by omega)])] at this
theorem check_good (l : List (S46)) (hG : GoodL l) : Ev (fun k => QJ.f k l) (0, 0) := by
  have h8 := hG.few
  have hh : ∀ (n i : Nat), i + n = l.length → Ev (fun k => QJ.l0 k l (l.length : Int) (i : Int)) (0, 0) := by
    intro n
    induction n with
    | zero =>
      intro i h;refine Ev.step (fun k => by rw [QJ.l0]) ?_
      exact Ev.no (by omega) (Ev.now _)
    | succ n ih =>
      intro i h;have e : wrap64 ((i : Int) + 1) = ((i + 1 : Nat) : Int) := IntWalk.wrap64_in _ (by omega);refine Ev.step (fun k => by rw [QJ.l0]) ?_;rw [e];refine Ev.yes (by omega) (Ev.yes (by omega) (Ev.yes (by omega) ?_));refine Ev.bind (hG.val i (by omega) (by omega)) ?_;exact ih (i + 1) (by omega)
  unfold QJ.f;exact Ev.no (by omega) (hh l.length 0 (by omega))
theorem goodH16 {l : List (S46)} (hG : GoodL l) : ∀ i : Int, 0 ≤ i → i < l.length → (Q3 l i).f1.length ≤ 16 := fun i h0 h1 => (hG.good i h0 h1).many.1
theorem choose_good (l : List (S46)) (hG : GoodL l) : Ev (fun k => Qh.f k l) (T2 l (bitL l), (0 : Int), (0 : Int)) := by
  unfold Qh.f;refine Ev.bind (check_good l hG) ?_;obtain ⟨r, hr, hev⟩ := tot_All l hG.few (goodH16 hG);subst hr;refine Ev.bind hev ?_;obtain ⟨r, hr, hev⟩ := choose_l0 l hG l.length 0 (Nat.zero_add _);subst hr;rwa [Y8 l (F := fun a b => if a < 0 then bitL l a b else true) (G := fun _ _ => true) (fun a ha b hb => if_neg (Nat.not_lt_zero _))] at hev
theorem choose_bad (l : List (S46)) (w : Int × Int) (hw : Ev (fun k => QJ.f k l) w) (h : w.1 ≠ 0) : Ev (fun k => Qh.f k l) (([] : List (List Bool)), w.1, w.2) := by
  unfold Qh.f;refine Ev.bind hw ?_;refine Ev.yes ?_ (Ev.now _);rw [beq_eq_false_iff_ne.2 h]; rfl
theorem owner_good (l : List (S46)) (nm : ByteArray) (hG : GoodL l) : Ev (fun k => XD.f k l nm) (if (XY l nm l.length 0).1 < 0 then (0, 0, 6, -2) else ((XY l nm l.length 0).1, (XY l nm l.length 0).2, 0, 0)) := by
  unfold XD.f;have h8 := hG.few;refine Ev.bind (check_good l hG) ?_;obtain ⟨r, hr, hev⟩ := tot_first l nm (by omega);subst hr;refine Ev.bind hev ?_;by_cases c : (XY l nm l.length 0).1 < 0
  · simp only [if_pos c]; exact Ev.now _
  · simp only [if_neg c]; exact Ev.now _
theorem owner_bad (l : List (S46)) (nm : ByteArray) (w : Int × Int) (hw : Ev (fun k => QJ.f k l) w) (h : w.1 ≠ 0) : Ev (fun k => XD.f k l nm) (0, 0, w.1, w.2) := by
  unfold XD.f;refine Ev.bind hw ?_;refine Ev.yes ?_ (Ev.now _);rw [beq_eq_false_iff_ne.2 h]; rfl
section
variable {Q : List (List Bool) → Prop} (l : List (S46)) (hG : GoodL l) (i : Nat) (hi : i < l.length)
include hG hi
theorem linked_l2 (j : Nat) (hj : j < (Q3 l i).f3.length) : ∀ (n p : Nat) (F : Nat → Nat → Bool), p + n = (Qa (Q3 l i).f3 j).f1.length →
    TotP Q (fun k => Qf.l1 k l (T2 l (fun a b => if a = i ∧ (b : Int) ∈ (Qa (Q3 l i).f3 j).f1.drop p then false else F a b)) (i : Int) ((j + 1 : Nat) : Int)) →
    TotP Q (fun k => Qf.l2 k l (T2 l F) (i : Int) (j : Int) (p : Int)) := by
  have h8 := hG.few;have hgd := hG.good i (by omega) (by omega);have hns := hgd.many;have hsl := glenOf hG i j;have e1 : wrap64 ((j : Int) + 1) = ((j + 1 : Nat) : Int) := IntWalk.wrap64_in _ (by omega);intro n
  induction n with
  | zero =>
    intro p F hp hn;refine TotP.step (fun k => by rw [Qf.l2]) ?_;rw [e1];refine TotP.ite (fun _ => ?_) (fun hh => absurd (Int.natCast_nonneg i) hh);refine TotP.ite (fun _ => ?_) (fun hh => absurd (show (i : Int) < _ from by omega) hh);refine TotP.ite (fun _ => ?_) (fun hh => absurd (Int.natCast_nonneg j) hh);refine TotP.ite (fun _ => ?_) (fun hh => absurd (show (j : Int) < _ from by omega) hh);refine TotP.ite (fun hh => absurd hh (by omega)) (fun _ => ?_);have hd : (Qa (Q3 l i).f3 j).f1.drop p = [] := List.drop_eq_nil_of_le (by omega);simp only [hd, List.not_mem_nil, and_false, if_false] at hn
    exact hn
  | succ n ih =>
    intro p F hp hn;(have hpl : p < (Qa (Q3 l i).f3 j).f1.length := by omega);obtain ⟨hs0, hs1⟩ := hgd.mem j (by omega) (by omega) _ (rd_mem hpl);have e2 : wrap64 ((p : Int) + 1) = ((p + 1 : Nat) : Int) := IntWalk.wrap64_in _ (by omega);refine TotP.step (fun k => by rw [Qf.l2]) ?_;rw [e2, e1];have hmem := mem_drop_rd hpl;generalize rd (Qa (Q3 l i).f3 j).f1 (p : Int) = s at hs0 hs1 hmem ⊢;obtain ⟨s, rfl⟩ : ∃ m : Nat, s = m := ⟨s.toNat, by omega⟩;have hrow : Qs (T2 l F) (i : Int) = tab (Q3 l i).f1.length (F i) := by unfold Qs; rw [Int.toNat_natCast]; exact T2_row l F i hi
    have hset : ∀ v, (T2 l F).set (i : Int).toNat ((Qs (T2 l F) (i : Int)).set (s : Int).toNat v) = T2 l (fun a b => if a = i ∧ b = s then v else F a b) := by
      intro v;rw [Int.toNat_natCast, Int.toNat_natCast];unfold Qs;rw [Int.toNat_natCast];exact T2_set l F i s v hi
    refine TotP.ite (fun _ => ?_) (fun hh => absurd (Int.natCast_nonneg i) hh);refine TotP.ite (fun _ => ?_) (fun hh => absurd (show (i : Int) < _ from by omega) hh);refine TotP.ite (fun _ => ?_) (fun hh => absurd (Int.natCast_nonneg j) hh);refine TotP.ite (fun _ => ?_) (fun hh => absurd (show (j : Int) < _ from by omega) hh);refine TotP.ite (fun _ => ?_) (fun hh => absurd (show (p : Int) < _ from by omega) hh);refine TotP.ite (fun _ => ?_) (fun hh => by exfalso; rw [T2_len] at hh; omega);refine TotP.ite (fun _ => ?_) (fun hh => absurd (Int.natCast_nonneg p) hh);refine TotP.ite (fun _ => ?_) (fun hh => absurd (Int.natCast_nonneg s) hh);refine TotP.ite (fun _ => ?_) (fun hh => by exfalso; rw [hrow, Y2] at hh; omega);rw [hset];refine ih (p + 1) _ (by omega) ?_
    rwa [Y8 l (G := fun a b => if a = i ∧ (b : Int) ∈ (Qa (Q3 l i).f3 j).f1.drop p then false else F a b) (fun a ha b hb => by
        by_cases ea : a = i
        · subst ea
          by_cases eb : b = s
          · subst eb
            rw [if_pos (⟨rfl, (hmem _).2 (Or.inl rfl)⟩ : _ ∧ _), if_pos (⟨rfl, rfl⟩ : _ ∧ _)]; split <;> rfl
          · have : ((b : Int) ∈ (Qa (Q3 l a).f3 j).f1.drop (p + 1)) ↔ ((b : Int) ∈ (Qa (Q3 l a).f3 j).f1.drop p) := ⟨fun h => (hmem _).2 (Or.inr h), fun h => ((hmem _).1 h).resolve_left (by omega)⟩
            by_cases em : (b : Int) ∈ (Qa (Q3 l a).f3 j).f1.drop p
            · rw [if_pos ⟨rfl, this.2 em⟩, if_pos ⟨rfl, em⟩]
            · rw [if_neg (fun h => em (this.1 h.2)), if_neg (fun h => eb h.2), if_neg (fun h => em h.2)]
        · rw [if_neg (fun h => ea h.1), if_neg (fun h => ea h.1), if_neg (fun h => ea h.1)])]
theorem linked_l1 : ∀ (n j : Nat) (F : Nat → Nat → Bool), j + n = (Q3 l i).f3.length →
    TotP Q (fun k => Qf.l0 k l (T2 l (fun a b => if a = i ∧ ((Q3 l i).f3.drop j).any (fun g => decide ((b : Int) ∈ g.f1) && !Y5 l i g.f0) = true then false else F a b)) ((i + 1 : Nat) : Int)) →
    TotP Q (fun k => Qf.l1 k l (T2 l F) (i : Int) (j : Int)) := by
  have h8 := hG.few;have hgd := hG.good i (by omega) (by omega);have hns := hgd.many;have e : wrap64 ((i : Int) + 1) = ((i + 1 : Nat) : Int) := IntWalk.wrap64_in _ (by omega);intro n
  induction n with
  | zero =>
    intro j F hj hn;refine TotP.step (fun k => by rw [Qf.l1]) ?_;rw [e];refine TotP.ite (fun _ => ?_) (fun hh => absurd (Int.natCast_nonneg i) hh);refine TotP.ite (fun _ => ?_) (fun hh => absurd (show (i : Int) < _ from by omega) hh);refine TotP.ite (fun hh => absurd hh (by omega)) (fun _ => ?_);have hd : (Q3 l i).f3.drop j = [] := List.drop_eq_nil_of_le (by omega);simp only [hd, List.any_nil, Bool.false_eq_true, and_false, if_false] at hn
    exact hn
  | succ n ih =>
    intro j F hj hn;(have hjl : j < (Q3 l i).f3.length := by omega);have e1 : wrap64 ((j : Int) + 1) = ((j + 1 : Nat) : Int) := IntWalk.wrap64_in _ (by omega);refine TotP.step (fun k => by rw [Qf.l1]) ?_;rw [e1, e];refine TotP.ite (fun _ => ?_) (fun hh => absurd (Int.natCast_nonneg i) hh);refine TotP.ite (fun _ => ?_) (fun hh => absurd (show (i : Int) < _ from by omega) hh);refine TotP.ite (fun _ => ?_) (fun hh => absurd (show (j : Int) < _ from by omega) hh);refine TotP.ite (fun _ => ?_) (fun hh => absurd (show (i : Int) ≤ _ from by omega) hh);refine TotP.ite (fun _ => ?_) (fun hh => absurd (Int.natCast_nonneg j) hh);rw [Int.toNat_natCast]
    refine TotP.bind (tot_GroupOf (l.take i) _ (by rw [List.length_take]; omega) (fun q => by
      by_cases hq : 0 ≤ q ∧ q < i
      · obtain ⟨m, rfl⟩ : ∃ m : Nat, q = m := ⟨q.toNat, by omega⟩
        rw [rd_take46 l i m (by omega)]
        exact (hG.sz m).ngrp
      · have : Q3 (l.take i) q = z46 ∨ ∃ m : Nat, Q3 (l.take i) q = Q3 l m := by
          by_cases h0 : q.toNat < i
          · right
            refine ⟨q.toNat, ?_⟩
            have := rd_take46 l i q.toNat h0
            unfold Q3 at this ⊢
            rw [Int.toNat_natCast] at this
            rw [Int.toNat_natCast]
            exact this
          · left
            unfold Q3
            rw [List.getD_eq_getElem?_getD, List.getElem?_eq_none (by rw [List.length_take]; omega)]
            rfl
        rcases this with h | ⟨m, h⟩
        · rw [h]; exact Nat.zero_le _
        · rw [h]; exact (hG.sz m).ngrp)) (fun r hr => ?_)
    subst hr
    have hfr : (XY (l.take i) (Qa (Q3 l i).f3 j).f0 (l.take i).length 0).1 < 0 ↔ Y5 l i (Qa (Q3 l i).f3 j).f0 = true := by
      rw [fresh_iff l i _ (by omega), (firstG_fresh (l.take i) _ (l.take i).length 0).1]
      constructor
      · intro h q hq;have := h q (Nat.zero_le _) (by rw [List.length_take]; omega);rwa [rd_take46 l i q hq] at this
      · intro h q _ hq;rw [List.length_take] at hq;rw [rd_take46 l i q (by omega)];exact h q (by omega)
    refine TotP.ite (fun hc => ?_) (fun hc => ?_)
    · refine ih (j + 1) F (by omega) ?_
      rwa [Y8 l (G := fun a b => if a = i ∧ ((Q3 l i).f3.drop (j + 1)).any (fun g => decide ((b : Int) ∈ g.f1) && !Y5 l i g.f0) = true then false else F a b) (fun a ha b hb => by
        rw [any_drop49 hjl, hfr.1 hc, Bool.not_true, Bool.and_false, Bool.false_or])] at hn
    · refine linked_l2 l hG i hi j hjl _ 0 F (Nat.zero_add _) ?_;refine ih (j + 1) _ (by omega) ?_;rw [List.drop_zero];have hff : Y5 l i (Qa (Q3 l i).f3 j).f0 = false := Bool.eq_false_iff.2 (fun h => hc (hfr.2 h))
      rwa [Y8 l (G := fun a b => if a = i ∧ ((Q3 l i).f3.drop j).any (fun g => decide ((b : Int) ∈ g.f1) && !Y5 l i g.f0) = true then false else F a b) (fun a ha b hb => by
        rw [any_drop49 hjl, hff, Bool.not_false, Bool.and_true]
        by_cases ea : a = i
        · subst ea
          by_cases e1 : ((Q3 l a).f3.drop (j + 1)).any (fun g => decide ((b : Int) ∈ g.f1) && !Y5 l a g.f0) = true
          · rw [if_pos ⟨rfl, e1⟩, if_pos ⟨rfl, by rw [e1, Bool.or_true]⟩]
          · rw [if_neg (fun h => e1 h.2), Bool.eq_false_iff.2 e1, Bool.or_false]
            simp only [decide_eq_true_eq]
        · rw [if_neg (fun h => ea h.1), if_neg (fun h => ea h.1), if_neg (fun h => ea h.1)])]
end
theorem linked_good (l : List (S46)) (hG : GoodL l) : Ev (fun k => Qf.f k l) (T2 l (bitL l)) := by
  have h8 := hG.few
  have hh : ∀ (n i : Nat), i + n = l.length → TotP (fun r => r = T2 l (bitL l)) (fun k => Qf.l0 k l (T2 l (fun a b => if a < i then bitL l a b else true)) (i : Int)) := by
    intro n
    induction n with
    | zero =>
      intro i h;refine TotP.step (fun k => by rw [Qf.l0]) ?_;refine TotP.ite (fun hc => absurd hc (by omega)) (fun _ => TotP.now ?_)
      rw [Y8 l (F := fun a b => if a < i then bitL l a b else true) (G := bitL l) (fun a ha b hb => if_pos (by omega))]
    | succ n ih =>
      intro i h;refine TotP.step (fun k => by rw [Qf.l0]) ?_;refine TotP.ite (fun _ => ?_) (fun hc => absurd (show (i : Int) < _ from by omega) hc);refine linked_l1 l hG i (by omega) (Q3 l i).f3.length 0 _ (Nat.zero_add _) ?_;have := ih (i + 1) (by omega)
      rwa [Y8 l (F := fun a b => if a < i + 1 then bitL l a b else true) (G := fun a b => if a = i ∧ ((Q3 l i).f3.drop 0).any (fun g => decide ((b : Int) ∈ g.f1) && !Y5 l i g.f0) = true then false else if a < i then bitL l a b else true) (fun a ha b hb => by
        rw [List.drop_zero]
        by_cases ea : a = i
        · subst ea
          simp only [Nat.lt_succ_self, Nat.lt_irrefl, if_true, if_false, true_and]
          unfold bitL
          cases (Q3 l a).f3.any (fun g => decide ((b : Int) ∈ g.f1) && !Y5 l a g.f0) <;> simp
        · simp only [ea, false_and, if_false]
          by_cases e2 : a < i
          · rw [if_pos e2, if_pos (show a < i + 1 from by omega)]
          · rw [if_neg e2, if_neg (show ¬ a < i + 1 from by omega)])] at this
  unfold Qf.f;obtain ⟨r, hr, hev⟩ := tot_Everything l hG.few (goodH16 hG);subst hr;refine Ev.bind hev ?_;obtain ⟨r, hr, hev⟩ := hh l.length 0 (Nat.zero_add _);subst hr;rwa [Y8 l (F := fun a b => if a < 0 then bitL l a b else true) (G := fun _ _ => true) (fun a ha b hb => if_neg (Nat.not_lt_zero _))] at hev
end Go.Proofs.Ytakabkjhnncbhaa.PX
namespace Go.Proofs.Ytakabkjhnncbhaa.PX
open Go.RowKit Go.Proofs.YtakabkjhnncbhaaW.PrintWords Go.Proofs.YtakabkjhnncbhaaW.PrintLast Go.Proofs.YtakabkjhnncbhaaW.PrintMore
set_option linter.unusedVariables false
set_option linter.unusedSimpArgs false
theorem len_T2 {l : List (S46)} (hG : GoodL l) (F : Nat → Nat → Bool) : (T2 l F).length ≤ 9223372036854775807 ∧ ∀ i : Int, (Qs (T2 l F) i).length ≤ 9223372036854775807 := by
  have h8 := hG.few;refine ⟨by rw [T2_len]; omega, fun i => ?_⟩;unfold Qs;by_cases h : i.toNat < l.length
  · rw [T2_row l F _ h, Y2];exact (hG.sz _).nsec
  · rw [List.getD_eq_getElem?_getD, List.getElem?_eq_none (by rw [T2_len]; omega)];exact Nat.zero_le _
theorem same_T2 {l : List (S46)} (hG : GoodL l) (F : Nat → Nat → Bool) : Ev (fun k => Qm.f k (T2 l F) (T2 l F)) true := by
  obtain ⟨r, hr, h⟩ := tot_same (T2 l F) (len_T2 hG F).1 (len_T2 hG F).2;subst hr;exact h
theorem ngrpAll {l : List (S46)} (hz : ∀ i : Int, SzM (Q3 l i)) : ∀ i : Int, (Q3 l i).f3.length ≤ 9223372036854775807 := fun i => (hz i).ngrp
end Go.Proofs.Ytakabkjhnncbhaa.PX
namespace Go.Proofs.Ytakabkjhnncbhaa.PX
open Go.RowKit Go.Proofs.YtakabkjhnncbhaaW.PrintWords Go.Proofs.YtakabkjhnncbhaaW.PrintLast Go.Proofs.YtakabkjhnncbhaaW.PrintMore
set_option linter.unusedVariables false
set_option linter.unusedSimpArgs false
def OInv (l : List (S46)) (nm : ByteArray) (i j : Nat) (many : Int) (ex : Bool) : Prop :=
  many = 0 ∨ many = 1 ∧ ex = true ∧ ((∃ i0 : Nat, i0 < i ∧ hasG (Q3 l i0) nm = true) ∨ ∃ j0 : Nat, j0 < j ∧ j0 < (Q3 l i).f3.length ∧ (Qa (Q3 l i).f3 j0).f0.toList = nm.toList)
theorem rd_mem0 {secs : List Int} (h : 0 < secs.length) : rd secs 0 ∈ secs := rd_mem (p := 0) h
theorem hasG_list (m : S46) {a b : ByteArray} (h : a.toList = b.toList) : hasG m a = hasG m b := by unfold hasG; rw [h]
section
variable {Q : Bool → Prop} (l : List (S46)) (hG : GoodL l) (nm : ByteArray) (i : Nat) (hi : i < l.length)
include hG hi
theorem one_row : Qs (T2 l (bitL l)) (i : Int) = tab (Q3 l i).f1.length (bitL l i) := by
  have hG' := hG;clear hG';unfold Qs; rw [Int.toNat_natCast]; exact T2_row l _ i hi
theorem one_l3 (many : Int) (ex : Bool) (c : Nat → Bool) (hc : ∀ b, b < (Q3 l i).f1.length → c b = false → bitL l i b = true) (hn : TotP Q (fun k => Q4.l0 k l nm (T2 l (bitL l)) many ex ((i + 1 : Nat) : Int))) :
    ∀ (n s : Nat), s + n = (Q3 l i).f1.length → TotP Q (fun k => Q4.l3 k l nm (T2 l (bitL l)) many ex (i : Int) (tab (Q3 l i).f1.length c) (s : Int)) := by
  have h8 := hG.few;have hns := (hG.good i (by omega) (by omega)).many.1;have e : wrap64 ((i : Int) + 1) = ((i + 1 : Nat) : Int) := IntWalk.wrap64_in _ (by omega);have hrow := one_row l hG i hi;intro n
  induction n with
  | zero =>
    intro s hs;refine TotP.step (fun k => by rw [Q4.l3]) ?_;rw [e]
    refine TotP.ite (fun hh => by exfalso; rw [Y2] at hh; omega) (fun _ => hn)
  | succ n ih =>
    intro s hs;have e' : wrap64 ((s : Int) + 1) = ((s + 1 : Nat) : Int) := IntWalk.wrap64_in _ (by omega);refine TotP.step (fun k => by rw [Q4.l3]) ?_;rw [e', e];(have hcs : rdOf false (tab (Q3 l i).f1.length c) (s : Int) = c s := by unfold rdOf; rw [Int.toNat_natCast]; exact tab_get _ _ _ (by omega));(have hks : rdOf false (Qs (T2 l (bitL l)) (i : Int)) (s : Int) = bitL l i s := by rw [hrow]; unfold rdOf; rw [Int.toNat_natCast]; exact tab_get _ _ _ (by omega));rw [hcs, hks];refine TotP.ite (fun _ => ?_) (fun hh => by exfalso; rw [Y2] at hh; omega);refine TotP.ite (fun _ => ?_) (fun hh => absurd (Int.natCast_nonneg s) hh);refine TotP.ite (fun _ => ih (s + 1) (by omega)) (fun hf => ?_);refine TotP.ite (fun _ => ?_) (fun hh => absurd (Int.natCast_nonneg i) hh);refine TotP.ite (fun _ => ?_) (fun hh => by exfalso; rw [T2_len] at hh; omega);refine TotP.ite (fun _ => ?_) (fun hh => by exfalso; rw [hrow, Y2] at hh; omega);refine TotP.ite (fun _ => ih (s + 1) (by omega)) (fun hh => absurd (hc s (by omega) (Bool.eq_false_iff.2 hf)) hh)
theorem one_l2 (j : Nat) (hj : j < (Q3 l i).f3.length) (many : Int) (ex : Bool) : ∀ (n p : Nat) (c : Nat → Bool), p + n = (Qa (Q3 l i).f3 j).f1.length →
    (∀ c' : Nat → Bool, (∀ b, c b = true → c' b = true) → (∀ b : Nat, (b : Int) ∈ (Qa (Q3 l i).f3 j).f1.drop p → c' b = true) → TotP Q (fun k => if (Qa (Q3 l i).f3 j).f0.toList = nm.toList then Q4.j5 k l nm (T2 l (bitL l)) many ex (i : Int) (tab (Q3 l i).f1.length c') (j : Int) (decide (((Qa (Q3 l i).f3 j).f1.length : Int) > 0)) (Qa (Q3 l i).f3 j).f0 (Qa (Q3 l i).f3 j).f1 else Q4.j5 k l nm (T2 l (bitL l)) many ex (i : Int) (tab (Q3 l i).f1.length c') (j : Int) false (Qa (Q3 l i).f3 j).f0 (Qa (Q3 l i).f3 j).f1)) →
    TotP Q (fun k => Q4.l2 k l nm (T2 l (bitL l)) many ex (i : Int) (tab (Q3 l i).f1.length c) (j : Int) (p : Int) (Qa (Q3 l i).f3 j).f0 (Qa (Q3 l i).f3 j).f1) := by
  have h8 := hG.few;have hgd := hG.good i (by omega) (by omega);have hsl := glenOf hG i j;have hrow := one_row l hG i hi;intro n
  induction n with
  | zero =>
    intro p c hp hn;refine TotP.step (fun k => by rw [Q4.l2]) ?_;refine TotP.ite (fun hh => absurd hh (by omega)) (fun _ => ?_);refine hn c (fun _ h => h) (fun b hb => ?_);rw [List.drop_eq_nil_of_le (by omega)] at hb
    exact absurd hb List.not_mem_nil
  | succ n ih =>
    intro p c hp hn;(have hpl : p < (Qa (Q3 l i).f3 j).f1.length := by omega);obtain ⟨hs0, hs1⟩ := hgd.mem j (by omega) (by omega) _ (rd_mem hpl);have hm0 := rd_mem0 (by omega : 0 < (Qa (Q3 l i).f3 j).f1.length);obtain ⟨hz0, hz1⟩ := hgd.mem j (by omega) (by omega) _ hm0;have e2 : wrap64 ((p : Int) + 1) = ((p + 1 : Nat) : Int) := IntWalk.wrap64_in _ (by omega);refine TotP.step (fun k => by rw [Q4.l2]) ?_;rw [e2];have hmem := mem_drop_rd hpl
    have hb0 : ∀ s : Int, s ∈ (Qa (Q3 l i).f3 j).f1 → rdOf false (Qs (T2 l (bitL l)) (i : Int)) s = Y5 l i (Qa (Q3 l i).f3 j).f0 := by
      intro s hs;obtain ⟨a0, a1⟩ := hgd.mem j (by omega) (by omega) _ hs;obtain ⟨m, rfl⟩ : ∃ m : Nat, s = m := ⟨s.toNat, by omega⟩;rw [hrow]; unfold rdOf; rw [Int.toNat_natCast, tab_get _ _ _ (by omega)];exact bit_mem l hG i j m hi hj hs
    have hq : (rdOf false (Qs (T2 l (bitL l)) (i : Int)) (rd (Qa (Q3 l i).f3 j).f1 (p : Int)) != rdOf false (Qs (T2 l (bitL l)) (i : Int)) (rd (Qa (Q3 l i).f3 j).f1 0)) = false := by
      rw [hb0 _ (rd_mem hpl), hb0 _ hm0, bne_self_eq_false]
    rw [hq];generalize rd (Qa (Q3 l i).f3 j).f1 (p : Int) = s at hs0 hs1 hmem ⊢;obtain ⟨s, rfl⟩ : ∃ m : Nat, s = m := ⟨s.toNat, by omega⟩;refine TotP.ite (fun _ => ?_) (fun hh => absurd (show (p : Int) < _ from by omega) hh);refine TotP.ite (fun _ => ?_) (fun hh => absurd (Int.natCast_nonneg p) hh);refine TotP.ite (fun _ => ?_) (fun hh => absurd (Int.natCast_nonneg s) hh);refine TotP.ite (fun _ => ?_) (fun hh => by exfalso; rw [Y2] at hh; omega);refine TotP.ite (fun _ => ?_) (fun hh => absurd (Int.natCast_nonneg i) hh);refine TotP.ite (fun _ => ?_) (fun hh => by exfalso; rw [T2_len] at hh; omega);refine TotP.ite (fun _ => ?_) (fun hh => by exfalso; rw [hrow, Y2] at hh; omega);refine TotP.ite (fun _ => ?_) (fun hh => absurd (show (0 : Int) < _ from by omega) hh);refine TotP.ite (fun _ => ?_) (fun hh => absurd hz0 hh);refine TotP.ite (fun _ => ?_) (fun hh => by exfalso; rw [hrow, Y2] at hh; omega);refine TotP.ite (fun hh => absurd hh (by decide)) (fun _ => ?_);rw [Int.toNat_natCast, tab_set];refine ih (p + 1) _ (by omega) (fun c' h1 h2 => hn c' (fun b hb => h1 b ?_) (fun b hb => ?_))
    · split
      · rfl
      · exact hb
    · rcases (hmem b).1 hb with h | h
      · exact h1 b (by rw [if_pos (by omega)])
      · exact h2 b h
theorem one_l1 (hn : ∀ many ex, OInv l nm (i + 1) 0 many ex → TotP Q (fun k => Q4.l0 k l nm (T2 l (bitL l)) many ex ((i + 1 : Nat) : Int))) : ∀ (n j : Nat) (many : Int) (ex : Bool) (c : Nat → Bool), j + n = (Q3 l i).f3.length → OInv l nm i j many ex →
    (∀ (j' b : Nat), j' < j → (b : Int) ∈ (Qa (Q3 l i).f3 j').f1 → c b = true) →
    TotP Q (fun k => Q4.l1 k l nm (T2 l (bitL l)) many ex (i : Int) (tab (Q3 l i).f1.length c) (j : Int)) := by
  have h8 := hG.few;have hgd := hG.good i (by omega) (by omega);have hns := hgd.many;have hrow := one_row l hG i hi;intro n
  induction n with
  | zero =>
    intro j many ex c hj hO hc;refine TotP.step (fun k => by rw [Q4.l1]) ?_;refine TotP.ite (fun _ => ?_) (fun hh => absurd (Int.natCast_nonneg i) hh);refine TotP.ite (fun _ => ?_) (fun hh => absurd (show (i : Int) < _ from by omega) hh);refine TotP.ite (fun hh => absurd hh (by omega)) (fun _ => ?_);refine one_l3 l hG nm i hi many ex c (fun b hb hf => bit_free l i b (fun j' hj' hm => ?_)) (hn many ex ?_) (Q3 l i).f1.length 0 (Nat.zero_add _)
    · rw [hc j' b (by omega) hm] at hf;exact absurd hf (by decide)
    · rcases hO with h | ⟨h1, h2, h3⟩
      · exact Or.inl h
      · refine Or.inr ⟨h1, h2, Or.inl ?_⟩;rcases h3 with ⟨i0, a, b⟩ | ⟨j0, a, b, e⟩
        · exact ⟨i0, by omega, b⟩
        · exact ⟨i, by omega, by rw [← hasG_list _ e]; exact hasG_at l i j0 b⟩
  | succ n ih =>
    intro j many ex c hj hO hc;(have hjl : j < (Q3 l i).f3.length := by omega);have e1 : wrap64 ((j : Int) + 1) = ((j + 1 : Nat) : Int) := IntWalk.wrap64_in _ (by omega);refine TotP.step (fun k => by rw [Q4.l1]) ?_;refine TotP.ite (fun _ => ?_) (fun hh => absurd (Int.natCast_nonneg i) hh);refine TotP.ite (fun _ => ?_) (fun hh => absurd (show (i : Int) < _ from by omega) hh);refine TotP.ite (fun _ => ?_) (fun hh => absurd (show (j : Int) < _ from by omega) hh);refine TotP.ite (fun _ => ?_) (fun hh => absurd (Int.natCast_nonneg j) hh);refine one_l2 l hG nm i hi j hjl many ex _ 0 c (Nat.zero_add _) (fun c' h1 h2 => ?_)
    have hc' : ∀ (j' b : Nat), j' < j + 1 → (b : Int) ∈ (Qa (Q3 l i).f3 j').f1 → c' b = true := by
      intro j' b hj' hb;by_cases e : j' = j
      · subst e; exact h2 b (by rw [List.drop_zero]; exact hb)
      · exact h1 b (hc j' b (by omega) hb)
    have hO' : ∀ x, OInv l nm i (j + 1) many (ex || x) := by
      intro x;rcases hO with h | ⟨h1, h2, h3⟩
      · exact Or.inl h
      · refine Or.inr ⟨h1, by rw [h2]; rfl, ?_⟩;rcases h3 with h | ⟨j0, a, b⟩
        · exact Or.inl h
        · exact Or.inr ⟨j0, by omega, b⟩
    refine TotP.ite (fun hnm => ?_) (fun _ => ?_)
    · refine TotP.step (fun k => by rw [Q4.j5]) ?_;rw [e1];refine TotP.ite (fun hpos => ?_) (fun _ => ih (j + 1) many ex c' (by omega) (by have := hO' false; rwa [Bool.or_false] at this) hc');have hpos : (0 : Int) < (Qa (Q3 l i).f3 j).f1.length := of_decide_eq_true hpos;have hm0 := rd_mem0 (by omega : 0 < (Qa (Q3 l i).f3 j).f1.length);obtain ⟨hz0, hz1⟩ := hgd.mem j (by omega) (by omega) _ hm0
      have hbit : rdOf false (Qs (T2 l (bitL l)) (i : Int)) (rd (Qa (Q3 l i).f3 j).f1 0) = Y5 l i (Qa (Q3 l i).f3 j).f0 := by
        obtain ⟨m, hm⟩ : ∃ m : Nat, rd (Qa (Q3 l i).f3 j).f1 0 = m := ⟨(rd (Qa (Q3 l i).f3 j).f1 0).toNat, by omega⟩;rw [hm] at hm0 hz1 ⊢;rw [hrow]; unfold rdOf; rw [Int.toNat_natCast, tab_get _ _ _ (by omega)];exact bit_mem l hG i j m hi hjl hm0
      rw [hbit];refine TotP.ite (fun _ => ?_) (fun hh => absurd (Int.natCast_nonneg i) hh);refine TotP.ite (fun _ => ?_) (fun hh => by exfalso; rw [T2_len] at hh; omega);refine TotP.ite (fun _ => ?_) (fun hh => absurd hpos hh);refine TotP.ite (fun _ => ?_) (fun hh => absurd hz0 hh);refine TotP.ite (fun _ => ?_) (fun hh => by exfalso; rw [hrow, Y2] at hh; omega);refine TotP.ite (fun hf => ?_) (fun _ => ih (j + 1) many true c' (by omega) (by have := hO' true; rwa [Bool.or_true] at this) hc');have hfr := (fresh_iff l i _ (by omega)).1 hf
      have h0 : many = 0 := by
        rcases hO with h | ⟨_, _, ⟨i0, a, b⟩ | ⟨j0, a, b, e⟩⟩
        · exact h
        · rw [← hasG_list _ hnm, hfr i0 a] at b;exact absurd b (by decide)
        · exact absurd (e.trans hnm.symm) (hgd.names j0 j (by omega) (by omega) (by omega))
      subst h0;exact ih (j + 1) _ true c' (by omega) (Or.inr ⟨(IntWalk.wrap64_in _ (by omega)).trans (by decide), rfl, Or.inr ⟨j, by omega, hjl, hnm⟩⟩) hc'
    · refine TotP.step (fun k => by rw [Q4.j5]) ?_;rw [e1];refine TotP.ite (fun hh => absurd hh (by decide)) (fun _ => ih (j + 1) many ex c' (by omega) (by have := hO' false; rwa [Bool.or_false] at this) hc')
end
theorem groups_one (l : List (S46)) (nm : ByteArray) (hz : ∀ i : Int, SzM (Q3 l i)) (hl : l.length ≤ 9223372036854775807) : Ev (fun k => Q4.f k l nm) true := by
  obtain ⟨⟨w1, w2⟩, hc, _, hgood⟩ := tot_lists l hz hl;unfold Q4.f;by_cases c : w1 = 0
  · obtain ⟨c2, hG⟩ := hgood c;have c2 : w2 = 0 := c2;subst c c2;have h8 := hG.few;refine Ev.bind (choose_good l hG) ?_;refine Ev.bind chooses_true ?_;refine Ev.yes rfl ?_;refine Ev.step (fun k => by rw [Q4.j0]) ?_;refine Ev.no (show ¬ (((0 : Int) != 0) = true) from by decide) ?_
    have hh : ∀ (n i : Nat) (many : Int) (ex : Bool), i + n = l.length → OInv l nm i 0 many ex → TotP (fun r => r = true) (fun k => Q4.l0 k l nm (T2 l (bitL l)) many ex (i : Int)) := by
      intro n
      induction n with
      | zero =>
        intro i many ex h hO;refine TotP.step (fun k => by rw [Q4.l0]) ?_;refine TotP.ite (fun hh => absurd hh (by omega)) (fun _ => ?_);rcases hO with h | ⟨h1, h2, _⟩
        · subst h;refine TotP.ite (fun _ => TotP.ite (fun _ => TotP.now rfl) (fun _ => TotP.now rfl)) (fun hh => absurd (show (0 : Int) ≤ 1 from by decide) hh)
        · subst h1 h2
          refine TotP.ite (fun _ => TotP.ite (fun _ => TotP.now rfl) (fun hh => absurd rfl hh)) (fun hh => absurd (Int.le_refl _) hh)
      | succ n ih =>
        intro i many ex h hO;(have hi : i < l.length := by omega);have hns := (hG.good i (by omega) (by omega)).many;refine TotP.step (fun k => by rw [Q4.l0]) ?_;have hrow := one_row l hG i hi;refine TotP.ite (fun _ => ?_) (fun hh => absurd (show (i : Int) < _ from by omega) hh);refine TotP.ite (fun _ => ?_) (fun hh => absurd (by rw [T2_len]) hh);refine TotP.ite (fun _ => ?_) (fun hh => absurd (Int.natCast_nonneg i) hh);refine TotP.ite (fun _ => ?_) (fun hh => by exfalso; rw [T2_len] at hh; omega);rw [hrow, Y2, bne_self_eq_false];refine TotP.step (fun k => by rw [Q4.j2]) ?_;refine TotP.ite (fun hh => absurd hh (by decide)) (fun _ => ?_);refine TotP.ite (fun _ => ?_) (fun hh => absurd (Int.natCast_nonneg i) hh);refine TotP.ite (fun _ => ?_) (fun hh => absurd (show (i : Int) < _ from by omega) hh);refine TotP.ite (fun _ => ?_) (fun hh => absurd (Int.natCast_nonneg _) hh);refine TotP.ite (fun _ => ?_) (fun hh => absurd (show Int.toNat _ ≤ _ from by rw [Int.toNat_natCast]; omega) hh);rw [Int.toNat_natCast, tab_rep];exact one_l1 l hG nm i hi (fun many ex hO => ih (i + 1) many ex (by omega) hO) (Q3 l i).f3.length 0 many ex _ (Nat.zero_add _) hO (fun j' b hj' => absurd hj' (Nat.not_lt_zero _))
    obtain ⟨r, hr, hev⟩ := hh l.length 0 0 false (Nat.zero_add _) (Or.inl rfl);subst hr;exact hev
  · refine Ev.bind (choose_bad l (w1, w2) hc c) ?_;refine Ev.bind chooses_true ?_;refine Ev.yes rfl ?_;refine Ev.step (fun k => by rw [Q4.j0]) ?_;refine Ev.yes (bne_iff_ne.2 c) ?_;refine Ev.bind chooses_true (Ev.yes rfl ?_);exact Ev.now _
end Go.Proofs.Ytakabkjhnncbhaa.PX
namespace Go.Proofs.Ytakabkjhnncbhaa.PX
open Go.RowKit Go.Proofs.YtakabkjhnncbhaaW.PrintWords Go.Proofs.YtakabkjhnncbhaaW.PrintLast Go.Proofs.YtakabkjhnncbhaaW.PrintMore
open Go.ChangeShapes Go.WideShapes
set_option linter.unusedVariables false
set_option linter.unusedSimpArgs false
theorem addr_add_add (a : Addr) (m n : Nat) : (a.add m).add n = a.add (m + n) := by
  unfold Addr.add;by_cases hm : m = 0
  · subst hm; simp
  · by_cases hn : n = 0
    · subst hn; simp
    · simp [hm, hn, Nat.add_assoc]
structure Op {α : Type} (d : Kd α) (t : TypeId) (Sz : α → Prop) : Prop where
  cells : Try.prog.cellsOf t = d.sz
  opens : ∀ {H : Type} {enc : TypeId × Value → H} {W : World} {base : Nat} {sp : Nat → Bool} {held : Bool} {fuel : Nat} {cs : List Value} {x : DataW H × List MemPlace}, DataW.trod enc Try.prog W base sp held fuel t cs = some x → ∃ a, d.K W a cs ∧ Sz a
theorem XU {k : IntKind} {t : TypeId} (ht : Try.prog.underlying t = some (.int k)) (hc : Try.prog.cellsOf t = 1) : Op (Kd.int k) t (fun _ => True) :=
  ⟨hc, fun h => by obtain ⟨n, rfl, _, _⟩ := DataW.trod_int ht h; exact ⟨n, rfl, trivial⟩⟩
theorem op_bool {t : TypeId} (ht : Try.prog.underlying t = some .bool) (hc : Try.prog.cellsOf t = 1) : Op Kd.bool t (fun _ => True) :=
  ⟨hc, fun h => by obtain ⟨n, rfl, _⟩ := DataW.trod_bool ht h; exact ⟨n, rfl, trivial⟩⟩
theorem Yq {t : TypeId} (ht : Try.prog.underlying t = some .string) (hc : Try.prog.cellsOf t = 1) : Op Kd.string t OkS :=
  ⟨hc, fun h => by obtain ⟨n, rfl, _, hs⟩ := DataW.trod_string ht h; exact ⟨n, rfl, hs⟩⟩
def sl {α : Type} (P : α → Prop) (l : List α) : Prop := l.length ≤ 9223372036854775807 ∧ ∀ x ∈ l, P x
theorem Yi {α : Type} {d : Kd α} {e t : TypeId} {Sz : α → Prop} (ho : Op d e Sz) (ht : Try.prog.underlying t = some (.slice e)) (hc : Try.prog.cellsOf t = 1) : Op (Kd.slice e d) t (sl Sz) := by
  refine ⟨hc, fun {_ enc W base sp held fuel cs x} h => ?_⟩;rcases DataW.trod_slice ht h with ⟨rfl, _⟩ | ⟨a, len, cap, elems, rest, n, _, rfl, _, hb, hl, hm, hlen, hel, _, _⟩
  · exact ⟨[], ⟨none, 0, rfl, Nat.le_refl _, rfl, Nat.zero_le _, fun h => absurd h (Nat.lt_irrefl _)⟩, Nat.zero_le _, fun x hx => absurd hx (List.not_mem_nil)⟩
  · have hq : ∀ i : Fin len, ∃ y : α, Sz y ∧ ∃ c, c.length = d.sz ∧ d.K W y c ∧ ∀ j u, c[j]? = some u → W.cell? (a.add (i.val * d.sz + j)) = some u := by
      intro i;have h1 := hel i.val i.isLt;rw [List.getElem?_eq_getElem (by omega : i.val < elems.length), Option.bind_eq_some_iff] at h1;obtain ⟨c, hcs, hy⟩ := h1;obtain ⟨y, hK, hS⟩ := ho.opens hy;refine ⟨y, hS, c, d.K_len hK, hK, fun j u hu => ?_⟩;rw [ho.cells] at hcs;obtain ⟨_, _, hcell⟩ := World.cells?_some hcs;(have hj : j < d.sz := by have := (List.getElem?_eq_some_iff.1 hu).1; rw [d.K_len hK] at this; exact this);have := hcell j hj;rw [hu] at this;rw [addr_add_add] at this;exact this
    obtain ⟨f, hf⟩ := Classical.axiomOfChoice hq;have hmax : len ≤ 9223372036854775807 := Nat.le_trans hl (by simpa [maxLen] using hm);have hll : (List.ofFn f).length = len := List.length_ofFn;refine ⟨List.ofFn f, ⟨some a, cap, by rw [hll], by rw [hll]; exact hl, rfl, by rw [hll]; exact hmax, fun _ => ⟨a, rfl, fun j p hp => ?_⟩⟩, by rw [hll]; exact hmax, fun y hy => ?_⟩
    · obtain ⟨hj, rfl⟩ := List.getElem?_eq_some_iff.1 hp;rw [List.getElem_ofFn];obtain ⟨_, c, h1, h2, h3⟩ := hf ⟨j, by rw [hll] at hj; exact hj⟩;exact ⟨c, h1, h2, h3⟩
    · obtain ⟨i, rfl⟩ := List.mem_ofFn.1 hy;exact (hf i).1
theorem X9 {α : Type} {d : Kd α} {ft : TypeId} {Sz : α → Prop} (ho : Op d ft Sz) {H : Type} {enc : TypeId × Value → H} {W : World} {base : Nat} {sp : Nat → Bool} {held : Bool} {n : Nat} {fs : Array Field} {cs : List Value} {xs : List (DataW H × List MemPlace)}
    (hf : ∀ (i : Nat) (f : Field), fs[i]? = some f → DataW.trod enc Try.prog W base sp held n f.type ((cs.drop f.offset).take (Try.prog.cellsOf f.type)) = xs[i]?) (hn : xs.length = fs.size) (i : Nat) {f : Field} (hi : fs[i]? = some f) (ht : f.type = ft) {o : Nat} (hofs : f.offset = o) :
    ∃ a, d.K W a ((cs.drop o).take d.sz) ∧ Sz a := by
  have h := hf i f hi;(have hlt : i < xs.length := by rw [hn]; exact (Array.getElem?_eq_some_iff.1 hi).1);rw [List.getElem?_eq_getElem hlt, ht, hofs, ho.cells] at h;exact ho.opens h
theorem Xr {α β : Type} {a : Kd α} {b : Kd β} {W : World} {x : α} {y : β} {cs : List Value} {o o' : Nat} (ha : a.K W x ((cs.drop o).take a.sz)) (hb : b.K W y ((cs.drop o').take b.sz)) (h : o' = o + a.sz := by rfl) : (Kd.pair a b).K W (x, y) ((cs.drop o).take (Kd.pair a b).sz) := by
  subst h;refine ⟨_, _, ?_, ha, hb⟩;show (cs.drop o).take (a.sz + b.sz) = _;rw [List.take_add, List.drop_drop]
theorem sl_rd {α : Type} {P : α → Prop} {l : List α} (h : sl P l) (z : α) (hz : P z) (i : Nat) : P (l.getD i z) := by
  by_cases hi : i < l.length
  · rw [List.getD_eq_getElem?_getD, List.getElem?_eq_getElem hi];exact h.2 _ (List.getElem_mem hi)
  · rw [List.getD_eq_getElem?_getD, List.getElem?_eq_none (by omega)];exact hz
def s97 (x : S97) : Prop := (fun _ => True) x.f0 ∧ (fun _ => True) x.f1 ∧ (fun _ => True) x.f2 ∧ (fun _ => True) x.f3
theorem op97 : Op k97 97 s97 := by
  refine ⟨by kernel_rfl, fun {_ _ W _ _ _ fuel cs x} h => ?_⟩;obtain ⟨xs, n, rfl, _, hl, hn, hf⟩ := DataW.trod_struct Try.underlying97 h;obtain ⟨a0, K0, s0⟩ := X9 (XU Try.underlying3 (by kernel_rfl)) hf hn 0 rfl rfl (o := 0) rfl;obtain ⟨a1, K1, s1⟩ := X9 (XU Try.underlying3 (by kernel_rfl)) hf hn 1 rfl rfl (o := 1) rfl;obtain ⟨a2, K2, s2⟩ := X9 (XU Try.underlying3 (by kernel_rfl)) hf hn 2 rfl rfl (o := 2) rfl;obtain ⟨a3, K3, s3⟩ := X9 (XU Try.underlying3 (by kernel_rfl)) hf hn 3 rfl rfl (o := 3) rfl
  have hK := (Xr K0 (Xr K1 (Xr K2 K3)))
  refine ⟨⟨a0, a1, a2, a3⟩, ?_, ⟨s0, s1, s2, s3⟩⟩;have hlen : cs.length = 4 := hl.trans (by kernel_rfl);rw [List.drop_zero, List.take_of_length_le (by rw [hlen]; exact Nat.le_refl _)] at hK;exact hK
def s126 (x : S126) : Prop := (fun _ => True) x.f0 ∧ (fun _ => True) x.f1 ∧ (fun _ => True) x.f2
theorem op126 : Op k126 126 s126 := by
  refine ⟨by kernel_rfl, fun {_ _ W _ _ _ fuel cs x} h => ?_⟩;obtain ⟨xs, n, rfl, _, hl, hn, hf⟩ := DataW.trod_struct Try.underlying126 h;obtain ⟨a0, K0, s0⟩ := X9 (XU Try.underlying3 (by kernel_rfl)) hf hn 0 rfl rfl (o := 0) rfl;obtain ⟨a1, K1, s1⟩ := X9 (XU Try.underlying3 (by kernel_rfl)) hf hn 1 rfl rfl (o := 1) rfl;obtain ⟨a2, K2, s2⟩ := X9 (XU Try.underlying3 (by kernel_rfl)) hf hn 2 rfl rfl (o := 2) rfl
  have hK := (Xr K0 (Xr K1 K2))
  refine ⟨⟨a0, a1, a2⟩, ?_, ⟨s0, s1, s2⟩⟩;have hlen : cs.length = 3 := hl.trans (by kernel_rfl);rw [List.drop_zero, List.take_of_length_le (by rw [hlen]; exact Nat.le_refl _)] at hK;exact hK
def s128 (x : S128) : Prop := (fun _ => True) x.f0 ∧ (fun _ => True) x.f1 ∧ (fun _ => True) x.f2 ∧ (fun _ => True) x.f3
theorem op128 : Op k128 128 s128 := by
  refine ⟨by kernel_rfl, fun {_ _ W _ _ _ fuel cs x} h => ?_⟩;obtain ⟨xs, n, rfl, _, hl, hn, hf⟩ := DataW.trod_struct Try.underlying128 h;obtain ⟨a0, K0, s0⟩ := X9 (XU Try.underlying3 (by kernel_rfl)) hf hn 0 rfl rfl (o := 0) rfl;obtain ⟨a1, K1, s1⟩ := X9 (XU Try.underlying3 (by kernel_rfl)) hf hn 1 rfl rfl (o := 1) rfl;obtain ⟨a2, K2, s2⟩ := X9 (XU Try.underlying3 (by kernel_rfl)) hf hn 2 rfl rfl (o := 2) rfl;obtain ⟨a3, K3, s3⟩ := X9 (XU Try.underlying3 (by kernel_rfl)) hf hn 3 rfl rfl (o := 3) rfl
  have hK := (Xr K0 (Xr K1 (Xr K2 K3)))
  refine ⟨⟨a0, a1, a2, a3⟩, ?_, ⟨s0, s1, s2, s3⟩⟩;have hlen : cs.length = 4 := hl.trans (by kernel_rfl);rw [List.drop_zero, List.take_of_length_le (by rw [hlen]; exact Nat.le_refl _)] at hK;exact hK
def s89 (x : S89) : Prop := OkS x.f0 ∧ (fun _ => True) x.f1 ∧ (fun _ => True) x.f2 ∧ (sl (fun _ => True)) x.f3 ∧ (fun _ => True) x.f4 ∧ (fun _ => True) x.f5 ∧ (sl s97) x.f6 ∧ (sl s126) x.f7 ∧ (sl s128) x.f8
theorem op89 : Op k89 89 s89 := by
  refine ⟨by kernel_rfl, fun {_ _ W _ _ _ fuel cs x} h => ?_⟩;obtain ⟨xs, n, rfl, _, hl, hn, hf⟩ := DataW.trod_struct Try.underlying89 h;obtain ⟨a0, K0, s0⟩ := X9 (Yq Try.underlying9 (by kernel_rfl)) hf hn 0 rfl rfl (o := 0) rfl;obtain ⟨a1, K1, s1⟩ := X9 (XU Try.underlying3 (by kernel_rfl)) hf hn 1 rfl rfl (o := 1) rfl;obtain ⟨a2, K2, s2⟩ := X9 (XU Try.underlying3 (by kernel_rfl)) hf hn 2 rfl rfl (o := 2) rfl;obtain ⟨a3, K3, s3⟩ := X9 (Yi (XU Try.underlying5 (by kernel_rfl)) Try.underlying84 (by kernel_rfl)) hf hn 3 rfl rfl (o := 3) rfl;obtain ⟨a4, K4, s4⟩ := X9 (XU Try.underlying3 (by kernel_rfl)) hf hn 4 rfl rfl (o := 4) rfl;obtain ⟨a5, K5, s5⟩ := X9 (op_bool Try.underlying4 (by kernel_rfl)) hf hn 5 rfl rfl (o := 5) rfl;obtain ⟨a6, K6, s6⟩ := X9 (Yi op97 Try.underlying85 (by kernel_rfl)) hf hn 6 rfl rfl (o := 6) rfl;obtain ⟨a7, K7, s7⟩ := X9 (Yi op126 Try.underlying86 (by kernel_rfl)) hf hn 7 rfl rfl (o := 7) rfl;obtain ⟨a8, K8, s8⟩ := X9 (Yi op128 Try.underlying87 (by kernel_rfl)) hf hn 8 rfl rfl (o := 8) rfl
  have hK := (Xr K0 (Xr K1 (Xr K2 (Xr K3 (Xr K4 (Xr K5 (Xr K6 (Xr K7 K8))))))))
  refine ⟨⟨a0, a1, a2, a3, a4, a5, a6, a7, a8⟩, ?_, ⟨s0, s1, s2, s3, s4, s5, s6, s7, s8⟩⟩;have hlen : cs.length = 9 := hl.trans (by kernel_rfl);rw [List.drop_zero, List.take_of_length_le (by rw [hlen]; exact Nat.le_refl _)] at hK;exact hK
def s61 (x : S61) : Prop := OkS x.f0 ∧ OkS x.f1 ∧ (fun _ => True) x.f2 ∧ (fun _ => True) x.f3 ∧ (fun _ => True) x.f4 ∧ (fun _ => True) x.f5 ∧ (fun _ => True) x.f6 ∧ (fun _ => True) x.f7 ∧ (fun _ => True) x.f8
theorem op61 : Op k61 61 s61 := by
  refine ⟨by kernel_rfl, fun {_ _ W _ _ _ fuel cs x} h => ?_⟩;obtain ⟨xs, n, rfl, _, hl, hn, hf⟩ := DataW.trod_struct Try.underlying61 h;obtain ⟨a0, K0, s0⟩ := X9 (Yq Try.underlying9 (by kernel_rfl)) hf hn 0 rfl rfl (o := 0) rfl;obtain ⟨a1, K1, s1⟩ := X9 (Yq Try.underlying9 (by kernel_rfl)) hf hn 1 rfl rfl (o := 1) rfl;obtain ⟨a2, K2, s2⟩ := X9 (op_bool Try.underlying4 (by kernel_rfl)) hf hn 2 rfl rfl (o := 2) rfl;obtain ⟨a3, K3, s3⟩ := X9 (op_bool Try.underlying4 (by kernel_rfl)) hf hn 3 rfl rfl (o := 3) rfl;obtain ⟨a4, K4, s4⟩ := X9 (XU Try.underlying3 (by kernel_rfl)) hf hn 4 rfl rfl (o := 4) rfl;obtain ⟨a5, K5, s5⟩ := X9 (XU Try.underlying3 (by kernel_rfl)) hf hn 5 rfl rfl (o := 5) rfl;obtain ⟨a6, K6, s6⟩ := X9 (XU Try.underlying3 (by kernel_rfl)) hf hn 6 rfl rfl (o := 6) rfl;obtain ⟨a7, K7, s7⟩ := X9 (XU Try.underlying3 (by kernel_rfl)) hf hn 7 rfl rfl (o := 7) rfl;obtain ⟨a8, K8, s8⟩ := X9 (XU Try.underlying3 (by kernel_rfl)) hf hn 8 rfl rfl (o := 8) rfl
  have hK := (Xr K0 (Xr K1 (Xr K2 (Xr K3 (Xr K4 (Xr K5 (Xr K6 (Xr K7 K8))))))))
  refine ⟨⟨a0, a1, a2, a3, a4, a5, a6, a7, a8⟩, ?_, ⟨s0, s1, s2, s3, s4, s5, s6, s7, s8⟩⟩;have hlen : cs.length = 9 := hl.trans (by kernel_rfl);rw [List.drop_zero, List.take_of_length_le (by rw [hlen]; exact Nat.le_refl _)] at hK;exact hK
def s49 (x : S49) : Prop := OkS x.f0 ∧ (sl (fun _ => True)) x.f1
theorem op49 : Op k49 49 s49 := by
  refine ⟨by kernel_rfl, fun {_ _ W _ _ _ fuel cs x} h => ?_⟩;obtain ⟨xs, n, rfl, _, hl, hn, hf⟩ := DataW.trod_struct Try.underlying49 h;obtain ⟨a0, K0, s0⟩ := X9 (Yq Try.underlying9 (by kernel_rfl)) hf hn 0 rfl rfl (o := 0) rfl;obtain ⟨a1, K1, s1⟩ := X9 (Yi (XU Try.underlying3 (by kernel_rfl)) Try.underlying47 (by kernel_rfl)) hf hn 1 rfl rfl (o := 1) rfl
  have hK := (Xr K0 K1)
  refine ⟨⟨a0, a1⟩, ?_, ⟨s0, s1⟩⟩;have hlen : cs.length = 2 := hl.trans (by kernel_rfl);rw [List.drop_zero, List.take_of_length_le (by rw [hlen]; exact Nat.le_refl _)] at hK;exact hK
def s137 (x : S137) : Prop := OkS x.f0 ∧ (fun _ => True) x.f1 ∧ (fun _ => True) x.f2
theorem op137 : Op k137 137 s137 := by
  refine ⟨by kernel_rfl, fun {_ _ W _ _ _ fuel cs x} h => ?_⟩;obtain ⟨xs, n, rfl, _, hl, hn, hf⟩ := DataW.trod_struct Try.underlying137 h;obtain ⟨a0, K0, s0⟩ := X9 (Yq Try.underlying9 (by kernel_rfl)) hf hn 0 rfl rfl (o := 0) rfl;obtain ⟨a1, K1, s1⟩ := X9 (XU Try.underlying3 (by kernel_rfl)) hf hn 1 rfl rfl (o := 1) rfl;obtain ⟨a2, K2, s2⟩ := X9 (XU Try.underlying3 (by kernel_rfl)) hf hn 2 rfl rfl (o := 2) rfl
  have hK := (Xr K0 (Xr K1 K2))
  refine ⟨⟨a0, a1, a2⟩, ?_, ⟨s0, s1, s2⟩⟩;have hlen : cs.length = 3 := hl.trans (by kernel_rfl);rw [List.drop_zero, List.take_of_length_le (by rw [hlen]; exact Nat.le_refl _)] at hK;exact hK
def s122 (x : S122) : Prop := (fun _ => True) x.f0 ∧ OkS x.f1 ∧ (fun _ => True) x.f2 ∧ (fun _ => True) x.f3 ∧ (fun _ => True) x.f4 ∧ (sl s137) x.f5
theorem op122 : Op k122 122 s122 := by
  refine ⟨by kernel_rfl, fun {_ _ W _ _ _ fuel cs x} h => ?_⟩;obtain ⟨xs, n, rfl, _, hl, hn, hf⟩ := DataW.trod_struct Try.underlying122 h;obtain ⟨a0, K0, s0⟩ := X9 (XU Try.underlying3 (by kernel_rfl)) hf hn 0 rfl rfl (o := 0) rfl;obtain ⟨a1, K1, s1⟩ := X9 (Yq Try.underlying9 (by kernel_rfl)) hf hn 1 rfl rfl (o := 1) rfl;obtain ⟨a2, K2, s2⟩ := X9 (XU Try.underlying3 (by kernel_rfl)) hf hn 2 rfl rfl (o := 2) rfl;obtain ⟨a3, K3, s3⟩ := X9 (XU Try.underlying3 (by kernel_rfl)) hf hn 3 rfl rfl (o := 3) rfl;obtain ⟨a4, K4, s4⟩ := X9 (XU Try.underlying3 (by kernel_rfl)) hf hn 4 rfl rfl (o := 4) rfl;obtain ⟨a5, K5, s5⟩ := X9 (Yi op137 Try.underlying120 (by kernel_rfl)) hf hn 5 rfl rfl (o := 5) rfl
  have hK := (Xr K0 (Xr K1 (Xr K2 (Xr K3 (Xr K4 K5)))))
  refine ⟨⟨a0, a1, a2, a3, a4, a5⟩, ?_, ⟨s0, s1, s2, s3, s4, s5⟩⟩;have hlen : cs.length = 6 := hl.trans (by kernel_rfl);rw [List.drop_zero, List.take_of_length_le (by rw [hlen]; exact Nat.le_refl _)] at hK;exact hK
def s46 (x : S46) : Prop := OkS x.f0 ∧ (sl s89) x.f1 ∧ (sl s61) x.f2 ∧ (sl s49) x.f3 ∧ (sl OkS) x.f4 ∧ (sl s122) x.f5
theorem op46 : Op k46 46 s46 := by
  refine ⟨by kernel_rfl, fun {_ _ W _ _ _ fuel cs x} h => ?_⟩;obtain ⟨xs, n, rfl, _, hl, hn, hf⟩ := DataW.trod_struct Try.underlying46 h;obtain ⟨a0, K0, s0⟩ := X9 (Yq Try.underlying9 (by kernel_rfl)) hf hn 0 rfl rfl (o := 0) rfl;obtain ⟨a1, K1, s1⟩ := X9 (Yi op89 Try.underlying40 (by kernel_rfl)) hf hn 1 rfl rfl (o := 1) rfl;obtain ⟨a2, K2, s2⟩ := X9 (Yi op61 Try.underlying41 (by kernel_rfl)) hf hn 2 rfl rfl (o := 2) rfl;obtain ⟨a3, K3, s3⟩ := X9 (Yi op49 Try.underlying42 (by kernel_rfl)) hf hn 3 rfl rfl (o := 3) rfl;obtain ⟨a4, K4, s4⟩ := X9 (Yi (Yq Try.underlying9 (by kernel_rfl)) Try.underlying43 (by kernel_rfl)) hf hn 4 rfl rfl (o := 4) rfl;obtain ⟨a5, K5, s5⟩ := X9 (Yi op122 Try.underlying44 (by kernel_rfl)) hf hn 5 rfl rfl (o := 5) rfl
  have hK := (Xr K0 (Xr K1 (Xr K2 (Xr K3 (Xr K4 K5)))))
  refine ⟨⟨a0, a1, a2, a3, a4, a5⟩, ?_, ⟨s0, s1, s2, s3, s4, s5⟩⟩;have hlen : cs.length = 6 := hl.trans (by kernel_rfl);rw [List.drop_zero, List.take_of_length_le (by rw [hlen]; exact Nat.le_refl _)] at hK;exact hK
end Go.Proofs.Ytakabkjhnncbhaa.PX
namespace Go.Proofs.Ytakabkjhnncbhaa.PX
open Go.RowKit Go.Proofs.YtakabkjhnncbhaaW.PrintWords Go.Proofs.YtakabkjhnncbhaaW.PrintLast Go.Proofs.YtakabkjhnncbhaaW.PrintMore
set_option linter.unusedVariables false
set_option linter.unusedSimpArgs false
theorem zz97 : s97 z97 := ⟨trivial, trivial, trivial, trivial⟩
theorem zz126 : s126 z126 := ⟨trivial, trivial, trivial⟩
theorem zz128 : s128 z128 := ⟨trivial, trivial, trivial, trivial⟩
theorem sl_nil {α : Type} (P : α → Prop) : sl P [] := ⟨Nat.zero_le _, fun x hx => absurd hx (List.not_mem_nil)⟩
theorem ok_nil : OkS ⟨#[]⟩ := Nat.zero_le _
theorem zz89 : s89 z89 := ⟨ok_nil, trivial, trivial, sl_nil _, trivial, trivial, sl_nil _, sl_nil _, sl_nil _⟩
theorem zz61 : s61 z61 := ⟨ok_nil, ok_nil, trivial, trivial, trivial, trivial, trivial, trivial, trivial⟩
theorem zz49 : s49 z49 := ⟨ok_nil, sl_nil _⟩
theorem zz137 : s137 z137 := ⟨ok_nil, trivial, trivial⟩
theorem zz122 : s122 z122 := ⟨trivial, ok_nil, trivial, trivial, trivial, sl_nil _⟩
theorem zz46 : s46 z46 := ⟨ok_nil, sl_nil _, sl_nil _, sl_nil _, sl_nil _, sl_nil _⟩
theorem szM_of {x : S46} (h : s46 x) : SzM x := by
  obtain ⟨h0, h1, h2, h3, h4, h5⟩ := h
  exact ⟨h0, fun i => (sl_rd h1 _ zz89 i.toNat).1, fun i => ⟨(sl_rd h2 _ zz61 i.toNat).1, (sl_rd h2 _ zz61 i.toNat).2.1⟩, fun i => (sl_rd h3 _ zz49 i.toNat).1, fun i => sl_rd h4 _ ok_nil i, fun i => (sl_rd h5 _ zz122 i.toNat).2.1,
    fun i k => (sl_rd (sl_rd h5 _ zz122 i.toNat).2.2.2.2.2 _ zz137 k.toNat).1, h1.1, h2.1, h3.1, h4.1, fun i => (sl_rd h3 _ zz49 i.toNat).2.1⟩
theorem szL {l : List (S46)} (h : sl s46 l) : ∀ i : Int, SzM (Q3 l i) := fun i => szM_of (sl_rd h _ zz46 i.toNat)
end Go.Proofs.Ytakabkjhnncbhaa.PX
