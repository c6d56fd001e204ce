/- A part of the proof of a law: its words, walks of functions, or plain lemmas. -/
-- Written by this session's own programs (wip/printx.py, gen_*.py, assemble.py) and by hand.
import Derived.Test.YtakabkjhnncbhaaT01
import Derived.Test.YtakabkjhnncbhaaT03
import Derived.Test.YtakabkjhnncbhaaT04
import Derived.Test.YtakabkjhnncbhaaT06
import Derived.Test.YtakabkjhnncbhaaT02
import Derived.Test.YtakabkjhnncbhaaT07
import Derived.Test.YtakabkjhnncbhaaT08
import Derived.Test.YtakabkjhnncbhaaT10
import Derived.Test.YtakabkjhnncbhaaT11
import Derived.Test.YtakabkjhnncbhaaT09
namespace Go.Proofs.Ytakabkjhnncbhaa.PX
open Go.RowKit Go.Proofs.YtakabkjhnncbhaaW.PrintWords Go.Proofs.YtakabkjhnncbhaaW.PrintLast Go.Proofs.YtakabkjhnncbhaaW.PrintMore
set_option linter.unusedVariables false
set_option linter.unusedSimpArgs false
def TotP {α : Type} (P : α → Prop) (g : Nat → Option α) : Prop := ∃ r, P r ∧ Ev g r
def T1 {α : Type} (_ : α) : Prop := True
theorem TotP.now {α : Type} {P : α → Prop} {r : α} (h : P r) : TotP P (fun _ => some r) := ⟨r, h, Ev.now r⟩
theorem TotP.nowT {α : Type} {r : α} : TotP T1 (fun _ => some r) := ⟨r, trivial, Ev.now r⟩
theorem TotP.bind {α β : Type} {P : α → Prop} {Q : β → Prop} {g : Nat → Option α} {f : Nat → α → Option β} (h : TotP P g) (k : ∀ a, P a → TotP Q (fun n => f n a)) : TotP Q (fun n => (g n).bind (f n)) := by
  obtain ⟨a, ha, h⟩ := h;obtain ⟨r, hr, k⟩ := k a ha;exact ⟨r, hr, Ev.bind h k⟩
theorem TotP.step {α : Type} {P : α → Prop} {g f : Nat → Option α} (h : ∀ k, g (k + 1) = f k) (k : TotP P f) : TotP P g := by
  obtain ⟨r, hr, k⟩ := k;exact ⟨r, hr, Ev.step h k⟩
theorem TotP.ite {α : Type} {P : α → Prop} {c : Prop} [Decidable c] {a b : Nat → Option α} (h : c → TotP P a) (k : ¬ c → TotP P b) : TotP P (fun n => if c then a n else b n) := by
  by_cases e : c
  · obtain ⟨r, hr, h⟩ := h e;exact ⟨r, hr, Ev.congr (fun n => if_pos e) h⟩
  · obtain ⟨r, hr, h⟩ := k e;exact ⟨r, hr, Ev.congr (fun n => if_neg e) h⟩
theorem TotP.mono {α : Type} {P Q : α → Prop} {g : Nat → Option α} (h : TotP P g) (k : ∀ r, P r → Q r) : TotP Q g := by
  obtain ⟨r, hr, h⟩ := h;exact ⟨r, k r hr, h⟩
theorem TotP.free {α : Type} {P : α → Prop} {o : Option α} {r : α} (h : o = some r) (hp : P r) : TotP P (fun _ => o) := ⟨r, hp, 0, fun _ _ => h⟩
theorem tot_within (a b c : Int) : TotP (fun r => r = decide (b ≤ a ∧ a ≤ c)) (fun _ => Qj.f a b c) := by
  unfold Qj.f;refine TotP.ite (fun h => TotP.now ?_) (fun h => TotP.now ?_)
  · by_cases h2 : a ≤ c
    · rw [decide_eq_true h2, decide_eq_true ⟨h, h2⟩]
    · rw [decide_eq_false h2, decide_eq_false (fun hh => h2 hh.2)]
  · rw [decide_eq_false (fun hh => h hh.1)]
theorem tot_Field (a : Int) : TotP (fun r => 0 ≤ r ∧ r ≤ 4) (fun _ => Y3.f a) := by
  unfold Y3.f
  repeat' first
    | exact TotP.now (by omega)
    | refine TotP.ite (fun _ => ?_) (fun _ => ?_)
theorem tot_isDigit (a : Int) : TotP T1 (fun _ => QZ.f a) := by
  unfold QZ.f;refine TotP.ite (fun _ => TotP.nowT) (fun _ => TotP.nowT)
theorem tot_isNameByte (a : Int) : TotP T1 (fun _ => XH.f a) := by
  unfold XH.f
  repeat' first
    | exact TotP.nowT
    | refine TotP.ite (fun _ => ?_) (fun _ => ?_)
    | refine TotP.bind (tot_isDigit _) (fun _ _ => ?_)
theorem tot_IsName (a : ByteArray) (hs : a.size ≤ 9223372036854775807) : TotP T1 (fun k => Qo.f k a) := by
  have hl : ∀ (n : Nat) (x : Int), 0 ≤ x → x + n = a.size → TotP T1 (fun k => Qo.l0 k a (a.size : Int) x) := by
    intro n
    induction n with
    | zero =>
      intro x h0 h;refine TotP.step (fun k => by rw [Qo.l0]) ?_;refine TotP.ite (fun _ => ?_) (fun _ => ?_)
      · exfalso; omega
      · exact TotP.ite (fun _ => TotP.nowT) (fun _ => TotP.nowT)
    | succ n ih =>
      intro x h0 h;have e : wrap64 (x + 1) = x + 1 := IntWalk.wrap64_in _ (by omega);have hn := ih (x + 1) (by omega) (by omega);refine TotP.step (fun k => by rw [Qo.l0]) ?_;rw [e]
      repeat' first
        | exact hn
        | exact TotP.nowT
        | (exfalso; omega)
        | refine TotP.ite (fun _ => ?_) (fun _ => ?_)
        | refine TotP.bind (tot_isNameByte _) (fun _ _ => ?_)
        | refine TotP.bind (tot_isDigit _) (fun _ _ => ?_)
  exact hl a.size 0 (by omega) (by omega)
theorem tot_Contains (l : List ByteArray) (a : ByteArray) (hs : l.length ≤ 9223372036854775807) : TotP T1 (fun k => QW.f k l a) := by
  have hl : ∀ (n : Nat) (x : Int), 0 ≤ x → x + n = l.length → TotP T1 (fun k => Qu.l0 k l a (l.length : Int) x) := by
    intro n
    induction n with
    | zero =>
      intro x h0 h;refine TotP.step (fun k => by rw [Qu.l0]) ?_;refine TotP.ite (fun _ => ?_) (fun _ => TotP.nowT)
      exfalso; omega
    | succ n ih =>
      intro x h0 h;have e : wrap64 (x + 1) = x + 1 := IntWalk.wrap64_in _ (by omega);have hn := ih (x + 1) (by omega) (by omega);refine TotP.step (fun k => by rw [Qu.l0]) ?_;rw [e]
      repeat' first
        | exact hn
        | exact TotP.nowT
        | (exfalso; omega)
        | refine TotP.ite (fun _ => ?_) (fun _ => ?_)
  exact TotP.bind (hl l.length 0 (by omega) (by omega)) (fun _ _ => TotP.nowT)
theorem tot_relocs (a : ByteArray) (b c : Int) (d : List Int) (e : Int) (f : Bool) (l6 : List (S97)) (l7 : List (S126)) (l8 : List (S128)) (x1 : Int) (hs : l6.length ≤ 100) : TotP T1 (fun k => QK.f k a b c d e f l6 l7 l8 x1) := by
  have hl : ∀ (n : Nat) (x x5 : Int), 0 ≤ x → x + n = l6.length → TotP T1 (fun k => QK.l0 k x1 x5 l6 (l6.length : Int) x a b c d e f l6 l7 l8) := by
    intro n
    induction n with
    | zero =>
      intro x x5 h0 h;refine TotP.step (fun k => by rw [QK.l0]) ?_;refine TotP.ite (fun _ => ?_) (fun _ => TotP.nowT)
      exfalso; omega
    | succ n ih =>
      intro x x5 h0 h;have e : wrap64 (x + 1) = x + 1 := IntWalk.wrap64_in _ (by omega);have hn := fun y => ih (x + 1) y (by omega) (by omega);refine TotP.step (fun k => by rw [QK.l0]) ?_
      repeat' first
        | (rw [e]; exact hn _)
        | exact TotP.nowT
        | (exfalso; omega)
        | refine TotP.ite (fun _ => ?_) (fun _ => ?_)
        | refine TotP.bind (tot_Field _) (fun _ _ => ?_)
        | refine TotP.bind (tot_within _ _ _) (fun _ _ => ?_)
        | refine TotP.step (fun k => by rw [QK.j1]) ?_
  exact hl l6.length 0 0 (by omega) (by omega)
theorem tot_rows (a : ByteArray) (b c : Int) (d : List Int) (e : Int) (f : Bool) (l6 : List (S97)) (l7 : List (S126)) (l8 : List (S128)) (x1 : Int) (hs7 : l7.length ≤ 100) (hs8 : l8.length ≤ 100) : TotP T1 (fun k => Qv.f k a b c d e f l6 l7 l8 x1) := by
  have hl2 : ∀ (n : Nat) (x x5 : Int), 0 ≤ x → x + n = l8.length → TotP T1 (fun k => Qv.l1 k x5 l8 (l8.length : Int) x a b c d e f l6 l7 l8) := by
    intro n
    induction n with
    | zero =>
      intro x x5 h0 h;refine TotP.step (fun k => by rw [Qv.l1]) ?_;refine TotP.ite (fun _ => ?_) (fun _ => TotP.nowT)
      exfalso; omega
    | succ n ih =>
      intro x x5 h0 h;have e : wrap64 (x + 1) = x + 1 := IntWalk.wrap64_in _ (by omega);have hn := fun y => ih (x + 1) y (by omega) (by omega);refine TotP.step (fun k => by rw [Qv.l1]) ?_
      repeat' first
        | (rw [e]; exact hn _)
        | exact TotP.nowT
        | (exfalso; omega)
        | refine TotP.ite (fun _ => ?_) (fun _ => ?_)
        | refine TotP.bind (tot_within _ _ _) (fun _ _ => ?_)
        | refine TotP.step (fun k => by rw [Qv.j3]) ?_
  have hl : ∀ (n : Nat) (x x5 : Int), 0 ≤ x → x + n = l7.length → TotP T1 (fun k => Qv.l0 k x1 x5 l7 (l7.length : Int) x a b c d e f l6 l7 l8) := by
    intro n
    induction n with
    | zero =>
      intro x x5 h0 h;refine TotP.step (fun k => by rw [Qv.l0]) ?_;refine TotP.ite (fun _ => ?_) (fun _ => hl2 l8.length 0 _ (by omega) (by omega))
      exfalso; omega
    | succ n ih =>
      intro x x5 h0 h;have e : wrap64 (x + 1) = x + 1 := IntWalk.wrap64_in _ (by omega);have hn := fun y => ih (x + 1) y (by omega) (by omega);refine TotP.step (fun k => by rw [Qv.l0]) ?_
      repeat' first
        | (rw [e]; exact hn _)
        | exact TotP.nowT
        | (exfalso; omega)
        | refine TotP.ite (fun _ => ?_) (fun _ => ?_)
        | refine TotP.bind (tot_within _ _ _) (fun _ _ => ?_)
        | refine TotP.step (fun k => by rw [Qv.j1]) ?_
  exact hl l7.length 0 (-1) (by omega) (by omega)
end Go.Proofs.Ytakabkjhnncbhaa.PX
namespace Go.Proofs.Ytakabkjhnncbhaa.PX
open Go.RowKit Go.Proofs.YtakabkjhnncbhaaW.PrintWords Go.Proofs.YtakabkjhnncbhaaW.PrintLast Go.Proofs.YtakabkjhnncbhaaW.PrintMore
set_option linter.unusedVariables false
set_option linter.unusedSimpArgs false
theorem TotP.const {α : Type} {P : α → Prop} {o : Option α} (h : TotP P (fun _ => o)) : ∃ r, P r ∧ o = some r := by
  obtain ⟨r, hr, K, h⟩ := h;exact ⟨r, hr, h K (Nat.le_refl _)⟩
def OkS (a : ByteArray) : Prop := a.size ≤ 9223372036854775807
theorem name_some (a : ByteArray) (hs : OkS a) : ∃ b, Qo.f (a.size + 2) a = some b := by
  unfold OkS at hs
  have hl : ∀ (n k : Nat) (x : Int), 0 ≤ x → x + n = a.size → n < k → TotP T1 (fun _ : Nat => Qo.l0 k a (a.size : Int) x) := by
    intro n
    induction n with
    | zero =>
      intro k x h0 h hk;obtain ⟨k, rfl⟩ : ∃ m, k = m + 1 := ⟨k - 1, by omega⟩;rw [Qo.l0];refine TotP.ite (fun _ => ?_) (fun _ => ?_)
      · exfalso; omega
      · exact TotP.ite (fun _ => TotP.nowT) (fun _ => TotP.nowT)
    | succ n ih =>
      intro k x h0 h hk;obtain ⟨k, rfl⟩ : ∃ m, k = m + 1 := ⟨k - 1, by omega⟩;have e : wrap64 (x + 1) = x + 1 := IntWalk.wrap64_in _ (by omega);have hn := ih k (x + 1) (by omega) (by omega) (by omega);rw [Qo.l0, e]
      repeat' first
        | exact hn
        | exact TotP.nowT
        | (exfalso; omega)
        | refine TotP.ite (fun _ => ?_) (fun _ => ?_)
        | refine TotP.bind (tot_isNameByte _) (fun _ _ => ?_)
        | refine TotP.bind (tot_isDigit _) (fun _ _ => ?_)
  obtain ⟨b, _, h⟩ := (hl a.size (a.size + 2) 0 (by omega) (by omega) (by omega)).const;exact ⟨b, h⟩
theorem tot_Name (a : ByteArray) (hs : OkS a) : TotP (fun b => Qo.f (a.size + 2) a = some b) (fun k => Qo.f k a) := by
  obtain ⟨b, hb⟩ := name_some a hs;exact ⟨b, hb, Ev.of (fun k => Qo.mono a k) hb⟩
theorem tot_section (a0 : ByteArray) (l1 : List (S89)) (l2 : List (S61)) (l3 : List (S49)) (l4 : List ByteArray) (l5 : List (S122)) (i : Int) (h0 : 0 ≤ i) (h1 : i < l1.length) (hn : OkS (Qg l1 i).f0) : TotP T1 (fun k => Qp.f k a0 l1 l2 l3 l4 l5 i) := by
  unfold Qp.f
  repeat' first
    | exact TotP.nowT
    | (exfalso; omega)
    | exact tot_relocs _ _ _ _ _ _ _ _ _ _ (by omega)
    | refine TotP.ite (fun h => ?_) (fun h => absurd rfl h)
    | refine TotP.ite (fun h => absurd h (by decide)) (fun h => ?_)
    | refine TotP.ite (fun _ => ?_) (fun _ => ?_)
    | refine TotP.bind (tot_Name _ hn) (fun _ _ => ?_)
    | refine TotP.bind (tot_within _ _ _) (fun _ _ => ?_)
    | refine TotP.bind (TotP.free (r := _) rfl (trivial : T1 _)) (fun _ _ => ?_)
    | refine TotP.bind (tot_relocs _ _ _ _ _ _ _ _ _ _ (by omega)) (fun _ _ => ?_)
    | refine TotP.bind (tot_rows _ _ _ _ _ _ _ _ _ _ (by omega) (by (try simp only [decide_eq_true_eq] at *); omega)) (fun _ _ => ?_)
    | refine TotP.step (fun k => by rw [Qp.j0]) ?_
    | refine TotP.step (fun k => by rw [Qp.j1]) ?_
    | refine TotP.step (fun k => by rw [Qp.j2]) ?_
    | refine TotP.step (fun k => by rw [Qp.j3]) ?_
def SymOk (l1 : List (S89)) (s : S61) : Prop := 1 ≤ s.f4 ∧ s.f4 ≤ 3 ∧ -2 ≤ s.f5 ∧ s.f5 < l1.length
theorem tot_symbol (a0 : ByteArray) (l1 : List (S89)) (l2 : List (S61)) (l3 : List (S49)) (l4 : List ByteArray) (l5 : List (S122)) (i : Int) (h0 : 0 ≤ i) (h1 : i < l2.length) (hl1 : l1.length ≤ 9223372036854775807) (hn : OkS (Qd l2 i).f0) (hv : OkS (Qd l2 i).f1) :
    TotP (fun r => r = 0 → SymOk l1 (Qd l2 i)) (fun k => Qq.f k a0 l1 l2 l3 l4 l5 i) := by
  have hw : wrap64 ((l1.length : Int) - 1) = l1.length - 1 := IntWalk.wrap64_in _ (by omega);unfold Qq.f SymOk
  repeat' first
    | exact TotP.now (fun h => absurd h (by decide))
    | exact TotP.now (fun _ => by (try simp only [decide_eq_true_eq] at *); omega)
    | (exfalso; (try simp only [decide_eq_true_eq] at *); omega)
    | refine TotP.ite (fun h => ?_) (fun h => absurd rfl h)
    | refine TotP.ite (fun h => absurd h (by decide)) (fun h => ?_)
    | refine TotP.ite (fun _ => ?_) (fun _ => ?_)
    | refine TotP.bind (tot_Name _ hn) (fun _ _ => ?_)
    | refine TotP.bind (tot_Name _ hv) (fun _ _ => ?_)
    | refine TotP.bind (tot_within _ _ _) (fun t ht => ?_); subst ht
    | refine TotP.bind (TotP.free (r := _) rfl (trivial : T1 _)) (fun _ _ => ?_)
    | refine TotP.step (fun k => by rw [Qq.j0]) ?_
    | refine TotP.step (fun k => by rw [Qq.j1]) ?_
    | refine TotP.step (fun k => by rw [Qq.j2]) ?_
    | refine TotP.step (fun k => by rw [Qq.j3]) ?_
end Go.Proofs.Ytakabkjhnncbhaa.PX
namespace Go.Proofs.Ytakabkjhnncbhaa.PX
open Go.RowKit Go.Proofs.YtakabkjhnncbhaaW.PrintWords Go.Proofs.YtakabkjhnncbhaaW.PrintLast Go.Proofs.YtakabkjhnncbhaaW.PrintMore
set_option linter.unusedVariables false
set_option linter.unusedSimpArgs false
theorem tot_field (l : List (S122)) (i k : Int) (hi0 : 0 ≤ i) (hi1 : i < l.length) (hk0 : 0 ≤ k) (hk1 : k < (Q7 l i).f5.length) (hb : k > 0 → 0 ≤ (QH (Q7 l i).f5 (k - 1)).f1 ∧ (QH (Q7 l i).f5 (k - 1)).f1 < l.length)
    (hbig : (Q7 l i).f5.length ≤ 1000) (hn : OkS (QH (Q7 l i).f5 k).f0) : TotP (fun r => r = 0 → 0 ≤ (QH (Q7 l i).f5 k).f1 ∧ (QH (Q7 l i).f5 k).f1 < i) (fun n => QG.f n l i k) := by
  have hw : wrap64 (k - 1) = k - 1 := IntWalk.wrap64_in _ (by omega);unfold QG.f;simp only [hw]
  repeat' first
    | exact TotP.now (fun h => absurd h (by decide))
    | exact TotP.now (fun _ => by (try simp only [decide_eq_true_eq] at *); omega)
    | (exfalso; (try simp only [decide_eq_true_eq] at *); omega)
    | refine TotP.ite (fun h => ?_) (fun h => absurd rfl h)
    | refine TotP.ite (fun h => absurd h (by decide)) (fun h => ?_)
    | refine TotP.ite (fun _ => ?_) (fun _ => ?_)
    | refine TotP.bind (tot_Name _ hn) (fun _ _ => ?_)
    | refine TotP.bind (TotP.free (r := _) rfl (trivial : T1 _)) (fun _ _ => ?_)
    | refine TotP.step (fun k => by rw [QG.j0]) ?_
    | refine TotP.step (fun k => by rw [QG.j1]) ?_
section
variable (l : List (S122)) (i : Int) (hi0 : 0 ≤ i) (hi1 : i < l.length) (hf : ∀ k, OkS (QH (Q7 l i).f5 k).f0)
include hi0 hi1 hf
theorem tot_fields (h8 : (Q7 l i).f5.length ≤ 8) : ∀ (n : Nat) (x : Int), 0 ≤ x → x + n = (Q7 l i).f5.length → (x > 0 → 0 ≤ (QH (Q7 l i).f5 (x - 1)).f1 ∧ (QH (Q7 l i).f5 (x - 1)).f1 < l.length) → TotP T1 (fun k => Qe.l0 k l i ((Q7 l i).f5.length : Int) x) := by
  intro n
  induction n with
  | zero =>
    intro x h0 h _;refine TotP.step (fun k => by rw [Qe.l0]) ?_;refine TotP.ite (fun _ => ?_) (fun _ => TotP.nowT)
    exfalso; omega
  | succ n ih =>
    intro x h0 h hp;have e : wrap64 (x + 1) = x + 1 := IntWalk.wrap64_in _ (by omega);refine TotP.step (fun k => by rw [Qe.l0]) ?_;rw [e];refine TotP.ite (fun hlt => ?_) (fun _ => TotP.nowT);refine TotP.bind (tot_field l i x hi0 hi1 h0 hlt hp (by omega) (hf x)) (fun r hr => ?_);refine TotP.ite (fun hz => ?_) (fun _ => TotP.nowT);have hq := hr hz;refine ih (x + 1) (by omega) (by omega) (fun _ => ?_);rw [show x + 1 - 1 = x from by omega];omega
theorem tot_j6 (b : Bool) (x0 : Int) (x1 : ByteArray) (x2 x3 x4 : Int) : TotP T1 (fun k => Qe.j6 k l i b x0 x1 x2 x3 x4 (Q7 l i).f5) := by
  refine TotP.step (fun k => by rw [Qe.j6]) ?_;refine TotP.ite (fun _ => TotP.nowT) (fun _ => ?_);refine TotP.ite (fun _ => TotP.nowT) (fun _ => ?_);exact tot_fields l i hi0 hi1 hf (by omega) (Q7 l i).f5.length 0 (by omega) (by omega) (fun h => absurd h (by decide))
theorem tot_j5 (b : Bool) (x0 : Int) (x1 : ByteArray) (x2 x3 x4 : Int) (h3 : 0 ≤ x3 ∧ x3 < l.length) : TotP T1 (fun k => Qe.j5 k l i b x0 x1 x2 x3 x4 (Q7 l i).f5) := by
  refine TotP.step (fun k => by rw [Qe.j5]) ?_
  repeat' first
    | exact TotP.nowT
    | (exfalso; omega)
    | exact tot_j6 l i hi0 hi1 hf _ _ _ _ _ _
    | refine TotP.ite (fun _ => ?_) (fun _ => ?_)
theorem tot_j4 (b : Bool) (x0 : Int) (x1 : ByteArray) (x2 x3 x4 : Int) (h3 : 0 ≤ x3 ∧ x3 < l.length) : TotP T1 (fun k => Qe.j4 k l i b x0 x1 x2 x3 x4 (Q7 l i).f5) := by
  refine TotP.step (fun k => by rw [Qe.j4]) ?_
  repeat' first
    | exact TotP.nowT
    | exact tot_j5 l i hi0 hi1 hf _ _ _ _ _ _ h3
    | refine TotP.ite (fun _ => ?_) (fun _ => ?_)
theorem tot_j3 (b : Bool) (x0 : Int) (x1 : ByteArray) (x2 x3 x4 : Int) (h3 : 0 ≤ x3 ∧ x3 < l.length) : TotP T1 (fun k => Qe.j3 k l i b x0 x1 x2 x3 x4 (Q7 l i).f5) := by
  refine TotP.step (fun k => by rw [Qe.j3]) ?_
  repeat' first
    | exact TotP.nowT
    | exact tot_j4 l i hi0 hi1 hf _ _ _ _ _ _ h3
    | refine TotP.ite (fun _ => ?_) (fun _ => ?_)
theorem tot_j2 (b : Bool) (x0 : Int) (x1 : ByteArray) (x2 x3 x4 : Int) (h3 : b = false → 0 ≤ x3 ∧ x3 < l.length) : TotP T1 (fun k => Qe.j2 k l i b x0 x1 x2 x3 x4 (Q7 l i).f5) := by
  refine TotP.step (fun k => by rw [Qe.j2]) ?_;refine TotP.ite (fun _ => TotP.nowT) (fun hb => ?_);have h3 := h3 (Bool.eq_false_iff.2 hb)
  repeat' first
    | exact TotP.nowT
    | exact tot_j3 l i hi0 hi1 hf _ _ _ _ _ _ h3
    | refine TotP.ite (fun _ => ?_) (fun _ => ?_)
theorem tot_j1 (b : Bool) (x0 : Int) (x1 : ByteArray) (x2 x3 x4 : Int) : TotP T1 (fun k => Qe.j1 k l i b x0 x1 x2 x3 x4 (Q7 l i).f5) := by
  refine TotP.step (fun k => by rw [Qe.j1]) ?_
  repeat' first
    | exact TotP.nowT
    | exact tot_j2 l i hi0 hi1 hf _ _ _ _ _ _ (fun h => by (try simp only [decide_eq_false_iff_not] at h); first | omega | exact absurd h (by decide))
    | refine TotP.ite (fun _ => ?_) (fun _ => ?_)
theorem tot_check (hn : OkS (Q7 l i).f1) : TotP T1 (fun k => Qe.f k l i) := by
  unfold Qe.f
  repeat' first
    | exact TotP.nowT
    | (exfalso; omega)
    | exact tot_j1 l i hi0 hi1 hf _ _ _ _ _ _
    | refine TotP.ite (fun _ => ?_) (fun _ => ?_)
    | refine TotP.bind (tot_Name _ hn) (fun _ _ => ?_)
    | refine TotP.step (fun k => by rw [Qe.j0]) ?_
end
theorem tot_records (l : List (S122)) (hn : ∀ i, OkS (Q7 l i).f1) (hf : ∀ i k, OkS (QH (Q7 l i).f5 k).f0) : TotP (fun r => r.1 = 0 → r.2 = 0) (fun k => QI.f k l) := by
  have hl : l.length ≤ 30 → ∀ (n : Nat) (x : Int), 0 ≤ x → x + n = l.length → TotP (fun r => r.1 = 0 → r.2 = 0) (fun k => QI.l0 k l (l.length : Int) x) := by
    intro h30 n
    induction n with
    | zero =>
      intro x h0 h;refine TotP.step (fun k => by rw [QI.l0]) ?_;refine TotP.ite (fun _ => ?_) (fun _ => TotP.now (fun _ => rfl))
      exfalso; omega
    | succ n ih =>
      intro x h0 h;have e : wrap64 (x + 1) = x + 1 := IntWalk.wrap64_in _ (by omega);refine TotP.step (fun k => by rw [QI.l0]) ?_;rw [e];refine TotP.ite (fun hlt => ?_) (fun _ => TotP.now (fun _ => rfl));refine TotP.bind (tot_check l x h0 hlt (hf x) (hn x)) (fun r _ => ?_);refine TotP.ite (fun _ => ih (x + 1) (by omega) (by omega)) (fun hz => TotP.now (fun h => absurd h hz))
  unfold QI.f;refine TotP.ite (fun _ => TotP.now (fun h => absurd h (by decide))) (fun h => hl (by omega) l.length 0 (by omega) (by omega))
end Go.Proofs.Ytakabkjhnncbhaa.PX
namespace Go.Proofs.Ytakabkjhnncbhaa.PX
open Go.RowKit Go.Proofs.YtakabkjhnncbhaaW.PrintWords Go.Proofs.YtakabkjhnncbhaaW.PrintLast Go.Proofs.YtakabkjhnncbhaaW.PrintMore
set_option linter.unusedVariables false
set_option linter.unusedSimpArgs false
structure SzM (m : S46) : Prop where
  name : OkS m.f0
  sec : ∀ i, OkS (Qg m.f1 i).f0
  sym : ∀ i, OkS (Qd m.f2 i).f0 ∧ OkS (Qd m.f2 i).f1
  grp : ∀ i, OkS (Qa m.f3 i).f0
  file : ∀ i, OkS (m.f4.getD i ByteArray.empty)
  typ : ∀ i, OkS (Q7 m.f5 i).f1
  fld : ∀ i k, OkS (QH (Q7 m.f5 i).f5 k).f0
  nsec : m.f1.length ≤ 9223372036854775807
  nsym : m.f2.length ≤ 9223372036854775807
  ngrp : m.f3.length ≤ 9223372036854775807
  nfile : m.f4.length ≤ 9223372036854775807
  glen : ∀ i, (Qa m.f3 i).f1.length ≤ 9223372036854775807
theorem tot_each {σ : Type} (step : Nat → σ → Int → Option (Int × σ)) (base : Int) (n : Nat) (Inv : Int → σ → Prop) (h : ∀ (i : Int) st, 0 ≤ i → i < n → Inv i st → TotP (fun p => p.1 = 0 → Inv (i + 1) p.2) (fun k => step k st i)) (st : σ) (h0 : Inv 0 st) :
    TotP (fun r => r.1 = 0 → Inv n r.2.2) (fun k => Yr (step k) base n 0 st) := by
  have hl : ∀ (m : Nat) (i : Int) st, 0 ≤ i → i + m = n → Inv i st → TotP (fun r => r.1 = 0 → Inv n r.2.2) (fun k => Yr (step k) base m i st) := by
    intro m
    induction m with
    | zero =>
      intro i st h0 hi hI;(have : i = n := by omega);subst this
      exact TotP.now (fun _ => hI)
    | succ m ih =>
      intro i st h0 hi hI;simp only [Yr];refine TotP.bind (h i st h0 (by omega) hI) (fun p hp => ?_);exact TotP.ite (fun hz => ih (i + 1) p.2 (by omega) (by omega) (hp hz)) (fun hz => TotP.now (fun hh => absurd hh hz))
  exact hl n 0 st (Int.le_refl _) (by omega) h0
theorem tot_vfiles (fs : List ByteArray) (hs : ∀ i, OkS (fs.getD i ByteArray.empty)) (hl : fs.length ≤ 9223372036854775807) : ∀ (n i : Nat), TotP (fun v => v < 0 ∨ (i : Int) ≤ v ∧ v < i + n) (fun k => vfiles k fs n i)
  | 0, _ => TotP.now (Or.inl (by decide))
  | n + 1, i => by
    simp only [vfiles];refine TotP.bind (tot_Name _ (hs i)) (fun b _ => TotP.ite (fun _ => ?_) (fun _ => TotP.now (by omega)));refine TotP.bind (tot_Contains _ _ (by rw [List.length_take]; omega)) (fun c _ => TotP.ite (fun _ => TotP.now (by omega)) (fun _ => ?_));exact (tot_vfiles fs hs hl n (i + 1)).mono (fun v hv => by omega)
structure GInv (ns : Nat) (gs : List (S49)) (i : Int) (us : List Bool) : Prop where
  len : us.length = ns
  used : ∀ s : Int, us.getD s.toNat false = true → 0 ≤ s → s < ns → ∃ j : Int, 0 ≤ j ∧ j < i ∧ s ∈ (Qa gs j).f1
  mem : ∀ j : Int, 0 ≤ j → j < i → ∀ s ∈ (Qa gs j).f1, 0 ≤ s ∧ s < ns ∧ us.getD s.toNat false = true
  apart : ∀ j j' : Int, 0 ≤ j → j < i → 0 ≤ j' → j' < i → ∀ s, s ∈ (Qa gs j).f1 → s ∈ (Qa gs j').f1 → j = j'
  names : ∀ j j' : Int, 0 ≤ j → j < j' → j' < i → (Qa gs j).f0.toList ≠ (Qa gs j').f0.toList
theorem tot_grpLoop (ns : Nat) : ∀ (r : List Int) (last : Int) (us : List Bool), us.length = ns → -1 ≤ last →
    ∃ e us', grpLoop ns r last us = some (e, us') ∧ (e = 0 → us'.length = ns ∧ (∀ s ∈ r, last < s ∧ s < ns ∧ us.getD s.toNat false = false ∧ us'.getD s.toNat false = true) ∧ (∀ j : Nat, us.getD j false = true → us'.getD j false = true) ∧ (∀ j : Nat, us'.getD j false = true → us.getD j false = true ∨ (j : Int) ∈ r))
  | [], last, us, hl, _ => ⟨0, us, rfl, fun _ => ⟨hl, fun s hs => absurd hs (List.not_mem_nil), fun _ h => h, fun _ h => Or.inl h⟩⟩
  | s :: r, last, us, hl, h1 => by
    simp only [grpLoop];by_cases c1 : s ≤ last
    · rw [if_pos c1]; exact ⟨5, us, rfl, fun h => absurd h (by decide)⟩
    rw [if_neg c1];by_cases c2 : (ns : Int) ≤ s
    · rw [if_pos c2]; exact ⟨5, us, rfl, fun h => absurd h (by decide)⟩
    rw [if_neg c2, if_pos (by omega)];by_cases c3 : us.getD s.toNat false = true
    · rw [if_pos c3]; exact ⟨13, us, rfl, fun h => absurd h (by decide)⟩
    rw [if_neg c3];obtain ⟨e, us', he, hp⟩ := tot_grpLoop ns r s (us.set s.toNat true) (by rw [List.length_set]; exact hl) (by omega);refine ⟨e, us', he, fun h0 => ?_⟩;obtain ⟨p1, p2, p3, p4⟩ := hp h0
    have hget : ∀ j : Nat, (us.set s.toNat true).getD j false = if j = s.toNat then true else us.getD j false := by
      intro j;rw [List.getD_eq_getElem?_getD, List.getD_eq_getElem?_getD, List.getElem?_set];by_cases hj : s.toNat = j
      · rw [if_pos hj, if_pos hj.symm, if_pos (by omega)]; rfl
      · rw [if_neg hj, if_neg (fun e => hj e.symm)]
    refine ⟨p1, ?_, ?_, ?_⟩
    · intro q hq;rcases List.mem_cons.1 hq with rfl | hq
      · refine ⟨by omega, by omega, Bool.eq_false_iff.2 c3, p3 _ ?_⟩;rw [hget, if_pos rfl]
      · obtain ⟨a1, a2, a3, a4⟩ := p2 q hq;refine ⟨by omega, a2, ?_, a4⟩;rw [hget, if_neg (by omega)] at a3;exact a3
    · intro j hj;refine p3 j ?_;rw [hget]
      split
      · rfl
      · exact hj
    · intro j hj;rcases p4 j hj with hh | hh
      · rw [hget] at hh
        split at hh
        · rename_i e; right; rw [e]; exact List.mem_cons.2 (Or.inl (by omega))
        · exact Or.inl hh
      · exact Or.inr (List.mem_cons_of_mem _ hh)
theorem tot_group (ns : Nat) (gs : List (S49)) (hg : ∀ i, OkS (Qa gs i).f0) (i : Int) (us : List Bool) (h0 : 0 ≤ i) (h1 : i < gs.length) (hI : GInv ns gs i us) : TotP (fun p => p.1 = 0 → GInv ns gs (i + 1) p.2) (fun _ => XN.f ns gs i us) := by
  unfold XN.f;rw [if_pos ⟨h0, h1⟩];obtain ⟨b, hb⟩ := name_some _ (hg i);refine TotP.bind (TotP.free (P := T1) hb trivial) (fun b _ => ?_);refine TotP.ite (fun _ => ?_) (fun _ => TotP.now (fun h => absurd (show (12 : Int) = 0 from h) (by decide)));refine TotP.ite (fun _ => TotP.now (fun h => absurd (show (7 : Int) = 0 from h) (by decide))) (fun hd => ?_);obtain ⟨e, us', he, hp⟩ := tot_grpLoop ns (Qa gs i).f1 (-1) us hI.len (Int.le_refl _);refine TotP.free he (fun hz => ?_);obtain ⟨p1, p2, p3, p4⟩ := hp hz
  have hd : ∀ j : Int, 0 ≤ j → j < i → (Qa gs j).f0.toList ≠ (Qa gs i).f0.toList := by
    intro j hj0 hj1 e;apply hd;rw [List.any_eq_true];refine ⟨Qa gs j, ?_, beq_iff_eq.2 e⟩;unfold Qa;rw [List.getD_eq_getElem?_getD, List.getElem?_eq_getElem (by omega : j.toNat < gs.length)];exact List.mem_take_iff_getElem.2 ⟨j.toNat, by omega, rfl⟩
  refine ⟨p1, ?_, ?_, ?_, ?_⟩
  · intro s hs hs0 hs1;rcases p4 _ hs with hh | hh
    · obtain ⟨j, a, b, c⟩ := hI.used s hh hs0 hs1;exact ⟨j, a, by omega, c⟩
    · exact ⟨i, h0, by omega, by rwa [Int.toNat_of_nonneg hs0] at hh⟩
  · intro j hj0 hj1 s hs;by_cases hji : j = i
    · subst hji;obtain ⟨a1, a2, _, a4⟩ := p2 s hs;exact ⟨by omega, a2, a4⟩
    · obtain ⟨a1, a2, a3⟩ := hI.mem j hj0 (by omega) s hs;exact ⟨a1, a2, p3 _ a3⟩
  · intro j j' hj0 hj1 hj0' hj1' s hs hs';by_cases hji : j = i
    · by_cases hji' : j' = i
      · omega
      · subst hji;have := (hI.mem j' hj0' (by omega) s hs').2.2;rw [(p2 s hs).2.2.1] at this;exact absurd this (by decide)
    · by_cases hji' : j' = i
      · subst hji';have := (hI.mem j hj0 (by omega) s hs).2.2;rw [(p2 s hs').2.2.1] at this;exact absurd this (by decide)
      · exact hI.apart j j' hj0 (by omega) hj0' (by omega) s hs hs'
  · intro j j' hj0 hjj hj1;by_cases hji' : j' = i
    · subst hji';exact hd j hj0 hjj
    · exact hI.names j j' hj0 hjj (by omega)
structure GoodM (m : S46) : Prop where
  many : m.f1.length ≤ 16 ∧ m.f2.length ≤ 60 ∧ m.f3.length ≤ 8 ∧ m.f4.length ≤ 8
  sym : ∀ i : Int, 0 ≤ i → i < m.f2.length → SymOk m.f1 (Qd m.f2 i)
  mem : ∀ j : Int, 0 ≤ j → j < m.f3.length → ∀ s ∈ (Qa m.f3 j).f1, 0 ≤ s ∧ s < m.f1.length
  apart : ∀ j j' : Int, 0 ≤ j → j < m.f3.length → 0 ≤ j' → j' < m.f3.length → ∀ s, s ∈ (Qa m.f3 j).f1 → s ∈ (Qa m.f3 j').f1 → j = j'
  names : ∀ j j' : Int, 0 ≤ j → j < j' → j' < m.f3.length → (Qa m.f3 j).f0.toList ≠ (Qa m.f3 j').f0.toList
theorem tot_Many (a0 : ByteArray) (l1 : List (S89)) (l2 : List (S61)) (l3 : List (S49)) (l4 : List ByteArray) (l5 : List (S122)) : TotP (fun r => r = false → l1.length ≤ 16 ∧ l2.length ≤ 60 ∧ l3.length ≤ 8 ∧ l4.length ≤ 8) (fun _ => XL.f a0 l1 l2 l3 l4 l5) := by
  unfold XL.f
  repeat' first
    | exact TotP.now (fun h => absurd h (by decide))
    | exact TotP.now (fun h => by (try simp only [decide_eq_false_iff_not] at h); omega)
    | refine TotP.ite (fun _ => ?_) (fun _ => ?_)
theorem tot_Validate (m : S46) (hz : SzM m) : TotP (fun r => r.1 = 0 → r.2 = 0 ∧ GoodM m) (fun k => X8.f k m.f0 m.f1 m.f2 m.f3 m.f4 m.f5) := by
  unfold X8.f;refine TotP.bind (tot_Name _ hz.name) (fun _ _ => ?_);refine TotP.ite (fun _ => ?_) (fun _ => TotP.now (fun h => absurd (show (12 : Int) = 0 from h) (by decide)));refine TotP.bind (tot_Many _ _ _ _ _ _) (fun t ht => ?_);refine TotP.ite (fun _ => TotP.now (fun h => absurd h (by decide))) (fun hf => ?_);have hmany := ht (Bool.eq_false_iff.2 hf);refine TotP.bind (tot_vfiles m.f4 hz.file hz.nfile _ _) (fun v hv => ?_);refine TotP.ite (fun _ => ?_) (fun _ => TotP.now (fun h => absurd (show (12 : Int) = 0 from h) (by decide)));refine TotP.bind (tot_records m.f5 hz.typ hz.fld) (fun q hq => ?_);refine TotP.ite (fun _ => ?_) (fun hn => TotP.now (fun h => absurd h hn));refine TotP.bind (tot_each (fun k (_ : Unit) i => (Qp.f k m.f0 m.f1 m.f2 m.f3 m.f4 m.f5 i).bind fun r => some (r, ())) 0 m.f1.length (fun _ _ => True) (fun i st h0 h1 _ => TotP.bind (tot_section _ _ _ _ _ _ i h0 h1 (hz.sec i)) (fun _ _ => TotP.now (fun _ => trivial))) () trivial) (fun x _ => ?_);refine TotP.ite (fun _ => ?_) (fun hn => TotP.now (fun h => absurd h hn))
  refine TotP.bind (tot_each (fun k (_ : Unit) i => (Qq.f k m.f0 m.f1 m.f2 m.f3 m.f4 m.f5 i).bind fun r => some (r, ())) 1000 m.f2.length (fun i _ => ∀ j : Int, 0 ≤ j → j < i → SymOk m.f1 (Qd m.f2 j)) (fun i st h0 h1 hI => TotP.bind (tot_symbol _ _ _ _ _ _ i h0 h1 hz.nsec (hz.sym i).1 (hz.sym i).2) (fun r hr => TotP.now (fun h => fun j hj0 hj1 => by
    by_cases hji : j = i
    · subst hji; exact hr h
    · exact hI j hj0 (by omega)))) () (fun j h0 h1 => absurd h1 (by omega))) (fun y hy => ?_)
  refine TotP.ite (fun hy0 => ?_) (fun hn => TotP.now (fun h => absurd h hn))
  have hg := tot_each (fun _ (us : List Bool) i => XN.f m.f1.length m.f3 i us) 2000 m.f3.length (fun i us => GInv m.f1.length m.f3 i us) (fun i us h0 h1 hI => tot_group _ _ hz.grp i us h0 h1 hI) (List.replicate m.f1.length false) ⟨List.length_replicate, fun s h _ _ => by
      rw [List.getD_eq_getElem?_getD, List.getElem?_replicate] at h; split at h <;> exact absurd h (by decide), fun j h0 h1 => absurd h1 (by omega), fun j j' h0 h1 => absurd h1 (by omega), fun j j' h0 h1 h2 => absurd h2 (by omega)⟩
  obtain ⟨⟨z1, z2, us⟩, hzz, hev⟩ := hg
  have hz2 : z1 = 0 → z2 = 0 := by
    intro h0;obtain ⟨k, hk⟩ := hev.rounds;exact each_zero _ _ _ _ _ _ _ _ hk h0
  refine TotP.bind (P := fun z => z.1 = 0 → z.2.1 = 0 ∧ GInv m.f1.length m.f3 m.f3.length z.2.2) ⟨(z1, z2, us), fun h => ⟨hz2 h, hzz h⟩, hev⟩ (fun z hz' => TotP.now (fun h => ⟨(hz' h).1, ?_⟩));have g := (hz' h).2;exact ⟨hmany, hy hy0, fun j h0 h1 s hs => ⟨(g.mem j h0 h1 s hs).1, (g.mem j h0 h1 s hs).2.1⟩, g.apart, g.names⟩
end Go.Proofs.Ytakabkjhnncbhaa.PX
namespace Go.Proofs.Ytakabkjhnncbhaa.PX
open Go.RowKit Go.Proofs.YtakabkjhnncbhaaW.PrintWords Go.Proofs.YtakabkjhnncbhaaW.PrintLast Go.Proofs.YtakabkjhnncbhaaW.PrintMore
attribute [local go_sem] Xl Xj Xu Xt X7 X6 Xk Xi   -- for this text's walks alone
set_option linter.unusedVariables false
set_option linter.unusedSimpArgs false
def Y0.f  : Option (Int × Int) := some ((-1), (-1))
set_option maxHeartbeats 8000000 in
set_option maxRecDepth 100000 in
theorem Y0.calls  (r1 : Int) (r2 : Int) (w : World) (h : Y0.f  = some (r1, r2)) :
  Calls Try.prog 31 #[] w fun e w' => e = .returned (.agg #[.int .i64 r1, .int .i64 r2]) ∧ Below w.heap.size w w' := by
 have hu33 := Try.underlying33;have HB := Q0.mk (Below.refl w.heap.size w);have H := h;clear h;unfold Y0.f at H;(try dsimp only at H);simp only [Option.some.injEq, Prod.mk.injEq] at H;obtain ⟨rfl, rfl⟩ := H
 go_enter Try.func31, Try.ntmps31
 go_wp2_with (first | ((with_reducible refine QP (N := 0) rfl ?_); refine QL ?hg (N := 0) ?hd (cs := #[.int .i64 0, .int .i64 0]) (t := 33) ?hr ?_; (case hd => rfl); (case hg => rfl); (case hr => first | (go_simp; done) | (go_simp; rfl)); intro gb326 hg w1 hbox hb; have BK326 := Q0.mk (hbox); have GW326 := Q0.mk ((by rw [hg]; exact (Qi HB.out) : w.heap.size ≤ gb326)); have GE326 := Q0.mk ((by rw [hg]; exact (Qi HB.out) : w.heap.size ≤ gb326)); replace HB := Q0.mk (Ql HB.out hb); clear hb hbox hg; obtain ⟨hcz2_0, hcz2_1⟩ := QA BK326.out; obtain ⟨hfz2_0, hfz2_1⟩ := Qt BK326.out) | ((with_reducible refine QE (t := 33) (p := 0) rfl ?_); refine Qw (t := 33) (p := 0) (v := ?vo_w3) (w1 := ((w1.setCell ⟨gb326, 0, none⟩ (.int .i64 (-1))).setCell ⟨gb326, 1, none⟩ (.int .i64 (-1)))) ?hg ?ho ?hn ?hr ?_; (case ho => rfl); (case hg => rfl); (case hn => rfl); (case hr => first | (go_simp; done) | (go_simp; rfl)); intro w3 hw; replace BK326 := Q0.mk (put2 hw BK326.out); replace HB := Q0.mk (bel2 hw HB.out GE326.out); clear hw));refine bodyPost_ret (results_cell_row rfl _ _ gb326 33 #[.int .i64 (-1), .int .i64 (-1)] (0, 0) _ rfl BK326.out Try.underlying33 rfl (by kernel_rfl)) rfl ?_;exact ⟨by first | rfl | (simp [*]; done), by repeat (first | exact HB.out | apply Q5 | apply Q2 | apply Q6 | refine Q1 ?_ GE326.out)⟩
end Go.Proofs.Ytakabkjhnncbhaa.PX
namespace Go.Proofs.Ytakabkjhnncbhaa.PX
open Go.RowKit Go.Proofs.YtakabkjhnncbhaaW.PrintWords Go.Proofs.YtakabkjhnncbhaaW.PrintLast Go.Proofs.YtakabkjhnncbhaaW.PrintMore
attribute [local go_sem] Xl Xj Xu Xt X7 X6 Xk Xi   -- for this text's walks alone
set_option linter.unusedVariables false
set_option linter.unusedSimpArgs false
mutual
def Qn.l0 : Nat → List (S46) → ByteArray → Int → Option (Int × Int)
 | 0, _, _, _ => none
 | k + 1, x0, x1, x5 => if x5 < (x0.length : Int) then (Qn.l1 k x0 x1 x5 0) else ((Y0.f).bind fun bt328 => (some (bt328.1, bt328.2)))
def Qn.l1 : Nat → List (S46) → ByteArray → Int → Int → Option (Int × Int)
 | 0, _, _, _, _ => none
 | k + 1, x0, x1, x5, x6 => if 0 ≤ x5 then (if x5 < (x0.length : Int) then (if x6 < (((Q3 x0 x5).f3).length : Int) then (if 0 ≤ x6 then (if ((Qa ((Q3 x0 x5).f3) x6).f0).toList = x1.toList then (some (x5, x6)) else (Qn.l1 k x0 x1 x5 (wrap64 (x6 + 1)))) else (none)) else (Qn.l0 k x0 x1 (wrap64 (x5 + 1)))) else (none)) else (none)
end
def Qn.f (k : Nat) (l0 : List (S46)) (a1 : ByteArray) : Option (Int × Int) := Qn.l0 k l0 a1 0
theorem Qn.Xo : ∀ k, (∀ y0 y1 y2, LeO (Qn.l0 k y0 y1 y2) (Qn.l0 (k + 1) y0 y1 y2)) ∧ (∀ y0 y1 y2 y3, LeO (Qn.l1 k y0 y1 y2 y3) (Qn.l1 (k + 1) y0 y1 y2 y3))
 | 0 => ⟨fun _ _ _ r h => by simp [Qn.l0] at h, fun _ _ _ _ r h => by simp [Qn.l1] at h⟩
 | k + 1 => by
  obtain ⟨ih0, ih1⟩ := Qn.Xo k;refine ⟨?_, ?_⟩
  ·intro y0 y1 y2;unfold Qn.l0
   repeat' first
   | (with_reducible exact ih0 _ _ _)
   | (with_reducible exact ih1 _ _ _ _)
   | (with_reducible exact LeO.refl _)
   | (with_reducible exact LeO.none _)
   | (with_reducible refine LeO.ite ?_ ?_)
   | (with_reducible refine LeO.bind ?_ (fun _ => ?_))
  ·intro y0 y1 y2 y3;unfold Qn.l1
   repeat' first
   | (with_reducible exact ih0 _ _ _)
   | (with_reducible exact ih1 _ _ _ _)
   | (with_reducible exact LeO.refl _)
   | (with_reducible exact LeO.none _)
   | (with_reducible refine LeO.ite ?_ ?_)
   | (with_reducible refine LeO.bind ?_ (fun _ => ?_))
theorem Qn.mono : ∀ a0 a1 k, LeO (Qn.f k a0 a1) (Qn.f (k + 1) a0 a1) := by
 intro a0 a1 k;obtain ⟨ih0, ih1⟩ := Qn.Xo k;unfold Qn.f
 repeat' first
   | (with_reducible exact ih0 _ _ _)
   | (with_reducible exact ih1 _ _ _ _)
   | (with_reducible exact LeO.refl _)
   | (with_reducible exact LeO.none _)
   | (with_reducible refine LeO.ite ?_ ?_)
   | (with_reducible refine LeO.bind ?_ (fun _ => ?_))
set_option maxHeartbeats 8000000 in
set_option maxRecDepth 100000 in
theorem Qn.calls (k : Nat) (A0 : Option Addr) (c0 : Nat) (l0 : List (S46)) (a1 : ByteArray) (r1 : Int) (r2 : Int) (w : World) (hr0 : Kd.C k46 w A0 l0.length l0) (hc0 : l0.length ≤ c0) (h : Qn.f k l0 a1 = some (r1, r2)) :
  Calls Try.prog 14 #[.slice A0 l0.length c0, .string a1] w fun e w' => e = .returned (.agg #[.int .i64 r1, .int .i64 r2]) ∧ Below w.heap.size w w' := by
 have hu33 := Try.underlying33;have HR0 := Q0.mk hr0;have HC0 := Q0.mk hc0;clear hr0 hc0;have HB := Q0.mk (Below.refl w.heap.size w);have H := h;clear h;unfold Qn.f at H;(try dsimp only at H);have H' := Q0.mk H;clear H
 go_enter Try.func14, Try.ntmps14
 go_wp2_with (first | ((with_reducible refine QP (N := 4) rfl ?_); refine QL ?hg (N := 4) ?hd (cs := #[.int .i64 0, .int .i64 0]) (t := 33) ?hr ?_; (case hd => rfl); (case hg => rfl); (case hr => first | (go_simp; done) | (go_simp; rfl)); intro gb327 hg w3 hbox hb; have BK327 := Q0.mk (hbox); have GW327 := Q0.mk ((by rw [hg]; exact (Qi HB.out) : w.heap.size ≤ gb327)); have GE327 := Q0.mk ((by rw [hg]; exact (Qi HB.out) : w.heap.size ≤ gb327)); replace HB := Q0.mk (Ql HB.out hb); clear hb hbox hg))
 go_loopg [5] k (fun kq v5 w' => ∃ (x5_1 : Int) (x328000_1 : Int) (x328001_1 : Int), v5 = .int .i64 x5_1 ∧ Q0 (Qn.l0 kq l0 a1 x5_1 = some (r1, r2)) ∧ Q0 (kq ≤ k) ∧ Q0 (w'.heap[gb327]? = some (.cells #[.int .i64 x328000_1, .int .i64 x328001_1] 33 (0, 0))) ∧ Q0 (Below w.heap.size w w'))
 case atStart => exact ⟨(0), (0), (0), (by first | rfl | (simp [*]; done)), H', ⟨Nat.le_refl _⟩, ⟨by (with_reducible repeat (first | refine Q8 ?_ _ | refine Qb ?_ | refine Q9 ?_ _)); exact BK327.out⟩, ⟨by repeat (first | exact HB.out | apply Q5 | apply Q2 | apply Q6 | refine Q1 ?_ GE327.out)⟩⟩
 case round =>
  clear H';(try clear c1);(try clear p2);obtain ⟨x5_1, x328000_1, x328001_1, rfl, HA, HK1, BK327, HB⟩ := hrel
  cases gk with
  | zero => exact absurd HA.out (by simp [Qn.l0])
  | succ k1 =>
   have H := HA.out;clear HA;simp only [Qn.l0] at H;by_cases c4 : x5_1 < (l0.length : Int)
   ·rw [if_pos c4] at H;have c4b0 : decide (x5_1 < (l0.length : Int)) = true := decide_eq_true c4;clear c4;have H' := Q0.mk H;clear H;go_wp2
    go_loopg [6] k1 (fun kq v6 w' => ∃ (x6_2 : Int) (x328000_2 : Int) (x328001_2 : Int), v6 = .int .i64 x6_2 ∧ Q0 (Qn.l1 kq l0 a1 x5_1 x6_2 = some (r1, r2)) ∧ Q0 (kq ≤ k1) ∧ Q0 (w'.heap[gb327]? = some (.cells #[.int .i64 x328000_2, .int .i64 x328001_2] 33 (0, 0))) ∧ Q0 (Below w.heap.size w w'))
    case atStart => exact ⟨(0), (x328000_1), (x328001_1), (by first | rfl | (simp [*]; done)), H', ⟨Nat.le_refl _⟩, ⟨by (with_reducible repeat (first | refine Q8 ?_ _ | refine Qb ?_ | refine Q9 ?_ _)); exact BK327.out⟩, ⟨by repeat (first | exact HB.out | apply Q5 | apply Q2 | apply Q6 | refine Q1 ?_ GE327.out)⟩⟩
    case round =>
     clear H';(try clear c1);(try clear p2);(try clear c4);(try clear c4b0);(try clear p2);obtain ⟨x6_2, x328000_2, x328001_2, rfl, HA, HK2, BK327, HB⟩ := hrel
     cases gk with
     | zero => exact absurd HA.out (by simp [Qn.l1])
     | succ k2 =>
      have H := HA.out;clear HA;simp only [Qn.l1] at H;by_cases c5 : 0 ≤ x5_1
      ·rw [if_pos c5] at H;have c5b0 : decide (0 ≤ x5_1) = true := decide_eq_true c5;clear c5;by_cases c6 : x5_1 < (l0.length : Int)
       ·rw [if_pos c6] at H;have c6b0 : decide (x5_1 < (l0.length : Int)) = true := decide_eq_true c6;clear c6;by_cases c7 : x6_2 < (((Q3 l0 x5_1).f3).length : Int)
        ·rw [if_pos c7] at H;have c7b0 : decide (x6_2 < (((Q3 l0 x5_1).f3).length : Int)) = true := decide_eq_true c7;clear c7;by_cases c8 : 0 ≤ x6_2
         ·rw [if_pos c8] at H;have c8b0 : decide (0 ≤ x6_2) = true := decide_eq_true c8;clear c8;by_cases c9 : ((Qa ((Q3 l0 x5_1).f3) x6_2).f0).toList = a1.toList
          ·rw [if_pos c9] at H;have c9b0 : (((Qa ((Q3 l0 x5_1).f3) x6_2).f0).toList == a1.toList) = true := beq_iff_eq.mpr c9;have c9b1 : (((Qa ((Q3 l0 x5_1).f3) x6_2).f0).toList != a1.toList) = false := bne_eq_false_iff_eq.mpr c9;clear c9;simp only [Option.some.injEq, Prod.mk.injEq] at H;obtain ⟨rfl, rfl⟩ := H;have p330 : 0 ≤ (x5_1 : Int) := of_decide_eq_true ‹_›;have q330 : x5_1 < (l0.length : Int) := of_decide_eq_true ‹_›;obtain ⟨ad330, A330_1, c330_1, A330_2, c330_2, A330_3, c330_3, A330_4, c330_4, A330_5, c330_5, e330, hx330_0, hx330_1, hx330_2, hx330_3, hx330_4, hx330_5, hl330_1, hi330_1, hl330_2, hi330_2, hl330_3, hi330_3, hl330_4, hi330_4, hl330_5, hi330_5⟩ := XP HR0.out x5_1 p330 q330
           cases e330
           replace hx330_0 := cup HB.out hx330_0;replace hx330_1 := cup HB.out hx330_1;replace hx330_2 := cup HB.out hx330_2;replace hx330_3 := cup HB.out hx330_3;replace hx330_4 := cup HB.out hx330_4;replace hx330_5 := cup HB.out hx330_5;have HR330_1 := Q0.mk hi330_1;have HC330_1 := Q0.mk hl330_1;clear hi330_1 hl330_1;have HR330_2 := Q0.mk hi330_2;have HC330_2 := Q0.mk hl330_2;clear hi330_2 hl330_2;have HR330_3 := Q0.mk hi330_3;have HC330_3 := Q0.mk hl330_3;clear hi330_3 hl330_3;have HR330_4 := Q0.mk hi330_4;have HC330_4 := Q0.mk hl330_4;clear hi330_4 hl330_4;have HR330_5 := Q0.mk hi330_5;have HC330_5 := Q0.mk hl330_5;clear hi330_5 hl330_5;replace p330 := eq_true p330;replace q330 := eq_true q330;have p331 : 0 ≤ (x5_1 : Int) := of_decide_eq_true ‹_›;have q331 : x5_1 < (l0.length : Int) := of_decide_eq_true ‹_›;obtain ⟨ad331, A331_1, c331_1, A331_2, c331_2, A331_3, c331_3, A331_4, c331_4, A331_5, c331_5, e331, hx331_0, hx331_1, hx331_2, hx331_3, hx331_4, hx331_5, hl331_1, hi331_1, hl331_2, hi331_2, hl331_3, hi331_3, hl331_4, hi331_4, hl331_5, hi331_5⟩ := XP HR0.out x5_1 p331 q331;obtain rfl : ad330 = ad331 := (by injection e331);replace hx331_0 := cup HB.out hx331_0;replace hx331_1 := cup HB.out hx331_1;replace hx331_2 := cup HB.out hx331_2;replace hx331_3 := cup HB.out hx331_3;replace hx331_4 := cup HB.out hx331_4;replace hx331_5 := cup HB.out hx331_5;have HR331_1 := Q0.mk hi331_1;have HC331_1 := Q0.mk hl331_1;clear hi331_1 hl331_1;have HR331_2 := Q0.mk hi331_2;have HC331_2 := Q0.mk hl331_2;clear hi331_2 hl331_2;have HR331_3 := Q0.mk hi331_3;have HC331_3 := Q0.mk hl331_3;clear hi331_3 hl331_3;have HR331_4 := Q0.mk hi331_4;have HC331_4 := Q0.mk hl331_4;clear hi331_4 hl331_4;have HR331_5 := Q0.mk hi331_5;have HC331_5 := Q0.mk hl331_5;clear hi331_5 hl331_5;replace p331 := eq_true p331;replace q331 := eq_true q331;have ea_ := Option.some.inj (hx330_1.symm.trans hx331_1);(injection ea_ with ea_ en_ ec_);subst ea_;subst ec_;clear en_;have ea_ := Option.some.inj (hx330_2.symm.trans hx331_2);(injection ea_ with ea_ en_ ec_);subst ea_;subst ec_;clear en_;have ea_ := Option.some.inj (hx330_3.symm.trans hx331_3);(injection ea_ with ea_ en_ ec_);subst ea_;subst ec_;clear en_;have ea_ := Option.some.inj (hx330_4.symm.trans hx331_4);(injection ea_ with ea_ en_ ec_);subst ea_;subst ec_;clear en_;have ea_ := Option.some.inj (hx330_5.symm.trans hx331_5);(injection ea_ with ea_ en_ ec_);subst ea_;subst ec_;clear en_;have p332 : 0 ≤ (x6_2 : Int) := of_decide_eq_true ‹_›;have q332 : x6_2 < (((Q3 l0 x5_1).f3).length : Int) := of_decide_eq_true ‹_›;obtain ⟨ad332, A332_1, c332_1, e332, hx332_0, hx332_1, hl332_1, hi332_1⟩ := at_T49 HR331_3.out x6_2 p332 q332
           cases e332
           replace hx332_0 := cup HB.out hx332_0;replace hx332_1 := cup HB.out hx332_1;have HR332_1 := Q0.mk hi332_1;have HC332_1 := Q0.mk hl332_1;clear hi332_1 hl332_1;replace p332 := eq_true p332;replace q332 := eq_true q332;obtain ⟨hcz10_0, hcz10_1⟩ := QA BK327.out;obtain ⟨hfz10_0, hfz10_1⟩ := Qt BK327.out;go_wp2_with (first | ((with_reducible refine QE (t := 33) (p := 4) rfl ?_); refine Qw (t := 33) (p := 4) (v := ?vo_w11) (w1 := ((wr.setCell ⟨gb327, 0, none⟩ (.int .i64 x5_1)).setCell ⟨gb327, 1, none⟩ (.int .i64 x6_2))) ?hg ?ho ?hn ?hr ?_; (case ho => rfl); (case hg => rfl); (case hn => rfl); (case hr => first | (go_simp; done) | (go_simp; rfl)); intro w11 hw; replace BK327 := Q0.mk (put2 hw BK327.out); replace HB := Q0.mk (bel2 hw HB.out GE327.out); clear hw));refine bodyPost_ret (results_cell_row rfl _ _ gb327 33 #[.int .i64 x5_1, .int .i64 x6_2] (0, 0) _ rfl BK327.out Try.underlying33 rfl (by kernel_rfl)) rfl ?_;exact ⟨by first | rfl | (simp [*]; done), by repeat (first | exact HB.out | apply Q5 | apply Q2 | apply Q6 | refine Q1 ?_ GE327.out)⟩
          ·rw [if_neg c9] at H;have c9b0 : (((Qa ((Q3 l0 x5_1).f3) x6_2).f0).toList == a1.toList) = false := beq_eq_false_iff_ne.mpr c9;have c9b1 : (((Qa ((Q3 l0 x5_1).f3) x6_2).f0).toList != a1.toList) = true := bne_iff_ne.mpr c9;have H' := Q0.mk H;clear H;have p330 : 0 ≤ (x5_1 : Int) := of_decide_eq_true ‹_›;have q330 : x5_1 < (l0.length : Int) := of_decide_eq_true ‹_›;obtain ⟨ad330, A330_1, c330_1, A330_2, c330_2, A330_3, c330_3, A330_4, c330_4, A330_5, c330_5, e330, hx330_0, hx330_1, hx330_2, hx330_3, hx330_4, hx330_5, hl330_1, hi330_1, hl330_2, hi330_2, hl330_3, hi330_3, hl330_4, hi330_4, hl330_5, hi330_5⟩ := XP HR0.out x5_1 p330 q330
           cases e330
           replace hx330_0 := cup HB.out hx330_0;replace hx330_1 := cup HB.out hx330_1;replace hx330_2 := cup HB.out hx330_2;replace hx330_3 := cup HB.out hx330_3;replace hx330_4 := cup HB.out hx330_4;replace hx330_5 := cup HB.out hx330_5;have HR330_1 := Q0.mk hi330_1;have HC330_1 := Q0.mk hl330_1;clear hi330_1 hl330_1;have HR330_2 := Q0.mk hi330_2;have HC330_2 := Q0.mk hl330_2;clear hi330_2 hl330_2;have HR330_3 := Q0.mk hi330_3;have HC330_3 := Q0.mk hl330_3;clear hi330_3 hl330_3;have HR330_4 := Q0.mk hi330_4;have HC330_4 := Q0.mk hl330_4;clear hi330_4 hl330_4;have HR330_5 := Q0.mk hi330_5;have HC330_5 := Q0.mk hl330_5;clear hi330_5 hl330_5;replace p330 := eq_true p330;replace q330 := eq_true q330;have p331 : 0 ≤ (x5_1 : Int) := of_decide_eq_true ‹_›;have q331 : x5_1 < (l0.length : Int) := of_decide_eq_true ‹_›;obtain ⟨ad331, A331_1, c331_1, A331_2, c331_2, A331_3, c331_3, A331_4, c331_4, A331_5, c331_5, e331, hx331_0, hx331_1, hx331_2, hx331_3, hx331_4, hx331_5, hl331_1, hi331_1, hl331_2, hi331_2, hl331_3, hi331_3, hl331_4, hi331_4, hl331_5, hi331_5⟩ := XP HR0.out x5_1 p331 q331;obtain rfl : ad330 = ad331 := (by injection e331);replace hx331_0 := cup HB.out hx331_0;replace hx331_1 := cup HB.out hx331_1;replace hx331_2 := cup HB.out hx331_2;replace hx331_3 := cup HB.out hx331_3;replace hx331_4 := cup HB.out hx331_4;replace hx331_5 := cup HB.out hx331_5;have HR331_1 := Q0.mk hi331_1;have HC331_1 := Q0.mk hl331_1;clear hi331_1 hl331_1;have HR331_2 := Q0.mk hi331_2;have HC331_2 := Q0.mk hl331_2;clear hi331_2 hl331_2;have HR331_3 := Q0.mk hi331_3;have HC331_3 := Q0.mk hl331_3;clear hi331_3 hl331_3;have HR331_4 := Q0.mk hi331_4;have HC331_4 := Q0.mk hl331_4;clear hi331_4 hl331_4;have HR331_5 := Q0.mk hi331_5;have HC331_5 := Q0.mk hl331_5;clear hi331_5 hl331_5;replace p331 := eq_true p331;replace q331 := eq_true q331;have ea_ := Option.some.inj (hx330_1.symm.trans hx331_1);(injection ea_ with ea_ en_ ec_);subst ea_;subst ec_;clear en_;have ea_ := Option.some.inj (hx330_2.symm.trans hx331_2);(injection ea_ with ea_ en_ ec_);subst ea_;subst ec_;clear en_;have ea_ := Option.some.inj (hx330_3.symm.trans hx331_3);(injection ea_ with ea_ en_ ec_);subst ea_;subst ec_;clear en_;have ea_ := Option.some.inj (hx330_4.symm.trans hx331_4);(injection ea_ with ea_ en_ ec_);subst ea_;subst ec_;clear en_;have ea_ := Option.some.inj (hx330_5.symm.trans hx331_5);(injection ea_ with ea_ en_ ec_);subst ea_;subst ec_;clear en_;have p332 : 0 ≤ (x6_2 : Int) := of_decide_eq_true ‹_›;have q332 : x6_2 < (((Q3 l0 x5_1).f3).length : Int) := of_decide_eq_true ‹_›;obtain ⟨ad332, A332_1, c332_1, e332, hx332_0, hx332_1, hl332_1, hi332_1⟩ := at_T49 HR331_3.out x6_2 p332 q332
           cases e332
           replace hx332_0 := cup HB.out hx332_0;replace hx332_1 := cup HB.out hx332_1;have HR332_1 := Q0.mk hi332_1;have HC332_1 := Q0.mk hl332_1;clear hi332_1 hl332_1;replace p332 := eq_true p332;replace q332 := eq_true q332;go_wp2
           go_roundg k2
           (case measure => have := HK1.out; have := HK2.out; omega);case rel => exact ⟨(wrap64 (x6_2 + 1)), (x328000_2), (x328001_2), (by first | rfl | (simp [*]; done)), H', ⟨by have := HK1.out; have := HK2.out; omega⟩, ⟨by (with_reducible repeat (first | refine Q8 ?_ _ | refine Qb ?_ | refine Q9 ?_ _)); exact BK327.out⟩, ⟨by repeat (first | exact HB.out | apply Q5 | apply Q2 | apply Q6 | refine Q1 ?_ GE327.out)⟩⟩
         ·rw [if_neg c8] at H;exact absurd H (by simp)
        ·rw [if_neg c7] at H;have c7b0 : decide (x6_2 < (((Q3 l0 x5_1).f3).length : Int)) = false := decide_eq_false c7;clear c7;have H' := Q0.mk H;clear H;have p330 : 0 ≤ (x5_1 : Int) := of_decide_eq_true ‹_›;have q330 : x5_1 < (l0.length : Int) := of_decide_eq_true ‹_›;obtain ⟨ad330, A330_1, c330_1, A330_2, c330_2, A330_3, c330_3, A330_4, c330_4, A330_5, c330_5, e330, hx330_0, hx330_1, hx330_2, hx330_3, hx330_4, hx330_5, hl330_1, hi330_1, hl330_2, hi330_2, hl330_3, hi330_3, hl330_4, hi330_4, hl330_5, hi330_5⟩ := XP HR0.out x5_1 p330 q330
         cases e330
         replace hx330_0 := cup HB.out hx330_0;replace hx330_1 := cup HB.out hx330_1;replace hx330_2 := cup HB.out hx330_2;replace hx330_3 := cup HB.out hx330_3;replace hx330_4 := cup HB.out hx330_4;replace hx330_5 := cup HB.out hx330_5;have HR330_1 := Q0.mk hi330_1;have HC330_1 := Q0.mk hl330_1;clear hi330_1 hl330_1;have HR330_2 := Q0.mk hi330_2;have HC330_2 := Q0.mk hl330_2;clear hi330_2 hl330_2;have HR330_3 := Q0.mk hi330_3;have HC330_3 := Q0.mk hl330_3;clear hi330_3 hl330_3;have HR330_4 := Q0.mk hi330_4;have HC330_4 := Q0.mk hl330_4;clear hi330_4 hl330_4;have HR330_5 := Q0.mk hi330_5;have HC330_5 := Q0.mk hl330_5;clear hi330_5 hl330_5;replace p330 := eq_true p330;replace q330 := eq_true q330;go_wp2
         go_roundg k2
         (case measure => have := HK1.out; have := HK2.out; omega);case rel => exact ⟨(wrap64 (x5_1 + 1)), (x328000_2), (x328001_2), (by first | rfl | (simp [*]; done)), H', ⟨by have := HK1.out; have := HK2.out; omega⟩, ⟨by (with_reducible repeat (first | refine Q8 ?_ _ | refine Qb ?_ | refine Q9 ?_ _)); exact BK327.out⟩, ⟨by repeat (first | exact HB.out | apply Q5 | apply Q2 | apply Q6 | refine Q1 ?_ GE327.out)⟩⟩
       ·rw [if_neg c6] at H;exact absurd H (by simp)
      ·rw [if_neg c5] at H;exact absurd H (by simp)
   ·rw [if_neg c4] at H;have c4b0 : decide (x5_1 < (l0.length : Int)) = false := decide_eq_false c4;clear c4;replace H := Option.bind_eq_some_iff.mp H;obtain ⟨⟨t328, t329⟩, A120, H⟩ := H;(try dsimp only at H);have A12 := Q0.mk A120;clear A120;simp only [Option.some.injEq, Prod.mk.injEq] at H;obtain ⟨rfl, rfl⟩ := H;go_wp2_with (first | ((with_reducible refine Qx (f := 31) rfl ?_); refine Xb (some 37) rfl rfl Try.func31 (by kernel_rfl) rfl #[] rfl (by (try simp only [List.map_toArray, List.map_cons, List.map_nil]); first | done | rfl | (simp only [List.length_drop, List.length_take]; rfl)) ?_; (with_reducible refine (Y0.calls  t328 t329 _ A12.out).mono ?_); rintro e w13 ⟨rfl, hb⟩; refine ⟨_, rfl, ?_⟩; replace BK327 := Q0.mk (Qc BK327.out hb); replace HB := Q0.mk (Ql HB.out hb); obtain ⟨hcz14_0, hcz14_1⟩ := QA BK327.out; obtain ⟨hfz14_0, hfz14_1⟩ := Qt BK327.out) | ((with_reducible refine QE (t := 33) (p := 4) rfl ?_); refine Qw (t := 33) (p := 4) (v := ?vo_w15) (w1 := ((w13.setCell ⟨gb327, 0, none⟩ (.int .i64 t328)).setCell ⟨gb327, 1, none⟩ (.int .i64 t329))) ?hg ?ho ?hn ?hr ?_; (case ho => rfl); (case hg => rfl); (case hn => rfl); (case hr => first | (go_simp; done) | (go_simp; rfl)); intro w15 hw; replace BK327 := Q0.mk (put2 hw BK327.out); replace HB := Q0.mk (bel2 hw HB.out GE327.out); clear hw));refine bodyPost_ret (results_cell_row rfl _ _ gb327 33 #[.int .i64 t328, .int .i64 t329] (0, 0) _ rfl BK327.out Try.underlying33 rfl (by kernel_rfl)) rfl ?_;exact ⟨by first | rfl | (simp [*]; done), by repeat (first | exact HB.out | apply Q5 | apply Q2 | apply Q6 | refine Q1 ?_ GE327.out)⟩
end Go.Proofs.Ytakabkjhnncbhaa.PX
namespace Go.Proofs.Ytakabkjhnncbhaa.PX
open Go.RowKit Go.Proofs.YtakabkjhnncbhaaW.PrintWords Go.Proofs.YtakabkjhnncbhaaW.PrintLast Go.Proofs.YtakabkjhnncbhaaW.PrintMore
set_option linter.unusedVariables false
set_option linter.unusedSimpArgs false
def hasG (m : S46) (nm : ByteArray) : Bool := m.f3.any fun g => g.f0.toList == nm.toList
def Y5 (l : List (S46)) (i : Nat) (nm : ByteArray) : Bool := !((l.take i).any fun m => hasG m nm)
def bitL (l : List (S46)) (i s : Nat) : Bool := !((Q3 l i).f3.any fun g => decide ((s : Int) ∈ g.f1) && !Y5 l i g.f0)
def tab (n : Nat) (f : Nat → Bool) : List Bool := (List.range n).map f
theorem Y2 (n : Nat) (f : Nat → Bool) : (tab n f).length = n := by simp [tab]
theorem tab_get (n : Nat) (f : Nat → Bool) (s : Nat) (h : s < n) : (tab n f).getD s false = f s := by
  simp [tab, List.getD_eq_getElem?_getD, h]
theorem tab_set (n : Nat) (f : Nat → Bool) (s : Nat) (v : Bool) : (tab n f).set s v = tab n (fun b => if b = s then v else f b) := by
  apply List.ext_getElem
  · simp [tab]
  · intro i h1 h2;simp only [tab, List.getElem_set, List.getElem_map, List.getElem_range];by_cases e : s = i
    · rw [if_pos e, if_pos e.symm]
    · rw [if_neg e, if_neg (fun h => e h.symm)]
theorem tab_congr (n : Nat) {f g : Nat → Bool} (h : ∀ s, s < n → f s = g s) : tab n f = tab n g := by
  unfold tab;exact List.map_congr_left (fun s hs => h s (List.mem_range.1 hs))
theorem tab_rep (n : Nat) (v : Bool) : List.replicate n v = tab n (fun _ => v) := by
  apply List.ext_getElem
  · simp [tab]
  · intro i h1 h2;simp [tab]
def T2 (l : List (S46)) (F : Nat → Nat → Bool) : List (List Bool) := (List.range l.length).map fun (i : Nat) => tab (Q3 l (i : Int)).f1.length (F i)
theorem T2_len (l : List (S46)) (F : Nat → Nat → Bool) : (T2 l F).length = l.length := by simp [T2]
theorem T2_row (l : List (S46)) (F : Nat → Nat → Bool) (i : Nat) (h : i < l.length) : (T2 l F).getD i [] = tab (Q3 l i).f1.length (F i) := by
  simp [T2, List.getD_eq_getElem?_getD, h]
theorem T2_set (l : List (S46)) (F : Nat → Nat → Bool) (i s : Nat) (v : Bool) (h : i < l.length) : (T2 l F).set i (((T2 l F).getD i []).set s v) = T2 l (fun a b => if a = i ∧ b = s then v else F a b) := by
  rw [T2_row l F i h, tab_set];apply List.ext_getElem
  · simp [T2]
  · intro j h1 h2;simp only [T2, List.getElem_set, List.getElem_map, List.getElem_range];by_cases e : i = j
    · subst e;rw [if_pos rfl];exact tab_congr _ (fun s' _ => by simp)
    · rw [if_neg e];exact tab_congr _ (fun s' _ => by rw [if_neg (fun hh => e hh.1.symm)])
theorem Y8 (l : List (S46)) {F G : Nat → Nat → Bool} (h : ∀ i, i < l.length → ∀ s, s < (Q3 l i).f1.length → F i s = G i s) : T2 l F = T2 l G := by
  unfold T2;exact List.map_congr_left (fun i hi => tab_congr _ (h i (List.mem_range.1 hi)))
structure GoodL (l : List (S46)) : Prop where
  few : l.length ≤ 8
  good : ∀ i : Int, 0 ≤ i → i < l.length → GoodM (Q3 l i)
  sz : ∀ i : Int, SzM (Q3 l i)
  val : ∀ i : Int, 0 ≤ i → i < l.length → Ev (fun k => X8.f k (Q3 l i).f0 (Q3 l i).f1 (Q3 l i).f2 (Q3 l i).f3 (Q3 l i).f4 (Q3 l i).f5) (0, 0)
theorem rd46_nat (l : List (S46)) (i : Int) (h : 0 ≤ i) : Q3 l i = Q3 l (i.toNat : Int) := by rw [Int.toNat_of_nonneg h]
theorem any_rd {l : List (S49)} {p : S49 → Bool} : l.any p = true ↔ ∃ j : Nat, j < l.length ∧ p (Qa l j) = true := by
  rw [List.any_eq_true]
  constructor
  · rintro ⟨x, hx, hp⟩;obtain ⟨j, hj, rfl⟩ := List.mem_iff_getElem.1 hx;refine ⟨j, hj, ?_⟩;unfold Qa;rw [Int.toNat_natCast, List.getD_eq_getElem?_getD, List.getElem?_eq_getElem hj];exact hp
  · rintro ⟨j, hj, hp⟩;refine ⟨Qa l j, ?_, hp⟩;unfold Qa;rw [Int.toNat_natCast, List.getD_eq_getElem?_getD, List.getElem?_eq_getElem hj];exact List.getElem_mem hj
def XY (l : List (S46)) (nm : ByteArray) : Nat → Nat → Int × Int
  | 0, _ => (-1, -1)
  | n + 1, i => if fidx (fun x => x.f0.toList == nm.toList) (Q3 l i).f3 ≥ 0 then (i, fidx (fun x => x.f0.toList == nm.toList) (Q3 l i).f3) else XY l nm n (i + 1)
theorem firstG_fresh (l : List (S46)) (nm : ByteArray) : ∀ (n i : Nat), ((XY l nm n i).1 < 0 ↔ ∀ j, i ≤ j → j < i + n → hasG (Q3 l j) nm = false) ∧ (∀ j : Nat, (XY l nm n i).1 = j → i ≤ j ∧ j < i + n ∧ hasG (Q3 l j) nm = true ∧ (XY l nm n i).2 = fidx (fun x => x.f0.toList == nm.toList) (Q3 l j).f3 ∧ ∀ j', i ≤ j' → j' < j → hasG (Q3 l j') nm = false) ∧ ((XY l nm n i).1 = -1 ∧ (XY l nm n i).2 = -1 ∨ 0 ≤ (XY l nm n i).1)
  | 0, i => ⟨⟨fun _ j h1 h2 => absurd h2 (by omega), fun _ => (show (-1 : Int) < 0 from by decide)⟩, fun j h => absurd h (by show ¬ ((-1 : Int) = j); omega), Or.inl ⟨rfl, rfl⟩⟩
  | n + 1, i => by
    have hfa := fidx_any (fun x : S49 => x.f0.toList == nm.toList) (Q3 l i).f3;have hh : hasG (Q3 l i) nm = decide (fidx (fun x : S49 => x.f0.toList == nm.toList) (Q3 l i).f3 ≥ 0) := hfa.symm;obtain ⟨ih1, ih2, ih3⟩ := firstG_fresh l nm n (i + 1);simp only [XY];by_cases c : fidx (fun x : S49 => x.f0.toList == nm.toList) (Q3 l i).f3 ≥ 0
    · rw [if_pos c];rw [decide_eq_true c] at hh;refine ⟨⟨fun h => absurd h (by show ¬ ((i : Int) < 0); omega), fun h => ?_⟩, fun j hj => ?_, Or.inr (by show 0 ≤ (i : Int); omega)⟩
      · rw [h i (Nat.le_refl _) (by omega)] at hh; exact absurd hh (by decide)
      · (have : i = j := by have : (i : Int) = j := hj; omega);subst this;exact ⟨Nat.le_refl _, by omega, hh, rfl, fun j' a b => absurd b (by omega)⟩
    · rw [if_neg c];rw [decide_eq_false c] at hh;refine ⟨⟨fun h j h1 h2 => ?_, fun h => ih1.2 (fun j h1 h2 => h j (by omega) (by omega))⟩, fun j hj => ?_, ih3⟩
      · by_cases e : j = i
        · subst e; exact hh
        · exact ih1.1 h j (by omega) (by omega)
      · obtain ⟨a1, a2, a3, a4, a5⟩ := ih2 j hj;refine ⟨by omega, by omega, a3, a4, fun j' b1 b2 => ?_⟩;by_cases e : j' = i
        · subst e; exact hh
        · exact a5 j' (by omega) b2
theorem tot_first (l : List (S46)) (nm : ByteArray) (hl : l.length ≤ 9223372036854775807) : TotP (fun r => r = XY l nm l.length 0) (fun k => QU.f k l nm) := by
  have hh : ∀ (n i : Nat), i + n = l.length → TotP (fun r => r = XY l nm n i) (fun k => QU.l0 k l (l.length : Int) (i : Int) nm) := by
    intro n
    induction n with
    | zero =>
      intro i h;refine TotP.step (fun k => by rw [QU.l0]) ?_;refine TotP.ite (fun _ => ?_) (fun _ => TotP.now rfl)
      exfalso; omega
    | succ n ih =>
      intro i h;have e : wrap64 ((i : Int) + 1) = ((i + 1 : Nat) : Int) := IntWalk.wrap64_in _ (by omega);refine TotP.step (fun k => by rw [QU.l0]) ?_;rw [e];refine TotP.ite (fun _ => ?_) (fun _ => by exfalso; omega);refine TotP.ite (fun _ => ?_) (fun _ => by exfalso; omega);refine TotP.ite (fun _ => ?_) (fun _ => by exfalso; omega);simp only [XY, cl_first.f, Option.bind_some];by_cases c : fidx (fun x : S49 => x.f0.toList == nm.toList) (Q3 l i).f3 ≥ 0
      · simp only [if_pos c]; exact TotP.now rfl
      · simp only [if_neg c]; exact ih (i + 1) (by omega)
  exact hh l.length 0 (by omega)
theorem tot_GroupOf (l : List (S46)) (nm : ByteArray) (hl : l.length ≤ 9223372036854775807) (hg : ∀ i : Int, (Q3 l i).f3.length ≤ 9223372036854775807) : TotP (fun r => r = XY l nm l.length 0) (fun k => Qn.f k l nm) := by
  have hh : ∀ (n i : Nat), i + n = l.length → TotP (fun r => r = XY l nm n i) (fun k => Qn.l0 k l nm (i : Int)) := by
    intro n
    induction n with
    | zero =>
      intro i h;refine TotP.step (fun k => by rw [Qn.l0]) ?_;refine TotP.ite (fun _ => ?_) (fun _ => TotP.free (r := (-1, -1)) rfl rfl)
      exfalso; omega
    | succ n ih =>
      intro i h;have e : wrap64 ((i : Int) + 1) = ((i + 1 : Nat) : Int) := IntWalk.wrap64_in _ (by omega)
      have hin : ∀ (m j : Nat), j + m = (Q3 l i).f3.length → (∀ j', j' < j → ((Qa (Q3 l i).f3 (j' : Int)).f0.toList == nm.toList) = false) → TotP (fun r => r = XY l nm (n + 1) i) (fun k => Qn.l1 k l nm (i : Int) (j : Int)) := by
        intro m
        induction m with
        | zero =>
          intro j hj hb;refine TotP.step (fun k => by rw [Qn.l1]) ?_;rw [e];refine TotP.ite (fun _ => ?_) (fun _ => by exfalso; omega);refine TotP.ite (fun _ => ?_) (fun _ => by exfalso; omega);refine TotP.ite (fun _ => by exfalso; omega) (fun _ => ?_)
          have hm : fidx (fun x : S49 => x.f0.toList == nm.toList) (Q3 l i).f3 = -1 := fidx_miss (d := z49) (fun j' hj' => by
            have := hb j' (by omega)
            unfold Qa at this
            rw [Int.toNat_natCast] at this
            exact this)
          simp only [XY, hm];rw [if_neg (by decide)]
          exact ih (i + 1) (by omega)
        | succ m ihm =>
          intro j hj hb;have e' : wrap64 ((j : Int) + 1) = ((j + 1 : Nat) : Int) := IntWalk.wrap64_in _ (by have := hg i; omega);refine TotP.step (fun k => by rw [Qn.l1]) ?_;rw [e', e];refine TotP.ite (fun _ => ?_) (fun _ => by exfalso; omega);refine TotP.ite (fun _ => ?_) (fun _ => by exfalso; omega);refine TotP.ite (fun _ => ?_) (fun _ => by exfalso; omega);refine TotP.ite (fun _ => ?_) (fun _ => by exfalso; omega);refine TotP.ite (fun hq => TotP.now ?_) (fun hq => ihm (j + 1) (by omega) (fun j' hj' => ?_))
          · have hm : fidx (fun x : S49 => x.f0.toList == nm.toList) (Q3 l i).f3 = j := fidx_hit (d := z49) (by omega) (by
              unfold Qa at hq
              rw [Int.toNat_natCast] at hq
              exact beq_iff_eq.2 hq) (fun j' hj' => by
              have := hb j' hj'
              unfold Qa at this
              rw [Int.toNat_natCast] at this
              exact this)
            simp only [XY, hm];rw [if_pos (by omega)]
          · by_cases ej : j' = j
            · subst ej; exact beq_eq_false_iff_ne.2 hq
            · exact hb j' (by omega)
      refine TotP.step (fun k => by rw [Qn.l0]) ?_;refine TotP.ite (fun _ => ?_) (fun _ => by exfalso; omega);exact hin (Q3 l i).f3.length 0 (by omega) (fun j' hj' => absurd hj' (Nat.not_lt_zero _))
  exact hh l.length 0 (by omega)
end Go.Proofs.Ytakabkjhnncbhaa.PX
namespace Go.Proofs.Ytakabkjhnncbhaa.PX
open Go.RowKit Go.Proofs.YtakabkjhnncbhaaW.PrintWords Go.Proofs.YtakabkjhnncbhaaW.PrintLast Go.Proofs.YtakabkjhnncbhaaW.PrintMore
attribute [local go_sem] Xl Xj Xu Xt X7 X6 Xk Xi   -- for this text's walks alone
set_option linter.unusedVariables false
set_option linter.unusedSimpArgs false
mutual
def Qk.l0 : Nat → List (S46) → List (List Bool) → Int → Option ((List (List Bool)))
 | 0, _, _, _ => none
 | k + 1, x0, x3, x4 => if x4 < (x0.length : Int) then (Qk.l1 k x0 x3 x4 ([] : List Bool) 0) else (some x3)
def Qk.l1 : Nat → List (S46) → List (List Bool) → Int → List Bool → Int → Option ((List (List Bool)))
 | 0, _, _, _, _, _ => none
 | k + 1, x0, x3, x4, x5, x6 => if 0 ≤ x4 then (if x4 < (x0.length : Int) then (if x6 < (((Q3 x0 x4).f1).length : Int) then (if x5.length < 140737488355328 then (Qk.l1 k x0 x3 x4 (x5 ++ [true]) (wrap64 (x6 + 1))) else (none)) else (if x3.length < 5864062014805 then (Qk.l0 k x0 (x3 ++ [x5]) (wrap64 (x4 + 1))) else (none))) else (none)) else (none)
end
def Qk.f (k : Nat) (l0 : List (S46)) : Option ((List (List Bool))) := Qk.l0 k l0 ([] : List (List Bool)) 0
theorem Qk.Xo : ∀ k, (∀ y0 y1 y2, LeO (Qk.l0 k y0 y1 y2) (Qk.l0 (k + 1) y0 y1 y2)) ∧ (∀ y0 y1 y2 y3 y4, LeO (Qk.l1 k y0 y1 y2 y3 y4) (Qk.l1 (k + 1) y0 y1 y2 y3 y4))
 | 0 => ⟨fun _ _ _ r h => by simp [Qk.l0] at h, fun _ _ _ _ _ r h => by simp [Qk.l1] at h⟩
 | k + 1 => by
  obtain ⟨ih0, ih1⟩ := Qk.Xo k;refine ⟨?_, ?_⟩
  ·intro y0 y1 y2;unfold Qk.l0
   repeat' first
   | (with_reducible exact ih0 _ _ _)
   | (with_reducible exact ih1 _ _ _ _ _)
   | (with_reducible exact LeO.refl _)
   | (with_reducible exact LeO.none _)
   | (with_reducible refine LeO.ite ?_ ?_)
   | (with_reducible refine LeO.bind ?_ (fun _ => ?_))
  ·intro y0 y1 y2 y3 y4;unfold Qk.l1
   repeat' first
   | (with_reducible exact ih0 _ _ _)
   | (with_reducible exact ih1 _ _ _ _ _)
   | (with_reducible exact LeO.refl _)
   | (with_reducible exact LeO.none _)
   | (with_reducible refine LeO.ite ?_ ?_)
   | (with_reducible refine LeO.bind ?_ (fun _ => ?_))
theorem Qk.mono : ∀ a0 k, LeO (Qk.f k a0) (Qk.f (k + 1) a0) := by
 intro a0 k;obtain ⟨ih0, ih1⟩ := Qk.Xo k;unfold Qk.f
 repeat' first
   | (with_reducible exact ih0 _ _ _)
   | (with_reducible exact ih1 _ _ _ _ _)
   | (with_reducible exact LeO.refl _)
   | (with_reducible exact LeO.none _)
   | (with_reducible refine LeO.ite ?_ ?_)
   | (with_reducible refine LeO.bind ?_ (fun _ => ?_))
set_option maxHeartbeats 8000000 in
set_option maxRecDepth 100000 in
theorem Qk.calls (k : Nat) (A0 : Option Addr) (c0 : Nat) (l0 : List (S46)) (r : List (List Bool)) (w : World) (hr0 : Kd.C k46 w A0 l0.length l0) (hc0 : l0.length ≤ c0) (h : Qk.f k l0 = some r) :
  Calls Try.prog 32 #[.slice A0 l0.length c0] w fun e w' => ∃ v0_ : Value, e = .returned (v0_) ∧ Kd.S (Kd.slice 4 Kd.bool) 39 w' w.heap.size (fun _ => True) v0_ r ∧ Below w.heap.size w w' := by
 have HR0 := Q0.mk hr0;have HC0 := Q0.mk hc0;clear hr0 hc0;have HB := Q0.mk (Below.refl w.heap.size w);have H := h;clear h;unfold Qk.f at H;(try dsimp only at H);have H' := Q0.mk H;clear H
 go_enter Try.func32, Try.ntmps32
 go_wp2
 go_loopg [3, 4] k (fun kq v3 v4 w' => ∃ (x3_1 : List (List Bool)) (x4_1 : Int), v4 = .int .i64 x4_1 ∧ Q0 (Qk.l0 kq l0 x3_1 x4_1 = some r) ∧ Q0 (kq ≤ k) ∧ Q0 (Kd.S (Kd.slice 4 Kd.bool) 39 w' w.heap.size (fun _ => True) v3 x3_1) ∧ Q0 (Below w.heap.size w w'))
 case atStart => exact ⟨(([] : List (List Bool))), (0), (by first | rfl | (simp [*]; done)), H', ⟨Nat.le_refl _⟩, ⟨by first | exact Kd.S_nil _ _ _ _ _ | exact Kd.N_nil _ _ _ _ _ | exact Kd.V_nil _ _ _ _ _ | exact Kd.Q_nil _ _ _ _ _ | exact Kd.R_nil _ _ _ _ _⟩, ⟨by repeat (first | exact HB.out | apply Q5 | apply Q2 | apply Q6)⟩⟩
 case round =>
  clear H';obtain ⟨x3_1, x4_1, rfl, HA, HK1, HO_3, HB⟩ := hrel
  cases gk with
  | zero => exact absurd HA.out (by simp [Qk.l0])
  | succ k1 =>
   have H := HA.out;clear HA;simp only [Qk.l0] at H;by_cases c2 : x4_1 < (l0.length : Int)
   ·rw [if_pos c2] at H;have c2b0 : decide (x4_1 < (l0.length : Int)) = true := decide_eq_true c2;clear c2;have H' := Q0.mk H;clear H;go_wp2
    go_loopg [5, 6] k1 (fun kq v5 v6 w' => ∃ (x5_2 : List Bool) (x6_2 : Int), v6 = .int .i64 x6_2 ∧ Q0 (Qk.l1 kq l0 x3_1 x4_1 x5_2 x6_2 = some r) ∧ Q0 (kq ≤ k1) ∧ Q0 (Kd.S (Kd.slice 4 Kd.bool) 39 w' w.heap.size (fun k_ => some k_ ≠ (v5 : Value).ownBlock) u3 x3_1) ∧ Q0 (Kd.R Kd.bool 4 w' w.heap.size (fun _ => True) v5 x5_2) ∧ Q0 (Below w.heap.size w w'))
    case atStart => exact ⟨(([] : List Bool)), (0), (by first | rfl | (simp [*]; done)), H', ⟨Nat.le_refl _⟩, ⟨by (with_reducible repeat (first | apply Kd.X2 | apply Kd.QY | apply Kd.Xa)); exact Kd.XR HO_3.out (fun _ hk => (by simp [Value.ownBlock]))⟩, ⟨by first | exact Kd.R_nil _ _ _ _ _ | exact Kd.N_nil _ _ _ _ _ | exact Kd.V_nil _ _ _ _ _ | exact Kd.Q_nil _ _ _ _ _ | exact Kd.S_nil _ _ _ _ _⟩, ⟨by repeat (first | exact HB.out | apply Q5 | apply Q2 | apply Q6)⟩⟩
    case round =>
     clear H';(try clear c2);(try clear c2b0);(try clear p2);obtain ⟨x5_2, x6_2, rfl, HA, HK2, HO_3, HO_5, HB⟩ := hrel
     cases gk with
     | zero => exact absurd HA.out (by simp [Qk.l1])
     | succ k2 =>
      have H := HA.out;clear HA;simp only [Qk.l1] at H;by_cases c3 : 0 ≤ x4_1
      ·rw [if_pos c3] at H;have c3b0 : decide (0 ≤ x4_1) = true := decide_eq_true c3;clear c3;by_cases c4 : x4_1 < (l0.length : Int)
       ·rw [if_pos c4] at H;have c4b0 : decide (x4_1 < (l0.length : Int)) = true := decide_eq_true c4;clear c4;by_cases c5 : x6_2 < (((Q3 l0 x4_1).f1).length : Int)
        ·rw [if_pos c5] at H;have c5b0 : decide (x6_2 < (((Q3 l0 x4_1).f1).length : Int)) = true := decide_eq_true c5;clear c5;by_cases c6 : x5_2.length < 140737488355328
         ·rw [if_pos c6] at H;have LMc6 := Q0.mk c6;clear c6;obtain ⟨y334, hy334⟩ : ∃ y_ : List Bool, y_ = (x5_2 ++ [true]) := ⟨_, rfl⟩;(replace H : (Qk.l1 k2 l0 x3_1 x4_1 y334 (wrap64 (x6_2 + 1))) = some r := by first | (rw [hy334]; with_reducible exact H) | (have H2_ := (Option.bind_some _ _).symm.trans H; rw [hy334]; with_reducible exact H2_) | (have H2_ := (Option.bind_some _ _).symm.trans H; with_reducible exact H2_) | with_reducible exact H | (rw [hy334]; exact H) | exact H);have Ny334 := Q0.mk hy334;clear hy334;have H' := Q0.mk H;clear H;have p333 : 0 ≤ (x4_1 : Int) := of_decide_eq_true ‹_›;have q333 : x4_1 < (l0.length : Int) := of_decide_eq_true ‹_›;obtain ⟨ad333, A333_1, c333_1, A333_2, c333_2, A333_3, c333_3, A333_4, c333_4, A333_5, c333_5, e333, hx333_0, hx333_1, hx333_2, hx333_3, hx333_4, hx333_5, hl333_1, hi333_1, hl333_2, hi333_2, hl333_3, hi333_3, hl333_4, hi333_4, hl333_5, hi333_5⟩ := XP HR0.out x4_1 p333 q333
          cases e333
          replace hx333_0 := cup HB.out hx333_0;replace hx333_1 := cup HB.out hx333_1;replace hx333_2 := cup HB.out hx333_2;replace hx333_3 := cup HB.out hx333_3;replace hx333_4 := cup HB.out hx333_4;replace hx333_5 := cup HB.out hx333_5;have HR333_1 := Q0.mk hi333_1;have HC333_1 := Q0.mk hl333_1;clear hi333_1 hl333_1;have HR333_2 := Q0.mk hi333_2;have HC333_2 := Q0.mk hl333_2;clear hi333_2 hl333_2;have HR333_3 := Q0.mk hi333_3;have HC333_3 := Q0.mk hl333_3;clear hi333_3 hl333_3;have HR333_4 := Q0.mk hi333_4;have HC333_4 := Q0.mk hl333_4;clear hi333_4 hl333_4;have HR333_5 := Q0.mk hi333_5;have HC333_5 := Q0.mk hl333_5;clear hi333_5 hl333_5;replace p333 := eq_true p333;replace q333 := eq_true q333;go_wp2_with (first | ((with_reducible refine gate_builtin (b := .append) (xs := #[.tmp 23, .tmp 24]) rfl ?_); at_builtin; refine Kd.R_append Kd.bool (w0 := w) w.heap.size rfl (.tmp 23) (.tmp 24) 39 4 (.bool false) 1 rfl Try.underlying39 info4 rfl (by decide) (by omega) u5 x5_2 true [.bool true] (fun _ => True) (fun _ => False) rfl rfl ?aP (fun _ hk => hk.elim) ?aF ?aO ?aB ?aS ?aL ?_; (case aP => exact rfl); (case aB => exact HB.out); (case aF => exact (fun _ _ => trivial)); (case aO => exact HO_5.out); (case aS => exact (Qi HB.out)); (case aL => have := LMc6.out; omega); intro v335 w7 ho hb hg hat; rw [← Ny334.out] at ho; have HO336 := Q0.mk (ho); replace HO_3 := Q0.mk (Kd.S_after (ok := (fun _ => True)) (by (with_reducible repeat (first | apply Kd.X2 | apply Kd.QY | apply Kd.Xa)); exact Kd.XR HO_3.out (fun _ hk => ⟨trivial, hk⟩)) hg hat); replace HB := Q0.mk (hb); clear HO_5; clear ho hb hg hat))
          go_roundg k2
          (case measure => have := HK1.out; have := HK2.out; omega);case rel => exact ⟨(y334), (wrap64 (x6_2 + 1)), (by first | rfl | (simp [*]; done)), H', ⟨by have := HK1.out; have := HK2.out; omega⟩, ⟨by (with_reducible repeat (first | apply Kd.X2 | apply Kd.QY | apply Kd.Xa)); exact Kd.XR HO_3.out (fun _ hk => hk.2)⟩, ⟨by (with_reducible repeat (first | apply Kd.Xy | apply Kd.Xx | apply Kd.XG)); exact HO336.out⟩, ⟨by repeat (first | exact HB.out | apply Q5 | apply Q2 | apply Q6)⟩⟩
         ·rw [if_neg c6] at H;exact absurd H (by simp)
        ·rw [if_neg c5] at H;have c5b0 : decide (x6_2 < (((Q3 l0 x4_1).f1).length : Int)) = false := decide_eq_false c5;clear c5;by_cases c8 : x3_1.length < 5864062014805
         ·rw [if_pos c8] at H;have LMc8 := Q0.mk c8;clear c8;obtain ⟨y337, hy337⟩ : ∃ y_ : List (List Bool), y_ = (x3_1 ++ [x5_2]) := ⟨_, rfl⟩;(replace H : (Qk.l0 k2 l0 y337 (wrap64 (x4_1 + 1))) = some r := by first | (rw [hy337]; with_reducible exact H) | (have H2_ := (Option.bind_some _ _).symm.trans H; rw [hy337]; with_reducible exact H2_) | (have H2_ := (Option.bind_some _ _).symm.trans H; with_reducible exact H2_) | with_reducible exact H | (rw [hy337]; exact H) | exact H);have Ny337 := Q0.mk hy337;clear hy337;have H' := Q0.mk H;clear H;have p333 : 0 ≤ (x4_1 : Int) := of_decide_eq_true ‹_›;have q333 : x4_1 < (l0.length : Int) := of_decide_eq_true ‹_›;obtain ⟨ad333, A333_1, c333_1, A333_2, c333_2, A333_3, c333_3, A333_4, c333_4, A333_5, c333_5, e333, hx333_0, hx333_1, hx333_2, hx333_3, hx333_4, hx333_5, hl333_1, hi333_1, hl333_2, hi333_2, hl333_3, hi333_3, hl333_4, hi333_4, hl333_5, hi333_5⟩ := XP HR0.out x4_1 p333 q333
          cases e333
          replace hx333_0 := cup HB.out hx333_0;replace hx333_1 := cup HB.out hx333_1;replace hx333_2 := cup HB.out hx333_2;replace hx333_3 := cup HB.out hx333_3;replace hx333_4 := cup HB.out hx333_4;replace hx333_5 := cup HB.out hx333_5;have HR333_1 := Q0.mk hi333_1;have HC333_1 := Q0.mk hl333_1;clear hi333_1 hl333_1;have HR333_2 := Q0.mk hi333_2;have HC333_2 := Q0.mk hl333_2;clear hi333_2 hl333_2;have HR333_3 := Q0.mk hi333_3;have HC333_3 := Q0.mk hl333_3;clear hi333_3 hl333_3;have HR333_4 := Q0.mk hi333_4;have HC333_4 := Q0.mk hl333_4;clear hi333_4 hl333_4;have HR333_5 := Q0.mk hi333_5;have HC333_5 := Q0.mk hl333_5;clear hi333_5 hl333_5;replace p333 := eq_true p333;replace q333 := eq_true q333;obtain ⟨Ao10, co10, eo10⟩ := Kd.Y7 HO_5.out;subst eo10;go_wp2_with (first | ((with_reducible refine gate_builtin (b := .append) (xs := #[.tmp 26, .tmp 28]) rfl ?_); at_builtin; refine Kd.S_append (Kd.slice 4 Kd.bool) (w0 := w) w.heap.size rfl (.tmp 26) (.tmp 28) 26 39 (.slice none 0 0) 24 rfl Try.underlying26 info39 rfl (by decide) (by omega) u3 x3_1 x5_2 [.slice Ao10 x5_2.length co10] (fun _ => True) (fun k_ => some k_ = (.slice Ao10 x5_2.length co10 : Value).ownBlock) rfl rfl ?aP (fun k_ hk_ => ((Kd.XC (ok' := fun k_ => ((fun _ => True)) k_ ∧ some k_ ≠ (u3 : Value).ownBlock) (Kd.XF (HO_5.out) (Kd.S_typed HO_3.out) (by decide)) (fun k_ hk => ⟨trivial, hk.2⟩))).1 k_ hk_.symm) ?aF ?aO ?aB ?aS ?aL ?_; (case aP => exact Kd.M_row (Kd.XC (Kd.R_tight rfl (Kd.XC (ok' := fun k_ => ((fun _ => True)) k_ ∧ some k_ ≠ (u3 : Value).ownBlock) (Kd.XF (HO_5.out) (Kd.S_typed HO_3.out) (by decide)) (fun k_ hk => ⟨trivial, hk.2⟩))) (fun _ h_ => h_))); (case aB => exact HB.out); (case aF => exact (fun _ _ => trivial)); (case aO => exact (by (with_reducible repeat (first | apply Kd.X2 | apply Kd.QY | apply Kd.Xa)); exact Kd.XR HO_3.out (fun k_ hk => ⟨trivial, fun e_ => hk e_⟩))); (case aS => exact (Qi HB.out)); (case aL => have := LMc8.out; omega); intro v338 w9 ho hb hg hat; rw [← Ny337.out] at ho; have HO339 := Q0.mk (ho); replace HB := Q0.mk (hb); clear HO_3 HO_5; clear ho hb hg hat))
          go_roundg k2
          (case measure => have := HK1.out; have := HK2.out; omega);case rel => exact ⟨(y337), (wrap64 (x4_1 + 1)), (by first | rfl | (simp [*]; done)), H', ⟨by have := HK1.out; have := HK2.out; omega⟩, ⟨by (with_reducible repeat (first | apply Kd.X2 | apply Kd.QY | apply Kd.Xa)); exact HO339.out⟩, ⟨by repeat (first | exact HB.out | apply Q5 | apply Q2 | apply Q6)⟩⟩
         ·rw [if_neg c8] at H;exact absurd H (by simp)
       ·rw [if_neg c4] at H;exact absurd H (by simp)
      ·rw [if_neg c3] at H;exact absurd H (by simp)
   ·rw [if_neg c2] at H;have c2b0 : decide (x4_1 < (l0.length : Int)) = false := decide_eq_false c2;clear c2;obtain rfl := Option.some.inj H;go_wp2;go_ret;exact ⟨_, by first | rfl | (simp [*]; done), by (with_reducible repeat (first | apply Kd.X2 | apply Kd.QY | apply Kd.Xa)); exact HO_3.out, by repeat (first | exact HB.out | apply Q5 | apply Q2 | apply Q6)⟩
end Go.Proofs.Ytakabkjhnncbhaa.PX
namespace Go.Proofs.Ytakabkjhnncbhaa.PX
open Go.RowKit Go.Proofs.YtakabkjhnncbhaaW.PrintWords Go.Proofs.YtakabkjhnncbhaaW.PrintLast Go.Proofs.YtakabkjhnncbhaaW.PrintMore
attribute [local go_sem] Xl Xj Xu Xt X7 X6 Xk Xi   -- for this text's walks alone
set_option linter.unusedVariables false
set_option linter.unusedSimpArgs false
def QC.l0 : Nat → List (S46) → Int → Option (Int × Int)
 | 0, _, _ => none
 | k + 1, x0, x3 => if x3 < (x0.length : Int) then (if 0 ≤ x3 then ((X8.f k ((Q3 x0 x3).f0) ((Q3 x0 x3).f1) ((Q3 x0 x3).f2) ((Q3 x0 x3).f3) ((Q3 x0 x3).f4) ((Q3 x0 x3).f5)).bind fun bt198 => (if bt198.1 = 0 then (QC.l0 k x0 (wrap64 (x3 + 1))) else ((XA.f bt198.1 x3).bind fun bt201 => (some (bt201.1, bt201.2))))) else (none)) else (some (0, 0))
def QC.f (k : Nat) (l0 : List (S46)) : Option (Int × Int) := if (l0.length : Int) > 8 then ((XA.f 2 (-1)).bind fun bt195 => (some (bt195.1, bt195.2))) else (QC.l0 k l0 0)
theorem QC.Xo : ∀ k, (∀ y0 y1, LeO (QC.l0 k y0 y1) (QC.l0 (k + 1) y0 y1))
 | 0 => fun _ _ r h => by simp [QC.l0] at h
 | k + 1 => by
  have ih0 := QC.Xo k
  ·intro y0 y1;unfold QC.l0
   repeat' first
   | (with_reducible exact ih0 _ _)
   | (with_reducible exact X8.mono _ _ _ _ _ _ _)
   | (with_reducible exact LeO.refl _)
   | (with_reducible exact LeO.none _)
   | (with_reducible refine LeO.ite ?_ ?_)
   | (with_reducible refine LeO.bind ?_ (fun _ => ?_))
theorem QC.mono : ∀ a0 k, LeO (QC.f k a0) (QC.f (k + 1) a0) := by
 intro a0 k;have ih0 := QC.Xo k;unfold QC.f
 repeat' first
   | (with_reducible exact ih0 _ _)
   | (with_reducible exact X8.mono _ _ _ _ _ _ _)
   | (with_reducible exact LeO.refl _)
   | (with_reducible exact LeO.none _)
   | (with_reducible refine LeO.ite ?_ ?_)
   | (with_reducible refine LeO.bind ?_ (fun _ => ?_))
set_option maxHeartbeats 8000000 in
set_option maxRecDepth 100000 in
theorem QC.calls (k : Nat) (A0 : Option Addr) (c0 : Nat) (l0 : List (S46)) (r1 : Int) (r2 : Int) (w : World) (hr0 : Kd.C k46 w A0 l0.length l0) (hc0 : l0.length ≤ c0) (h : QC.f k l0 = some (r1, r2)) :
  Calls Try.prog 10 #[.slice A0 l0.length c0] w fun e w' => e = .returned (.agg #[.int .i64 r1, .int .i64 r2]) ∧ Below w.heap.size w w' := by
 have hu24 := Try.underlying24;have hu46 := Try.underlying46;have HR0 := Q0.mk hr0;have HC0 := Q0.mk hc0;clear hr0 hc0;have HB := Q0.mk (Below.refl w.heap.size w);have H := h;clear h;unfold QC.f at H;(try dsimp only at H);by_cases c2 : (l0.length : Int) > 8
 ·rw [if_pos c2] at H;have c2b0 : decide (8 < (l0.length : Int)) = true := decide_eq_true c2;have c2b1 : decide (8 < l0.length) = true := decide_eq_true (by omega);clear c2;replace H := Option.bind_eq_some_iff.mp H;obtain ⟨⟨t195, t196⟩, A30, H⟩ := H;(try dsimp only at H);have A3 := Q0.mk A30;clear A30;simp only [Option.some.injEq, Prod.mk.injEq] at H;obtain ⟨rfl, rfl⟩ := H
  go_enter Try.func10, Try.ntmps10
  go_wp2_with (first | ((with_reducible refine QP (N := 2) rfl ?_); refine QL ?hg (N := 2) ?hd (cs := #[.int .i64 0, .int .i64 0]) (t := 24) ?hr ?_; (case hd => rfl); (case hg => rfl); (case hr => first | (go_simp; done) | (go_simp; rfl)); intro gb194 hg w4 hbox hb; have BK194 := Q0.mk (hbox); have GW194 := Q0.mk ((by rw [hg]; exact (Qi HB.out) : w.heap.size ≤ gb194)); have GE194 := Q0.mk ((by rw [hg]; exact (Qi HB.out) : w.heap.size ≤ gb194)); replace HB := Q0.mk (Ql HB.out hb); clear hb hbox hg) | ((with_reducible refine Qx (f := 17) rfl ?_); refine Xb (some 8) rfl rfl Try.func17 (by kernel_rfl) rfl #[.int .i64 2, .int .i64 (-1)] rfl (by (try simp only [List.map_toArray, List.map_cons, List.map_nil]); first | done | rfl | (simp only [List.length_drop, List.length_take]; rfl)) ?_; (with_reducible refine (XA.calls 2 (-1) t195 t196 _ A3.out).mono ?_); rintro e w5 ⟨rfl, hb⟩; refine ⟨_, rfl, ?_⟩; replace BK194 := Q0.mk (Qc BK194.out hb); replace HB := Q0.mk (Ql HB.out hb); obtain ⟨hcz6_0, hcz6_1⟩ := QA BK194.out; obtain ⟨hfz6_0, hfz6_1⟩ := Qt BK194.out) | ((with_reducible refine QE (t := 24) (p := 2) rfl ?_); refine Qw (t := 24) (p := 2) (v := ?vo_w7) (w1 := ((w5.setCell ⟨gb194, 0, none⟩ (.int .i64 t195)).setCell ⟨gb194, 1, none⟩ (.int .i64 t196))) ?hg ?ho ?hn ?hr ?_; (case ho => rfl); (case hg => rfl); (case hn => rfl); (case hr => first | (go_simp; done) | (go_simp; rfl)); intro w7 hw; replace BK194 := Q0.mk (put2 hw BK194.out); replace HB := Q0.mk (bel2 hw HB.out GE194.out); clear hw));refine bodyPost_ret (results_cell_row rfl _ _ gb194 24 #[.int .i64 t195, .int .i64 t196] (0, 0) _ rfl BK194.out Try.underlying24 rfl (by kernel_rfl)) rfl ?_;exact ⟨by first | rfl | (simp [*]; done), by repeat (first | exact HB.out | apply Q5 | apply Q2 | apply Q6 | refine Q1 ?_ GE194.out)⟩
 ·rw [if_neg c2] at H;have c2b0 : decide (8 < (l0.length : Int)) = false := decide_eq_false c2;have c2b1 : decide (8 < l0.length) = false := decide_eq_false (by omega);clear c2;have H' := Q0.mk H;clear H
  go_enter Try.func10, Try.ntmps10
  go_wp2_with (first | ((with_reducible refine QP (N := 2) rfl ?_); refine QL ?hg (N := 2) ?hd (cs := #[.int .i64 0, .int .i64 0]) (t := 24) ?hr ?_; (case hd => rfl); (case hg => rfl); (case hr => first | (go_simp; done) | (go_simp; rfl)); intro gb194 hg w8 hbox hb; have BK194 := Q0.mk (hbox); have GW194 := Q0.mk ((by rw [hg]; exact (Qi HB.out) : w.heap.size ≤ gb194)); have GE194 := Q0.mk ((by rw [hg]; exact (Qi HB.out) : w.heap.size ≤ gb194)); replace HB := Q0.mk (Ql HB.out hb); clear hb hbox hg))
  go_loopg [3] k (fun kq v3 w' => ∃ (x3_1 : Int) (x195000_1 : Int) (x195001_1 : Int), v3 = .int .i64 x3_1 ∧ Q0 (QC.l0 kq l0 x3_1 = some (r1, r2)) ∧ Q0 (kq ≤ k) ∧ Q0 (w'.heap[gb194]? = some (.cells #[.int .i64 x195000_1, .int .i64 x195001_1] 24 (0, 0))) ∧ Q0 (Below w.heap.size w w'))
  case atStart => exact ⟨(0), (0), (0), (by first | rfl | (simp [*]; done)), H', ⟨Nat.le_refl _⟩, ⟨by (with_reducible repeat (first | refine Q8 ?_ _ | refine Qb ?_ | refine Q9 ?_ _)); exact BK194.out⟩, ⟨by repeat (first | exact HB.out | apply Q5 | apply Q2 | apply Q6 | refine Q1 ?_ GE194.out)⟩⟩
  case round =>
   clear H';(try clear c1);(try clear c2);(try clear c2b0);(try clear c2b1);(try clear p2);obtain ⟨x3_1, x195000_1, x195001_1, rfl, HA, HK1, BK194, HB⟩ := hrel
   cases gk with
   | zero => exact absurd HA.out (by simp [QC.l0])
   | succ k1 =>
    have H := HA.out;clear HA;simp only [QC.l0] at H;by_cases c9 : x3_1 < (l0.length : Int)
    ·rw [if_pos c9] at H;have c9b0 : decide (x3_1 < (l0.length : Int)) = true := decide_eq_true c9;clear c9;by_cases c10 : 0 ≤ x3_1
     ·rw [if_pos c10] at H;have c10b0 : decide (0 ≤ x3_1) = true := decide_eq_true c10;clear c10;replace H := Option.bind_eq_some_iff.mp H;obtain ⟨⟨t198, t199⟩, A110, H⟩ := H;(try dsimp only at H);have A11 := Q0.mk A110;clear A110;by_cases c12 : t198 = 0
      ·rw [if_pos c12] at H;have c12b0 : (t198 == 0) = true := beq_iff_eq.mpr c12;have c12b1 : (t198 != 0) = false := bne_eq_false_iff_eq.mpr c12;clear c12;have H' := Q0.mk H;clear H;have p197 : 0 ≤ (x3_1 : Int) := of_decide_eq_true ‹_›;have q197 : x3_1 < (l0.length : Int) := of_decide_eq_true ‹_›;obtain ⟨ad197, A197_1, c197_1, A197_2, c197_2, A197_3, c197_3, A197_4, c197_4, A197_5, c197_5, e197, hx197_0, hx197_1, hx197_2, hx197_3, hx197_4, hx197_5, hl197_1, hi197_1, hl197_2, hi197_2, hl197_3, hi197_3, hl197_4, hi197_4, hl197_5, hi197_5⟩ := XP HR0.out x3_1 p197 q197
       cases e197
       replace hx197_0 := cup HB.out hx197_0;replace hx197_1 := cup HB.out hx197_1;replace hx197_2 := cup HB.out hx197_2;replace hx197_3 := cup HB.out hx197_3;replace hx197_4 := cup HB.out hx197_4;replace hx197_5 := cup HB.out hx197_5;have HR197_1 := Q0.mk hi197_1;have HC197_1 := Q0.mk hl197_1;clear hi197_1 hl197_1;have HR197_2 := Q0.mk hi197_2;have HC197_2 := Q0.mk hl197_2;clear hi197_2 hl197_2;have HR197_3 := Q0.mk hi197_3;have HC197_3 := Q0.mk hl197_3;clear hi197_3 hl197_3;have HR197_4 := Q0.mk hi197_4;have HC197_4 := Q0.mk hl197_4;clear hi197_4 hl197_4;have HR197_5 := Q0.mk hi197_5;have HC197_5 := Q0.mk hl197_5;clear hi197_5 hl197_5;replace p197 := eq_true p197;replace q197 := eq_true q197;go_wp2_with (first | ((with_reducible refine Qx (f := 26) rfl ?_); refine Xb (some 19) rfl rfl Try.func26 (by kernel_rfl) rfl #[.agg #[.string ((Q3 l0 x3_1).f0), .slice A197_1 ((Q3 l0 x3_1).f1).length c197_1, .slice A197_2 ((Q3 l0 x3_1).f2).length c197_2, .slice A197_3 ((Q3 l0 x3_1).f3).length c197_3, .slice A197_4 ((Q3 l0 x3_1).f4).length c197_4, .slice A197_5 ((Q3 l0 x3_1).f5).length c197_5]] rfl (by (try simp only [List.map_toArray, List.map_cons, List.map_nil]); first | done | rfl | (simp only [List.length_drop, List.length_take]; rfl)) ?_; (with_reducible refine (X8.calls k1 ((Q3 l0 x3_1).f0) _ _ ((Q3 l0 x3_1).f1) _ _ ((Q3 l0 x3_1).f2) _ _ ((Q3 l0 x3_1).f3) _ _ ((Q3 l0 x3_1).f4) _ _ ((Q3 l0 x3_1).f5) t198 t199 _ ?side1 ?side2 ?side3 ?side4 ?side5 ?side6 ?side7 ?side8 ?side9 ?side10 A11.out).mono ?_); (case side1 => repeat (first | exact (Kd.Qy HR197_1.out HB.out) | (with_reducible refine Kd.QS ?_ _) | (with_reducible refine Kd.QR ?_ _) | (with_reducible refine Kd.X5 ?_))); (case side2 => exact HC197_1.out); (case side3 => repeat (first | exact (Kd.Qy HR197_2.out HB.out) | (with_reducible refine Kd.QS ?_ _) | (with_reducible refine Kd.QR ?_ _) | (with_reducible refine Kd.X5 ?_))); (case side4 => exact HC197_2.out); (case side5 => repeat (first | exact (Kd.Qy HR197_3.out HB.out) | (with_reducible refine Kd.QS ?_ _) | (with_reducible refine Kd.QR ?_ _) | (with_reducible refine Kd.X5 ?_))); (case side6 => exact HC197_3.out); (case side7 => repeat (first | exact (Kd.Qy HR197_4.out HB.out) | (with_reducible refine Kd.QS ?_ _) | (with_reducible refine Kd.QR ?_ _) | (with_reducible refine Kd.X5 ?_))); (case side8 => exact HC197_4.out); (case side9 => repeat (first | exact (Kd.Qy HR197_5.out HB.out) | (with_reducible refine Kd.QS ?_ _) | (with_reducible refine Kd.QR ?_ _) | (with_reducible refine Kd.X5 ?_))); (case side10 => exact HC197_5.out); rintro e w13 ⟨rfl, hb⟩; refine ⟨_, rfl, ?_⟩; replace BK194 := Q0.mk (Qc BK194.out hb); replace HB := Q0.mk (Ql HB.out hb)) | ((with_reducible refine QP (N := 4) rfl ?_); refine QL ?hg (N := 4) ?hd (cs := #[.int .i64 0, .int .i64 0]) (t := 24) ?hr ?_; (case hd => rfl); (case hg => rfl); (case hr => first | (go_simp; done) | (go_simp; rfl)); intro gb200 hg w14 hbox hb; have BK200 := Q0.mk (hbox); have GW200 := Q0.mk ((by rw [hg]; exact (Qi HB.out) : w.heap.size ≤ gb200)); have GE200 := Q0.mk ((by rw [hg]; exact (Qi HB.out) : w.heap.size ≤ gb200)); have NB194_200 := Q0.mk ((by rw [hg]; exact Nat.ne_of_lt (QB BK194.out) : gb194 ≠ gb200)); have NB200_194 := Q0.mk ((by rw [hg]; exact Nat.ne_of_gt (QB BK194.out) : gb200 ≠ gb194)); replace BK194 := Q0.mk (Qc BK194.out hb); replace HB := Q0.mk (Ql HB.out hb); clear hb hbox hg; have hnb15 := NB200_194.out; have hnc15 := NB194_200.out; obtain ⟨hcz16_0, hcz16_1⟩ := QA BK200.out; obtain ⟨hfz16_0, hfz16_1⟩ := Qt BK200.out) | ((with_reducible refine QE (t := 24) (p := 4) rfl ?_); refine Qw (t := 24) (p := 4) (v := ?vo_w17) (w1 := ((w14.setCell ⟨gb200, 0, none⟩ (.int .i64 t198)).setCell ⟨gb200, 1, none⟩ (.int .i64 t199))) ?hg ?ho ?hn ?hr ?_; (case ho => rfl); (case hg => rfl); (case hn => rfl); (case hr => first | (go_simp; done) | (go_simp; rfl)); intro w17 hw; replace BK194 := Q0.mk (far2 hw BK194.out NB194_200.out); replace BK200 := Q0.mk (put2 hw BK200.out); replace HB := Q0.mk (bel2 hw HB.out GE200.out); clear hw; obtain ⟨hcz18_0, hcz18_1⟩ := QA BK200.out; obtain ⟨hfz18_0, hfz18_1⟩ := Qt BK200.out))
       go_roundg k1
       (case measure => have := HK1.out; omega);case rel => exact ⟨(wrap64 (x3_1 + 1)), (x195000_1), (x195001_1), (by first | rfl | (simp [*]; done)), H', ⟨by have := HK1.out; omega⟩, ⟨by (with_reducible repeat (first | refine Q8 ?_ _ | refine Qb ?_ | refine Q9 ?_ _)); exact BK194.out⟩, ⟨by repeat (first | exact HB.out | apply Q5 | apply Q2 | apply Q6 | refine Q1 ?_ GE194.out | refine Q1 ?_ GE200.out)⟩⟩
      ·rw [if_neg c12] at H;have c12b0 : (t198 == 0) = false := beq_eq_false_iff_ne.mpr c12;have c12b1 : (t198 != 0) = true := bne_iff_ne.mpr c12;replace H := Option.bind_eq_some_iff.mp H;obtain ⟨⟨t201, t202⟩, A190, H⟩ := H;(try dsimp only at H);have A19 := Q0.mk A190;clear A190;simp only [Option.some.injEq, Prod.mk.injEq] at H;obtain ⟨rfl, rfl⟩ := H;have p197 : 0 ≤ (x3_1 : Int) := of_decide_eq_true ‹_›;have q197 : x3_1 < (l0.length : Int) := of_decide_eq_true ‹_›;obtain ⟨ad197, A197_1, c197_1, A197_2, c197_2, A197_3, c197_3, A197_4, c197_4, A197_5, c197_5, e197, hx197_0, hx197_1, hx197_2, hx197_3, hx197_4, hx197_5, hl197_1, hi197_1, hl197_2, hi197_2, hl197_3, hi197_3, hl197_4, hi197_4, hl197_5, hi197_5⟩ := XP HR0.out x3_1 p197 q197
       cases e197
       replace hx197_0 := cup HB.out hx197_0;replace hx197_1 := cup HB.out hx197_1;replace hx197_2 := cup HB.out hx197_2;replace hx197_3 := cup HB.out hx197_3;replace hx197_4 := cup HB.out hx197_4;replace hx197_5 := cup HB.out hx197_5;have HR197_1 := Q0.mk hi197_1;have HC197_1 := Q0.mk hl197_1;clear hi197_1 hl197_1;have HR197_2 := Q0.mk hi197_2;have HC197_2 := Q0.mk hl197_2;clear hi197_2 hl197_2;have HR197_3 := Q0.mk hi197_3;have HC197_3 := Q0.mk hl197_3;clear hi197_3 hl197_3;have HR197_4 := Q0.mk hi197_4;have HC197_4 := Q0.mk hl197_4;clear hi197_4 hl197_4;have HR197_5 := Q0.mk hi197_5;have HC197_5 := Q0.mk hl197_5;clear hi197_5 hl197_5;replace p197 := eq_true p197;replace q197 := eq_true q197;go_wp2_with (first | ((with_reducible refine Qx (f := 26) rfl ?_); refine Xb (some 19) rfl rfl Try.func26 (by kernel_rfl) rfl #[.agg #[.string ((Q3 l0 x3_1).f0), .slice A197_1 ((Q3 l0 x3_1).f1).length c197_1, .slice A197_2 ((Q3 l0 x3_1).f2).length c197_2, .slice A197_3 ((Q3 l0 x3_1).f3).length c197_3, .slice A197_4 ((Q3 l0 x3_1).f4).length c197_4, .slice A197_5 ((Q3 l0 x3_1).f5).length c197_5]] rfl (by (try simp only [List.map_toArray, List.map_cons, List.map_nil]); first | done | rfl | (simp only [List.length_drop, List.length_take]; rfl)) ?_; (with_reducible refine (X8.calls k1 ((Q3 l0 x3_1).f0) _ _ ((Q3 l0 x3_1).f1) _ _ ((Q3 l0 x3_1).f2) _ _ ((Q3 l0 x3_1).f3) _ _ ((Q3 l0 x3_1).f4) _ _ ((Q3 l0 x3_1).f5) t198 t199 _ ?side1 ?side2 ?side3 ?side4 ?side5 ?side6 ?side7 ?side8 ?side9 ?side10 A11.out).mono ?_); (case side1 => repeat (first | exact (Kd.Qy HR197_1.out HB.out) | (with_reducible refine Kd.QS ?_ _) | (with_reducible refine Kd.QR ?_ _) | (with_reducible refine Kd.X5 ?_))); (case side2 => exact HC197_1.out); (case side3 => repeat (first | exact (Kd.Qy HR197_2.out HB.out) | (with_reducible refine Kd.QS ?_ _) | (with_reducible refine Kd.QR ?_ _) | (with_reducible refine Kd.X5 ?_))); (case side4 => exact HC197_2.out); (case side5 => repeat (first | exact (Kd.Qy HR197_3.out HB.out) | (with_reducible refine Kd.QS ?_ _) | (with_reducible refine Kd.QR ?_ _) | (with_reducible refine Kd.X5 ?_))); (case side6 => exact HC197_3.out); (case side7 => repeat (first | exact (Kd.Qy HR197_4.out HB.out) | (with_reducible refine Kd.QS ?_ _) | (with_reducible refine Kd.QR ?_ _) | (with_reducible refine Kd.X5 ?_))); (case side8 => exact HC197_4.out); (case side9 => repeat (first | exact (Kd.Qy HR197_5.out HB.out) | (with_reducible refine Kd.QS ?_ _) | (with_reducible refine Kd.QR ?_ _) | (with_reducible refine Kd.X5 ?_))); (case side10 => exact HC197_5.out); rintro e w20 ⟨rfl, hb⟩; refine ⟨_, rfl, ?_⟩; replace BK194 := Q0.mk (Qc BK194.out hb); replace HB := Q0.mk (Ql HB.out hb)) | ((with_reducible refine QP (N := 4) rfl ?_); refine QL ?hg (N := 4) ?hd (cs := #[.int .i64 0, .int .i64 0]) (t := 24) ?hr ?_; (case hd => rfl); (case hg => rfl); (case hr => first | (go_simp; done) | (go_simp; rfl)); intro gb200 hg w21 hbox hb; have BK200 := Q0.mk (hbox); have GW200 := Q0.mk ((by rw [hg]; exact (Qi HB.out) : w.heap.size ≤ gb200)); have GE200 := Q0.mk ((by rw [hg]; exact (Qi HB.out) : w.heap.size ≤ gb200)); have NB194_200 := Q0.mk ((by rw [hg]; exact Nat.ne_of_lt (QB BK194.out) : gb194 ≠ gb200)); have NB200_194 := Q0.mk ((by rw [hg]; exact Nat.ne_of_gt (QB BK194.out) : gb200 ≠ gb194)); replace BK194 := Q0.mk (Qc BK194.out hb); replace HB := Q0.mk (Ql HB.out hb); clear hb hbox hg; have hnb22 := NB200_194.out; have hnc22 := NB194_200.out; obtain ⟨hcz23_0, hcz23_1⟩ := QA BK200.out; obtain ⟨hfz23_0, hfz23_1⟩ := Qt BK200.out) | ((with_reducible refine QE (t := 24) (p := 4) rfl ?_); refine Qw (t := 24) (p := 4) (v := ?vo_w24) (w1 := ((w21.setCell ⟨gb200, 0, none⟩ (.int .i64 t198)).setCell ⟨gb200, 1, none⟩ (.int .i64 t199))) ?hg ?ho ?hn ?hr ?_; (case ho => rfl); (case hg => rfl); (case hn => rfl); (case hr => first | (go_simp; done) | (go_simp; rfl)); intro w24 hw; replace BK194 := Q0.mk (far2 hw BK194.out NB194_200.out); replace BK200 := Q0.mk (put2 hw BK200.out); replace HB := Q0.mk (bel2 hw HB.out GE200.out); clear hw; obtain ⟨hcz25_0, hcz25_1⟩ := QA BK200.out; obtain ⟨hfz25_0, hfz25_1⟩ := Qt BK200.out) | ((with_reducible refine Qx (f := 17) rfl ?_); refine Xb (some 26) rfl rfl Try.func17 (by kernel_rfl) rfl #[.int .i64 t198, .int .i64 x3_1] rfl (by (try simp only [List.map_toArray, List.map_cons, List.map_nil]); first | done | rfl | (simp only [List.length_drop, List.length_take]; rfl)) ?_; (with_reducible refine (XA.calls t198 x3_1 t201 t202 _ A19.out).mono ?_); rintro e w26 ⟨rfl, hb⟩; refine ⟨_, rfl, ?_⟩; replace BK194 := Q0.mk (Qc BK194.out hb); replace BK200 := Q0.mk (Qc BK200.out hb); replace HB := Q0.mk (Ql HB.out hb); obtain ⟨hcz27_0, hcz27_1⟩ := QA BK194.out; obtain ⟨hfz27_0, hfz27_1⟩ := Qt BK194.out) | ((with_reducible refine QE (t := 24) (p := 2) rfl ?_); refine Qw (t := 24) (p := 2) (v := ?vo_w28) (w1 := ((w26.setCell ⟨gb194, 0, none⟩ (.int .i64 t201)).setCell ⟨gb194, 1, none⟩ (.int .i64 t202))) ?hg ?ho ?hn ?hr ?_; (case ho => rfl); (case hg => rfl); (case hn => rfl); (case hr => first | (go_simp; done) | (go_simp; rfl)); intro w28 hw; replace BK194 := Q0.mk (put2 hw BK194.out); replace BK200 := Q0.mk (far2 hw BK200.out NB200_194.out); replace HB := Q0.mk (bel2 hw HB.out GE194.out); clear hw));refine bodyPost_ret (results_cell_row rfl _ _ gb194 24 #[.int .i64 t201, .int .i64 t202] (0, 0) _ rfl BK194.out Try.underlying24 rfl (by kernel_rfl)) rfl ?_;exact ⟨by first | rfl | (simp [*]; done), by repeat (first | exact HB.out | apply Q5 | apply Q2 | apply Q6 | refine Q1 ?_ GE194.out | refine Q1 ?_ GE200.out)⟩
     ·rw [if_neg c10] at H;exact absurd H (by simp)
    ·rw [if_neg c9] at H;have c9b0 : decide (x3_1 < (l0.length : Int)) = false := decide_eq_false c9;clear c9;simp only [Option.some.injEq, Prod.mk.injEq] at H;obtain ⟨rfl, rfl⟩ := H;obtain ⟨hcz29_0, hcz29_1⟩ := QA BK194.out;obtain ⟨hfz29_0, hfz29_1⟩ := Qt BK194.out;go_wp2_with (first | ((with_reducible refine QE (t := 24) (p := 2) rfl ?_); refine Qw (t := 24) (p := 2) (v := ?vo_w30) (w1 := ((wr.setCell ⟨gb194, 0, none⟩ (.int .i64 0)).setCell ⟨gb194, 1, none⟩ (.int .i64 0))) ?hg ?ho ?hn ?hr ?_; (case ho => rfl); (case hg => rfl); (case hn => rfl); (case hr => first | (go_simp; done) | (go_simp; rfl)); intro w30 hw; replace BK194 := Q0.mk (put2 hw BK194.out); replace HB := Q0.mk (bel2 hw HB.out GE194.out); clear hw));refine bodyPost_ret (results_cell_row rfl _ _ gb194 24 #[.int .i64 0, .int .i64 0] (0, 0) _ rfl BK194.out Try.underlying24 rfl (by kernel_rfl)) rfl ?_;exact ⟨by first | rfl | (simp [*]; done), by repeat (first | exact HB.out | apply Q5 | apply Q2 | apply Q6 | refine Q1 ?_ GE194.out)⟩
end Go.Proofs.Ytakabkjhnncbhaa.PX
namespace Go.Proofs.Ytakabkjhnncbhaa.PX
open Go.RowKit Go.Proofs.YtakabkjhnncbhaaW.PrintWords Go.Proofs.YtakabkjhnncbhaaW.PrintLast Go.Proofs.YtakabkjhnncbhaaW.PrintMore
set_option linter.unusedVariables false
set_option linter.unusedSimpArgs false
theorem Ev.yes {α : Type} {c : Prop} [Decidable c] {a b : Nat → Option α} {r : α} (h : c) (k : Ev a r) : Ev (fun n => if c then a n else b n) r := Ev.congr (fun n => if_pos h) k
theorem Ev.no {α : Type} {c : Prop} [Decidable c] {a b : Nat → Option α} {r : α} (h : ¬ c) (k : Ev b r) : Ev (fun n => if c then a n else b n) r := Ev.congr (fun n => if_neg h) k
def allA (l : List (S46)) (i : Nat) : List (List Bool) := (List.range i).map fun (j : Nat) => tab (Q3 l (j : Int)).f1.length (fun _ => true)
theorem allA_succ (l : List (S46)) (i : Nat) : allA l i ++ [tab (Q3 l (i : Int)).f1.length (fun _ => true)] = allA l (i + 1) := by
  unfold allA;rw [List.range_succ, List.map_append];rfl
theorem allA_len (l : List (S46)) (i : Nat) : (allA l i).length = i := by simp [allA]
theorem tab_append (n : Nat) : tab n (fun _ => true) ++ [true] = tab (n + 1) (fun _ => true) := by
  unfold tab;rw [List.range_succ, List.map_append];rfl
section
variable (l : List (S46)) (h8 : l.length ≤ 8) (h16 : ∀ i : Int, 0 ≤ i → i < l.length → (Q3 l i).f1.length ≤ 16)
include h8 h16
theorem tot_All : TotP (fun r => r = T2 l (fun _ _ => true)) (fun k => QQ.f k l) := by
  have hh : ∀ (n i : Nat), i + n = l.length → TotP (fun r => r = T2 l (fun _ _ => true)) (fun k => QQ.l0 k (allA l i) l (l.length : Int) (i : Int)) := by
    intro n
    induction n with
    | zero =>
      intro i h;refine TotP.step (fun k => by rw [QQ.l0]) ?_;refine TotP.ite (fun _ => by exfalso; omega) (fun _ => TotP.now ?_);(have : i = l.length := by omega);subst this
      rfl
    | succ n ih =>
      intro i h;(have hi : (i : Int) < l.length := by omega);have hns := h16 i (by omega) hi;have e : wrap64 ((i : Int) + 1) = ((i + 1 : Nat) : Int) := IntWalk.wrap64_in _ (by omega)
      have hin : ∀ (m q : Nat) (f : Nat → Bool), q + m = (Q3 l i).f1.length → (∀ s, s < q → f s = true) → TotP (fun r => r = T2 l (fun _ _ => true)) (fun k => QQ.l1 k (allA l i) (tab (Q3 l i).f1.length f) l (l.length : Int) (i : Int) ((Q3 l i).f1.length : Int) (q : Int)) := by
        intro m
        induction m with
        | zero =>
          intro q f hq hf;refine TotP.step (fun k => by rw [QQ.l1]) ?_;rw [e];refine TotP.ite (fun _ => by exfalso; omega) (fun _ => ?_);refine TotP.ite (fun _ => ?_) (fun hc => by exfalso; rw [allA_len] at hc; omega);rw [tab_congr _ (g := fun _ => true) (fun s hs => hf s (by omega)), allA_succ]
          exact ih (i + 1) (by omega)
        | succ m ihm =>
          intro q f hq hf;have e' : wrap64 ((q : Int) + 1) = ((q + 1 : Nat) : Int) := IntWalk.wrap64_in _ (by omega);refine TotP.step (fun k => by rw [QQ.l1]) ?_;rw [e', e];refine TotP.ite (fun _ => ?_) (fun _ => by exfalso; omega);refine TotP.ite (fun _ => ?_) (fun _ => by exfalso; omega);refine TotP.ite (fun _ => ?_) (fun hc => by exfalso; rw [Y2] at hc; omega);rw [Int.toNat_natCast, tab_set];refine ihm (q + 1) _ (by omega) (fun s hs => ?_);by_cases es : s = q
          · rw [if_pos es]
          · rw [if_neg es]; exact hf s (by omega)
      refine TotP.step (fun k => by rw [QQ.l0]) ?_;refine TotP.ite (fun _ => ?_) (fun _ => by exfalso; omega);refine TotP.ite (fun _ => ?_) (fun _ => by exfalso; omega);refine TotP.ite (fun _ => ?_) (fun _ => by exfalso; omega);refine TotP.ite (fun _ => ?_) (fun _ => by exfalso; omega);refine TotP.ite (fun _ => ?_) (fun _ => by exfalso; omega);simp only [Option.bind_some, Int.toNat_natCast, List.length_replicate];rw [tab_rep];exact hin (Q3 l i).f1.length 0 _ (by omega) (fun s hs => absurd hs (Nat.not_lt_zero _))
  exact hh l.length 0 (by omega)
theorem tot_Everything : TotP (fun r => r = T2 l (fun _ _ => true)) (fun k => Qk.f k l) := by
  have hh : ∀ (n i : Nat), i + n = l.length → TotP (fun r => r = T2 l (fun _ _ => true)) (fun k => Qk.l0 k l (allA l i) (i : Int)) := by
    intro n
    induction n with
    | zero =>
      intro i h;refine TotP.step (fun k => by rw [Qk.l0]) ?_;refine TotP.ite (fun _ => by exfalso; omega) (fun _ => TotP.now ?_);(have : i = l.length := by omega);subst this
      rfl
    | succ n ih =>
      intro i h;(have hi : (i : Int) < l.length := by omega);have hns := h16 i (by omega) hi;have e : wrap64 ((i : Int) + 1) = ((i + 1 : Nat) : Int) := IntWalk.wrap64_in _ (by omega)
      have hin : ∀ (m q : Nat), q + m = (Q3 l i).f1.length → TotP (fun r => r = T2 l (fun _ _ => true)) (fun k => Qk.l1 k l (allA l i) (i : Int) (tab q (fun _ => true)) (q : Int)) := by
        intro m
        induction m with
        | zero =>
          intro q hq;refine TotP.step (fun k => by rw [Qk.l1]) ?_;rw [e];refine TotP.ite (fun _ => ?_) (fun _ => by exfalso; omega);refine TotP.ite (fun _ => ?_) (fun _ => by exfalso; omega);refine TotP.ite (fun _ => by exfalso; omega) (fun _ => ?_);refine TotP.ite (fun _ => ?_) (fun hc => by exfalso; rw [allA_len] at hc; omega);rw [show q = (Q3 l (i : Int)).f1.length from by omega, allA_succ]
          exact ih (i + 1) (by omega)
        | succ m ihm =>
          intro q hq;have e' : wrap64 ((q : Int) + 1) = ((q + 1 : Nat) : Int) := IntWalk.wrap64_in _ (by omega);refine TotP.step (fun k => by rw [Qk.l1]) ?_;rw [e', e];refine TotP.ite (fun _ => ?_) (fun _ => by exfalso; omega);refine TotP.ite (fun _ => ?_) (fun _ => by exfalso; omega);refine TotP.ite (fun _ => ?_) (fun _ => by exfalso; omega);refine TotP.ite (fun _ => ?_) (fun hc => by exfalso; rw [Y2] at hc; omega);rw [tab_append];exact ihm (q + 1) (by omega)
      refine TotP.step (fun k => by rw [Qk.l0]) ?_;refine TotP.ite (fun _ => ?_) (fun _ => by exfalso; omega);exact hin (Q3 l i).f1.length 0 (by omega)
  exact hh l.length 0 (by omega)
end
theorem tot_lists (l : List (S46)) (hz : ∀ i : Int, SzM (Q3 l i)) (hl : l.length ≤ 9223372036854775807) : ∃ w : Int × Int, Ev (fun k => QJ.f k l) w ∧ Ev (fun k => QC.f k l) w ∧ (w.1 = 0 → w.2 = 0 ∧ GoodL l) := by
  unfold QJ.f QC.f;by_cases c : (l.length : Int) > 8
  · exact ⟨(2, -1), ⟨0, fun k _ => by simp only [if_pos c]⟩, ⟨0, fun k _ => by simp only [if_pos c]; rfl⟩, fun h => absurd (show (2 : Int) = 0 from h) (by decide)⟩
  have hh : ∀ (n i : Nat), i + n = l.length → (∀ j : Int, 0 ≤ j → j < i → GoodM (Q3 l j) ∧ Ev (fun k => X8.f k (Q3 l j).f0 (Q3 l j).f1 (Q3 l j).f2 (Q3 l j).f3 (Q3 l j).f4 (Q3 l j).f5) (0, 0)) → ∃ w : Int × Int, Ev (fun k => QJ.l0 k l (l.length : Int) (i : Int)) w ∧ Ev (fun k => QC.l0 k l (i : Int)) w ∧ (w.1 = 0 → w.2 = 0 ∧ GoodL l) := by
    intro n
    induction n with
    | zero =>
      intro i h hg;refine ⟨(0, 0), Ev.step (fun k => by rw [QJ.l0]) ?_, Ev.step (fun k => by rw [QC.l0]) ?_, fun _ => ⟨rfl, by omega, fun j h0 h1 => (hg j h0 (by omega)).1, hz, fun j h0 h1 => (hg j h0 (by omega)).2⟩⟩
      · exact Ev.no (by omega) (Ev.now _)
      · exact Ev.no (by omega) (Ev.now _)
    | succ n ih =>
      intro i h hg;have e : wrap64 ((i : Int) + 1) = ((i + 1 : Nat) : Int) := IntWalk.wrap64_in _ (by omega);obtain ⟨⟨v1, v2⟩, hv, hev⟩ := tot_Validate (Q3 l i) (hz i);by_cases c1 : v1 = 0
      · obtain ⟨c2, hgood⟩ := hv c1;have c2 : v2 = 0 := c2;subst c1 c2
        obtain ⟨w, w1, w2, w3⟩ := ih (i + 1) (by omega) (fun j h0 h1 => by
          by_cases ej : j = i
          · subst ej; exact ⟨hgood, hev⟩
          · exact hg j h0 (by omega))
        refine ⟨w, Ev.step (fun k => by rw [QJ.l0]) ?_, Ev.step (fun k => by rw [QC.l0]) ?_, w3⟩
        · rw [e];refine Ev.yes (by omega) (Ev.yes (by omega) (Ev.yes (by omega) ?_));refine Ev.bind hev ?_;exact w1
        · rw [e];refine Ev.yes (by omega) (Ev.yes (by omega) ?_);refine Ev.bind hev ?_;exact w2
      · refine ⟨(v1, (i : Int)), Ev.step (fun k => by rw [QJ.l0]) ?_, Ev.step (fun k => by rw [QC.l0]) ?_, fun hw => absurd hw c1⟩
        · rw [e];refine Ev.yes (by omega) (Ev.yes (by omega) (Ev.yes (by omega) ?_));refine Ev.bind hev ?_;(have hb : (!(v1 == 0) || !(v2 == 0)) = true := by rw [beq_eq_false_iff_ne.2 c1]; rfl);simp only [hb, if_true];exact Ev.now _
        · rw [e];refine Ev.yes (by omega) (Ev.yes (by omega) ?_);refine Ev.bind hev ?_;simp only [if_neg c1];exact Ev.now _
  obtain ⟨w, w1, w2, w3⟩ := hh l.length 0 (by omega) (fun j h0 h1 => absurd h1 (by omega));exact ⟨w, by simp only [if_neg c]; exact w1, by simp only [if_neg c]; exact w2, w3⟩
theorem tot_same (x : List (List Bool)) (hx : x.length ≤ 9223372036854775807) (hr : ∀ i : Int, (Qs x i).length ≤ 9223372036854775807) : TotP (fun r => r = true) (fun k => Qm.f k x x) := by
  have hh : ∀ (n i : Nat), i + n = x.length → TotP (fun r => r = true) (fun k => Qm.l0 k x x (i : Int)) := by
    intro n
    induction n with
    | zero =>
      intro i h;refine TotP.step (fun k => by rw [Qm.l0]) ?_
      refine TotP.ite (fun _ => by exfalso; omega) (fun _ => TotP.now rfl)
    | succ n ih =>
      intro i h;have e : wrap64 ((i : Int) + 1) = ((i + 1 : Nat) : Int) := IntWalk.wrap64_in _ (by omega)
      have hin : ∀ (m q : Nat), q + m = (Qs x i).length → TotP (fun r => r = true) (fun k => Qm.l1 k x x (i : Int) (q : Int)) := by
        intro m
        induction m with
        | zero =>
          intro q hq;refine TotP.step (fun k => by rw [Qm.l1]) ?_;rw [e]
          repeat' first
            | exact ih (i + 1) (by omega)
            | (exfalso; omega)
            | refine TotP.ite (fun _ => ?_) (fun _ => ?_)
        | succ m ihm =>
          intro q hq;have e' : wrap64 ((q : Int) + 1) = ((q + 1 : Nat) : Int) := IntWalk.wrap64_in _ (by have := hr i; omega);refine TotP.step (fun k => by rw [Qm.l1]) ?_;rw [e', e, bne_self_eq_false]
          repeat' first
            | exact ihm (q + 1) (by omega)
            | (exfalso; omega)
            | refine TotP.ite (fun h => absurd h (by decide)) (fun h => ?_)
            | refine TotP.ite (fun _ => ?_) (fun _ => ?_)
      refine TotP.step (fun k => by rw [Qm.l0]) ?_
      repeat' first
        | exact hin (Qs x i).length 0 (by omega)
        | (exfalso; omega)
        | refine TotP.ite (fun _ => ?_) (fun h => absurd rfl h)
        | refine TotP.ite (fun _ => ?_) (fun _ => ?_)
  unfold Qm.f;exact TotP.ite (fun _ => hh x.length 0 (by omega)) (fun h => absurd rfl h)
theorem chooses_true : Ev (fun k => Qr.f k) true := Ev.of (fun k => Qr.mono k) (k := 60) (by kernel_rfl)
end Go.Proofs.Ytakabkjhnncbhaa.PX
namespace Go.Proofs.Ytakabkjhnncbhaa.PX
open Go.RowKit Go.Proofs.YtakabkjhnncbhaaW.PrintWords Go.Proofs.YtakabkjhnncbhaaW.PrintLast Go.Proofs.YtakabkjhnncbhaaW.PrintMore
set_option linter.unusedVariables false
set_option linter.unusedSimpArgs false
theorem fresh_iff (l : List (S46)) (i : Nat) (nm : ByteArray) (hi : i ≤ l.length) : Y5 l i nm = true ↔ ∀ j : Nat, j < i → hasG (Q3 l j) nm = false := by
  unfold Y5;rw [Bool.not_eq_true', List.any_eq_false]
  constructor
  · intro h j hj;refine Bool.eq_false_iff.2 (h _ ?_);unfold Q3;rw [Int.toNat_natCast, List.getD_eq_getElem?_getD, List.getElem?_eq_getElem (by omega : j < l.length)];exact List.mem_take_iff_getElem.2 ⟨j, by omega, rfl⟩
  · intro h x hx;obtain ⟨j, hj, rfl⟩ := List.mem_take_iff_getElem.1 hx;have := h j (by omega);unfold Q3 at this;rw [Int.toNat_natCast, List.getD_eq_getElem?_getD, List.getElem?_eq_getElem (by omega : j < l.length)] at this;exact Bool.eq_false_iff.1 this
theorem rd_take46 (l : List (S46)) (i j : Nat) (h : j < i) : Q3 (l.take i) (j : Int) = Q3 l j := by
  unfold Q3;rw [Int.toNat_natCast, List.getD_eq_getElem?_getD, List.getD_eq_getElem?_getD, List.getElem?_take_of_lt h]
theorem hasG_at (l : List (S46)) (i j : Nat) (hj : j < (Q3 l i).f3.length) : hasG (Q3 l i) (Qa (Q3 l i).f3 j).f0 = true := any_rd.2 ⟨j, hj, beq_iff_eq.2 rfl⟩
theorem first_is (l : List (S46)) (hG : GoodL l) (i j : Nat) (hi : i < l.length) (hj : j < (Q3 l i).f3.length) :
    (if (XY l (Qa (Q3 l i).f3 j).f0 l.length 0).1 = i then (XY l (Qa (Q3 l i).f3 j).f0 l.length 0).2 == (j : Int) else false) = Y5 l i (Qa (Q3 l i).f3 j).f0 := by
  obtain ⟨h1, h2, h3⟩ := firstG_fresh l (Qa (Q3 l i).f3 j).f0 l.length 0;have hat := hasG_at l i j hj;have hgd := hG.good i (by omega) (by omega);generalize hr : XY l (Qa (Q3 l i).f3 j).f0 l.length 0 = r at h1 h2 h3 ⊢
  have hpos : 0 ≤ r.1 := by
    rcases h3 with ⟨a, _⟩ | a
    · exfalso
      have := h1.1 (by omega) i (by omega) (by omega);rw [hat] at this;exact absurd this (by decide)
    · exact a
  obtain ⟨q, hq⟩ : ∃ q : Nat, r.1 = q := ⟨r.1.toNat, by omega⟩;obtain ⟨a1, a2, a3, a4, a5⟩ := h2 q hq
  have hqi : q ≤ i := by
    by_cases e : q ≤ i
    · exact e
    · have := a5 i (by omega) (by omega);rw [hat] at this;exact absurd this (by decide)
  by_cases e : q = i
  · subst e;rw [if_pos hq]
    have hf : fidx (fun x : S49 => x.f0.toList == (Qa (Q3 l q).f3 j).f0.toList) (Q3 l q).f3 = j := fidx_hit (d := z49) hj (by
        show _ = true
        unfold Qa
        rw [Int.toNat_natCast]
        exact beq_iff_eq.2 rfl) (fun j' hj' => by
        have := hgd.names j' j (by omega) (by omega) (by omega)
        unfold Qa at this ⊢
        rw [Int.toNat_natCast, Int.toNat_natCast] at this
        rw [Int.toNat_natCast]
        exact beq_eq_false_iff_ne.2 this)
    rw [a4, hf, beq_self_eq_true];exact ((fresh_iff l q _ (by omega)).2 (fun j' hj' => a5 j' (by omega) hj')).symm
  · rw [if_neg (by omega)]
    symm
    refine Bool.eq_false_iff.2 (fun hh => ?_);have := (fresh_iff l i _ (by omega)).1 hh q (by omega);rw [a3] at this;exact absurd this (by decide)
theorem mem_drop_rd {secs : List Int} {p : Nat} (h : p < secs.length) (b : Int) : b ∈ secs.drop p ↔ b = rd secs p ∨ b ∈ secs.drop (p + 1) := by
  rw [List.drop_eq_getElem_cons h, List.mem_cons];(have : rd secs (p : Int) = secs[p] := by unfold rd; rw [Int.toNat_natCast, List.getD_eq_getElem?_getD, List.getElem?_eq_getElem h]; rfl);rw [this]
theorem rd_mem {secs : List Int} {p : Nat} (h : p < secs.length) : rd secs (p : Int) ∈ secs := by
  (have : rd secs (p : Int) = secs[p] := by unfold rd; rw [Int.toNat_natCast, List.getD_eq_getElem?_getD, List.getElem?_eq_getElem h]; rfl);rw [this];exact List.getElem_mem h
theorem any_drop49 {gs : List (S49)} {j : Nat} (h : j < gs.length) (p : S49 → Bool) : (gs.drop j).any p = (p (Qa gs j) || (gs.drop (j + 1)).any p) := by
  rw [List.drop_eq_getElem_cons h, List.any_cons];(have : Qa gs (j : Int) = gs[j] := by unfold Qa; rw [Int.toNat_natCast, List.getD_eq_getElem?_getD, List.getElem?_eq_getElem h]; rfl);rw [this]
section
variable {Q : List (List Bool) × Int × Int → Prop} (l : List (S46)) (hG : GoodL l) (hz : ∀ i j : Int, (Qa (Q3 l i).f3 j).f1.length ≤ 9223372036854775807) (i : Nat) (hi : i < l.length)
include hG hz hi
theorem choose_l3 (c : Nat → Bool) : ∀ (n q : Nat) (F : Nat → Nat → Bool), q + n = (Q3 l i).f1.length →
    TotP Q (fun k => Qh.l0 k l (T2 l (fun a b => if a = i ∧ q ≤ b then F a b || c b else F a b)) l (l.length : Int) ((i + 1 : Nat) : Int)) →
    TotP Q (fun k => Qh.l3 k l (T2 l F) (i : Int) l (l.length : Int) (i : Int) (tab (Q3 l i).f1.length c) ((Q3 l i).f1.length : Int) (q : Int)) := by
  have hz' := hz;clear hz';have h8 := hG.few;have hns := (hG.good i (by omega) (by omega)).many.1;have e : wrap64 ((i : Int) + 1) = ((i + 1 : Nat) : Int) := IntWalk.wrap64_in _ (by omega);intro n
  induction n with
  | zero =>
    intro q F hq hn;refine TotP.step (fun k => by rw [Qh.l3]) ?_;rw [e];refine TotP.ite (fun _ => by exfalso; omega) (fun _ => ?_)
    rwa [Y8 l (G := F) (fun a ha b hb => by
      by_cases ea : a = i
      · subst ea; rw [if_neg (by omega)]
      · rw [if_neg (fun h => ea h.1)])] at hn
  | succ n ih =>
    intro q F hq hn;have e' : wrap64 ((q : Int) + 1) = ((q + 1 : Nat) : Int) := IntWalk.wrap64_in _ (by omega);refine TotP.step (fun k => by rw [Qh.l3]) ?_;rw [e', e];have hrow : Qs (T2 l F) (i : Int) = tab (Q3 l i).f1.length (F i) := by unfold Qs; rw [Int.toNat_natCast]; exact T2_row l F i hi
    have hset : ∀ v, (T2 l F).set (i : Int).toNat ((Qs (T2 l F) (i : Int)).set (q : Int).toNat v) = T2 l (fun a b => if a = i ∧ b = q then v else F a b) := by
      intro v;rw [Int.toNat_natCast, Int.toNat_natCast];unfold Qs;rw [Int.toNat_natCast];exact T2_set l F i q v hi
    have hfin : ∀ v, v = (F i q || c q) → TotP Q (fun k => Qh.l3 k l (T2 l (fun a b => if a = i ∧ b = q then v else F a b)) (i : Int) l (l.length : Int) (i : Int) (tab (Q3 l i).f1.length c) ((Q3 l i).f1.length : Int) ((q + 1 : Nat) : Int)) := by
      intro v hv;refine ih (q + 1) _ (by omega) ?_
      rwa [Y8 l (G := fun a b => if a = i ∧ q ≤ b then F a b || c b else F a b) (fun a ha b hb => by
        by_cases ea : a = i
        · subst ea
          by_cases eb : b = q
          · subst eb
            rw [if_neg (by omega), if_pos ⟨rfl, rfl⟩, if_pos ⟨rfl, Nat.le_refl _⟩, hv]
          · by_cases eq : q ≤ b
            · rw [if_pos ⟨rfl, by omega⟩, if_neg (fun h => eb h.2), if_pos ⟨rfl, eq⟩]
            · rw [if_neg (fun h => eq (by omega)), if_neg (fun h => eb h.2), if_neg (fun h => eq h.2)]
        · rw [if_neg (fun h => ea h.1), if_neg (fun h => ea h.1), if_neg (fun h => ea h.1)])]
    refine TotP.ite (fun _ => ?_) (fun _ => by exfalso; omega);refine TotP.ite (fun _ => ?_) (fun _ => by exfalso; omega);refine TotP.ite (fun _ => ?_) (fun hc => by exfalso; rw [Y2] at hc; omega);refine TotP.ite (fun _ => ?_) (fun _ => by exfalso; omega);refine TotP.ite (fun _ => ?_) (fun hc => by exfalso; rw [T2_len] at hc; omega);refine TotP.ite (fun _ => ?_) (fun hc => by exfalso; rw [hrow, Y2] at hc; omega);(have hF : rdOf false (Qs (T2 l F) (i : Int)) (q : Int) = F i q := by rw [hrow]; unfold rdOf; rw [Int.toNat_natCast]; exact tab_get _ _ _ (by omega));(have hc : rdOf false (tab (Q3 l i).f1.length c) (q : Int) = c q := by unfold rdOf; rw [Int.toNat_natCast]; exact tab_get _ _ _ (by omega));rw [hF, hc];refine TotP.ite (fun ht => ?_) (fun ht => ?_)
    · rw [hset]; exact hfin _ (by rw [ht]; rfl)
    · rw [hset]; exact hfin _ (by rw [Bool.eq_false_iff.2 ht]; rfl)
theorem choose_l2 (j : Nat) (hj : j < (Q3 l i).f3.length) (fa fb : Int) (e : Bool) (he : (if fa = i then fb == (j : Int) else false) = e) : ∀ (n p : Nat) (F : Nat → Nat → Bool) (c : Nat → Bool), p + n = (Qa (Q3 l i).f3 j).f1.length →
    TotP Q (fun k => Qh.l1 k l (T2 l (fun a b => if a = i ∧ (b : Int) ∈ (Qa (Q3 l i).f3 j).f1.drop p then false else F a b)) (i : Int) (tab (Q3 l i).f1.length (fun b => if (b : Int) ∈ (Qa (Q3 l i).f3 j).f1.drop p then c b || e else c b)) l (l.length : Int) (i : Int) (Q3 l i).f3 ((Q3 l i).f3.length : Int) ((j + 1 : Nat) : Int)) →
    TotP Q (fun k => Qh.l2 k l (T2 l F) (i : Int) (tab (Q3 l i).f1.length c) (j : Int) fa fb l (l.length : Int) (i : Int) (Q3 l i).f3 ((Q3 l i).f3.length : Int) (j : Int) (Qa (Q3 l i).f3 j).f1 ((Qa (Q3 l i).f3 j).f1.length : Int) (p : Int)) := by
  have h8 := hG.few;have hgd := hG.good i (by omega) (by omega);have hns := hgd.many;have hsl := hz i j;have e1 : wrap64 ((j : Int) + 1) = ((j + 1 : Nat) : Int) := IntWalk.wrap64_in _ (by omega);intro n
  induction n with
  | zero =>
    intro p F c hp hn;refine TotP.step (fun k => by rw [Qh.l2]) ?_;rw [e1];refine TotP.ite (fun _ => by exfalso; omega) (fun _ => ?_);have hd : (Qa (Q3 l i).f3 j).f1.drop p = [] := List.drop_eq_nil_of_le (by omega);simp only [hd, List.not_mem_nil, and_false, if_false] at hn
    exact hn
  | succ n ih =>
    intro p F c hp hn;(have hpl : p < (Qa (Q3 l i).f3 j).f1.length := by omega);obtain ⟨hs0, hs1⟩ := hgd.mem j (by omega) (by omega) _ (rd_mem hpl);have e2 : wrap64 ((p : Int) + 1) = ((p + 1 : Nat) : Int) := IntWalk.wrap64_in _ (by omega);refine TotP.step (fun k => by rw [Qh.l2]) ?_;rw [e2, e1];have hmem := mem_drop_rd hpl;generalize rd (Qa (Q3 l i).f3 j).f1 (p : Int) = s at hs0 hs1 hmem ⊢;obtain ⟨s, rfl⟩ : ∃ m : Nat, s = m := ⟨s.toNat, by omega⟩;have hrow : Qs (T2 l F) (i : Int) = tab (Q3 l i).f1.length (F i) := by unfold Qs; rw [Int.toNat_natCast]; exact T2_row l F i hi
    have hset : ∀ v, (T2 l F).set (i : Int).toNat ((Qs (T2 l F) (i : Int)).set (s : Int).toNat v) = T2 l (fun a b => if a = i ∧ b = s then v else F a b) := by
      intro v;rw [Int.toNat_natCast, Int.toNat_natCast];unfold Qs;rw [Int.toNat_natCast];exact T2_set l F i s v hi
    have hc : rdOf false (tab (Q3 l i).f1.length c) (s : Int) = c s := by unfold rdOf; rw [Int.toNat_natCast]; exact tab_get _ _ _ (by omega)
    have hfin : ∀ v, v = (c s || e) → TotP Q (fun k => Qh.l2 k l (T2 l (fun a b => if a = i ∧ b = s then false else F a b)) (i : Int) ((tab (Q3 l i).f1.length c).set (s : Int).toNat v) (j : Int) fa fb l (l.length : Int) (i : Int) (Q3 l i).f3 ((Q3 l i).f3.length : Int) (j : Int) (Qa (Q3 l i).f3 j).f1 ((Qa (Q3 l i).f3 j).f1.length : Int) ((p + 1 : Nat) : Int)) := by
      intro v hv;rw [Int.toNat_natCast, tab_set];refine ih (p + 1) _ _ (by omega) ?_
      rwa [Y8 l (G := fun a b => if a = i ∧ (b : Int) ∈ (Qa (Q3 l i).f3 j).f1.drop p then false else F a b) (fun a ha b hb => by
        by_cases ea : a = i
        · subst ea
          by_cases eb : b = s
          · subst eb
            rw [if_pos (⟨rfl, (hmem _).2 (Or.inl rfl)⟩ : _ ∧ _), if_pos (⟨rfl, rfl⟩ : _ ∧ _)]; split <;> rfl
          · have : ((b : Int) ∈ (Qa (Q3 l a).f3 j).f1.drop (p + 1)) ↔ ((b : Int) ∈ (Qa (Q3 l a).f3 j).f1.drop p) := ⟨fun h => (hmem _).2 (Or.inr h), fun h => ((hmem _).1 h).resolve_left (by omega)⟩
            by_cases em : (b : Int) ∈ (Qa (Q3 l a).f3 j).f1.drop p
            · rw [if_pos ⟨rfl, this.2 em⟩, if_pos ⟨rfl, em⟩]
            · rw [if_neg (fun h => em (this.1 h.2)), if_neg (fun h => eb h.2), if_neg (fun h => em h.2)]
        · rw [if_neg (fun h => ea h.1), if_neg (fun h => ea h.1), if_neg (fun h => ea h.1)]),
        tab_congr _ (g := fun b => if (b : Int) ∈ (Qa (Q3 l i).f3 j).f1.drop p then c b || e else c b) (fun b hb => by
          by_cases eb : b = s
          · subst eb
            rw [if_pos ((hmem _).2 (Or.inl rfl)), if_pos rfl, hv]; cases c b <;> cases e <;> simp
          · have : ((b : Int) ∈ (Qa (Q3 l i).f3 j).f1.drop (p + 1)) ↔ ((b : Int) ∈ (Qa (Q3 l i).f3 j).f1.drop p) := ⟨fun h => (hmem _).2 (Or.inr h), fun h => ((hmem _).1 h).resolve_left (by omega)⟩
            by_cases em : (b : Int) ∈ (Qa (Q3 l i).f3 j).f1.drop p
            · rw [if_pos (this.2 em), if_neg eb, if_pos em]
            · rw [if_neg (fun h => em (this.1 h)), if_neg eb, if_neg em])]
    refine TotP.ite (fun _ => ?_) (fun hh => absurd (show (p : Int) < _ from by omega) hh);refine TotP.ite (fun _ => ?_) (fun hh => absurd (Int.natCast_nonneg p) hh);refine TotP.ite (fun _ => ?_) (fun hh => absurd (show (p : Int) < _ from by omega) hh);refine TotP.ite (fun _ => ?_) (fun hh => absurd (Int.natCast_nonneg i) hh);refine TotP.ite (fun _ => ?_) (fun hh => by exfalso; rw [T2_len] at hh; omega);refine TotP.ite (fun _ => ?_) (fun hh => absurd (Int.natCast_nonneg s) hh);refine TotP.ite (fun _ => ?_) (fun hh => by exfalso; rw [hrow, Y2] at hh; omega);simp only [Option.bind_some];refine TotP.ite (fun _ => ?_) (fun hh => by exfalso; rw [Y2] at hh; omega);rw [hc, hset];refine TotP.ite (fun ht => ?_) (fun ht => TotP.ite (fun ha => ?_) (fun ha => ?_))
    · exact hfin _ (by rw [ht]; rfl)
    · exact hfin _ (by rw [if_pos ha] at he; rw [Bool.eq_false_iff.2 ht, ← he]; rfl)
    · exact hfin _ (by rw [if_neg ha] at he; rw [Bool.eq_false_iff.2 ht, ← he]; rfl)
theorem choose_l1 : ∀ (n j : Nat) (F : Nat → Nat → Bool) (c : Nat → Bool), j + n = (Q3 l i).f3.length →
    TotP Q (fun k => Qh.l3 k l (T2 l (fun a b => if a = i ∧ ((Q3 l i).f3.drop j).any (fun g => decide ((b : Int) ∈ g.f1)) = true then false else F a b)) (i : Int) l (l.length : Int) (i : Int) (tab (Q3 l i).f1.length (fun b => c b || ((Q3 l i).f3.drop j).any (fun g => decide ((b : Int) ∈ g.f1) && Y5 l i g.f0))) ((Q3 l i).f1.length : Int) 0) →
    TotP Q (fun k => Qh.l1 k l (T2 l F) (i : Int) (tab (Q3 l i).f1.length c) l (l.length : Int) (i : Int) (Q3 l i).f3 ((Q3 l i).f3.length : Int) (j : Int)) := by
  have h8 := hG.few;have hgd := hG.good i (by omega) (by omega);have hns := hgd.many;intro n
  induction n with
  | zero =>
    intro j F c hj hn;refine TotP.step (fun k => by rw [Qh.l1]) ?_;refine TotP.ite (fun _ => by exfalso; omega) (fun _ => ?_);have hd : (Q3 l i).f3.drop j = [] := List.drop_eq_nil_of_le (by omega);simp only [hd, List.any_nil, Bool.false_eq_true, and_false, if_false, Bool.or_false] at hn;rw [Y2]
    exact hn
  | succ n ih =>
    intro j F c hj hn;refine TotP.step (fun k => by rw [Qh.l1]) ?_;refine TotP.ite (fun _ => ?_) (fun _ => by exfalso; omega);refine TotP.ite (fun _ => ?_) (fun _ => by exfalso; omega);refine TotP.ite (fun _ => ?_) (fun _ => by exfalso; omega);refine TotP.bind (tot_first l _ (by omega)) (fun r hr => ?_);subst hr;refine choose_l2 l hG hz i hi j (by omega) _ _ _ (first_is l hG i j hi (by omega)) _ 0 F c (Nat.zero_add _) ?_;refine ih (j + 1) _ _ (by omega) ?_;rw [List.drop_zero]
    rwa [Y8 l (G := fun a b => if a = i ∧ ((Q3 l i).f3.drop j).any (fun g => decide ((b : Int) ∈ g.f1)) = true then false else F a b) (fun a ha b hb => by
        rw [any_drop49 (by omega : j < (Q3 l i).f3.length)]
        by_cases ea : a = i
        · subst ea
          by_cases e1 : ((Q3 l a).f3.drop (j + 1)).any (fun g => decide ((b : Int) ∈ g.f1)) = true
          · rw [if_pos ⟨rfl, e1⟩, if_pos ⟨rfl, by rw [e1, Bool.or_true]⟩]
          · rw [if_neg (fun h => e1 h.2), Bool.eq_false_iff.2 e1, Bool.or_false]
            simp only [decide_eq_true_eq]
        · rw [if_neg (fun h => ea h.1), if_neg (fun h => ea h.1), if_neg (fun h => ea h.1)]),
      tab_congr _ (g := fun b => c b || ((Q3 l i).f3.drop j).any (fun g => decide ((b : Int) ∈ g.f1) && Y5 l i g.f0)) (fun b hb => by
        rw [any_drop49 (by omega : j < (Q3 l i).f3.length)]
        by_cases em : (b : Int) ∈ (Qa (Q3 l i).f3 j).f1
        · rw [if_pos em, decide_eq_true em, Bool.true_and, Bool.or_assoc]
        · rw [if_neg em, decide_eq_false em, Bool.false_and, Bool.false_or])]
end
end Go.Proofs.Ytakabkjhnncbhaa.PX
