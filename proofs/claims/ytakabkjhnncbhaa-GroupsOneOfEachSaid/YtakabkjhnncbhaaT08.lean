/- A part of the proof of a law: its words, walks of functions, or plain lemmas. -/
-- Written by this session's own programs (wip/printx.py, gen_*.py, assemble.py) and by hand.
import Derived.Test.YtakabkjhnncbhaaT01
import Derived.Test.YtakabkjhnncbhaaT07
namespace Go.Proofs.Ytakabkjhnncbhaa.PX
open Go.RowKit Go.Proofs.YtakabkjhnncbhaaW.PrintWords Go.Proofs.YtakabkjhnncbhaaW.PrintLast Go.Proofs.YtakabkjhnncbhaaW.PrintMore
attribute [local go_sem] Xl Xj Xu Xt X7 X6 Xk Xi   -- for this text's walks alone
set_option linter.unusedVariables false
set_option linter.unusedSimpArgs false
mutual
def QQ.l0 : Nat → List (List Bool) → List (S46) → Int → Int → Option ((List (List Bool)))
 | 0, _, _, _, _ => none
 | k + 1, x3, x8, x9, x10 => if x10 < x9 then (if 0 ≤ x10 then (if x10 < (x8.length : Int) then (if 0 ≤ (((Q3 x8 x10).f1).length : Int) then (if ((((Q3 x8 x10).f1).length : Int) : Int).toNat ≤ 281474976710656 then ((some (List.replicate ((((Q3 x8 x10).f1).length : Int) : Int).toNat false : List Bool)).bind fun y211 => (QQ.l1 k x3 y211 x8 x9 x10 (y211.length : Int) 0)) else (none)) else (none)) else (none)) else (none)) else (some x3)
def QQ.l1 : Nat → List (List Bool) → List Bool → List (S46) → Int → Int → Int → Int → Option ((List (List Bool)))
 | 0, _, _, _, _, _, _, _ => none
 | k + 1, x3, x6, x8, x9, x10, x19, x20 => if x20 < x19 then (if 0 ≤ x20 then (if x20 < (x6.length : Int) then (QQ.l1 k x3 (x6.set (x20 : Int).toNat true) x8 x9 x10 x19 (wrap64 (x20 + 1))) else (none)) else (none)) else (if x3.length < 5864062014805 then (QQ.l0 k (x3 ++ [x6]) x8 x9 (wrap64 (x10 + 1))) else (none))
end
def QQ.f (k : Nat) (l0 : List (S46)) : Option ((List (List Bool))) := QQ.l0 k ([] : List (List Bool)) l0 (l0.length : Int) 0
theorem QQ.Xo : ∀ k, (∀ y0 y1 y2 y3, LeO (QQ.l0 k y0 y1 y2 y3) (QQ.l0 (k + 1) y0 y1 y2 y3)) ∧ (∀ y0 y1 y2 y3 y4 y5 y6, LeO (QQ.l1 k y0 y1 y2 y3 y4 y5 y6) (QQ.l1 (k + 1) y0 y1 y2 y3 y4 y5 y6))
 | 0 => ⟨fun _ _ _ _ r h => by simp [QQ.l0] at h, fun _ _ _ _ _ _ _ r h => by simp [QQ.l1] at h⟩
 | k + 1 => by
  obtain ⟨ih0, ih1⟩ := QQ.Xo k;refine ⟨?_, ?_⟩
  ·intro y0 y1 y2 y3;unfold QQ.l0
   repeat' first
   | (with_reducible exact ih0 _ _ _ _)
   | (with_reducible exact ih1 _ _ _ _ _ _ _)
   | (with_reducible exact LeO.refl _)
   | (with_reducible exact LeO.none _)
   | (with_reducible refine LeO.ite ?_ ?_)
   | (with_reducible refine LeO.bind ?_ (fun _ => ?_))
  ·intro y0 y1 y2 y3 y4 y5 y6;unfold QQ.l1
   repeat' first
   | (with_reducible exact ih0 _ _ _ _)
   | (with_reducible exact ih1 _ _ _ _ _ _ _)
   | (with_reducible exact LeO.refl _)
   | (with_reducible exact LeO.none _)
   | (with_reducible refine LeO.ite ?_ ?_)
   | (with_reducible refine LeO.bind ?_ (fun _ => ?_))
theorem QQ.mono : ∀ a0 k, LeO (QQ.f k a0) (QQ.f (k + 1) a0) := by
 intro a0 k;obtain ⟨ih0, ih1⟩ := QQ.Xo k;unfold QQ.f
 repeat' first
   | (with_reducible exact ih0 _ _ _ _)
   | (with_reducible exact ih1 _ _ _ _ _ _ _)
   | (with_reducible exact LeO.refl _)
   | (with_reducible exact LeO.none _)
   | (with_reducible refine LeO.ite ?_ ?_)
   | (with_reducible refine LeO.bind ?_ (fun _ => ?_))
set_option maxHeartbeats 8000000 in
set_option maxRecDepth 100000 in
theorem QQ.calls (k : Nat) (A0 : Option Addr) (c0 : Nat) (l0 : List (S46)) (r : List (List Bool)) (w : World) (hr0 : Kd.C k46 w A0 l0.length l0) (hc0 : l0.length ≤ c0) (h : QQ.f k l0 = some r) :
  Calls Try.prog 28 #[.slice A0 l0.length c0] w fun e w' => ∃ v0_ : Value, e = .returned (v0_) ∧ Kd.S (Kd.slice 4 Kd.bool) 39 w' w.heap.size (fun _ => True) v0_ r ∧ Below w.heap.size w w' := by
 have hu46 := Try.underlying46;have HR0 := Q0.mk hr0;have HC0 := Q0.mk hc0;clear hr0 hc0;have HB := Q0.mk (Below.refl w.heap.size w);have H := h;clear h;unfold QQ.f at H;(try dsimp only at H);have H' := Q0.mk H;clear H
 go_enter Try.func28, Try.ntmps28
 go_wp2
 go_loopg [3, 10] k (fun kq v3 v10 w' => ∃ (x3_1 : List (List Bool)) (x10_1 : Int), v10 = .int .i64 x10_1 ∧ Q0 (QQ.l0 kq x3_1 l0 (l0.length : Int) x10_1 = some r) ∧ Q0 (kq ≤ k) ∧ Q0 (Kd.S (Kd.slice 4 Kd.bool) 39 w' w.heap.size (fun _ => True) v3 x3_1) ∧ Q0 (Below w.heap.size w w'))
 case atStart => exact ⟨(([] : List (List Bool))), (0), (by first | rfl | (simp [*]; done)), H', ⟨Nat.le_refl _⟩, ⟨by first | exact Kd.S_nil _ _ _ _ _ | exact Kd.N_nil _ _ _ _ _ | exact Kd.V_nil _ _ _ _ _ | exact Kd.Q_nil _ _ _ _ _ | exact Kd.R_nil _ _ _ _ _⟩, ⟨by repeat (first | exact HB.out | apply Q5 | apply Q2 | apply Q6)⟩⟩
 case round =>
  clear H';obtain ⟨x3_1, x10_1, rfl, HA, HK1, HO_3, HB⟩ := hrel
  cases gk with
  | zero => exact absurd HA.out (by simp [QQ.l0])
  | succ k1 =>
   have H := HA.out;clear HA;simp only [QQ.l0] at H;by_cases c2 : x10_1 < (l0.length : Int)
   ·rw [if_pos c2] at H;have c2b0 : decide (x10_1 < (l0.length : Int)) = true := decide_eq_true c2;clear c2;by_cases c3 : 0 ≤ x10_1
    ·rw [if_pos c3] at H;have c3b0 : decide (0 ≤ x10_1) = true := decide_eq_true c3;clear c3;by_cases c4 : x10_1 < (l0.length : Int)
     ·rw [if_pos c4] at H;have c4b0 : decide (x10_1 < (l0.length : Int)) = true := decide_eq_true c4;clear c4;by_cases c5 : 0 ≤ (((Q3 l0 x10_1).f1).length : Int)
      ·rw [if_pos c5] at H;have c5b0 := eq_true c5;have c5b1 : decide (0 ≤ (((Q3 l0 x10_1).f1).length : Int)) = true := decide_eq_true c5;clear c5;by_cases c6 : ((((Q3 l0 x10_1).f1).length : Int) : Int).toNat ≤ 281474976710656
       ·rw [if_pos c6] at H;have c6b0 := eq_true c6;have c6b1 : decide (((((Q3 l0 x10_1).f1).length : Int) : Int).toNat ≤ 281474976710656) = true := decide_eq_true c6;clear c6;obtain ⟨y211, hy211⟩ : ∃ y_ : List Bool, y_ = (List.replicate ((((Q3 l0 x10_1).f1).length : Int) : Int).toNat false) := ⟨_, rfl⟩;(replace H : (QQ.l1 k1 x3_1 y211 l0 (l0.length : Int) x10_1 (y211.length : Int) 0) = some r := by first | (rw [hy211]; with_reducible exact H) | (have H2_ := (Option.bind_some _ _).symm.trans H; rw [hy211]; with_reducible exact H2_) | (have H2_ := (Option.bind_some _ _).symm.trans H; with_reducible exact H2_) | with_reducible exact H | (rw [hy211]; exact H) | exact H);have Ny211 := Q0.mk hy211;clear hy211;have H' := Q0.mk H;clear H;have p209 : 0 ≤ (x10_1 : Int) := of_decide_eq_true ‹_›;have q209 : x10_1 < (l0.length : Int) := of_decide_eq_true ‹_›;obtain ⟨ad209, A209_1, c209_1, A209_2, c209_2, A209_3, c209_3, A209_4, c209_4, A209_5, c209_5, e209, hx209_0, hx209_1, hx209_2, hx209_3, hx209_4, hx209_5, hl209_1, hi209_1, hl209_2, hi209_2, hl209_3, hi209_3, hl209_4, hi209_4, hl209_5, hi209_5⟩ := XP HR0.out x10_1 p209 q209
        cases e209
        replace hx209_0 := cup HB.out hx209_0;replace hx209_1 := cup HB.out hx209_1;replace hx209_2 := cup HB.out hx209_2;replace hx209_3 := cup HB.out hx209_3;replace hx209_4 := cup HB.out hx209_4;replace hx209_5 := cup HB.out hx209_5;have HR209_1 := Q0.mk hi209_1;have HC209_1 := Q0.mk hl209_1;clear hi209_1 hl209_1;have HR209_2 := Q0.mk hi209_2;have HC209_2 := Q0.mk hl209_2;clear hi209_2 hl209_2;have HR209_3 := Q0.mk hi209_3;have HC209_3 := Q0.mk hl209_3;clear hi209_3 hl209_3;have HR209_4 := Q0.mk hi209_4;have HC209_4 := Q0.mk hl209_4;clear hi209_4 hl209_4;have HR209_5 := Q0.mk hi209_5;have HC209_5 := Q0.mk hl209_5;clear hi209_5 hl209_5;replace p209 := eq_true p209;replace q209 := eq_true q209;go_wp2_with (first | ((with_reducible refine QP (N := 5) rfl ?_); refine QL ?hg (N := 5) ?hd (cs := #[.string (⟨#[]⟩ : ByteArray), .slice none 0 0, .slice none 0 0, .slice none 0 0, .slice none 0 0, .slice none 0 0]) (t := 46) ?hr ?_; (case hd => rfl); (case hg => rfl); (case hr => first | (go_simp; done) | (go_simp; rfl)); intro gb210 hg w7 hbox hb; have BK210 := Q0.mk (hbox); have GW210 := Q0.mk ((by rw [hg]; exact (Qi HB.out) : w.heap.size ≤ gb210)); have GE210 := Q0.mk ((by rw [hg]; exact (Qi HB.out) : w.heap.size ≤ gb210)); replace HO_3 := Q0.mk (Kd.Yf HO_3.out hb); replace HB := Q0.mk (Ql HB.out hb); clear hb hbox hg; obtain ⟨hcz8_0, hcz8_1, hcz8_2, hcz8_3, hcz8_4, hcz8_5⟩ := QF BK210.out; obtain ⟨hfz8_0, hfz8_1, hfz8_2, hfz8_3, hfz8_4, hfz8_5⟩ := QT BK210.out) | ((with_reducible refine QE (t := 46) (p := 5) rfl ?_); refine Qw (t := 46) (p := 5) (v := ?vo_w9) (w1 := ((((((w7.setCell ⟨gb210, 0, none⟩ (.string ((Q3 l0 x10_1).f0))).setCell ⟨gb210, 1, none⟩ (.slice A209_1 ((Q3 l0 x10_1).f1).length c209_1)).setCell ⟨gb210, 2, none⟩ (.slice A209_2 ((Q3 l0 x10_1).f2).length c209_2)).setCell ⟨gb210, 3, none⟩ (.slice A209_3 ((Q3 l0 x10_1).f3).length c209_3)).setCell ⟨gb210, 4, none⟩ (.slice A209_4 ((Q3 l0 x10_1).f4).length c209_4)).setCell ⟨gb210, 5, none⟩ (.slice A209_5 ((Q3 l0 x10_1).f5).length c209_5))) ?hg ?ho ?hn ?hr ?_; (case ho => rfl); (case hg => rfl); (case hn => rfl); (case hr => first | (go_simp; done) | (go_simp; rfl)); intro w9 hw; replace HO_3 : Q0 (Kd.S (Kd.slice 4 Kd.bool) 39 w9 w.heap.size (fun _ => True) u3 x3_1) := ⟨(by rw [hw]; exact (by (with_reducible repeat (first | apply Kd.X2 | apply Kd.QY | apply Kd.Xa)); exact Kd.XR (Kd.Ys (p := ⟨gb210, 5, none⟩) (Kd.Ys (p := ⟨gb210, 4, none⟩) (Kd.Ys (p := ⟨gb210, 3, none⟩) (Kd.Ys (p := ⟨gb210, 2, none⟩) (Kd.Ys (p := ⟨gb210, 1, none⟩) (Kd.Ys (p := ⟨gb210, 0, none⟩) (Kd.S_types HO_3.out BK210.out (by decide)) (fun _ hk => hk.2) (.string ((Q3 l0 x10_1).f0))) (fun _ hk => hk.2) (.slice A209_1 ((Q3 l0 x10_1).f1).length c209_1)) (fun _ hk => hk.2) (.slice A209_2 ((Q3 l0 x10_1).f2).length c209_2)) (fun _ hk => hk.2) (.slice A209_3 ((Q3 l0 x10_1).f3).length c209_3)) (fun _ hk => hk.2) (.slice A209_4 ((Q3 l0 x10_1).f4).length c209_4)) (fun _ hk => hk.2) (.slice A209_5 ((Q3 l0 x10_1).f5).length c209_5)) (fun _ hk => trivial)))⟩; replace BK210 := Q0.mk (put6 hw BK210.out); replace HB := Q0.mk (bel6 hw HB.out GE210.out); clear hw; obtain ⟨hcz10_0, hcz10_1, hcz10_2, hcz10_3, hcz10_4, hcz10_5⟩ := QF BK210.out; obtain ⟨hfz10_0, hfz10_1, hfz10_2, hfz10_3, hfz10_4, hfz10_5⟩ := QT BK210.out) | ((with_reducible refine QP (N := 17) rfl ?_); refine Kd.R_make Kd.bool _ 4 rfl (N := 17) rfl 39 _ _ rfl (((Q3 l0 x10_1).f1).length : Int) rfl rfl Try.underlying39 (.bool false) 1 info4 rfl (by decide) (by omega) false (ok := fun _ => True) (okp := fun _ => True) rfl (fun _ hk => hk) trivial (of_decide_eq_true ‹_›) (Nat.le_trans (Nat.mul_le_mul_right _ (of_decide_eq_true ‹_› : (((Q3 l0 x10_1).f1).length : Int).toNat ≤ 281474976710656)) (by omega)) (Below.refl _ _) (Nat.le_refl _) ?_; intro v212 w11 ho12 hb hg_ hnew_; clear hg_ hnew_; (first | rw [← Ny211.out] at ho12 | (simp only [Int.reduceToNat] at ho12; rw [← Ny211.out] at ho12)); have HO213 := Q0.mk (Kd.Yo ho12 (Qi HB.out)); replace HO_3 := Q0.mk (Kd.S_elder' HO_3.out (Kd.XW ho12) hb); replace BK210 := Q0.mk (Qc BK210.out hb); replace HB := Q0.mk (Ql HB.out hb); clear hb ho12; obtain ⟨Ao13, co13, eo13⟩ := Kd.Y7 HO213.out; subst eo13))
        go_loopg [20] k1 (fun kq v20 w' => ∃ (x6_2 : List Bool) (x20_2 : Int), v20 = .int .i64 x20_2 ∧ Q0 (QQ.l1 kq x3_1 x6_2 l0 (l0.length : Int) x10_1 (y211.length : Int) x20_2 = some r) ∧ Q0 (kq ≤ k1) ∧ Q0 (Kd.S (Kd.slice 4 Kd.bool) 39 w' w.heap.size (fun k_ => some k_ ≠ ((.slice Ao13 y211.length co13) : Value).ownBlock) u3 x3_1) ∧ Q0 (Kd.R Kd.bool 4 w' w.heap.size (fun _ => True) (.slice Ao13 y211.length co13) x6_2) ∧ Q0 (w'.heap[gb210]? = some (.cells #[.string ((Q3 l0 x10_1).f0), (.slice A209_1 ((Q3 l0 x10_1).f1).length c209_1), (.slice A209_2 ((Q3 l0 x10_1).f2).length c209_2), (.slice A209_3 ((Q3 l0 x10_1).f3).length c209_3), (.slice A209_4 ((Q3 l0 x10_1).f4).length c209_4), (.slice A209_5 ((Q3 l0 x10_1).f5).length c209_5)] 46 (0, 0))) ∧ Q0 (Below w.heap.size w w'))
        case atStart => exact ⟨(y211), (0), (by first | rfl | (simp [*]; done)), H', ⟨Nat.le_refl _⟩, ⟨by (with_reducible repeat (first | apply Kd.X2 | apply Kd.QY | apply Kd.Xa)); exact Kd.XR HO_3.out (fun _ hk => hk.2)⟩, ⟨by (with_reducible repeat (first | apply Kd.Xy | apply Kd.Xx | apply Kd.XG)); exact HO213.out⟩, ⟨by (with_reducible repeat (first | refine Q8 ?_ _ | refine Qb ?_ | refine Q9 ?_ _)); exact BK210.out⟩, ⟨by repeat (first | exact HB.out | apply Q5 | apply Q2 | apply Q6 | refine Q1 ?_ GE210.out)⟩⟩
        case round =>
         clear H';(try clear c2);(try clear c2b0);(try clear p2);(try clear q2);(try clear hx2);(try clear c3);(try clear c3b0);(try clear c4);(try clear c4b0);(try clear c5);(try clear c5b0);(try clear c5b1);(try clear c6);(try clear c6b0);(try clear c6b1);(try clear hx209_0);(try clear hx209_1);(try clear hx209_2);(try clear hx209_3);(try clear hx209_4);(try clear hx209_5);(try clear p209);(try clear q209);obtain ⟨x6_2, x20_2, rfl, HA, HK2, HO_3, HO_6, BK210, HB⟩ := hrel;have hl6_2 := (Kd.XI HO_6.out).1;rw [hl6_2] at HO_6
         (try simp only [hl6_2])
         (try simp only [hl6_2] at BK210)
         (try simp only [hl6_2] at HO_3)
         cases gk with
         | zero => exact absurd HA.out (by simp [QQ.l1])
         | succ k2 =>
          have H := HA.out;clear HA;simp only [QQ.l1] at H;by_cases c14 : x20_2 < (y211.length : Int)
          ·rw [if_pos c14] at H;have c14b0 : decide (x20_2 < (y211.length : Int)) = true := decide_eq_true c14;clear c14;by_cases c15 : 0 ≤ x20_2
           ·rw [if_pos c15] at H;have c15b0 : decide (0 ≤ x20_2) = true := decide_eq_true c15;clear c15;by_cases c16 : x20_2 < (x6_2.length : Int)
            ·rw [if_pos c16] at H;have c16b0 : decide (x20_2 < (x6_2.length : Int)) = true := decide_eq_true c16;clear c16;obtain ⟨y214, hy214⟩ : ∃ y_ : List Bool, y_ = (x6_2.set (x20_2 : Int).toNat true) := ⟨_, rfl⟩;(replace H : (QQ.l1 k2 x3_1 y214 l0 (l0.length : Int) x10_1 (y211.length : Int) (wrap64 (x20_2 + 1))) = some r := by first | (rw [hy214]; with_reducible exact H) | (have H2_ := (Option.bind_some _ _).symm.trans H; rw [hy214]; with_reducible exact H2_) | (have H2_ := (Option.bind_some _ _).symm.trans H; with_reducible exact H2_) | with_reducible exact H | (rw [hy214]; exact H) | exact H);have Ny214 := Q0.mk hy214;clear hy214;have H' := Q0.mk H;clear H;have p17 : 0 ≤ (x20_2 : Int) := of_decide_eq_true ‹_›;have q17 : (x20_2 : Int) < ((x6_2.length : Int) : Int) := of_decide_eq_true ‹_›;obtain ⟨go17, co17, eo17, gb17, gl17, cl17, HG17⟩ := Kd.R_form HO_6.out (by omega)
             (first | cases eo17 | (injection eo17 with ea_ en_ ec_; (first | subst ea_ | (injection ea_ with ea_; subst ea_)); subst ec_; clear en_))
             have GB17 := Q0.mk gb17;have GG17 := Q0.mk HG17;clear gb17 gl17 HG17;obtain ⟨hx17_0, hf17_0⟩ := Kd.Yg false HO_6.out (x20_2 : Int) p17 q17;replace p17 := eq_true p17;replace q17 := eq_true q17;have HP18 := Kd.Yw HO_6.out (x20_2 : Int) true;go_wp2_with (first | ((with_reducible refine QE (t := 4) (p := 25) rfl ?_); refine Qw (t := 4) (p := 25) (v := ?vo_w19) (w1 := (wr.setCell ⟨go17, (x20_2 : Int).toNat, none⟩ (.bool true))) ?hg ?ho ?hn ?hr ?_; (case ho => rfl); (case hg => rfl); (case hn => rfl); (case hr => first | (go_simp; done) | (go_simp; rfl)); intro w19 hw; have hg : wr.grownBy w19 (some go17) := (by rw [hw]; exact HP18.2); have hp_ : Kd.R Kd.bool 4 w19 w.heap.size (fun _ => True) (.slice (some ⟨go17, 0, none⟩) x6_2.length co13) y214 := (by rw [hw, Ny214.out]; exact HP18.1); clear HP18; replace HO_3 := Q0.mk (Kd.S_after (v := (.slice (some ⟨go17, 0, none⟩) x6_2.length co13)) (v1 := (.slice (some ⟨go17, 0, none⟩) x6_2.length co13)) (ok := (fun _ => True)) (by (with_reducible repeat (first | apply Kd.X2 | apply Kd.QY | apply Kd.Xa)); exact Kd.XR HO_3.out (fun _ hk => ⟨trivial, hk⟩)) hg (.inl rfl)); replace BK210 := Q0.mk (Xs (g := gb210) (o := .cells #[.string ((Q3 l0 x10_1).f0), .slice A209_1 ((Q3 l0 x10_1).f1).length c209_1, .slice A209_2 ((Q3 l0 x10_1).f2).length c209_2, .slice A209_3 ((Q3 l0 x10_1).f3).length c209_3, .slice A209_4 ((Q3 l0 x10_1).f4).length c209_4, .slice A209_5 ((Q3 l0 x10_1).f5).length c209_5] 46 (0, 0)) BK210.out hg (Kd.R_ne HO_6.out BK210.out (by decide))); replace HO_6 := Q0.mk (hp_); replace HB := Q0.mk ((by rw [hw]; exact Q1 (HB.out) GB17.out : Below w.heap.size w w19)); clear hg hw hp_))
             (try simp only [← hl6_2])
             go_roundg k2
             (case measure => have := HK1.out; have := HK2.out; omega);case rel => exact ⟨(y214), (wrap64 (x20_2 + 1)), (by first | rfl | (simp [*]; done)), H', ⟨by have := HK1.out; have := HK2.out; omega⟩, ⟨by (try simp only [hl6_2]); (with_reducible repeat (first | apply Kd.X2 | apply Kd.QY | apply Kd.Xa)); exact Kd.XR HO_3.out (fun _ hk => hk.2)⟩, ⟨by (try simp only [hl6_2]); (with_reducible repeat (first | apply Kd.Xy | apply Kd.Xx | apply Kd.XG)); exact HO_6.out⟩, ⟨by (try simp only [hl6_2]); (with_reducible repeat (first | refine Q8 ?_ _ | refine Qb ?_ | refine Q9 ?_ _)); exact BK210.out⟩, ⟨by repeat (first | exact HB.out | apply Q5 | apply Q2 | apply Q6 | refine Q1 ?_ GE210.out)⟩⟩
            ·rw [if_neg c16] at H;exact absurd H (by simp)
           ·rw [if_neg c15] at H;exact absurd H (by simp)
          ·rw [if_neg c14] at H;have c14b0 : decide (x20_2 < (y211.length : Int)) = false := decide_eq_false c14;clear c14
           (try rw [hl6_2] at c14b0)
           by_cases c20 : x3_1.length < 5864062014805
           ·rw [if_pos c20] at H;have LMc20 := Q0.mk c20;clear c20;obtain ⟨y215, hy215⟩ : ∃ y_ : List (List Bool), y_ = (x3_1 ++ [x6_2]) := ⟨_, rfl⟩;(replace H : (QQ.l0 k2 y215 l0 (l0.length : Int) (wrap64 (x10_1 + 1))) = some r := by first | (rw [hy215]; with_reducible exact H) | (have H2_ := (Option.bind_some _ _).symm.trans H; rw [hy215]; with_reducible exact H2_) | (have H2_ := (Option.bind_some _ _).symm.trans H; with_reducible exact H2_) | with_reducible exact H | (rw [hy215]; exact H) | exact H);have Ny215 := Q0.mk hy215;clear hy215;have H' := Q0.mk H;clear H;go_wp2_with (first | ((with_reducible refine gate_builtin (b := .append) (xs := #[.tmp 27, .tmp 29]) rfl ?_); at_builtin; refine Kd.S_append (Kd.slice 4 Kd.bool) (w0 := w) w.heap.size rfl (.tmp 27) (.tmp 29) 26 39 (.slice none 0 0) 24 rfl Try.underlying26 info39 rfl (by decide) (by omega) u3 x3_1 x6_2 [.slice Ao13 x6_2.length co13] (fun _ => True) (fun k_ => some k_ = (.slice Ao13 x6_2.length co13 : Value).ownBlock) rfl rfl ?aP (fun k_ hk_ => ((Kd.XC (ok' := fun k_ => ((fun _ => True)) k_ ∧ some k_ ≠ (u3 : Value).ownBlock) (Kd.XF (HO_6.out) (Kd.S_typed HO_3.out) (by decide)) (fun k_ hk => ⟨trivial, hk.2⟩))).1 k_ hk_.symm) ?aF ?aO ?aB ?aS ?aL ?_; (case aP => exact Kd.M_row (Kd.XC (Kd.R_tight rfl (Kd.XC (ok' := fun k_ => ((fun _ => True)) k_ ∧ some k_ ≠ (u3 : Value).ownBlock) (Kd.XF (HO_6.out) (Kd.S_typed HO_3.out) (by decide)) (fun k_ hk => ⟨trivial, hk.2⟩))) (fun _ h_ => h_))); (case aB => exact HB.out); (case aF => exact (fun _ _ => trivial)); (case aO => exact (by (with_reducible repeat (first | apply Kd.X2 | apply Kd.QY | apply Kd.Xa)); exact Kd.XR HO_3.out (fun k_ hk => ⟨trivial, fun e_ => hk e_⟩))); (case aS => exact (Qi HB.out)); (case aL => have := LMc20.out; omega); intro v216 w21 ho hb hg hat; rw [← Ny215.out] at ho; have HO217 := Q0.mk (ho); replace BK210 := Q0.mk (Xs (g := gb210) (o := .cells #[.string ((Q3 l0 x10_1).f0), .slice A209_1 ((Q3 l0 x10_1).f1).length c209_1, .slice A209_2 ((Q3 l0 x10_1).f2).length c209_2, .slice A209_3 ((Q3 l0 x10_1).f3).length c209_3, .slice A209_4 ((Q3 l0 x10_1).f4).length c209_4, .slice A209_5 ((Q3 l0 x10_1).f5).length c209_5] 46 (0, 0)) BK210.out hg (Kd.S_ne HO_3.out BK210.out (by decide))); replace HB := Q0.mk (hb); clear HO_3 HO_6; clear ho hb hg hat))
            (try simp only [← hl6_2])
            go_roundg k2
            (case measure => have := HK1.out; have := HK2.out; omega);case rel => exact ⟨(y215), (wrap64 (x10_1 + 1)), (by first | rfl | (simp [*]; done)), H', ⟨by have := HK1.out; have := HK2.out; omega⟩, ⟨by (try simp only [hl6_2]); (with_reducible repeat (first | apply Kd.X2 | apply Kd.QY | apply Kd.Xa)); exact HO217.out⟩, ⟨by repeat (first | exact HB.out | apply Q5 | apply Q2 | apply Q6 | refine Q1 ?_ GE210.out)⟩⟩
           ·rw [if_neg c20] at H;exact absurd H (by simp)
       ·rw [if_neg c6] at H;exact absurd H (by simp)
      ·rw [if_neg c5] at H;exact absurd H (by simp)
     ·rw [if_neg c4] at H;exact absurd H (by simp)
    ·rw [if_neg c3] at H;exact absurd H (by simp)
   ·rw [if_neg c2] at H;have c2b0 : decide (x10_1 < (l0.length : Int)) = false := decide_eq_false c2;clear c2;obtain rfl := Option.some.inj H;go_wp2;go_ret;exact ⟨_, by first | rfl | (simp [*]; done), by (with_reducible repeat (first | apply Kd.X2 | apply Kd.QY | apply Kd.Xa)); exact HO_3.out, by repeat (first | exact HB.out | apply Q5 | apply Q2 | apply Q6)⟩
end Go.Proofs.Ytakabkjhnncbhaa.PX
namespace Go.Proofs.Ytakabkjhnncbhaa.PX
open Go.RowKit Go.Proofs.YtakabkjhnncbhaaW.PrintWords Go.Proofs.YtakabkjhnncbhaaW.PrintLast Go.Proofs.YtakabkjhnncbhaaW.PrintMore
attribute [local go_sem] Xl Xj Xu Xt X7 X6 Xk Xi   -- for this text's walks alone
set_option linter.unusedVariables false
set_option linter.unusedSimpArgs false
theorem cl_first.one (x : S49) (A1 : Option Addr) (c1 : Nat) (gb : Nat) (nm : ByteArray) (W : World) (hbk : ∃ cs, W.heap[gb]? = some (.cells cs 9 (0,0)) ∧ cs[0]? = some (.string nm)) :
    Calls Try.prog 55 #[.agg #[.string x.f0, .slice A1 x.f1.length c1], .pointer (some ⟨gb,0,none⟩)] W fun e w' => e = .returned (.bool (x.f0.toList == nm.toList)) ∧ Below W.heap.size W w' := by
  obtain ⟨cs, hb, hn⟩ := hbk;have hc0 : W.cell? ⟨gb, 0, none⟩ = some (.string nm) := (Qz hb 0).trans hn;have hc1 : (W.alloc (.cells #[.string x.f0, .slice A1 x.f1.length c1] 49)).cell? ⟨gb, 0, none⟩ = some (.string nm) := XZ (Q5 (Below.refl _ _) _) hc0;clear hb hn hc0
  go_enter Try.func55, Try.ntmps55
  go_wp2;go_ret;exact ⟨rfl, Q5 (Below.refl _ _) _⟩
def cl_first.f (l : List S49) (nm : ByteArray) : Option Int := some (fidx (fun x => x.f0.toList == nm.toList) l)
theorem cl_first.calls (A : Option Addr) (c : Nat) (l : List S49) (gb : Nat) (nm : ByteArray) (r : Int) (w : World) (hr : Kd.C k49 w A l.length l) (_hc : l.length ≤ c) (hbk : ∃ cs, w.heap[gb]? = some (.cells cs 9 (0,0)) ∧ cs[0]? = some (.string nm)) (h : cl_first.f l nm = some r) :
    Calls Try.prog 54 #[.slice A l.length c, .func (.func 55) #[] #[.pointer (some ⟨gb, 0, none⟩)]] w fun e w' => e = .returned (.int .i64 r) ∧ Below w.heap.size w w' := by
  have h := Option.some.inj h;subst h;refine ix49.calls A c l 55 _ (fun x => x.f0.toList == nm.toList) (enters_of Try.func55 (by kernel_rfl) rfl) w hr (fun W x cs hb hK => ?_);obtain ⟨A1, c1, rfl, _, _⟩ := k49_open hK;obtain ⟨cs0, h0, h1⟩ := hbk;exact cl_first.one x _ _ gb nm W ⟨cs0, Qc h0 hb, h1⟩
end Go.Proofs.Ytakabkjhnncbhaa.PX
namespace Go.Proofs.Ytakabkjhnncbhaa.PX
open Go.RowKit Go.Proofs.YtakabkjhnncbhaaW.PrintWords Go.Proofs.YtakabkjhnncbhaaW.PrintLast Go.Proofs.YtakabkjhnncbhaaW.PrintMore
attribute [local go_sem] Xl Xj Xu Xt X7 X6 Xk Xi   -- for this text's walks alone
set_option linter.unusedVariables false
set_option linter.unusedSimpArgs false
def QU.l0 : Nat → List (S46) → Int → Int → ByteArray → Option (Int × Int)
 | 0, _, _, _, _ => none
 | k + 1, x9, x10, x11, x219000 => if x11 < x10 then (if 0 ≤ x11 then (if x11 < (x9.length : Int) then ((cl_first.f ((Q3 x9 x11).f3) x219000).bind fun t221 => (if t221 ≥ 0 then (some (x11, t221)) else (QU.l0 k x9 x10 (wrap64 (x11 + 1)) x219000))) else (none)) else (none)) else (some ((-1), (-1)))
def QU.f (k : Nat) (l0 : List (S46)) (a1 : ByteArray) : Option (Int × Int) := QU.l0 k l0 (l0.length : Int) 0 a1
theorem QU.Xo : ∀ k, (∀ y0 y1 y2 y3, LeO (QU.l0 k y0 y1 y2 y3) (QU.l0 (k + 1) y0 y1 y2 y3))
 | 0 => fun _ _ _ _ r h => by simp [QU.l0] at h
 | k + 1 => by
  have ih0 := QU.Xo k
  ·intro y0 y1 y2 y3;unfold QU.l0
   repeat' first
   | (with_reducible exact ih0 _ _ _ _)
   | (with_reducible exact LeO.refl _)
   | (with_reducible exact LeO.none _)
   | (with_reducible refine LeO.ite ?_ ?_)
   | (with_reducible refine LeO.bind ?_ (fun _ => ?_))
theorem QU.mono : ∀ a0 a1 k, LeO (QU.f k a0 a1) (QU.f (k + 1) a0 a1) := by
 intro a0 a1 k;have ih0 := QU.Xo k;unfold QU.f
 repeat' first
   | (with_reducible exact ih0 _ _ _ _)
   | (with_reducible exact LeO.refl _)
   | (with_reducible exact LeO.none _)
   | (with_reducible refine LeO.ite ?_ ?_)
   | (with_reducible refine LeO.bind ?_ (fun _ => ?_))
set_option maxHeartbeats 8000000 in
set_option maxRecDepth 100000 in
theorem QU.calls (k : Nat) (A0 : Option Addr) (c0 : Nat) (l0 : List (S46)) (a1 : ByteArray) (r1 : Int) (r2 : Int) (w : World) (hr0 : Kd.C k46 w A0 l0.length l0) (hc0 : l0.length ≤ c0) (h : QU.f k l0 a1 = some (r1, r2)) :
  Calls Try.prog 29 #[.slice A0 l0.length c0, .string a1] w fun e w' => e = .returned (.tuple #[.int .i64 r1, .int .i64 r2]) ∧ Below w.heap.size w w' := by
 have hu46 := Try.underlying46;have HR0 := Q0.mk hr0;have HC0 := Q0.mk hc0;clear hr0 hc0;have HB := Q0.mk (Below.refl w.heap.size w);have H := h;clear h;unfold QU.f at H;(try dsimp only at H);have H' := Q0.mk H;clear H
 go_enter Try.func29, Try.ntmps29
 go_wp2_with (first | ((with_reducible refine QP (N := 3) rfl ?_); refine QL ?hg (N := 3) ?hd (cs := #[.string a1]) (t := 9) ?hr ?_; (case hd => rfl); (case hg => rfl); (case hr => first | (go_simp; done) | (go_simp; rfl)); intro gb218 hg w3 hbox hb; have BK218 := Q0.mk (hbox); have GW218 := Q0.mk ((by rw [hg]; exact (Qi HB.out) : w.heap.size ≤ gb218)); have GE218 := Q0.mk ((by rw [hg]; exact (Qi HB.out) : w.heap.size ≤ gb218)); replace HB := Q0.mk (Ql HB.out hb); clear hb hbox hg))
 go_loopg [11] k (fun kq v11 w' => ∃ (x11_1 : Int), v11 = .int .i64 x11_1 ∧ Q0 (QU.l0 kq l0 (l0.length : Int) x11_1 a1 = some (r1, r2)) ∧ Q0 (kq ≤ k) ∧ Q0 (w'.heap[gb218]? = some (.cells #[.string a1] 9 (0, 0))) ∧ Q0 (Below w.heap.size w w'))
 case atStart => exact ⟨(0), (by first | rfl | (simp [*]; done)), H', ⟨Nat.le_refl _⟩, ⟨by (with_reducible repeat (first | refine Q8 ?_ _ | refine Qb ?_ | refine Q9 ?_ _)); exact BK218.out⟩, ⟨by repeat (first | exact HB.out | apply Q5 | apply Q2 | apply Q6 | refine Q1 ?_ GE218.out)⟩⟩
 case round =>
  clear H';(try clear c2);(try clear p2);obtain ⟨x11_1, rfl, HA, HK1, BK218, HB⟩ := hrel
  cases gk with
  | zero => exact absurd HA.out (by simp [QU.l0])
  | succ k1 =>
   have H := HA.out;clear HA;simp only [QU.l0] at H;by_cases c4 : x11_1 < (l0.length : Int)
   ·rw [if_pos c4] at H;have c4b0 : decide (x11_1 < (l0.length : Int)) = true := decide_eq_true c4;clear c4;by_cases c5 : 0 ≤ x11_1
    ·rw [if_pos c5] at H;have c5b0 : decide (0 ≤ x11_1) = true := decide_eq_true c5;clear c5;by_cases c6 : x11_1 < (l0.length : Int)
     ·rw [if_pos c6] at H;have c6b0 : decide (x11_1 < (l0.length : Int)) = true := decide_eq_true c6;clear c6;replace H := Option.bind_eq_some_iff.mp H;obtain ⟨t221, A70, H⟩ := H;(try dsimp only at H);have A7 := Q0.mk A70;clear A70;by_cases c8 : t221 ≥ 0
      ·rw [if_pos c8] at H;have c8b0 : decide (0 ≤ t221) = true := decide_eq_true c8;clear c8;simp only [Option.some.injEq, Prod.mk.injEq] at H;obtain ⟨rfl, rfl⟩ := H;have p219 : 0 ≤ (x11_1 : Int) := of_decide_eq_true ‹_›;have q219 : x11_1 < (l0.length : Int) := of_decide_eq_true ‹_›;obtain ⟨ad219, A219_1, c219_1, A219_2, c219_2, A219_3, c219_3, A219_4, c219_4, A219_5, c219_5, e219, hx219_0, hx219_1, hx219_2, hx219_3, hx219_4, hx219_5, hl219_1, hi219_1, hl219_2, hi219_2, hl219_3, hi219_3, hl219_4, hi219_4, hl219_5, hi219_5⟩ := XP HR0.out x11_1 p219 q219
       cases e219
       replace hx219_0 := cup HB.out hx219_0;replace hx219_1 := cup HB.out hx219_1;replace hx219_2 := cup HB.out hx219_2;replace hx219_3 := cup HB.out hx219_3;replace hx219_4 := cup HB.out hx219_4;replace hx219_5 := cup HB.out hx219_5;have HR219_1 := Q0.mk hi219_1;have HC219_1 := Q0.mk hl219_1;clear hi219_1 hl219_1;have HR219_2 := Q0.mk hi219_2;have HC219_2 := Q0.mk hl219_2;clear hi219_2 hl219_2;have HR219_3 := Q0.mk hi219_3;have HC219_3 := Q0.mk hl219_3;clear hi219_3 hl219_3;have HR219_4 := Q0.mk hi219_4;have HC219_4 := Q0.mk hl219_4;clear hi219_4 hl219_4;have HR219_5 := Q0.mk hi219_5;have HC219_5 := Q0.mk hl219_5;clear hi219_5 hl219_5;replace p219 := eq_true p219;replace q219 := eq_true q219;go_wp2_with (first | ((with_reducible refine QP (N := 7) rfl ?_); refine QL ?hg (N := 7) ?hd (cs := #[.string (⟨#[]⟩ : ByteArray), .slice none 0 0, .slice none 0 0, .slice none 0 0, .slice none 0 0, .slice none 0 0]) (t := 46) ?hr ?_; (case hd => rfl); (case hg => rfl); (case hr => first | (go_simp; done) | (go_simp; rfl)); intro gb220 hg w9 hbox hb; have BK220 := Q0.mk (hbox); have GW220 := Q0.mk ((by rw [hg]; exact (Qi HB.out) : w.heap.size ≤ gb220)); have GE220 := Q0.mk ((by rw [hg]; exact (Qi HB.out) : w.heap.size ≤ gb220)); have NB218_220 := Q0.mk ((by rw [hg]; exact Nat.ne_of_lt (QB BK218.out) : gb218 ≠ gb220)); have NB220_218 := Q0.mk ((by rw [hg]; exact Nat.ne_of_gt (QB BK218.out) : gb220 ≠ gb218)); replace BK218 := Q0.mk (Qc BK218.out hb); replace HB := Q0.mk (Ql HB.out hb); clear hb hbox hg; have hnb10 := NB220_218.out; have hnc10 := NB218_220.out; obtain ⟨hcz11_0, hcz11_1, hcz11_2, hcz11_3, hcz11_4, hcz11_5⟩ := QF BK220.out; obtain ⟨hfz11_0, hfz11_1, hfz11_2, hfz11_3, hfz11_4, hfz11_5⟩ := QT BK220.out) | ((with_reducible refine QE (t := 46) (p := 7) rfl ?_); refine Qw (t := 46) (p := 7) (v := ?vo_w12) (w1 := ((((((w9.setCell ⟨gb220, 0, none⟩ (.string ((Q3 l0 x11_1).f0))).setCell ⟨gb220, 1, none⟩ (.slice A219_1 ((Q3 l0 x11_1).f1).length c219_1)).setCell ⟨gb220, 2, none⟩ (.slice A219_2 ((Q3 l0 x11_1).f2).length c219_2)).setCell ⟨gb220, 3, none⟩ (.slice A219_3 ((Q3 l0 x11_1).f3).length c219_3)).setCell ⟨gb220, 4, none⟩ (.slice A219_4 ((Q3 l0 x11_1).f4).length c219_4)).setCell ⟨gb220, 5, none⟩ (.slice A219_5 ((Q3 l0 x11_1).f5).length c219_5))) ?hg ?ho ?hn ?hr ?_; (case ho => rfl); (case hg => rfl); (case hn => rfl); (case hr => first | (go_simp; done) | (go_simp; rfl)); intro w12 hw; replace BK218 := Q0.mk (far6 hw BK218.out NB218_220.out); replace BK220 := Q0.mk (put6 hw BK220.out); replace HB := Q0.mk (bel6 hw HB.out GE220.out); clear hw; obtain ⟨hcz13_0, hcz13_1, hcz13_2, hcz13_3, hcz13_4, hcz13_5⟩ := QF BK220.out; obtain ⟨hfz13_0, hfz13_1, hfz13_2, hfz13_3, hfz13_4, hfz13_5⟩ := QT BK220.out) | ((with_reducible refine Qx (f := 54) rfl ?_); refine Xb (some 19) rfl rfl Try.func54 (by kernel_rfl) rfl #[.slice A219_3 ((Q3 l0 x11_1).f3).length c219_3, .func (.func 55) #[] #[.pointer (some ⟨gb218, 0, none⟩)]] rfl (by (try simp only [List.map_toArray, List.map_cons, List.map_nil]); first | done | rfl | (simp only [List.length_drop, List.length_take]; rfl)) ?_; (with_reducible refine (cl_first.calls _ _ ((Q3 l0 x11_1).f3) gb218 a1 t221 _ ?side1 ?side2 ?side3 A7.out).mono ?_); (case side1 => repeat (first | exact (Kd.Qy HR219_3.out HB.out) | (with_reducible refine Kd.QS ?_ _) | (with_reducible refine Kd.QR ?_ _) | (with_reducible refine Kd.X5 ?_))); (case side2 => exact HC219_3.out); (case side3 => exact ⟨_, BK218.out, rfl⟩); rintro e w14 ⟨rfl, hb⟩; refine ⟨_, rfl, ?_⟩; replace BK218 := Q0.mk (Qc BK218.out hb); replace BK220 := Q0.mk (Qc BK220.out hb); replace HB := Q0.mk (Ql HB.out hb)))
       go_ret2
       exact ⟨by first | rfl | (simp [*]; done), by repeat (first | exact HB.out | apply Q5 | apply Q2 | apply Q6 | refine Q1 ?_ GE218.out | refine Q1 ?_ GE220.out)⟩
      ·rw [if_neg c8] at H;have c8b0 : decide (0 ≤ t221) = false := decide_eq_false c8;clear c8;have H' := Q0.mk H;clear H;have p219 : 0 ≤ (x11_1 : Int) := of_decide_eq_true ‹_›;have q219 : x11_1 < (l0.length : Int) := of_decide_eq_true ‹_›;obtain ⟨ad219, A219_1, c219_1, A219_2, c219_2, A219_3, c219_3, A219_4, c219_4, A219_5, c219_5, e219, hx219_0, hx219_1, hx219_2, hx219_3, hx219_4, hx219_5, hl219_1, hi219_1, hl219_2, hi219_2, hl219_3, hi219_3, hl219_4, hi219_4, hl219_5, hi219_5⟩ := XP HR0.out x11_1 p219 q219
       cases e219
       replace hx219_0 := cup HB.out hx219_0;replace hx219_1 := cup HB.out hx219_1;replace hx219_2 := cup HB.out hx219_2;replace hx219_3 := cup HB.out hx219_3;replace hx219_4 := cup HB.out hx219_4;replace hx219_5 := cup HB.out hx219_5;have HR219_1 := Q0.mk hi219_1;have HC219_1 := Q0.mk hl219_1;clear hi219_1 hl219_1;have HR219_2 := Q0.mk hi219_2;have HC219_2 := Q0.mk hl219_2;clear hi219_2 hl219_2;have HR219_3 := Q0.mk hi219_3;have HC219_3 := Q0.mk hl219_3;clear hi219_3 hl219_3;have HR219_4 := Q0.mk hi219_4;have HC219_4 := Q0.mk hl219_4;clear hi219_4 hl219_4;have HR219_5 := Q0.mk hi219_5;have HC219_5 := Q0.mk hl219_5;clear hi219_5 hl219_5;replace p219 := eq_true p219;replace q219 := eq_true q219;go_wp2_with (first | ((with_reducible refine QP (N := 7) rfl ?_); refine QL ?hg (N := 7) ?hd (cs := #[.string (⟨#[]⟩ : ByteArray), .slice none 0 0, .slice none 0 0, .slice none 0 0, .slice none 0 0, .slice none 0 0]) (t := 46) ?hr ?_; (case hd => rfl); (case hg => rfl); (case hr => first | (go_simp; done) | (go_simp; rfl)); intro gb220 hg w15 hbox hb; have BK220 := Q0.mk (hbox); have GW220 := Q0.mk ((by rw [hg]; exact (Qi HB.out) : w.heap.size ≤ gb220)); have GE220 := Q0.mk ((by rw [hg]; exact (Qi HB.out) : w.heap.size ≤ gb220)); have NB218_220 := Q0.mk ((by rw [hg]; exact Nat.ne_of_lt (QB BK218.out) : gb218 ≠ gb220)); have NB220_218 := Q0.mk ((by rw [hg]; exact Nat.ne_of_gt (QB BK218.out) : gb220 ≠ gb218)); replace BK218 := Q0.mk (Qc BK218.out hb); replace HB := Q0.mk (Ql HB.out hb); clear hb hbox hg; have hnb16 := NB220_218.out; have hnc16 := NB218_220.out; obtain ⟨hcz17_0, hcz17_1, hcz17_2, hcz17_3, hcz17_4, hcz17_5⟩ := QF BK220.out; obtain ⟨hfz17_0, hfz17_1, hfz17_2, hfz17_3, hfz17_4, hfz17_5⟩ := QT BK220.out) | ((with_reducible refine QE (t := 46) (p := 7) rfl ?_); refine Qw (t := 46) (p := 7) (v := ?vo_w18) (w1 := ((((((w15.setCell ⟨gb220, 0, none⟩ (.string ((Q3 l0 x11_1).f0))).setCell ⟨gb220, 1, none⟩ (.slice A219_1 ((Q3 l0 x11_1).f1).length c219_1)).setCell ⟨gb220, 2, none⟩ (.slice A219_2 ((Q3 l0 x11_1).f2).length c219_2)).setCell ⟨gb220, 3, none⟩ (.slice A219_3 ((Q3 l0 x11_1).f3).length c219_3)).setCell ⟨gb220, 4, none⟩ (.slice A219_4 ((Q3 l0 x11_1).f4).length c219_4)).setCell ⟨gb220, 5, none⟩ (.slice A219_5 ((Q3 l0 x11_1).f5).length c219_5))) ?hg ?ho ?hn ?hr ?_; (case ho => rfl); (case hg => rfl); (case hn => rfl); (case hr => first | (go_simp; done) | (go_simp; rfl)); intro w18 hw; replace BK218 := Q0.mk (far6 hw BK218.out NB218_220.out); replace BK220 := Q0.mk (put6 hw BK220.out); replace HB := Q0.mk (bel6 hw HB.out GE220.out); clear hw; obtain ⟨hcz19_0, hcz19_1, hcz19_2, hcz19_3, hcz19_4, hcz19_5⟩ := QF BK220.out; obtain ⟨hfz19_0, hfz19_1, hfz19_2, hfz19_3, hfz19_4, hfz19_5⟩ := QT BK220.out) | ((with_reducible refine Qx (f := 54) rfl ?_); refine Xb (some 19) rfl rfl Try.func54 (by kernel_rfl) rfl #[.slice A219_3 ((Q3 l0 x11_1).f3).length c219_3, .func (.func 55) #[] #[.pointer (some ⟨gb218, 0, none⟩)]] rfl (by (try simp only [List.map_toArray, List.map_cons, List.map_nil]); first | done | rfl | (simp only [List.length_drop, List.length_take]; rfl)) ?_; (with_reducible refine (cl_first.calls _ _ ((Q3 l0 x11_1).f3) gb218 a1 t221 _ ?side1 ?side2 ?side3 A7.out).mono ?_); (case side1 => repeat (first | exact (Kd.Qy HR219_3.out HB.out) | (with_reducible refine Kd.QS ?_ _) | (with_reducible refine Kd.QR ?_ _) | (with_reducible refine Kd.X5 ?_))); (case side2 => exact HC219_3.out); (case side3 => exact ⟨_, BK218.out, rfl⟩); rintro e w20 ⟨rfl, hb⟩; refine ⟨_, rfl, ?_⟩; replace BK218 := Q0.mk (Qc BK218.out hb); replace BK220 := Q0.mk (Qc BK220.out hb); replace HB := Q0.mk (Ql HB.out hb)))
       go_roundg k1
       (case measure => have := HK1.out; omega);case rel => exact ⟨(wrap64 (x11_1 + 1)), (by first | rfl | (simp [*]; done)), H', ⟨by have := HK1.out; omega⟩, ⟨by (with_reducible repeat (first | refine Q8 ?_ _ | refine Qb ?_ | refine Q9 ?_ _)); exact BK218.out⟩, ⟨by repeat (first | exact HB.out | apply Q5 | apply Q2 | apply Q6 | refine Q1 ?_ GE218.out | refine Q1 ?_ GE220.out)⟩⟩
     ·rw [if_neg c6] at H;exact absurd H (by simp)
    ·rw [if_neg c5] at H;exact absurd H (by simp)
   ·rw [if_neg c4] at H;have c4b0 : decide (x11_1 < (l0.length : Int)) = false := decide_eq_false c4;clear c4;simp only [Option.some.injEq, Prod.mk.injEq] at H;obtain ⟨rfl, rfl⟩ := H;go_wp2
    go_ret2
    exact ⟨by first | rfl | (simp [*]; done), by repeat (first | exact HB.out | apply Q5 | apply Q2 | apply Q6 | refine Q1 ?_ GE218.out)⟩
end Go.Proofs.Ytakabkjhnncbhaa.PX
