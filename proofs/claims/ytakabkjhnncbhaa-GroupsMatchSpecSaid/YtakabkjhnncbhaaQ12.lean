-- Written by this session's own programs (wip/printx.py, gen_*.py, assemble.py) and by hand.
import Derived.Test.YtakabkjhnncbhaaQ01
namespace Go.Proofs.Ytakabkjhnncbhaa.PX
open Go.RowKit Go.Proofs.YtakabkjhnncbhaaW.PrintWords Go.Proofs.YtakabkjhnncbhaaW.PrintLast Go.Proofs.YtakabkjhnncbhaaW.PrintMore
attribute [local go_sem] Xk Xi Xs Xr X7 X6 Xj Xh   -- for this text's walks alone
set_option linter.unusedVariables false
set_option linter.unusedSimpArgs false
def XY.f  : Option (Int × Int) := some ((-1), (-1))
set_option maxHeartbeats 8000000 in
set_option maxRecDepth 100000 in
theorem XY.calls  (r1 : Int) (r2 : Int) (w : World) (h : XY.f  = some (r1, r2)) :
  Calls Try.prog 31 #[] w fun e w' => e = .returned (.agg #[.int .i64 r1, .int .i64 r2]) ∧ Below w.heap.size w w' := by
 have hu33 := Try.underlying33
 have HB := Q0.mk (Below.refl w.heap.size w)
 have H := h
 clear h
 unfold XY.f at H
 try dsimp only at H
 simp only [Option.some.injEq, Prod.mk.injEq] at H
 obtain ⟨rfl, rfl⟩ := H
 go_enter Try.func31, Try.ntmps31
 go_wp2_with (first | ((with_reducible refine QP (N := 0) rfl ?_); refine QL ?hg (N := 0) ?hd (cs := #[.int .i64 0, .int .i64 0]) (t := 33) ?hr ?_; (case hd => rfl); (case hg => rfl); (case hr => first | (go_simp; done) | (go_simp; rfl)); intro gb326 hg w1 hbox hb; have BK326 := Q0.mk (hbox); have GW326 := Q0.mk ((by rw [hg]; exact (Qg HB.out) : w.heap.size ≤ gb326)); have GE326 := Q0.mk ((by rw [hg]; exact (Qg HB.out) : w.heap.size ≤ gb326)); replace HB := Q0.mk (Qi HB.out hb); clear hb hbox hg; obtain ⟨hcz2_0, hcz2_1⟩ := QB BK326.out; obtain ⟨hfz2_0, hfz2_1⟩ := Qr BK326.out) | ((with_reducible refine QC (t := 33) (p := 0) rfl ?_); refine Qw (t := 33) (p := 0) (v := ?vo_w3) (w1 := ((w1.setCell ⟨gb326, 0, none⟩ (.int .i64 (-1))).setCell ⟨gb326, 1, none⟩ (.int .i64 (-1)))) ?hg ?ho ?hn ?hr ?_; (case ho => rfl); (case hg => rfl); (case hn => rfl); (case hr => first | (go_simp; done) | (go_simp; rfl)); intro w3 hw; replace BK326 := Q0.mk (put2 hw BK326.out); replace HB := Q0.mk (bel2 hw HB.out GE326.out); clear hw))
 refine bodyPost_ret (results_cell_row rfl _ _ gb326 33 #[.int .i64 (-1), .int .i64 (-1)] (0, 0) _ rfl BK326.out Try.underlying33 rfl (by kernel_rfl)) rfl ?_
 exact ⟨by first | rfl | (simp [*]; done), by repeat (first | exact HB.out | apply Q4 | apply Q2 | apply Q6 | refine Q1 ?_ GE326.out)⟩
end Go.Proofs.Ytakabkjhnncbhaa.PX
namespace Go.Proofs.Ytakabkjhnncbhaa.PX
open Go.RowKit Go.Proofs.YtakabkjhnncbhaaW.PrintWords Go.Proofs.YtakabkjhnncbhaaW.PrintLast Go.Proofs.YtakabkjhnncbhaaW.PrintMore
attribute [local go_sem] Xk Xi Xs Xr X7 X6 Xj Xh   -- for this text's walks alone
set_option linter.unusedVariables false
set_option linter.unusedSimpArgs false
mutual
def Qn.l0 : Nat → List (S46) → ByteArray → Int → Option (Int × Int)
 | 0, _, _, _ => none
 | k + 1, x0, x1, x5 => if x5 < (x0.length : Int) then (Qn.l1 k x0 x1 x5 0) else ((XY.f).bind fun bt328 => (some (bt328.1, bt328.2)))
def Qn.l1 : Nat → List (S46) → ByteArray → Int → Int → Option (Int × Int)
 | 0, _, _, _, _ => none
 | k + 1, x0, x1, x5, x6 => if 0 ≤ x5 then (if x5 < (x0.length : Int) then (if x6 < (((Q3 x0 x5).f3).length : Int) then (if 0 ≤ x6 then (if ((Qh ((Q3 x0 x5).f3) x6).f0).toList = x1.toList then (some (x5, x6)) else (Qn.l1 k x0 x1 x5 (wrap64 (x6 + 1)))) else (none)) else (Qn.l0 k x0 x1 (wrap64 (x5 + 1)))) else (none)) else (none)
end
def Qn.f (k : Nat) (l0 : List (S46)) (a1 : ByteArray) : Option (Int × Int) := Qn.l0 k l0 a1 0
theorem Qn.Xn : ∀ k, (∀ y0 y1 y2, LeO (Qn.l0 k y0 y1 y2) (Qn.l0 (k + 1) y0 y1 y2)) ∧ (∀ y0 y1 y2 y3, LeO (Qn.l1 k y0 y1 y2 y3) (Qn.l1 (k + 1) y0 y1 y2 y3))
 | 0 => ⟨fun _ _ _ r h => by simp [Qn.l0] at h, fun _ _ _ _ r h => by simp [Qn.l1] at h⟩
 | k + 1 => by
  obtain ⟨ih0, ih1⟩ := Qn.Xn k
  refine ⟨?_, ?_⟩
  ·intro y0 y1 y2
   unfold Qn.l0
   repeat' first
   | (with_reducible exact ih0 _ _ _)
   | (with_reducible exact ih1 _ _ _ _)
   | (with_reducible exact LeO.refl _)
   | (with_reducible exact LeO.none _)
   | (with_reducible refine LeO.ite ?_ ?_)
   | (with_reducible refine LeO.bind ?_ (fun _ => ?_))
  ·intro y0 y1 y2 y3
   unfold Qn.l1
   repeat' first
   | (with_reducible exact ih0 _ _ _)
   | (with_reducible exact ih1 _ _ _ _)
   | (with_reducible exact LeO.refl _)
   | (with_reducible exact LeO.none _)
   | (with_reducible refine LeO.ite ?_ ?_)
   | (with_reducible refine LeO.bind ?_ (fun _ => ?_))
theorem Qn.mono : ∀ a0 a1 k, LeO (Qn.f k a0 a1) (Qn.f (k + 1) a0 a1) := by
 intro a0 a1 k
 obtain ⟨ih0, ih1⟩ := Qn.Xn k
 unfold Qn.f
 repeat' first
   | (with_reducible exact ih0 _ _ _)
   | (with_reducible exact ih1 _ _ _ _)
   | (with_reducible exact LeO.refl _)
   | (with_reducible exact LeO.none _)
   | (with_reducible refine LeO.ite ?_ ?_)
   | (with_reducible refine LeO.bind ?_ (fun _ => ?_))
set_option maxHeartbeats 8000000 in
set_option maxRecDepth 100000 in
theorem Qn.calls (k : Nat) (A0 : Option Addr) (c0 : Nat) (l0 : List (S46)) (a1 : ByteArray) (r1 : Int) (r2 : Int) (w : World) (hr0 : Kd.C k46 w A0 l0.length l0) (hc0 : l0.length ≤ c0) (h : Qn.f k l0 a1 = some (r1, r2)) :
  Calls Try.prog 14 #[.slice A0 l0.length c0, .string a1] w fun e w' => e = .returned (.agg #[.int .i64 r1, .int .i64 r2]) ∧ Below w.heap.size w w' := by
 have hu33 := Try.underlying33
 have HR0 := Q0.mk hr0
 have HC0 := Q0.mk hc0
 clear hr0 hc0
 have HB := Q0.mk (Below.refl w.heap.size w)
 have H := h
 clear h
 unfold Qn.f at H
 try dsimp only at H
 have H' := Q0.mk H
 clear H
 go_enter Try.func14, Try.ntmps14
 go_wp2_with (first | ((with_reducible refine QP (N := 4) rfl ?_); refine QL ?hg (N := 4) ?hd (cs := #[.int .i64 0, .int .i64 0]) (t := 33) ?hr ?_; (case hd => rfl); (case hg => rfl); (case hr => first | (go_simp; done) | (go_simp; rfl)); intro gb327 hg w3 hbox hb; have BK327 := Q0.mk (hbox); have GW327 := Q0.mk ((by rw [hg]; exact (Qg HB.out) : w.heap.size ≤ gb327)); have GE327 := Q0.mk ((by rw [hg]; exact (Qg HB.out) : w.heap.size ≤ gb327)); replace HB := Q0.mk (Qi HB.out hb); clear hb hbox hg))
 go_loopg [5] k (fun kq v5 w' => ∃ (x5_1 : Int) (x328000_1 : Int) (x328001_1 : Int), v5 = .int .i64 x5_1 ∧ Q0 (Qn.l0 kq l0 a1 x5_1 = some (r1, r2)) ∧ Q0 (kq ≤ k) ∧ Q0 (w'.heap[gb327]? = some (.cells #[.int .i64 x328000_1, .int .i64 x328001_1] 33 (0, 0))) ∧ Q0 (Below w.heap.size w w'))
 case atStart => exact ⟨(0), (0), (0), (by first | rfl | (simp [*]; done)), H', ⟨Nat.le_refl _⟩, ⟨by (with_reducible repeat (first | refine Q7 ?_ _ | refine Qa ?_ | refine Q8 ?_ _)); exact BK327.out⟩, ⟨by repeat (first | exact HB.out | apply Q4 | apply Q2 | apply Q6 | refine Q1 ?_ GE327.out)⟩⟩
 case round =>
  clear H'
  try clear c1
  try clear p2
  obtain ⟨x5_1, x328000_1, x328001_1, rfl, HA, HK1, BK327, HB⟩ := hrel
  cases gk with
  | zero => exact absurd HA.out (by simp [Qn.l0])
  | succ k1 =>
   have H := HA.out
   clear HA
   simp only [Qn.l0] at H
   by_cases c4 : x5_1 < (l0.length : Int)
   ·rw [if_pos c4] at H
    have c4b0 : decide (x5_1 < (l0.length : Int)) = true := decide_eq_true c4
    clear c4
    have H' := Q0.mk H
    clear H
    go_wp2
    go_loopg [6] k1 (fun kq v6 w' => ∃ (x6_2 : Int) (x328000_2 : Int) (x328001_2 : Int), v6 = .int .i64 x6_2 ∧ Q0 (Qn.l1 kq l0 a1 x5_1 x6_2 = some (r1, r2)) ∧ Q0 (kq ≤ k1) ∧ Q0 (w'.heap[gb327]? = some (.cells #[.int .i64 x328000_2, .int .i64 x328001_2] 33 (0, 0))) ∧ Q0 (Below w.heap.size w w'))
    case atStart => exact ⟨(0), (x328000_1), (x328001_1), (by first | rfl | (simp [*]; done)), H', ⟨Nat.le_refl _⟩, ⟨by (with_reducible repeat (first | refine Q7 ?_ _ | refine Qa ?_ | refine Q8 ?_ _)); exact BK327.out⟩, ⟨by repeat (first | exact HB.out | apply Q4 | apply Q2 | apply Q6 | refine Q1 ?_ GE327.out)⟩⟩
    case round =>
     clear H'
     try clear c1
     try clear p2
     try clear c4
     try clear c4b0
     try clear p2
     obtain ⟨x6_2, x328000_2, x328001_2, rfl, HA, HK2, BK327, HB⟩ := hrel
     cases gk with
     | zero => exact absurd HA.out (by simp [Qn.l1])
     | succ k2 =>
      have H := HA.out
      clear HA
      simp only [Qn.l1] at H
      by_cases c5 : 0 ≤ x5_1
      ·rw [if_pos c5] at H
       have c5b0 : decide (0 ≤ x5_1) = true := decide_eq_true c5
       clear c5
       by_cases c6 : x5_1 < (l0.length : Int)
       ·rw [if_pos c6] at H
        have c6b0 : decide (x5_1 < (l0.length : Int)) = true := decide_eq_true c6
        clear c6
        by_cases c7 : x6_2 < (((Q3 l0 x5_1).f3).length : Int)
        ·rw [if_pos c7] at H
         have c7b0 : decide (x6_2 < (((Q3 l0 x5_1).f3).length : Int)) = true := decide_eq_true c7
         clear c7
         by_cases c8 : 0 ≤ x6_2
         ·rw [if_pos c8] at H
          have c8b0 : decide (0 ≤ x6_2) = true := decide_eq_true c8
          clear c8
          by_cases c9 : ((Qh ((Q3 l0 x5_1).f3) x6_2).f0).toList = a1.toList
          ·rw [if_pos c9] at H
           have c9b0 : (((Qh ((Q3 l0 x5_1).f3) x6_2).f0).toList == a1.toList) = true := beq_iff_eq.mpr c9
           have c9b1 : (((Qh ((Q3 l0 x5_1).f3) x6_2).f0).toList != a1.toList) = false := bne_eq_false_iff_eq.mpr c9
           clear c9
           simp only [Option.some.injEq, Prod.mk.injEq] at H
           obtain ⟨rfl, rfl⟩ := H
           have p330 : 0 ≤ (x5_1 : Int) := of_decide_eq_true ‹_›
           have q330 : x5_1 < (l0.length : Int) := of_decide_eq_true ‹_›
           obtain ⟨ad330, A330_1, c330_1, A330_2, c330_2, A330_3, c330_3, A330_4, c330_4, A330_5, c330_5, e330, hx330_0, hx330_1, hx330_2, hx330_3, hx330_4, hx330_5, hl330_1, hi330_1, hl330_2, hi330_2, hl330_3, hi330_3, hl330_4, hi330_4, hl330_5, hi330_5⟩ := XZ HR0.out x5_1 p330 q330
           cases e330
           replace hx330_0 := cup HB.out hx330_0
           replace hx330_1 := cup HB.out hx330_1
           replace hx330_2 := cup HB.out hx330_2
           replace hx330_3 := cup HB.out hx330_3
           replace hx330_4 := cup HB.out hx330_4
           replace hx330_5 := cup HB.out hx330_5
           have HR330_1 := Q0.mk hi330_1
           have HC330_1 := Q0.mk hl330_1
           clear hi330_1 hl330_1
           have HR330_2 := Q0.mk hi330_2
           have HC330_2 := Q0.mk hl330_2
           clear hi330_2 hl330_2
           have HR330_3 := Q0.mk hi330_3
           have HC330_3 := Q0.mk hl330_3
           clear hi330_3 hl330_3
           have HR330_4 := Q0.mk hi330_4
           have HC330_4 := Q0.mk hl330_4
           clear hi330_4 hl330_4
           have HR330_5 := Q0.mk hi330_5
           have HC330_5 := Q0.mk hl330_5
           clear hi330_5 hl330_5
           replace p330 := eq_true p330
           replace q330 := eq_true q330
           have p331 : 0 ≤ (x5_1 : Int) := of_decide_eq_true ‹_›
           have q331 : x5_1 < (l0.length : Int) := of_decide_eq_true ‹_›
           obtain ⟨ad331, A331_1, c331_1, A331_2, c331_2, A331_3, c331_3, A331_4, c331_4, A331_5, c331_5, e331, hx331_0, hx331_1, hx331_2, hx331_3, hx331_4, hx331_5, hl331_1, hi331_1, hl331_2, hi331_2, hl331_3, hi331_3, hl331_4, hi331_4, hl331_5, hi331_5⟩ := XZ HR0.out x5_1 p331 q331
           obtain rfl : ad330 = ad331 := (by injection e331)
           replace hx331_0 := cup HB.out hx331_0
           replace hx331_1 := cup HB.out hx331_1
           replace hx331_2 := cup HB.out hx331_2
           replace hx331_3 := cup HB.out hx331_3
           replace hx331_4 := cup HB.out hx331_4
           replace hx331_5 := cup HB.out hx331_5
           have HR331_1 := Q0.mk hi331_1
           have HC331_1 := Q0.mk hl331_1
           clear hi331_1 hl331_1
           have HR331_2 := Q0.mk hi331_2
           have HC331_2 := Q0.mk hl331_2
           clear hi331_2 hl331_2
           have HR331_3 := Q0.mk hi331_3
           have HC331_3 := Q0.mk hl331_3
           clear hi331_3 hl331_3
           have HR331_4 := Q0.mk hi331_4
           have HC331_4 := Q0.mk hl331_4
           clear hi331_4 hl331_4
           have HR331_5 := Q0.mk hi331_5
           have HC331_5 := Q0.mk hl331_5
           clear hi331_5 hl331_5
           replace p331 := eq_true p331
           replace q331 := eq_true q331
           have ea_ := Option.some.inj (hx330_1.symm.trans hx331_1)
           injection ea_ with ea_ en_ ec_
           subst ea_
           subst ec_
           clear en_
           have ea_ := Option.some.inj (hx330_2.symm.trans hx331_2)
           injection ea_ with ea_ en_ ec_
           subst ea_
           subst ec_
           clear en_
           have ea_ := Option.some.inj (hx330_3.symm.trans hx331_3)
           injection ea_ with ea_ en_ ec_
           subst ea_
           subst ec_
           clear en_
           have ea_ := Option.some.inj (hx330_4.symm.trans hx331_4)
           injection ea_ with ea_ en_ ec_
           subst ea_
           subst ec_
           clear en_
           have ea_ := Option.some.inj (hx330_5.symm.trans hx331_5)
           injection ea_ with ea_ en_ ec_
           subst ea_
           subst ec_
           clear en_
           have p332 : 0 ≤ (x6_2 : Int) := of_decide_eq_true ‹_›
           have q332 : x6_2 < (((Q3 l0 x5_1).f3).length : Int) := of_decide_eq_true ‹_›
           obtain ⟨ad332, A332_1, c332_1, e332, hx332_0, hx332_1, hl332_1, hi332_1⟩ := at_T49 HR331_3.out x6_2 p332 q332
           cases e332
           replace hx332_0 := cup HB.out hx332_0
           replace hx332_1 := cup HB.out hx332_1
           have HR332_1 := Q0.mk hi332_1
           have HC332_1 := Q0.mk hl332_1
           clear hi332_1 hl332_1
           replace p332 := eq_true p332
           replace q332 := eq_true q332
           obtain ⟨hcz10_0, hcz10_1⟩ := QB BK327.out
           obtain ⟨hfz10_0, hfz10_1⟩ := Qr BK327.out
           go_wp2_with (first | ((with_reducible refine QC (t := 33) (p := 4) rfl ?_); refine Qw (t := 33) (p := 4) (v := ?vo_w11) (w1 := ((wr.setCell ⟨gb327, 0, none⟩ (.int .i64 x5_1)).setCell ⟨gb327, 1, none⟩ (.int .i64 x6_2))) ?hg ?ho ?hn ?hr ?_; (case ho => rfl); (case hg => rfl); (case hn => rfl); (case hr => first | (go_simp; done) | (go_simp; rfl)); intro w11 hw; replace BK327 := Q0.mk (put2 hw BK327.out); replace HB := Q0.mk (bel2 hw HB.out GE327.out); clear hw))
           refine bodyPost_ret (results_cell_row rfl _ _ gb327 33 #[.int .i64 x5_1, .int .i64 x6_2] (0, 0) _ rfl BK327.out Try.underlying33 rfl (by kernel_rfl)) rfl ?_
           exact ⟨by first | rfl | (simp [*]; done), by repeat (first | exact HB.out | apply Q4 | apply Q2 | apply Q6 | refine Q1 ?_ GE327.out)⟩
          ·rw [if_neg c9] at H
           have c9b0 : (((Qh ((Q3 l0 x5_1).f3) x6_2).f0).toList == a1.toList) = false := beq_eq_false_iff_ne.mpr c9
           have c9b1 : (((Qh ((Q3 l0 x5_1).f3) x6_2).f0).toList != a1.toList) = true := bne_iff_ne.mpr c9
           have H' := Q0.mk H
           clear H
           have p330 : 0 ≤ (x5_1 : Int) := of_decide_eq_true ‹_›
           have q330 : x5_1 < (l0.length : Int) := of_decide_eq_true ‹_›
           obtain ⟨ad330, A330_1, c330_1, A330_2, c330_2, A330_3, c330_3, A330_4, c330_4, A330_5, c330_5, e330, hx330_0, hx330_1, hx330_2, hx330_3, hx330_4, hx330_5, hl330_1, hi330_1, hl330_2, hi330_2, hl330_3, hi330_3, hl330_4, hi330_4, hl330_5, hi330_5⟩ := XZ HR0.out x5_1 p330 q330
           cases e330
           replace hx330_0 := cup HB.out hx330_0
           replace hx330_1 := cup HB.out hx330_1
           replace hx330_2 := cup HB.out hx330_2
           replace hx330_3 := cup HB.out hx330_3
           replace hx330_4 := cup HB.out hx330_4
           replace hx330_5 := cup HB.out hx330_5
           have HR330_1 := Q0.mk hi330_1
           have HC330_1 := Q0.mk hl330_1
           clear hi330_1 hl330_1
           have HR330_2 := Q0.mk hi330_2
           have HC330_2 := Q0.mk hl330_2
           clear hi330_2 hl330_2
           have HR330_3 := Q0.mk hi330_3
           have HC330_3 := Q0.mk hl330_3
           clear hi330_3 hl330_3
           have HR330_4 := Q0.mk hi330_4
           have HC330_4 := Q0.mk hl330_4
           clear hi330_4 hl330_4
           have HR330_5 := Q0.mk hi330_5
           have HC330_5 := Q0.mk hl330_5
           clear hi330_5 hl330_5
           replace p330 := eq_true p330
           replace q330 := eq_true q330
           have p331 : 0 ≤ (x5_1 : Int) := of_decide_eq_true ‹_›
           have q331 : x5_1 < (l0.length : Int) := of_decide_eq_true ‹_›
           obtain ⟨ad331, A331_1, c331_1, A331_2, c331_2, A331_3, c331_3, A331_4, c331_4, A331_5, c331_5, e331, hx331_0, hx331_1, hx331_2, hx331_3, hx331_4, hx331_5, hl331_1, hi331_1, hl331_2, hi331_2, hl331_3, hi331_3, hl331_4, hi331_4, hl331_5, hi331_5⟩ := XZ HR0.out x5_1 p331 q331
           obtain rfl : ad330 = ad331 := (by injection e331)
           replace hx331_0 := cup HB.out hx331_0
           replace hx331_1 := cup HB.out hx331_1
           replace hx331_2 := cup HB.out hx331_2
           replace hx331_3 := cup HB.out hx331_3
           replace hx331_4 := cup HB.out hx331_4
           replace hx331_5 := cup HB.out hx331_5
           have HR331_1 := Q0.mk hi331_1
           have HC331_1 := Q0.mk hl331_1
           clear hi331_1 hl331_1
           have HR331_2 := Q0.mk hi331_2
           have HC331_2 := Q0.mk hl331_2
           clear hi331_2 hl331_2
           have HR331_3 := Q0.mk hi331_3
           have HC331_3 := Q0.mk hl331_3
           clear hi331_3 hl331_3
           have HR331_4 := Q0.mk hi331_4
           have HC331_4 := Q0.mk hl331_4
           clear hi331_4 hl331_4
           have HR331_5 := Q0.mk hi331_5
           have HC331_5 := Q0.mk hl331_5
           clear hi331_5 hl331_5
           replace p331 := eq_true p331
           replace q331 := eq_true q331
           have ea_ := Option.some.inj (hx330_1.symm.trans hx331_1)
           injection ea_ with ea_ en_ ec_
           subst ea_
           subst ec_
           clear en_
           have ea_ := Option.some.inj (hx330_2.symm.trans hx331_2)
           injection ea_ with ea_ en_ ec_
           subst ea_
           subst ec_
           clear en_
           have ea_ := Option.some.inj (hx330_3.symm.trans hx331_3)
           injection ea_ with ea_ en_ ec_
           subst ea_
           subst ec_
           clear en_
           have ea_ := Option.some.inj (hx330_4.symm.trans hx331_4)
           injection ea_ with ea_ en_ ec_
           subst ea_
           subst ec_
           clear en_
           have ea_ := Option.some.inj (hx330_5.symm.trans hx331_5)
           injection ea_ with ea_ en_ ec_
           subst ea_
           subst ec_
           clear en_
           have p332 : 0 ≤ (x6_2 : Int) := of_decide_eq_true ‹_›
           have q332 : x6_2 < (((Q3 l0 x5_1).f3).length : Int) := of_decide_eq_true ‹_›
           obtain ⟨ad332, A332_1, c332_1, e332, hx332_0, hx332_1, hl332_1, hi332_1⟩ := at_T49 HR331_3.out x6_2 p332 q332
           cases e332
           replace hx332_0 := cup HB.out hx332_0
           replace hx332_1 := cup HB.out hx332_1
           have HR332_1 := Q0.mk hi332_1
           have HC332_1 := Q0.mk hl332_1
           clear hi332_1 hl332_1
           replace p332 := eq_true p332
           replace q332 := eq_true q332
           go_wp2
           go_roundg k2
           case measure => have := HK1.out; have := HK2.out; omega
           case rel => exact ⟨(wrap64 (x6_2 + 1)), (x328000_2), (x328001_2), (by first | rfl | (simp [*]; done)), H', ⟨by have := HK1.out; have := HK2.out; omega⟩, ⟨by (with_reducible repeat (first | refine Q7 ?_ _ | refine Qa ?_ | refine Q8 ?_ _)); exact BK327.out⟩, ⟨by repeat (first | exact HB.out | apply Q4 | apply Q2 | apply Q6 | refine Q1 ?_ GE327.out)⟩⟩
         ·rw [if_neg c8] at H
          exact absurd H (by simp)
        ·rw [if_neg c7] at H
         have c7b0 : decide (x6_2 < (((Q3 l0 x5_1).f3).length : Int)) = false := decide_eq_false c7
         clear c7
         have H' := Q0.mk H
         clear H
         have p330 : 0 ≤ (x5_1 : Int) := of_decide_eq_true ‹_›
         have q330 : x5_1 < (l0.length : Int) := of_decide_eq_true ‹_›
         obtain ⟨ad330, A330_1, c330_1, A330_2, c330_2, A330_3, c330_3, A330_4, c330_4, A330_5, c330_5, e330, hx330_0, hx330_1, hx330_2, hx330_3, hx330_4, hx330_5, hl330_1, hi330_1, hl330_2, hi330_2, hl330_3, hi330_3, hl330_4, hi330_4, hl330_5, hi330_5⟩ := XZ HR0.out x5_1 p330 q330
         cases e330
         replace hx330_0 := cup HB.out hx330_0
         replace hx330_1 := cup HB.out hx330_1
         replace hx330_2 := cup HB.out hx330_2
         replace hx330_3 := cup HB.out hx330_3
         replace hx330_4 := cup HB.out hx330_4
         replace hx330_5 := cup HB.out hx330_5
         have HR330_1 := Q0.mk hi330_1
         have HC330_1 := Q0.mk hl330_1
         clear hi330_1 hl330_1
         have HR330_2 := Q0.mk hi330_2
         have HC330_2 := Q0.mk hl330_2
         clear hi330_2 hl330_2
         have HR330_3 := Q0.mk hi330_3
         have HC330_3 := Q0.mk hl330_3
         clear hi330_3 hl330_3
         have HR330_4 := Q0.mk hi330_4
         have HC330_4 := Q0.mk hl330_4
         clear hi330_4 hl330_4
         have HR330_5 := Q0.mk hi330_5
         have HC330_5 := Q0.mk hl330_5
         clear hi330_5 hl330_5
         replace p330 := eq_true p330
         replace q330 := eq_true q330
         go_wp2
         go_roundg k2
         case measure => have := HK1.out; have := HK2.out; omega
         case rel => exact ⟨(wrap64 (x5_1 + 1)), (x328000_2), (x328001_2), (by first | rfl | (simp [*]; done)), H', ⟨by have := HK1.out; have := HK2.out; omega⟩, ⟨by (with_reducible repeat (first | refine Q7 ?_ _ | refine Qa ?_ | refine Q8 ?_ _)); exact BK327.out⟩, ⟨by repeat (first | exact HB.out | apply Q4 | apply Q2 | apply Q6 | refine Q1 ?_ GE327.out)⟩⟩
       ·rw [if_neg c6] at H
        exact absurd H (by simp)
      ·rw [if_neg c5] at H
       exact absurd H (by simp)
   ·rw [if_neg c4] at H
    have c4b0 : decide (x5_1 < (l0.length : Int)) = false := decide_eq_false c4
    clear c4
    replace H := Option.bind_eq_some_iff.mp H
    obtain ⟨⟨t328, t329⟩, A120, H⟩ := H
    try dsimp only at H
    have A12 := Q0.mk A120
    clear A120
    simp only [Option.some.injEq, Prod.mk.injEq] at H
    obtain ⟨rfl, rfl⟩ := H
    go_wp2_with (first | ((with_reducible refine Qs (f := 31) rfl ?_); refine QZ (some 37) rfl rfl Try.func31 (by kernel_rfl) rfl #[] rfl (by (try simp only [List.map_toArray, List.map_cons, List.map_nil]); first | done | rfl | (simp only [List.length_drop, List.length_take]; rfl)) ?_; (with_reducible refine (XY.calls  t328 t329 _ A12.out).mono ?_); rintro e w13 ⟨rfl, hb⟩; refine ⟨_, rfl, ?_⟩; replace BK327 := Q0.mk (Q9 BK327.out hb); replace HB := Q0.mk (Qi HB.out hb); obtain ⟨hcz14_0, hcz14_1⟩ := QB BK327.out; obtain ⟨hfz14_0, hfz14_1⟩ := Qr BK327.out) | ((with_reducible refine QC (t := 33) (p := 4) rfl ?_); refine Qw (t := 33) (p := 4) (v := ?vo_w15) (w1 := ((w13.setCell ⟨gb327, 0, none⟩ (.int .i64 t328)).setCell ⟨gb327, 1, none⟩ (.int .i64 t329))) ?hg ?ho ?hn ?hr ?_; (case ho => rfl); (case hg => rfl); (case hn => rfl); (case hr => first | (go_simp; done) | (go_simp; rfl)); intro w15 hw; replace BK327 := Q0.mk (put2 hw BK327.out); replace HB := Q0.mk (bel2 hw HB.out GE327.out); clear hw))
    refine bodyPost_ret (results_cell_row rfl _ _ gb327 33 #[.int .i64 t328, .int .i64 t329] (0, 0) _ rfl BK327.out Try.underlying33 rfl (by kernel_rfl)) rfl ?_
    exact ⟨by first | rfl | (simp [*]; done), by repeat (first | exact HB.out | apply Q4 | apply Q2 | apply Q6 | refine Q1 ?_ GE327.out)⟩
end Go.Proofs.Ytakabkjhnncbhaa.PX
namespace Go.Proofs.Ytakabkjhnncbhaa.PX
open Go.RowKit Go.Proofs.YtakabkjhnncbhaaW.PrintWords Go.Proofs.YtakabkjhnncbhaaW.PrintLast Go.Proofs.YtakabkjhnncbhaaW.PrintMore
attribute [local go_sem] Xk Xi Xs Xr X7 X6 Xj Xh   -- for this text's walks alone
set_option linter.unusedVariables false
set_option linter.unusedSimpArgs false
mutual
def Ql.l0 : Nat → List (S46) → List (List Bool) → Int → Option ((List (List Bool)))
 | 0, _, _, _ => none
 | k + 1, x0, x3, x4 => if x4 < (x0.length : Int) then (Ql.l1 k x0 x3 x4 ([] : List Bool) 0) else (some x3)
def Ql.l1 : Nat → List (S46) → List (List Bool) → Int → List Bool → Int → Option ((List (List Bool)))
 | 0, _, _, _, _, _ => none
 | k + 1, x0, x3, x4, x5, x6 => if 0 ≤ x4 then (if x4 < (x0.length : Int) then (if x6 < (((Q3 x0 x4).f1).length : Int) then (if x5.length < 140737488355328 then (Ql.l1 k x0 x3 x4 (x5 ++ [true]) (wrap64 (x6 + 1))) else (none)) else (if x3.length < 5864062014805 then (Ql.l0 k x0 (x3 ++ [x5]) (wrap64 (x4 + 1))) else (none))) else (none)) else (none)
end
def Ql.f (k : Nat) (l0 : List (S46)) : Option ((List (List Bool))) := Ql.l0 k l0 ([] : List (List Bool)) 0
theorem Ql.Xn : ∀ k, (∀ y0 y1 y2, LeO (Ql.l0 k y0 y1 y2) (Ql.l0 (k + 1) y0 y1 y2)) ∧ (∀ y0 y1 y2 y3 y4, LeO (Ql.l1 k y0 y1 y2 y3 y4) (Ql.l1 (k + 1) y0 y1 y2 y3 y4))
 | 0 => ⟨fun _ _ _ r h => by simp [Ql.l0] at h, fun _ _ _ _ _ r h => by simp [Ql.l1] at h⟩
 | k + 1 => by
  obtain ⟨ih0, ih1⟩ := Ql.Xn k
  refine ⟨?_, ?_⟩
  ·intro y0 y1 y2
   unfold Ql.l0
   repeat' first
   | (with_reducible exact ih0 _ _ _)
   | (with_reducible exact ih1 _ _ _ _ _)
   | (with_reducible exact LeO.refl _)
   | (with_reducible exact LeO.none _)
   | (with_reducible refine LeO.ite ?_ ?_)
   | (with_reducible refine LeO.bind ?_ (fun _ => ?_))
  ·intro y0 y1 y2 y3 y4
   unfold Ql.l1
   repeat' first
   | (with_reducible exact ih0 _ _ _)
   | (with_reducible exact ih1 _ _ _ _ _)
   | (with_reducible exact LeO.refl _)
   | (with_reducible exact LeO.none _)
   | (with_reducible refine LeO.ite ?_ ?_)
   | (with_reducible refine LeO.bind ?_ (fun _ => ?_))
theorem Ql.mono : ∀ a0 k, LeO (Ql.f k a0) (Ql.f (k + 1) a0) := by
 intro a0 k
 obtain ⟨ih0, ih1⟩ := Ql.Xn k
 unfold Ql.f
 repeat' first
   | (with_reducible exact ih0 _ _ _)
   | (with_reducible exact ih1 _ _ _ _ _)
   | (with_reducible exact LeO.refl _)
   | (with_reducible exact LeO.none _)
   | (with_reducible refine LeO.ite ?_ ?_)
   | (with_reducible refine LeO.bind ?_ (fun _ => ?_))
set_option maxHeartbeats 8000000 in
set_option maxRecDepth 100000 in
theorem Ql.calls (k : Nat) (A0 : Option Addr) (c0 : Nat) (l0 : List (S46)) (r : List (List Bool)) (w : World) (hr0 : Kd.C k46 w A0 l0.length l0) (hc0 : l0.length ≤ c0) (h : Ql.f k l0 = some r) :
  Calls Try.prog 32 #[.slice A0 l0.length c0] w fun e w' => ∃ v0_ : Value, e = .returned (v0_) ∧ Kd.S (Kd.slice 4 Kd.bool) 39 w' w.heap.size (fun _ => True) v0_ r ∧ Below w.heap.size w w' := by
 have HR0 := Q0.mk hr0
 have HC0 := Q0.mk hc0
 clear hr0 hc0
 have HB := Q0.mk (Below.refl w.heap.size w)
 have H := h
 clear h
 unfold Ql.f at H
 try dsimp only at H
 have H' := Q0.mk H
 clear H
 go_enter Try.func32, Try.ntmps32
 go_wp2
 go_loopg [3, 4] k (fun kq v3 v4 w' => ∃ (x3_1 : List (List Bool)) (x4_1 : Int), v4 = .int .i64 x4_1 ∧ Q0 (Ql.l0 kq l0 x3_1 x4_1 = some r) ∧ Q0 (kq ≤ k) ∧ Q0 (Kd.S (Kd.slice 4 Kd.bool) 39 w' w.heap.size (fun _ => True) v3 x3_1) ∧ Q0 (Below w.heap.size w w'))
 case atStart => exact ⟨(([] : List (List Bool))), (0), (by first | rfl | (simp [*]; done)), H', ⟨Nat.le_refl _⟩, ⟨by first | exact Kd.S_nil _ _ _ _ _ | exact Kd.N_nil _ _ _ _ _ | exact Kd.V_nil _ _ _ _ _ | exact Kd.Q_nil _ _ _ _ _ | exact Kd.R_nil _ _ _ _ _⟩, ⟨by repeat (first | exact HB.out | apply Q4 | apply Q2 | apply Q6)⟩⟩
 case round =>
  clear H'
  obtain ⟨x3_1, x4_1, rfl, HA, HK1, HO_3, HB⟩ := hrel
  cases gk with
  | zero => exact absurd HA.out (by simp [Ql.l0])
  | succ k1 =>
   have H := HA.out
   clear HA
   simp only [Ql.l0] at H
   by_cases c2 : x4_1 < (l0.length : Int)
   ·rw [if_pos c2] at H
    have c2b0 : decide (x4_1 < (l0.length : Int)) = true := decide_eq_true c2
    clear c2
    have H' := Q0.mk H
    clear H
    go_wp2
    go_loopg [5, 6] k1 (fun kq v5 v6 w' => ∃ (x5_2 : List Bool) (x6_2 : Int), v6 = .int .i64 x6_2 ∧ Q0 (Ql.l1 kq l0 x3_1 x4_1 x5_2 x6_2 = some r) ∧ Q0 (kq ≤ k1) ∧ Q0 (Kd.S (Kd.slice 4 Kd.bool) 39 w' w.heap.size (fun k_ => some k_ ≠ (v5 : Value).ownBlock) u3 x3_1) ∧ Q0 (Kd.R Kd.bool 4 w' w.heap.size (fun _ => True) v5 x5_2) ∧ Q0 (Below w.heap.size w w'))
    case atStart => exact ⟨(([] : List Bool)), (0), (by first | rfl | (simp [*]; done)), H', ⟨Nat.le_refl _⟩, ⟨by (with_reducible repeat (first | apply Kd.Xa | apply Kd.X9 | apply Kd.Xl)); exact Kd.XU HO_3.out (fun _ hk => (by simp [Value.ownBlock]))⟩, ⟨by first | exact Kd.R_nil _ _ _ _ _ | exact Kd.N_nil _ _ _ _ _ | exact Kd.V_nil _ _ _ _ _ | exact Kd.Q_nil _ _ _ _ _ | exact Kd.S_nil _ _ _ _ _⟩, ⟨by repeat (first | exact HB.out | apply Q4 | apply Q2 | apply Q6)⟩⟩
    case round =>
     clear H'
     try clear c2
     try clear c2b0
     try clear p2
     obtain ⟨x5_2, x6_2, rfl, HA, HK2, HO_3, HO_5, HB⟩ := hrel
     cases gk with
     | zero => exact absurd HA.out (by simp [Ql.l1])
     | succ k2 =>
      have H := HA.out
      clear HA
      simp only [Ql.l1] at H
      by_cases c3 : 0 ≤ x4_1
      ·rw [if_pos c3] at H
       have c3b0 : decide (0 ≤ x4_1) = true := decide_eq_true c3
       clear c3
       by_cases c4 : x4_1 < (l0.length : Int)
       ·rw [if_pos c4] at H
        have c4b0 : decide (x4_1 < (l0.length : Int)) = true := decide_eq_true c4
        clear c4
        by_cases c5 : x6_2 < (((Q3 l0 x4_1).f1).length : Int)
        ·rw [if_pos c5] at H
         have c5b0 : decide (x6_2 < (((Q3 l0 x4_1).f1).length : Int)) = true := decide_eq_true c5
         clear c5
         by_cases c6 : x5_2.length < 140737488355328
         ·rw [if_pos c6] at H
          have LMc6 := Q0.mk c6
          clear c6
          obtain ⟨y334, hy334⟩ : ∃ y_ : List Bool, y_ = (x5_2 ++ [true]) := ⟨_, rfl⟩
          replace H : (Ql.l1 k2 l0 x3_1 x4_1 y334 (wrap64 (x6_2 + 1))) = some r := by first | (rw [hy334]; with_reducible exact H) | (have H2_ := (Option.bind_some _ _).symm.trans H; rw [hy334]; with_reducible exact H2_) | (have H2_ := (Option.bind_some _ _).symm.trans H; with_reducible exact H2_) | with_reducible exact H | (rw [hy334]; exact H) | exact H
          have Ny334 := Q0.mk hy334
          clear hy334
          have H' := Q0.mk H
          clear H
          have p333 : 0 ≤ (x4_1 : Int) := of_decide_eq_true ‹_›
          have q333 : x4_1 < (l0.length : Int) := of_decide_eq_true ‹_›
          obtain ⟨ad333, A333_1, c333_1, A333_2, c333_2, A333_3, c333_3, A333_4, c333_4, A333_5, c333_5, e333, hx333_0, hx333_1, hx333_2, hx333_3, hx333_4, hx333_5, hl333_1, hi333_1, hl333_2, hi333_2, hl333_3, hi333_3, hl333_4, hi333_4, hl333_5, hi333_5⟩ := XZ HR0.out x4_1 p333 q333
          cases e333
          replace hx333_0 := cup HB.out hx333_0
          replace hx333_1 := cup HB.out hx333_1
          replace hx333_2 := cup HB.out hx333_2
          replace hx333_3 := cup HB.out hx333_3
          replace hx333_4 := cup HB.out hx333_4
          replace hx333_5 := cup HB.out hx333_5
          have HR333_1 := Q0.mk hi333_1
          have HC333_1 := Q0.mk hl333_1
          clear hi333_1 hl333_1
          have HR333_2 := Q0.mk hi333_2
          have HC333_2 := Q0.mk hl333_2
          clear hi333_2 hl333_2
          have HR333_3 := Q0.mk hi333_3
          have HC333_3 := Q0.mk hl333_3
          clear hi333_3 hl333_3
          have HR333_4 := Q0.mk hi333_4
          have HC333_4 := Q0.mk hl333_4
          clear hi333_4 hl333_4
          have HR333_5 := Q0.mk hi333_5
          have HC333_5 := Q0.mk hl333_5
          clear hi333_5 hl333_5
          replace p333 := eq_true p333
          replace q333 := eq_true q333
          go_wp2_with (first | ((with_reducible refine gate_builtin (b := .append) (xs := #[.tmp 23, .tmp 24]) rfl ?_); at_builtin; refine Kd.R_append Kd.bool (w0 := w) w.heap.size rfl (.tmp 23) (.tmp 24) 39 4 (.bool false) 1 rfl Try.underlying39 info4 rfl (by decide) (by omega) u5 x5_2 true [.bool true] (fun _ => True) (fun _ => False) rfl rfl ?aP (fun _ hk => hk.elim) ?aF ?aO ?aB ?aS ?aL ?_; (case aP => exact rfl); (case aB => exact HB.out); (case aF => exact (fun _ _ => trivial)); (case aO => exact HO_5.out); (case aS => exact (Qg HB.out)); (case aL => have := LMc6.out; omega); intro v335 w7 ho hb hg hat; rw [← Ny334.out] at ho; have HO336 := Q0.mk (ho); replace HO_3 := Q0.mk (Kd.S_after (ok := (fun _ => True)) (by (with_reducible repeat (first | apply Kd.Xa | apply Kd.X9 | apply Kd.Xl)); exact Kd.XU HO_3.out (fun _ hk => ⟨trivial, hk⟩)) hg hat); replace HB := Q0.mk (hb); clear HO_5; clear ho hb hg hat))
          go_roundg k2
          case measure => have := HK1.out; have := HK2.out; omega
          case rel => exact ⟨(y334), (wrap64 (x6_2 + 1)), (by first | rfl | (simp [*]; done)), H', ⟨by have := HK1.out; have := HK2.out; omega⟩, ⟨by (with_reducible repeat (first | apply Kd.Xa | apply Kd.X9 | apply Kd.Xl)); exact Kd.XU HO_3.out (fun _ hk => hk.2)⟩, ⟨by (with_reducible repeat (first | apply Kd.XM | apply Kd.XL | apply Kd.XS)); exact HO336.out⟩, ⟨by repeat (first | exact HB.out | apply Q4 | apply Q2 | apply Q6)⟩⟩
         ·rw [if_neg c6] at H
          exact absurd H (by simp)
        ·rw [if_neg c5] at H
         have c5b0 : decide (x6_2 < (((Q3 l0 x4_1).f1).length : Int)) = false := decide_eq_false c5
         clear c5
         by_cases c8 : x3_1.length < 5864062014805
         ·rw [if_pos c8] at H
          have LMc8 := Q0.mk c8
          clear c8
          obtain ⟨y337, hy337⟩ : ∃ y_ : List (List Bool), y_ = (x3_1 ++ [x5_2]) := ⟨_, rfl⟩
          replace H : (Ql.l0 k2 l0 y337 (wrap64 (x4_1 + 1))) = some r := by first | (rw [hy337]; with_reducible exact H) | (have H2_ := (Option.bind_some _ _).symm.trans H; rw [hy337]; with_reducible exact H2_) | (have H2_ := (Option.bind_some _ _).symm.trans H; with_reducible exact H2_) | with_reducible exact H | (rw [hy337]; exact H) | exact H
          have Ny337 := Q0.mk hy337
          clear hy337
          have H' := Q0.mk H
          clear H
          have p333 : 0 ≤ (x4_1 : Int) := of_decide_eq_true ‹_›
          have q333 : x4_1 < (l0.length : Int) := of_decide_eq_true ‹_›
          obtain ⟨ad333, A333_1, c333_1, A333_2, c333_2, A333_3, c333_3, A333_4, c333_4, A333_5, c333_5, e333, hx333_0, hx333_1, hx333_2, hx333_3, hx333_4, hx333_5, hl333_1, hi333_1, hl333_2, hi333_2, hl333_3, hi333_3, hl333_4, hi333_4, hl333_5, hi333_5⟩ := XZ HR0.out x4_1 p333 q333
          cases e333
          replace hx333_0 := cup HB.out hx333_0
          replace hx333_1 := cup HB.out hx333_1
          replace hx333_2 := cup HB.out hx333_2
          replace hx333_3 := cup HB.out hx333_3
          replace hx333_4 := cup HB.out hx333_4
          replace hx333_5 := cup HB.out hx333_5
          have HR333_1 := Q0.mk hi333_1
          have HC333_1 := Q0.mk hl333_1
          clear hi333_1 hl333_1
          have HR333_2 := Q0.mk hi333_2
          have HC333_2 := Q0.mk hl333_2
          clear hi333_2 hl333_2
          have HR333_3 := Q0.mk hi333_3
          have HC333_3 := Q0.mk hl333_3
          clear hi333_3 hl333_3
          have HR333_4 := Q0.mk hi333_4
          have HC333_4 := Q0.mk hl333_4
          clear hi333_4 hl333_4
          have HR333_5 := Q0.mk hi333_5
          have HC333_5 := Q0.mk hl333_5
          clear hi333_5 hl333_5
          replace p333 := eq_true p333
          replace q333 := eq_true q333
          obtain ⟨Ao10, co10, eo10⟩ := Kd.Yj HO_5.out
          subst eo10
          go_wp2_with (first | ((with_reducible refine gate_builtin (b := .append) (xs := #[.tmp 26, .tmp 28]) rfl ?_); at_builtin; refine Kd.S_append (Kd.slice 4 Kd.bool) (w0 := w) w.heap.size rfl (.tmp 26) (.tmp 28) 26 39 (.slice none 0 0) 24 rfl Try.underlying26 info39 rfl (by decide) (by omega) u3 x3_1 x5_2 [.slice Ao10 x5_2.length co10] (fun _ => True) (fun k_ => some k_ = (.slice Ao10 x5_2.length co10 : Value).ownBlock) rfl rfl ?aP (fun k_ hk_ => ((Kd.XB (ok' := fun k_ => ((fun _ => True)) k_ ∧ some k_ ≠ (u3 : Value).ownBlock) (Kd.XD (HO_5.out) (Kd.S_typed HO_3.out) (by decide)) (fun k_ hk => ⟨trivial, hk.2⟩))).1 k_ hk_.symm) ?aF ?aO ?aB ?aS ?aL ?_; (case aP => exact Kd.M_row (Kd.XB (Kd.R_tight rfl (Kd.XB (ok' := fun k_ => ((fun _ => True)) k_ ∧ some k_ ≠ (u3 : Value).ownBlock) (Kd.XD (HO_5.out) (Kd.S_typed HO_3.out) (by decide)) (fun k_ hk => ⟨trivial, hk.2⟩))) (fun _ h_ => h_))); (case aB => exact HB.out); (case aF => exact (fun _ _ => trivial)); (case aO => exact (by (with_reducible repeat (first | apply Kd.Xa | apply Kd.X9 | apply Kd.Xl)); exact Kd.XU HO_3.out (fun k_ hk => ⟨trivial, fun e_ => hk e_⟩))); (case aS => exact (Qg HB.out)); (case aL => have := LMc8.out; omega); intro v338 w9 ho hb hg hat; rw [← Ny337.out] at ho; have HO339 := Q0.mk (ho); replace HB := Q0.mk (hb); clear HO_3 HO_5; clear ho hb hg hat))
          go_roundg k2
          case measure => have := HK1.out; have := HK2.out; omega
          case rel => exact ⟨(y337), (wrap64 (x4_1 + 1)), (by first | rfl | (simp [*]; done)), H', ⟨by have := HK1.out; have := HK2.out; omega⟩, ⟨by (with_reducible repeat (first | apply Kd.Xa | apply Kd.X9 | apply Kd.Xl)); exact HO339.out⟩, ⟨by repeat (first | exact HB.out | apply Q4 | apply Q2 | apply Q6)⟩⟩
         ·rw [if_neg c8] at H
          exact absurd H (by simp)
       ·rw [if_neg c4] at H
        exact absurd H (by simp)
      ·rw [if_neg c3] at H
       exact absurd H (by simp)
   ·rw [if_neg c2] at H
    have c2b0 : decide (x4_1 < (l0.length : Int)) = false := decide_eq_false c2
    clear c2
    obtain rfl := Option.some.inj H
    go_wp2
    go_ret
    exact ⟨_, by first | rfl | (simp [*]; done), by (with_reducible repeat (first | apply Kd.Xa | apply Kd.X9 | apply Kd.Xl)); exact HO_3.out, by repeat (first | exact HB.out | apply Q4 | apply Q2 | apply Q6)⟩
end Go.Proofs.Ytakabkjhnncbhaa.PX
