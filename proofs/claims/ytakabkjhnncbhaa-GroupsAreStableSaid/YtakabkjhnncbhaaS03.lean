/- A part of the proof of a law: its words, walks of functions, or plain lemmas. -/
-- Written by this session's own programs (wip/printx.py, gen_*.py, assemble.py) and by hand.
import Derived.Test.YtakabkjhnncbhaaS01
import Derived.Test.YtakabkjhnncbhaaS02
namespace Go.Proofs.Ytakabkjhnncbhaa.PX
open Go.RowKit Go.Proofs.YtakabkjhnncbhaaW.PrintWords Go.Proofs.YtakabkjhnncbhaaW.PrintLast Go.Proofs.YtakabkjhnncbhaaW.PrintMore
attribute [local go_sem] Xk Xi Xs Xr X5 X4 Xj Xh   -- for this text's walks alone
set_option linter.unusedVariables false
set_option linter.unusedSimpArgs false
def QH.l0 : Nat → List (S122) → Int → Int → Option (Int × Int)
 | 0, _, _, _ => none
 | k + 1, x0, x10, x11 => if x11 < x10 then ((Qc.f k x0 x11).bind fun t131 => (if t131 = 0 then (QH.l0 k x0 x10 (wrap64 (x11 + 1))) else (some (t131, x11)))) else (some (0, 0))
def QH.f (k : Nat) (l0 : List (S122)) : Option (Int × Int) := if (l0.length : Int) > 30 then (some (2, (-1))) else (QH.l0 k l0 (l0.length : Int) 0)
theorem QH.Xn : ∀ k, (∀ y0 y1 y2, LeO (QH.l0 k y0 y1 y2) (QH.l0 (k + 1) y0 y1 y2))
 | 0 => fun _ _ _ r h => by simp [QH.l0] at h
 | k + 1 => by
  have ih0 := QH.Xn k
  ·intro y0 y1 y2
   unfold QH.l0
   repeat' first
   | (with_reducible exact ih0 _ _ _)
   | (with_reducible exact Qc.mono _ _ _)
   | (with_reducible exact LeO.refl _)
   | (with_reducible exact LeO.none _)
   | (with_reducible refine LeO.ite ?_ ?_)
   | (with_reducible refine LeO.bind ?_ (fun _ => ?_))
theorem QH.mono : ∀ a0 k, LeO (QH.f k a0) (QH.f (k + 1) a0) := by
 intro a0 k
 have ih0 := QH.Xn k
 unfold QH.f
 repeat' first
   | (with_reducible exact ih0 _ _ _)
   | (with_reducible exact Qc.mono _ _ _)
   | (with_reducible exact LeO.refl _)
   | (with_reducible exact LeO.none _)
   | (with_reducible refine LeO.ite ?_ ?_)
   | (with_reducible refine LeO.bind ?_ (fun _ => ?_))
set_option maxHeartbeats 8000000 in
set_option maxRecDepth 100000 in
theorem QH.calls (k : Nat) (A0 : Option Addr) (c0 : Nat) (l0 : List (S122)) (r1 : Int) (r2 : Int) (w : World) (hr0 : Kd.C k122 w A0 l0.length l0) (hc0 : l0.length ≤ c0) (h : QH.f k l0 = some (r1, r2)) :
  Calls Try.prog 46 #[.slice A0 l0.length c0] w fun e w' => e = .returned (.agg #[.int .i64 r1, .int .i64 r2]) ∧ Below w.heap.size w w' := by
 have hu24 := Try.underlying24
 have HR0 := Q0.mk hr0
 have HC0 := Q0.mk hc0
 clear hr0 hc0
 have HB := Q0.mk (Below.refl w.heap.size w)
 have H := h
 clear h
 unfold QH.f at H
 try dsimp only at H
 by_cases c2 : (l0.length : Int) > 30
 ·rw [if_pos c2] at H
  have c2b0 : decide (30 < (l0.length : Int)) = true := decide_eq_true c2
  have c2b1 : decide (30 < l0.length) = true := decide_eq_true (by omega)
  clear c2
  simp only [Option.some.injEq, Prod.mk.injEq] at H
  obtain ⟨rfl, rfl⟩ := H
  go_enter Try.func46, Try.ntmps46
  go_wp2_with (first | ((with_reducible refine QN (N := 2) rfl ?_); refine QK ?hg (N := 2) ?hd (cs := #[.int .i64 0, .int .i64 0]) (t := 24) ?hr ?_; (case hd => rfl); (case hg => rfl); (case hr => first | (go_simp; done) | (go_simp; rfl)); intro gb130 hg w3 hbox hb; have BK130 := Q0.mk (hbox); have GW130 := Q0.mk ((by rw [hg]; exact (Qg HB.out) : w.heap.size ≤ gb130)); have GE130 := Q0.mk ((by rw [hg]; exact (Qg HB.out) : w.heap.size ≤ gb130)); replace HB := Q0.mk (Qj HB.out hb); clear hb hbox hg; obtain ⟨hcz4_0, hcz4_1⟩ := QB BK130.out; obtain ⟨hfz4_0, hfz4_1⟩ := Qt BK130.out) | ((with_reducible refine QD (t := 24) (p := 2) rfl ?_); refine Qw (t := 24) (p := 2) (v := ?vo_w5) (w1 := ((w3.setCell ⟨gb130, 0, none⟩ (.int .i64 2)).setCell ⟨gb130, 1, none⟩ (.int .i64 (-1)))) ?hg ?ho ?hn ?hr ?_; (case ho => rfl); (case hg => rfl); (case hn => rfl); (case hr => first | (go_simp; done) | (go_simp; rfl)); intro w5 hw; replace BK130 := Q0.mk (put2 hw BK130.out); replace HB := Q0.mk (bel2 hw HB.out GE130.out); clear hw))
  refine bodyPost_ret (results_cell_row rfl _ _ gb130 24 #[.int .i64 2, .int .i64 (-1)] (0, 0) _ rfl BK130.out Try.underlying24 rfl (by kernel_rfl)) rfl ?_
  exact ⟨by first | rfl | (simp [*]; done), by repeat (first | exact HB.out | apply Q4 | apply Q2 | apply Q6 | refine Q1 ?_ GE130.out)⟩
 ·rw [if_neg c2] at H
  have c2b0 : decide (30 < (l0.length : Int)) = false := decide_eq_false c2
  have c2b1 : decide (30 < l0.length) = false := decide_eq_false (by omega)
  clear c2
  have H' := Q0.mk H
  clear H
  go_enter Try.func46, Try.ntmps46
  go_wp2_with (first | ((with_reducible refine QN (N := 2) rfl ?_); refine QK ?hg (N := 2) ?hd (cs := #[.int .i64 0, .int .i64 0]) (t := 24) ?hr ?_; (case hd => rfl); (case hg => rfl); (case hr => first | (go_simp; done) | (go_simp; rfl)); intro gb130 hg w6 hbox hb; have BK130 := Q0.mk (hbox); have GW130 := Q0.mk ((by rw [hg]; exact (Qg HB.out) : w.heap.size ≤ gb130)); have GE130 := Q0.mk ((by rw [hg]; exact (Qg HB.out) : w.heap.size ≤ gb130)); replace HB := Q0.mk (Qj HB.out hb); clear hb hbox hg))
  go_loopg [11] k (fun kq v11 w' => ∃ (x11_1 : Int) (x131000_1 : Int) (x131001_1 : Int), v11 = .int .i64 x11_1 ∧ Q0 (QH.l0 kq l0 (l0.length : Int) x11_1 = some (r1, r2)) ∧ Q0 (kq ≤ k) ∧ Q0 (w'.heap[gb130]? = some (.cells #[.int .i64 x131000_1, .int .i64 x131001_1] 24 (0, 0))) ∧ Q0 (Below w.heap.size w w'))
  case atStart => exact ⟨(0), (0), (0), (by first | rfl | (simp [*]; done)), H', ⟨Nat.le_refl _⟩, ⟨by (with_reducible repeat (first | refine Q7 ?_ _ | refine Qa ?_ | refine Q8 ?_ _)); exact BK130.out⟩, ⟨by repeat (first | exact HB.out | apply Q4 | apply Q2 | apply Q6 | refine Q1 ?_ GE130.out)⟩⟩
  case round =>
   clear H'
   try clear c2
   try clear c2b0
   try clear c2b1
   try clear p2
   try clear c4
   obtain ⟨x11_1, x131000_1, x131001_1, rfl, HA, HK1, BK130, HB⟩ := hrel
   cases gk with
   | zero => exact absurd HA.out (by simp [QH.l0])
   | succ k1 =>
    have H := HA.out
    clear HA
    simp only [QH.l0] at H
    by_cases c7 : x11_1 < (l0.length : Int)
    ·rw [if_pos c7] at H
     have c7b0 : decide (x11_1 < (l0.length : Int)) = true := decide_eq_true c7
     clear c7
     replace H := Option.bind_eq_some_iff.mp H
     obtain ⟨t131, A80, H⟩ := H
     try dsimp only at H
     have A8 := Q0.mk A80
     clear A80
     by_cases c9 : t131 = 0
     ·rw [if_pos c9] at H
      have c9b0 : (t131 == 0) = true := beq_iff_eq.mpr c9
      have c9b1 : (t131 != 0) = false := bne_eq_false_iff_eq.mpr c9
      clear c9
      have H' := Q0.mk H
      clear H
      go_wp2_with (first | ((with_reducible refine Qs (f := 65) rfl ?_); refine X2 (some 16) rfl rfl Try.func65 (by kernel_rfl) rfl #[.slice A0 l0.length c0, .int .i64 x11_1] rfl (by (try simp only [List.map_toArray, List.map_cons, List.map_nil]); first | done | rfl | (simp only [List.length_drop, List.length_take]; rfl)) ?_; (with_reducible refine (Qc.calls k1 _ _ l0 x11_1 t131 _ ?side1 ?side2 A8.out).mono ?_); (case side1 => repeat (first | exact (Kd.Qx HR0.out HB.out) | (with_reducible refine Kd.QT ?_ _) | (with_reducible refine Kd.QS ?_ _) | (with_reducible refine Kd.X6 ?_))); (case side2 => exact HC0.out); rintro e w10 ⟨rfl, hb⟩; refine ⟨_, rfl, ?_⟩; replace BK130 := Q0.mk (Q9 BK130.out hb); replace HB := Q0.mk (Qj HB.out hb)))
      go_roundg k1
      case measure => have := HK1.out; omega
      case rel => exact ⟨(wrap64 (x11_1 + 1)), (x131000_1), (x131001_1), (by first | rfl | (simp [*]; done)), H', ⟨by have := HK1.out; omega⟩, ⟨by (with_reducible repeat (first | refine Q7 ?_ _ | refine Qa ?_ | refine Q8 ?_ _)); exact BK130.out⟩, ⟨by repeat (first | exact HB.out | apply Q4 | apply Q2 | apply Q6 | refine Q1 ?_ GE130.out)⟩⟩
     ·rw [if_neg c9] at H
      have c9b0 : (t131 == 0) = false := beq_eq_false_iff_ne.mpr c9
      have c9b1 : (t131 != 0) = true := bne_iff_ne.mpr c9
      simp only [Option.some.injEq, Prod.mk.injEq] at H
      obtain ⟨rfl, rfl⟩ := H
      go_wp2_with (first | ((with_reducible refine Qs (f := 65) rfl ?_); refine X2 (some 16) rfl rfl Try.func65 (by kernel_rfl) rfl #[.slice A0 l0.length c0, .int .i64 x11_1] rfl (by (try simp only [List.map_toArray, List.map_cons, List.map_nil]); first | done | rfl | (simp only [List.length_drop, List.length_take]; rfl)) ?_; (with_reducible refine (Qc.calls k1 _ _ l0 x11_1 t131 _ ?side1 ?side2 A8.out).mono ?_); (case side1 => repeat (first | exact (Kd.Qx HR0.out HB.out) | (with_reducible refine Kd.QT ?_ _) | (with_reducible refine Kd.QS ?_ _) | (with_reducible refine Kd.X6 ?_))); (case side2 => exact HC0.out); rintro e w11 ⟨rfl, hb⟩; refine ⟨_, rfl, ?_⟩; replace BK130 := Q0.mk (Q9 BK130.out hb); replace HB := Q0.mk (Qj HB.out hb); obtain ⟨hcz12_0, hcz12_1⟩ := QB BK130.out; obtain ⟨hfz12_0, hfz12_1⟩ := Qt BK130.out) | ((with_reducible refine QD (t := 24) (p := 2) rfl ?_); refine Qw (t := 24) (p := 2) (v := ?vo_w13) (w1 := ((w11.setCell ⟨gb130, 0, none⟩ (.int .i64 t131)).setCell ⟨gb130, 1, none⟩ (.int .i64 x11_1))) ?hg ?ho ?hn ?hr ?_; (case ho => rfl); (case hg => rfl); (case hn => rfl); (case hr => first | (go_simp; done) | (go_simp; rfl)); intro w13 hw; replace BK130 := Q0.mk (put2 hw BK130.out); replace HB := Q0.mk (bel2 hw HB.out GE130.out); clear hw))
      refine bodyPost_ret (results_cell_row rfl _ _ gb130 24 #[.int .i64 t131, .int .i64 x11_1] (0, 0) _ rfl BK130.out Try.underlying24 rfl (by kernel_rfl)) rfl ?_
      exact ⟨by first | rfl | (simp [*]; done), by repeat (first | exact HB.out | apply Q4 | apply Q2 | apply Q6 | refine Q1 ?_ GE130.out)⟩
    ·rw [if_neg c7] at H
     have c7b0 : decide (x11_1 < (l0.length : Int)) = false := decide_eq_false c7
     clear c7
     simp only [Option.some.injEq, Prod.mk.injEq] at H
     obtain ⟨rfl, rfl⟩ := H
     obtain ⟨hcz14_0, hcz14_1⟩ := QB BK130.out
     obtain ⟨hfz14_0, hfz14_1⟩ := Qt BK130.out
     go_wp2_with (first | ((with_reducible refine QD (t := 24) (p := 2) rfl ?_); refine Qw (t := 24) (p := 2) (v := ?vo_w15) (w1 := ((wr.setCell ⟨gb130, 0, none⟩ (.int .i64 0)).setCell ⟨gb130, 1, none⟩ (.int .i64 0))) ?hg ?ho ?hn ?hr ?_; (case ho => rfl); (case hg => rfl); (case hn => rfl); (case hr => first | (go_simp; done) | (go_simp; rfl)); intro w15 hw; replace BK130 := Q0.mk (put2 hw BK130.out); replace HB := Q0.mk (bel2 hw HB.out GE130.out); clear hw))
     refine bodyPost_ret (results_cell_row rfl _ _ gb130 24 #[.int .i64 0, .int .i64 0] (0, 0) _ rfl BK130.out Try.underlying24 rfl (by kernel_rfl)) rfl ?_
     exact ⟨by first | rfl | (simp [*]; done), by repeat (first | exact HB.out | apply Q4 | apply Q2 | apply Q6 | refine Q1 ?_ GE130.out)⟩
end Go.Proofs.Ytakabkjhnncbhaa.PX
namespace Go.Proofs.Ytakabkjhnncbhaa.PX
open Go.RowKit Go.Proofs.YtakabkjhnncbhaaW.PrintWords Go.Proofs.YtakabkjhnncbhaaW.PrintLast Go.Proofs.YtakabkjhnncbhaaW.PrintMore
attribute [local go_sem] Xk Xi Xs Xr X5 X4 Xj Xh   -- for this text's walks alone
set_option linter.unusedVariables false
set_option linter.unusedSimpArgs false
def Qi.f (a0 : Int) (a1 : Int) (a2 : Int) : Option (Bool) := if a0 ≥ a1 then (some (decide (a0 ≤ a2))) else (some false)
set_option maxHeartbeats 8000000 in
set_option maxRecDepth 100000 in
theorem Qi.calls (a0 : Int) (a1 : Int) (a2 : Int) (r : Bool) (w : World) (h : Qi.f a0 a1 a2 = some r) :
  Calls Try.prog 68 #[.int .i64 a0, .int .i64 a1, .int .i64 a2] w fun e w' => e = .returned (.bool r) ∧ QJ w w' := by
 have H := h
 clear h
 unfold Qi.f at H
 try dsimp only at H
 by_cases c4 : a0 ≥ a1
 ·rw [if_pos c4] at H
  have c4b0 : decide (a1 ≤ a0) = true := decide_eq_true c4
  clear c4
  obtain rfl := Option.some.inj H
  go_enter Try.func68, Try.ntmps68
  go_wp2
  go_ret
  exact ⟨by first | rfl | (simp; done) | (simp [*]; done), by repeat (first | exact QJ.refl _ | apply QJ.step)⟩
 ·rw [if_neg c4] at H
  have c4b0 : decide (a1 ≤ a0) = false := decide_eq_false c4
  clear c4
  obtain rfl := Option.some.inj H
  go_enter Try.func68, Try.ntmps68
  go_wp2
  go_ret
  exact ⟨by first | rfl | (simp; done) | (simp [*]; done), by repeat (first | exact QJ.refl _ | apply QJ.step)⟩
end Go.Proofs.Ytakabkjhnncbhaa.PX
namespace Go.Proofs.Ytakabkjhnncbhaa.PX
open Go.RowKit Go.Proofs.YtakabkjhnncbhaaW.PrintWords Go.Proofs.YtakabkjhnncbhaaW.PrintLast Go.Proofs.YtakabkjhnncbhaaW.PrintMore
attribute [local go_sem] Xk Xi Xs Xr X5 X4 Xj Xh   -- for this text's walks alone
set_option linter.unusedVariables false
set_option linter.unusedSimpArgs false
def Y4.f (a0 : Int) : Option (Int) := if a0 = 3 then (some 1) else (if a0 = 2 then (some 2) else (if a0 = 1 then (some 4) else (if a0 = 4 then (some 4) else (if a0 = 5 then (some 4) else (some 0)))))
set_option maxHeartbeats 8000000 in
set_option maxRecDepth 100000 in
theorem Y4.calls (a0 : Int) (r : Int) (w : World) (h : Y4.f a0 = some r) :
  Calls Try.prog 88 #[.int .i64 a0] w fun e w' => e = .returned (.int .i64 r) ∧ QJ w w' := by
 have H := h
 clear h
 unfold Y4.f at H
 try dsimp only at H
 by_cases c2 : a0 = 3
 ·rw [if_pos c2] at H
  have c2b0 : (a0 == 3) = true := beq_iff_eq.mpr c2
  have c2b1 : (a0 != 3) = false := bne_eq_false_iff_eq.mpr c2
  clear c2
  obtain rfl := Option.some.inj H
  go_enter Try.func88, Try.ntmps88
  go_wp2
  go_ret
  exact ⟨by first | rfl | (simp; done) | (simp [*]; done), by repeat (first | exact QJ.refl _ | apply QJ.step)⟩
 ·rw [if_neg c2] at H
  have c2b0 : (a0 == 3) = false := beq_eq_false_iff_ne.mpr c2
  have c2b1 : (a0 != 3) = true := bne_iff_ne.mpr c2
  by_cases c3 : a0 = 2
  ·rw [if_pos c3] at H
   have c3b0 : (a0 == 2) = true := beq_iff_eq.mpr c3
   have c3b1 : (a0 != 2) = false := bne_eq_false_iff_eq.mpr c3
   clear c3
   obtain rfl := Option.some.inj H
   go_enter Try.func88, Try.ntmps88
   go_wp2
   go_ret
   exact ⟨by first | rfl | (simp; done) | (simp [*]; done), by repeat (first | exact QJ.refl _ | apply QJ.step)⟩
  ·rw [if_neg c3] at H
   have c3b0 : (a0 == 2) = false := beq_eq_false_iff_ne.mpr c3
   have c3b1 : (a0 != 2) = true := bne_iff_ne.mpr c3
   by_cases c4 : a0 = 1
   ·rw [if_pos c4] at H
    have c4b0 : (a0 == 1) = true := beq_iff_eq.mpr c4
    have c4b1 : (a0 != 1) = false := bne_eq_false_iff_eq.mpr c4
    clear c4
    obtain rfl := Option.some.inj H
    go_enter Try.func88, Try.ntmps88
    go_wp2
    go_ret
    exact ⟨by first | rfl | (simp; done) | (simp [*]; done), by repeat (first | exact QJ.refl _ | apply QJ.step)⟩
   ·rw [if_neg c4] at H
    have c4b0 : (a0 == 1) = false := beq_eq_false_iff_ne.mpr c4
    have c4b1 : (a0 != 1) = true := bne_iff_ne.mpr c4
    by_cases c5 : a0 = 4
    ·rw [if_pos c5] at H
     have c5b0 : (a0 == 4) = true := beq_iff_eq.mpr c5
     have c5b1 : (a0 != 4) = false := bne_eq_false_iff_eq.mpr c5
     clear c5
     obtain rfl := Option.some.inj H
     go_enter Try.func88, Try.ntmps88
     go_wp2
     go_ret
     exact ⟨by first | rfl | (simp; done) | (simp [*]; done), by repeat (first | exact QJ.refl _ | apply QJ.step)⟩
    ·rw [if_neg c5] at H
     have c5b0 : (a0 == 4) = false := beq_eq_false_iff_ne.mpr c5
     have c5b1 : (a0 != 4) = true := bne_iff_ne.mpr c5
     by_cases c6 : a0 = 5
     ·rw [if_pos c6] at H
      have c6b0 : (a0 == 5) = true := beq_iff_eq.mpr c6
      have c6b1 : (a0 != 5) = false := bne_eq_false_iff_eq.mpr c6
      clear c6
      obtain rfl := Option.some.inj H
      go_enter Try.func88, Try.ntmps88
      go_wp2
      go_ret
      exact ⟨by first | rfl | (simp; done) | (simp [*]; done), by repeat (first | exact QJ.refl _ | apply QJ.step)⟩
     ·rw [if_neg c6] at H
      have c6b0 : (a0 == 5) = false := beq_eq_false_iff_ne.mpr c6
      have c6b1 : (a0 != 5) = true := bne_iff_ne.mpr c6
      obtain rfl := Option.some.inj H
      go_enter Try.func88, Try.ntmps88
      go_wp2
      go_ret
      exact ⟨by first | rfl | (simp; done) | (simp [*]; done), by repeat (first | exact QJ.refl _ | apply QJ.step)⟩
end Go.Proofs.Ytakabkjhnncbhaa.PX
namespace Go.Proofs.Ytakabkjhnncbhaa.PX
open Go.RowKit Go.Proofs.YtakabkjhnncbhaaW.PrintWords Go.Proofs.YtakabkjhnncbhaaW.PrintLast Go.Proofs.YtakabkjhnncbhaaW.PrintMore
attribute [local go_sem] Xk Xi Xs Xr X5 X4 Xj Xh   -- for this text's walks alone
set_option linter.unusedVariables false
set_option linter.unusedSimpArgs false
mutual
def QL.l0 : Nat → Int → Int → List (S97) → Int → Int → ByteArray → Int → Int → List Int → Int → Bool → List (S97) → List (S126) → List (S128) → Option (Int)
 | 0, _, _, _, _, _, _, _, _, _, _, _, _, _, _ => none
 | k + 1, x1, x5, x10, x11, x12, x133000, x133001, x133002, x133003, x133004, x133005, x133006, x133007, x133008 => if x12 < x11 then (if 0 ≤ x12 then (if x12 < (x10.length : Int) then ((Y4.f ((Xe x10 x12).f1)).bind fun t135 => (if t135 = 0 then (some 4) else (if ((Xe x10 x12).f0) < x5 then (QL.j1 k x1 t135 x10 x11 x12 true x133000 x133001 x133002 x133003 x133004 x133005 x133006 x133007 x133008 ((Xe x10 x12).f0) ((Xe x10 x12).f1) ((Xe x10 x12).f2) ((Xe x10 x12).f3)) else (QL.j1 k x1 t135 x10 x11 x12 (decide (((Xe x10 x12).f0) > (wrap64 ((x133003.length : Int) - t135)))) x133000 x133001 x133002 x133003 x133004 x133005 x133006 x133007 x133008 ((Xe x10 x12).f0) ((Xe x10 x12).f1) ((Xe x10 x12).f2) ((Xe x10 x12).f3))))) else (none)) else (none)) else (some 0)
def QL.j1 : Nat → Int → Int → List (S97) → Int → Int → Bool → ByteArray → Int → Int → List Int → Int → Bool → List (S97) → List (S126) → List (S128) → Int → Int → Int → Int → Option (Int)
 | 0, _, _, _, _, _, _, _, _, _, _, _, _, _, _, _, _, _, _, _ => none
 | k + 1, x1, x8, x10, x11, x12, x26, x133000, x133001, x133002, x133003, x133004, x133005, x133006, x133007, x133008, x135000, x135001, x135002, x135003 => if x26 = true then (some 5) else ((Qi.f x135002 0 (wrap64 (x1 - 1))).bind fun t136 => (if t136 = true then ((Qi.f x135003 (-1048576) 1048576).bind fun t137 => (if t137 = true then (if x135001 = 5 then (if x135003 = 0 then (QL.l0 k x1 (wrap64 (x135000 + x8)) x10 x11 (wrap64 (x12 + 1)) x133000 x133001 x133002 x133003 x133004 x133005 x133006 x133007 x133008) else (some 3)) else (QL.l0 k x1 (wrap64 (x135000 + x8)) x10 x11 (wrap64 (x12 + 1)) x133000 x133001 x133002 x133003 x133004 x133005 x133006 x133007 x133008)) else (some 3))) else (some 3)))
end
def QL.f (k : Nat) (a0_0 : ByteArray) (a0_1 : Int) (a0_2 : Int) (l0_3 : List Int) (a0_4 : Int) (a0_5 : Bool) (l0_6 : List (S97)) (l0_7 : List (S126)) (l0_8 : List (S128)) (a1 : Int) : Option (Int) := QL.l0 k a1 0 l0_6 (l0_6.length : Int) 0 a0_0 a0_1 a0_2 l0_3 a0_4 a0_5 l0_6 l0_7 l0_8
theorem QL.Xn : ∀ k, (∀ y0 y1 y2 y3 y4 y5 y6 y7 y8 y9 y10 y11 y12 y13, LeO (QL.l0 k y0 y1 y2 y3 y4 y5 y6 y7 y8 y9 y10 y11 y12 y13) (QL.l0 (k + 1) y0 y1 y2 y3 y4 y5 y6 y7 y8 y9 y10 y11 y12 y13)) ∧ (∀ y0 y1 y2 y3 y4 y5 y6 y7 y8 y9 y10 y11 y12 y13 y14 y15 y16 y17 y18, LeO (QL.j1 k y0 y1 y2 y3 y4 y5 y6 y7 y8 y9 y10 y11 y12 y13 y14 y15 y16 y17 y18) (QL.j1 (k + 1) y0 y1 y2 y3 y4 y5 y6 y7 y8 y9 y10 y11 y12 y13 y14 y15 y16 y17 y18))
 | 0 => ⟨fun _ _ _ _ _ _ _ _ _ _ _ _ _ _ r h => by simp [QL.l0] at h, fun _ _ _ _ _ _ _ _ _ _ _ _ _ _ _ _ _ _ _ r h => by simp [QL.j1] at h⟩
 | k + 1 => by
  obtain ⟨ih0, ih1⟩ := QL.Xn k
  refine ⟨?_, ?_⟩
  ·intro y0 y1 y2 y3 y4 y5 y6 y7 y8 y9 y10 y11 y12 y13
   unfold QL.l0
   repeat' first
   | (with_reducible exact ih0 _ _ _ _ _ _ _ _ _ _ _ _ _ _)
   | (with_reducible exact ih1 _ _ _ _ _ _ _ _ _ _ _ _ _ _ _ _ _ _ _)
   | (with_reducible exact LeO.refl _)
   | (with_reducible exact LeO.none _)
   | (with_reducible refine LeO.ite ?_ ?_)
   | (with_reducible refine LeO.bind ?_ (fun _ => ?_))
  ·intro y0 y1 y2 y3 y4 y5 y6 y7 y8 y9 y10 y11 y12 y13 y14 y15 y16 y17 y18
   unfold QL.j1
   repeat' first
   | (with_reducible exact ih0 _ _ _ _ _ _ _ _ _ _ _ _ _ _)
   | (with_reducible exact ih1 _ _ _ _ _ _ _ _ _ _ _ _ _ _ _ _ _ _ _)
   | (with_reducible exact LeO.refl _)
   | (with_reducible exact LeO.none _)
   | (with_reducible refine LeO.ite ?_ ?_)
   | (with_reducible refine LeO.bind ?_ (fun _ => ?_))
theorem QL.mono : ∀ a0 a1 a2 a3 a4 a5 a6 a7 a8 a9 k, LeO (QL.f k a0 a1 a2 a3 a4 a5 a6 a7 a8 a9) (QL.f (k + 1) a0 a1 a2 a3 a4 a5 a6 a7 a8 a9) := by
 intro a0 a1 a2 a3 a4 a5 a6 a7 a8 a9 k
 obtain ⟨ih0, ih1⟩ := QL.Xn k
 unfold QL.f
 repeat' first
   | (with_reducible exact ih0 _ _ _ _ _ _ _ _ _ _ _ _ _ _)
   | (with_reducible exact ih1 _ _ _ _ _ _ _ _ _ _ _ _ _ _ _ _ _ _ _)
   | (with_reducible exact LeO.refl _)
   | (with_reducible exact LeO.none _)
   | (with_reducible refine LeO.ite ?_ ?_)
   | (with_reducible refine LeO.bind ?_ (fun _ => ?_))
set_option maxHeartbeats 8000000 in
set_option maxRecDepth 100000 in
theorem QL.calls (k : Nat) (a0_0 : ByteArray) (a0_1 : Int) (a0_2 : Int) (A0_3 : Option Addr) (c0_3 : Nat) (l0_3 : List Int) (a0_4 : Int) (a0_5 : Bool) (A0_6 : Option Addr) (c0_6 : Nat) (l0_6 : List (S97)) (A0_7 : Option Addr) (c0_7 : Nat) (l0_7 : List (S126)) (A0_8 : Option Addr) (c0_8 : Nat) (l0_8 : List (S128)) (a1 : Int) (r : Int) (w : World) (hr0_3 : Kd.C (Kd.int .u8) w A0_3 l0_3.length l0_3) (hc0_3 : l0_3.length ≤ c0_3) (hr0_6 : Kd.C k97 w A0_6 l0_6.length l0_6) (hc0_6 : l0_6.length ≤ c0_6) (hr0_7 : Kd.C k126 w A0_7 l0_7.length l0_7) (hc0_7 : l0_7.length ≤ c0_7) (hr0_8 : Kd.C k128 w A0_8 l0_8.length l0_8) (hc0_8 : l0_8.length ≤ c0_8) (h : QL.f k a0_0 a0_1 a0_2 l0_3 a0_4 a0_5 l0_6 l0_7 l0_8 a1 = some r) :
  Calls Try.prog 69 #[.agg #[.string a0_0, .int .i64 a0_1, .int .i64 a0_2, .slice A0_3 l0_3.length c0_3, .int .i64 a0_4, .bool a0_5, .slice A0_6 l0_6.length c0_6, .slice A0_7 l0_7.length c0_7, .slice A0_8 l0_8.length c0_8], .int .i64 a1] w fun e w' => e = .returned (.int .i64 r) ∧ Below w.heap.size w w' := by
 have hu89 := Try.underlying89
 have hu97 := Try.underlying97
 have HR0_3 := Q0.mk hr0_3
 have HC0_3 := Q0.mk hc0_3
 clear hr0_3 hc0_3
 have HR0_6 := Q0.mk hr0_6
 have HC0_6 := Q0.mk hc0_6
 clear hr0_6 hc0_6
 have HR0_7 := Q0.mk hr0_7
 have HC0_7 := Q0.mk hc0_7
 clear hr0_7 hc0_7
 have HR0_8 := Q0.mk hr0_8
 have HC0_8 := Q0.mk hc0_8
 clear hr0_8 hc0_8
 have HB := Q0.mk (Below.refl w.heap.size w)
 have H := h
 clear h
 unfold QL.f at H
 try dsimp only at H
 have H' := Q0.mk H
 clear H
 go_enter Try.func69, Try.ntmps69
 go_wp2_with (first | ((with_reducible refine QN (N := 2) rfl ?_); (try (refine Xx (by rfl) ?_; dsimp only)); refine QK ?hg (N := 2) ?hd (cs := #[.string a0_0, .int .i64 a0_1, .int .i64 a0_2, .slice A0_3 l0_3.length c0_3, .int .i64 a0_4, .bool a0_5, .slice A0_6 l0_6.length c0_6, .slice A0_7 l0_7.length c0_7, .slice A0_8 l0_8.length c0_8]) (t := 89) ?hr ?_; (case hd => rfl); (case hg => rfl); (case hr => first | (go_simp; done) | (go_simp; rfl)); intro gb132 hg w3 hbox hb; have BK132 := Q0.mk (hbox); have GW132 := Q0.mk ((by rw [hg]; exact (Qg HB.out) : w.heap.size ≤ gb132)); have GE132 := Q0.mk ((by rw [hg]; exact (Qg HB.out) : w.heap.size ≤ gb132)); replace HB := Q0.mk (Qj HB.out hb); clear hb hbox hg; obtain ⟨hcz4_0, hcz4_1, hcz4_2, hcz4_3, hcz4_4, hcz4_5, hcz4_6, hcz4_7, hcz4_8⟩ := Xg BK132.out; obtain ⟨hfz4_0, hfz4_1, hfz4_2, hfz4_3, hfz4_4, hfz4_5, hfz4_6, hfz4_7, hfz4_8⟩ := Ys BK132.out))
 go_loopg [5, 12] k (fun kq v5 v12 w' => ∃ (x5_1 : Int) (x12_1 : Int), v5 = .int .i64 x5_1 ∧ v12 = .int .i64 x12_1 ∧ Q0 (QL.l0 kq a1 x5_1 l0_6 (l0_6.length : Int) x12_1 a0_0 a0_1 a0_2 l0_3 a0_4 a0_5 l0_6 l0_7 l0_8 = some r) ∧ Q0 (kq ≤ k) ∧ Q0 (w'.heap[gb132]? = some (.cells #[.string a0_0, .int .i64 a0_1, .int .i64 a0_2, (.slice A0_3 l0_3.length c0_3), .int .i64 a0_4, .bool a0_5, (.slice A0_6 l0_6.length c0_6), (.slice A0_7 l0_7.length c0_7), (.slice A0_8 l0_8.length c0_8)] 89 (0, 0))) ∧ Q0 (Below w.heap.size w w'))
 case atStart => exact ⟨(0), (0), (by first | rfl | (simp [*]; done)), (by first | rfl | (simp [*]; done)), H', ⟨Nat.le_refl _⟩, ⟨by (with_reducible repeat (first | refine Q7 ?_ _ | refine Qa ?_ | refine Q8 ?_ _)); exact BK132.out⟩, ⟨by repeat (first | exact HB.out | apply Q4 | apply Q2 | apply Q6 | refine Q1 ?_ GE132.out)⟩⟩
 case round =>
  clear H'
  try clear p2
  obtain ⟨x5_1, x12_1, rfl, rfl, HA, HK1, BK132, HB⟩ := hrel
  cases gk with
  | zero => exact absurd HA.out (by simp [QL.l0])
  | succ k1 =>
   have H := HA.out
   clear HA
   simp only [QL.l0] at H
   by_cases c5 : x12_1 < (l0_6.length : Int)
   ·rw [if_pos c5] at H
    have c5b0 : decide (x12_1 < (l0_6.length : Int)) = true := decide_eq_true c5
    clear c5
    by_cases c6 : 0 ≤ x12_1
    ·rw [if_pos c6] at H
     have c6b0 : decide (0 ≤ x12_1) = true := decide_eq_true c6
     clear c6
     by_cases c7 : x12_1 < (l0_6.length : Int)
     ·rw [if_pos c7] at H
      have c7b0 : decide (x12_1 < (l0_6.length : Int)) = true := decide_eq_true c7
      clear c7
      replace H := Option.bind_eq_some_iff.mp H
      obtain ⟨t135, A80, H⟩ := H
      try dsimp only at H
      have A8 := Q0.mk A80
      clear A80
      by_cases c9 : t135 = 0
      ·rw [if_pos c9] at H
       have c9b0 : (t135 == 0) = true := beq_iff_eq.mpr c9
       have c9b1 : (t135 != 0) = false := bne_eq_false_iff_eq.mpr c9
       clear c9
       obtain rfl := Option.some.inj H
       have p133 : 0 ≤ (x12_1 : Int) := of_decide_eq_true ‹_›
       have q133 : x12_1 < (l0_6.length : Int) := of_decide_eq_true ‹_›
       obtain ⟨ad133, e133, hx133_0, hx133_1, hx133_2, hx133_3⟩ := at_T97 HR0_6.out x12_1 p133 q133
       cases e133
       replace hx133_0 := cup HB.out hx133_0
       replace hx133_1 := cup HB.out hx133_1
       replace hx133_2 := cup HB.out hx133_2
       replace hx133_3 := cup HB.out hx133_3
       replace p133 := eq_true p133
       replace q133 := eq_true q133
       go_wp2_with (first | ((with_reducible refine QN (N := 7) rfl ?_); (try (refine Xx (by rfl) ?_; dsimp only)); refine QK ?hg (N := 7) ?hd (cs := #[.int .i64 0, .int .i64 0, .int .i64 0, .int .i64 0]) (t := 97) ?hr ?_; (case hd => rfl); (case hg => rfl); (case hr => first | (go_simp; done) | (go_simp; rfl)); intro gb134 hg w10 hbox hb; have BK134 := Q0.mk (hbox); have GW134 := Q0.mk ((by rw [hg]; exact (Qg (by repeat (first | exact HB.out | apply Q4 | apply Q2 | apply Q6 | refine Q1 ?_ GE132.out))) : w.heap.size ≤ gb134)); have GE134 := Q0.mk ((by rw [hg]; exact (Qg (by repeat (first | exact HB.out | apply Q4 | apply Q2 | apply Q6 | refine Q1 ?_ GE132.out))) : w.heap.size ≤ gb134)); have NB132_134 := Q0.mk ((by rw [hg]; exact Nat.ne_of_lt (Qy (g := gb132) (o := .cells #[.string a0_0, .int .i64 a0_1, .int .i64 a0_2, .slice A0_3 l0_3.length c0_3, .int .i64 a0_4, .bool a0_5, .slice (some ad133) l0_6.length c0_6, .slice A0_7 l0_7.length c0_7, .slice A0_8 l0_8.length c0_8] 89 (0, 0)) (by (with_reducible repeat (first | refine Q7 ?_ _ | refine Qa ?_ | refine Q8 ?_ _)); exact BK132.out)) : gb132 ≠ gb134)); have NB134_132 := Q0.mk ((by rw [hg]; exact Nat.ne_of_gt (Qy (g := gb132) (o := .cells #[.string a0_0, .int .i64 a0_1, .int .i64 a0_2, .slice A0_3 l0_3.length c0_3, .int .i64 a0_4, .bool a0_5, .slice (some ad133) l0_6.length c0_6, .slice A0_7 l0_7.length c0_7, .slice A0_8 l0_8.length c0_8] 89 (0, 0)) (by (with_reducible repeat (first | refine Q7 ?_ _ | refine Qa ?_ | refine Q8 ?_ _)); exact BK132.out)) : gb134 ≠ gb132)); replace BK132 := Q0.mk (Q9 (g := gb132) (o := .cells #[.string a0_0, .int .i64 a0_1, .int .i64 a0_2, .slice A0_3 l0_3.length c0_3, .int .i64 a0_4, .bool a0_5, .slice (some ad133) l0_6.length c0_6, .slice A0_7 l0_7.length c0_7, .slice A0_8 l0_8.length c0_8] 89 (0, 0)) (by (with_reducible repeat (first | refine Q7 ?_ _ | refine Qa ?_ | refine Q8 ?_ _)); exact BK132.out) hb); replace HB := Q0.mk (Qj (by repeat (first | exact HB.out | apply Q4 | apply Q2 | apply Q6 | refine Q1 ?_ GE132.out)) hb); clear hb hbox hg; have hnb11 := NB134_132.out; have hnc11 := NB132_134.out; obtain ⟨hcz12_0, hcz12_1, hcz12_2, hcz12_3⟩ := Y6 BK134.out; obtain ⟨hfz12_0, hfz12_1, hfz12_2, hfz12_3⟩ := frozen4 BK134.out) | ((with_reducible refine QD (t := 97) (p := 7) rfl ?_); refine Qw (t := 97) (p := 7) (v := ?vo_w13) (w1 := ((((w10.setCell ⟨gb134, 0, none⟩ (.int .i64 ((Xe l0_6 x12_1).f0))).setCell ⟨gb134, 1, none⟩ (.int .i64 ((Xe l0_6 x12_1).f1))).setCell ⟨gb134, 2, none⟩ (.int .i64 ((Xe l0_6 x12_1).f2))).setCell ⟨gb134, 3, none⟩ (.int .i64 ((Xe l0_6 x12_1).f3)))) ?hg ?ho ?hn ?hr ?_; (case ho => rfl); (case hg => rfl); (case hn => rfl); (case hr => first | (go_simp; done) | (go_simp; rfl)); intro w13 hw; replace BK132 := Q0.mk (far4 hw BK132.out NB132_134.out); replace BK134 := Q0.mk (put4 hw BK134.out); replace HB := Q0.mk (bel4 hw HB.out GE134.out); clear hw; obtain ⟨hcz14_0, hcz14_1, hcz14_2, hcz14_3⟩ := Y6 BK134.out; obtain ⟨hfz14_0, hfz14_1, hfz14_2, hfz14_3⟩ := frozen4 BK134.out) | ((with_reducible refine Qs (f := 88) rfl ?_); refine X2 (some 18) rfl rfl Try.func88 (by kernel_rfl) rfl #[.int .i64 ((Xe l0_6 x12_1).f1)] rfl (by (try simp only [List.map_toArray, List.map_cons, List.map_nil]); first | done | rfl | (simp only [List.length_drop, List.length_take]; rfl)) ?_; (with_reducible refine (Y4.calls ((Xe l0_6 x12_1).f1) t135 _ A8.out).mono ?_); rintro e w' ⟨rfl, ⟨nd, rfl⟩⟩; refine ⟨_, rfl, ?_⟩))
       go_ret
       exact ⟨by first | rfl | (simp [*]; done), by repeat (first | exact HB.out | apply Q4 | apply Q2 | apply Q6 | refine Q1 ?_ GE132.out | refine Q1 ?_ GE134.out)⟩
      ·rw [if_neg c9] at H
       have c9b0 : (t135 == 0) = false := beq_eq_false_iff_ne.mpr c9
       have c9b1 : (t135 != 0) = true := bne_iff_ne.mpr c9
       have HC15 := Q0.mk H
       clear H
       have p133 : 0 ≤ (x12_1 : Int) := of_decide_eq_true ‹_›
       have q133 : x12_1 < (l0_6.length : Int) := of_decide_eq_true ‹_›
       obtain ⟨ad133, e133, hx133_0, hx133_1, hx133_2, hx133_3⟩ := at_T97 HR0_6.out x12_1 p133 q133
       cases e133
       replace hx133_0 := cup HB.out hx133_0
       replace hx133_1 := cup HB.out hx133_1
       replace hx133_2 := cup HB.out hx133_2
       replace hx133_3 := cup HB.out hx133_3
       replace p133 := eq_true p133
       replace q133 := eq_true q133
       go_upto_region 9 with (first | ((with_reducible refine QN (N := 7) rfl ?_); (try (refine Xx (by rfl) ?_; dsimp only)); refine QK ?hg (N := 7) ?hd (cs := #[.int .i64 0, .int .i64 0, .int .i64 0, .int .i64 0]) (t := 97) ?hr ?_; (case hd => rfl); (case hg => rfl); (case hr => first | (go_simp; done) | (go_simp; rfl)); intro gb134 hg w16 hbox hb; have BK134 := Q0.mk (hbox); have GW134 := Q0.mk ((by rw [hg]; exact (Qg (by repeat (first | exact HB.out | apply Q4 | apply Q2 | apply Q6 | refine Q1 ?_ GE132.out))) : w.heap.size ≤ gb134)); have GE134 := Q0.mk ((by rw [hg]; exact (Qg (by repeat (first | exact HB.out | apply Q4 | apply Q2 | apply Q6 | refine Q1 ?_ GE132.out))) : w.heap.size ≤ gb134)); have NB132_134 := Q0.mk ((by rw [hg]; exact Nat.ne_of_lt (Qy (g := gb132) (o := .cells #[.string a0_0, .int .i64 a0_1, .int .i64 a0_2, .slice A0_3 l0_3.length c0_3, .int .i64 a0_4, .bool a0_5, .slice (some ad133) l0_6.length c0_6, .slice A0_7 l0_7.length c0_7, .slice A0_8 l0_8.length c0_8] 89 (0, 0)) (by (with_reducible repeat (first | refine Q7 ?_ _ | refine Qa ?_ | refine Q8 ?_ _)); exact BK132.out)) : gb132 ≠ gb134)); have NB134_132 := Q0.mk ((by rw [hg]; exact Nat.ne_of_gt (Qy (g := gb132) (o := .cells #[.string a0_0, .int .i64 a0_1, .int .i64 a0_2, .slice A0_3 l0_3.length c0_3, .int .i64 a0_4, .bool a0_5, .slice (some ad133) l0_6.length c0_6, .slice A0_7 l0_7.length c0_7, .slice A0_8 l0_8.length c0_8] 89 (0, 0)) (by (with_reducible repeat (first | refine Q7 ?_ _ | refine Qa ?_ | refine Q8 ?_ _)); exact BK132.out)) : gb134 ≠ gb132)); replace BK132 := Q0.mk (Q9 (g := gb132) (o := .cells #[.string a0_0, .int .i64 a0_1, .int .i64 a0_2, .slice A0_3 l0_3.length c0_3, .int .i64 a0_4, .bool a0_5, .slice (some ad133) l0_6.length c0_6, .slice A0_7 l0_7.length c0_7, .slice A0_8 l0_8.length c0_8] 89 (0, 0)) (by (with_reducible repeat (first | refine Q7 ?_ _ | refine Qa ?_ | refine Q8 ?_ _)); exact BK132.out) hb); replace HB := Q0.mk (Qj (by repeat (first | exact HB.out | apply Q4 | apply Q2 | apply Q6 | refine Q1 ?_ GE132.out)) hb); clear hb hbox hg; have hnb17 := NB134_132.out; have hnc17 := NB132_134.out; obtain ⟨hcz18_0, hcz18_1, hcz18_2, hcz18_3⟩ := Y6 BK134.out; obtain ⟨hfz18_0, hfz18_1, hfz18_2, hfz18_3⟩ := frozen4 BK134.out) | ((with_reducible refine QD (t := 97) (p := 7) rfl ?_); refine Qw (t := 97) (p := 7) (v := ?vo_w19) (w1 := ((((w16.setCell ⟨gb134, 0, none⟩ (.int .i64 ((Xe l0_6 x12_1).f0))).setCell ⟨gb134, 1, none⟩ (.int .i64 ((Xe l0_6 x12_1).f1))).setCell ⟨gb134, 2, none⟩ (.int .i64 ((Xe l0_6 x12_1).f2))).setCell ⟨gb134, 3, none⟩ (.int .i64 ((Xe l0_6 x12_1).f3)))) ?hg ?ho ?hn ?hr ?_; (case ho => rfl); (case hg => rfl); (case hn => rfl); (case hr => first | (go_simp; done) | (go_simp; rfl)); intro w19 hw; replace BK132 := Q0.mk (far4 hw BK132.out NB132_134.out); replace BK134 := Q0.mk (put4 hw BK134.out); replace HB := Q0.mk (bel4 hw HB.out GE134.out); clear hw; obtain ⟨hcz20_0, hcz20_1, hcz20_2, hcz20_3⟩ := Y6 BK134.out; obtain ⟨hfz20_0, hfz20_1, hfz20_2, hfz20_3⟩ := frozen4 BK134.out) | ((with_reducible refine Qs (f := 88) rfl ?_); refine X2 (some 18) rfl rfl Try.func88 (by kernel_rfl) rfl #[.int .i64 ((Xe l0_6 x12_1).f1)] rfl (by (try simp only [List.map_toArray, List.map_cons, List.map_nil]); first | done | rfl | (simp only [List.length_drop, List.length_take]; rfl)) ?_; (with_reducible refine (Y4.calls ((Xe l0_6 x12_1).f1) t135 _ A8.out).mono ?_); rintro e w' ⟨rfl, ⟨nd, rfl⟩⟩; refine ⟨_, rfl, ?_⟩))
       (try simp only [Act.put, List.setIfInBounds_toArray, List.set_cons_zero, List.set_cons_succ])
       go_cut [26] (fun v26 wc => ∃ (kq : Nat) (x26_14 : Bool), v26 = .bool x26_14 ∧ Q0 (QL.j1 kq a1 t135 l0_6 (l0_6.length : Int) x12_1 x26_14 a0_0 a0_1 a0_2 l0_3 a0_4 a0_5 l0_6 l0_7 l0_8 ((Xe l0_6 x12_1).f0) ((Xe l0_6 x12_1).f1) ((Xe l0_6 x12_1).f2) ((Xe l0_6 x12_1).f3) = some r) ∧ Q0 (kq ≤ k1) ∧ Q0 (wc.heap[gb132]? = some (.cells #[.string a0_0, .int .i64 a0_1, .int .i64 a0_2, (.slice A0_3 l0_3.length c0_3), .int .i64 a0_4, .bool a0_5, (.slice (some ad133) l0_6.length c0_6), (.slice A0_7 l0_7.length c0_7), (.slice A0_8 l0_8.length c0_8)] 89 (0, 0))) ∧ Q0 (wc.heap[gb134]? = some (.cells #[.int .i64 ((Xe l0_6 x12_1).f0), .int .i64 ((Xe l0_6 x12_1).f1), .int .i64 ((Xe l0_6 x12_1).f2), .int .i64 ((Xe l0_6 x12_1).f3)] 97 (0, 0))) ∧ Q0 (Below w.heap.size w wc))
       case first =>
        have H := HC15.out
        clear HC15
        by_cases c21 : ((Xe l0_6 x12_1).f0) < x5_1
        ·rw [if_pos c21] at H
         have c21b0 : decide (((Xe l0_6 x12_1).f0) < x5_1) = true := decide_eq_true c21
         clear c21
         (first | rw [c21b0] | (simp only [QO, QP]; rw [c21b0]) | skip)
         have H' := Q0.mk H
         clear H
         have hnb22 := NB134_132.out
         have hnc22 := NB132_134.out
         obtain ⟨hcz23_0, hcz23_1, hcz23_2, hcz23_3⟩ := Y6 BK134.out
         go_wp2
         go_meet
         case rel => exact ⟨_, (true), (by first | rfl | (simp [*]; done)), H', ⟨by have := HK1.out; first | omega | exact Nat.le_refl _⟩, ⟨by (with_reducible repeat (first | refine Q7 ?_ _ | refine Qa ?_ | refine Q8 ?_ _)); exact BK132.out⟩, ⟨by (with_reducible repeat (first | refine Q7 ?_ _ | refine Qa ?_ | refine Q8 ?_ _)); exact BK134.out⟩, ⟨by repeat (first | exact HB.out | apply Q4 | apply Q2 | apply Q6 | refine Q1 ?_ GE132.out | refine Q1 ?_ GE134.out)⟩⟩
        ·rw [if_neg c21] at H
         have c21b0 : decide (((Xe l0_6 x12_1).f0) < x5_1) = false := decide_eq_false c21
         clear c21
         (first | rw [c21b0] | (simp only [QO, QP]; rw [c21b0]) | skip)
         have H' := Q0.mk H
         clear H
         have hnb24 := NB134_132.out
         have hnc24 := NB132_134.out
         obtain ⟨hcz25_0, hcz25_1, hcz25_2, hcz25_3⟩ := Y6 BK134.out
         obtain ⟨hcz26_0, hcz26_1, hcz26_2, hcz26_3, hcz26_4, hcz26_5, hcz26_6, hcz26_7, hcz26_8⟩ := Xg BK132.out
         go_wp2
         go_meet
         case rel => exact ⟨_, (decide (((Xe l0_6 x12_1).f0) > (wrap64 ((l0_3.length : Int) - t135)))), (by first | rfl | (simp [*]; done)), H', ⟨by have := HK1.out; first | omega | exact Nat.le_refl _⟩, ⟨by (with_reducible repeat (first | refine Q7 ?_ _ | refine Qa ?_ | refine Q8 ?_ _)); exact BK132.out⟩, ⟨by (with_reducible repeat (first | refine Q7 ?_ _ | refine Qa ?_ | refine Q8 ?_ _)); exact BK134.out⟩, ⟨by repeat (first | exact HB.out | apply Q4 | apply Q2 | apply Q6 | refine Q1 ?_ GE132.out | refine Q1 ?_ GE134.out)⟩⟩
       case rest =>
        clear HC15
        try clear c1
        try clear p1
        try clear q1
        try clear hx1
        try clear c2
        try clear p2
        try clear c5
        try clear c5b0
        try clear c6
        try clear c6b0
        try clear p6
        try clear c7
        try clear c7b0
        try clear c8
        try clear c9
        try clear c9b0
        try clear c9b1
        try clear c11
        try clear p13
        try clear q13
        try clear hx13
        try clear c17
        try clear c21
        try clear c21b0
        try clear c22
        try clear c24
        try clear hx133_0
        try clear hx133_1
        try clear hx133_2
        try clear hx133_3
        try clear p133
        try clear p2
        try clear q133
        obtain ⟨kq, x26_14, rfl, HA, HJ14, BK132, BK134, HB⟩ := hcut
        cases kq with
        | zero => exact absurd HA.out (by simp [QL.j1])
        | succ kj14 =>
         have H := HA.out
         clear HA
         simp only [QL.j1] at H
         by_cases c27 : x26_14 = true
         ·subst c27
          rw [if_pos rfl] at H
          obtain rfl := Option.some.inj H
          go_wp2
          go_ret
          exact ⟨by first | rfl | (simp [*]; done), by repeat (first | exact HB.out | apply Q4 | apply Q2 | apply Q6 | refine Q1 ?_ GE132.out | refine Q1 ?_ GE134.out)⟩
         ·replace c27 := Bool.eq_false_iff.mpr c27
          subst c27
          rw [if_neg (show ¬ (false = true) by decide)] at H
          replace H := Option.bind_eq_some_iff.mp H
          obtain ⟨t136, A280, H⟩ := H
          try dsimp only at H
          have A28 := Q0.mk A280
          clear A280
          by_cases c29 : t136 = true
          ·subst c29
           rw [if_pos rfl] at H
           replace H := Option.bind_eq_some_iff.mp H
           obtain ⟨t137, A300, H⟩ := H
           try dsimp only at H
           have A30 := Q0.mk A300
           clear A300
           by_cases c31 : t137 = true
           ·subst c31
            rw [if_pos rfl] at H
            by_cases c32 : ((Xe l0_6 x12_1).f1) = 5
            ·rw [if_pos c32] at H
             have c32b0 : (((Xe l0_6 x12_1).f1) == 5) = true := beq_iff_eq.mpr c32
             have c32b1 : (((Xe l0_6 x12_1).f1) != 5) = false := bne_eq_false_iff_eq.mpr c32
             clear c32
             by_cases c33 : ((Xe l0_6 x12_1).f3) = 0
             ·rw [if_pos c33] at H
              have c33b0 : (((Xe l0_6 x12_1).f3) == 0) = true := beq_iff_eq.mpr c33
              have c33b1 : (((Xe l0_6 x12_1).f3) != 0) = false := bne_eq_false_iff_eq.mpr c33
              clear c33
              have H' := Q0.mk H
              clear H
              have hnb34 := NB134_132.out
              have hnc34 := NB132_134.out
              obtain ⟨hcz35_0, hcz35_1, hcz35_2, hcz35_3⟩ := Y6 BK134.out
              go_wp2_with (first | ((with_reducible refine Qs (f := 68) rfl ?_); refine X2 (some 46) rfl rfl Try.func68 (by kernel_rfl) rfl #[.int .i64 ((Xe l0_6 x12_1).f2), .int .i64 0, .int .i64 (wrap64 (a1 - 1))] rfl (by (try simp only [List.map_toArray, List.map_cons, List.map_nil]); first | done | rfl | (simp only [List.length_drop, List.length_take]; rfl)) ?_; (with_reducible refine (Qi.calls ((Xe l0_6 x12_1).f2) 0 (wrap64 (a1 - 1)) true _ A28.out).mono ?_); rintro e w' ⟨rfl, ⟨nd, rfl⟩⟩; refine ⟨_, rfl, ?_⟩) | (go_at_call 68; (with_reducible refine (Qi.calls ((Xe l0_6 x12_1).f3) (-1048576) 1048576 true _ A30.out).mono ?_); rintro e w' ⟨rfl, ⟨nd, rfl⟩⟩))
              go_roundg kj14
              case measure => have := HK1.out; have := HJ14.out; omega
              case rel => exact ⟨(wrap64 (((Xe l0_6 x12_1).f0) + t135)), (wrap64 (x12_1 + 1)), (by first | rfl | (simp [*]; done)), (by first | rfl | (simp [*]; done)), H', ⟨by have := HK1.out; have := HJ14.out; omega⟩, ⟨by (with_reducible repeat (first | refine Q7 ?_ _ | refine Qa ?_ | refine Q8 ?_ _)); exact BK132.out⟩, ⟨by repeat (first | exact HB.out | apply Q4 | apply Q2 | apply Q6 | refine Q1 ?_ GE132.out | refine Q1 ?_ GE134.out)⟩⟩
             ·rw [if_neg c33] at H
              have c33b0 : (((Xe l0_6 x12_1).f3) == 0) = false := beq_eq_false_iff_ne.mpr c33
              have c33b1 : (((Xe l0_6 x12_1).f3) != 0) = true := bne_iff_ne.mpr c33
              obtain rfl := Option.some.inj H
              have hnb36 := NB134_132.out
              have hnc36 := NB132_134.out
              obtain ⟨hcz37_0, hcz37_1, hcz37_2, hcz37_3⟩ := Y6 BK134.out
              go_wp2_with (first | ((with_reducible refine Qs (f := 68) rfl ?_); refine X2 (some 46) rfl rfl Try.func68 (by kernel_rfl) rfl #[.int .i64 ((Xe l0_6 x12_1).f2), .int .i64 0, .int .i64 (wrap64 (a1 - 1))] rfl (by (try simp only [List.map_toArray, List.map_cons, List.map_nil]); first | done | rfl | (simp only [List.length_drop, List.length_take]; rfl)) ?_; (with_reducible refine (Qi.calls ((Xe l0_6 x12_1).f2) 0 (wrap64 (a1 - 1)) true _ A28.out).mono ?_); rintro e w' ⟨rfl, ⟨nd, rfl⟩⟩; refine ⟨_, rfl, ?_⟩) | (go_at_call 68; (with_reducible refine (Qi.calls ((Xe l0_6 x12_1).f3) (-1048576) 1048576 true _ A30.out).mono ?_); rintro e w' ⟨rfl, ⟨nd, rfl⟩⟩))
              go_ret
              exact ⟨by first | rfl | (simp [*]; done), by repeat (first | exact HB.out | apply Q4 | apply Q2 | apply Q6 | refine Q1 ?_ GE132.out | refine Q1 ?_ GE134.out)⟩
            ·rw [if_neg c32] at H
             have c32b0 : (((Xe l0_6 x12_1).f1) == 5) = false := beq_eq_false_iff_ne.mpr c32
             have c32b1 : (((Xe l0_6 x12_1).f1) != 5) = true := bne_iff_ne.mpr c32
             have H' := Q0.mk H
             clear H
             have hnb38 := NB134_132.out
             have hnc38 := NB132_134.out
             obtain ⟨hcz39_0, hcz39_1, hcz39_2, hcz39_3⟩ := Y6 BK134.out
             go_wp2_with (first | ((with_reducible refine Qs (f := 68) rfl ?_); refine X2 (some 46) rfl rfl Try.func68 (by kernel_rfl) rfl #[.int .i64 ((Xe l0_6 x12_1).f2), .int .i64 0, .int .i64 (wrap64 (a1 - 1))] rfl (by (try simp only [List.map_toArray, List.map_cons, List.map_nil]); first | done | rfl | (simp only [List.length_drop, List.length_take]; rfl)) ?_; (with_reducible refine (Qi.calls ((Xe l0_6 x12_1).f2) 0 (wrap64 (a1 - 1)) true _ A28.out).mono ?_); rintro e w' ⟨rfl, ⟨nd, rfl⟩⟩; refine ⟨_, rfl, ?_⟩) | (go_at_call 68; (with_reducible refine (Qi.calls ((Xe l0_6 x12_1).f3) (-1048576) 1048576 true _ A30.out).mono ?_); rintro e w' ⟨rfl, ⟨nd, rfl⟩⟩))
             go_roundg kj14
             case measure => have := HK1.out; have := HJ14.out; omega
             case rel => exact ⟨(wrap64 (((Xe l0_6 x12_1).f0) + t135)), (wrap64 (x12_1 + 1)), (by first | rfl | (simp [*]; done)), (by first | rfl | (simp [*]; done)), H', ⟨by have := HK1.out; have := HJ14.out; omega⟩, ⟨by (with_reducible repeat (first | refine Q7 ?_ _ | refine Qa ?_ | refine Q8 ?_ _)); exact BK132.out⟩, ⟨by repeat (first | exact HB.out | apply Q4 | apply Q2 | apply Q6 | refine Q1 ?_ GE132.out | refine Q1 ?_ GE134.out)⟩⟩
           ·replace c31 := Bool.eq_false_iff.mpr c31
            subst c31
            rw [if_neg (show ¬ (false = true) by decide)] at H
            obtain rfl := Option.some.inj H
            have hnb40 := NB134_132.out
            have hnc40 := NB132_134.out
            obtain ⟨hcz41_0, hcz41_1, hcz41_2, hcz41_3⟩ := Y6 BK134.out
            go_wp2_with (first | ((with_reducible refine Qs (f := 68) rfl ?_); refine X2 (some 46) rfl rfl Try.func68 (by kernel_rfl) rfl #[.int .i64 ((Xe l0_6 x12_1).f2), .int .i64 0, .int .i64 (wrap64 (a1 - 1))] rfl (by (try simp only [List.map_toArray, List.map_cons, List.map_nil]); first | done | rfl | (simp only [List.length_drop, List.length_take]; rfl)) ?_; (with_reducible refine (Qi.calls ((Xe l0_6 x12_1).f2) 0 (wrap64 (a1 - 1)) true _ A28.out).mono ?_); rintro e w' ⟨rfl, ⟨nd, rfl⟩⟩; refine ⟨_, rfl, ?_⟩) | (go_at_call 68; (with_reducible refine (Qi.calls ((Xe l0_6 x12_1).f3) (-1048576) 1048576 false _ A30.out).mono ?_); rintro e w' ⟨rfl, ⟨nd, rfl⟩⟩))
            go_ret
            exact ⟨by first | rfl | (simp [*]; done), by repeat (first | exact HB.out | apply Q4 | apply Q2 | apply Q6 | refine Q1 ?_ GE132.out | refine Q1 ?_ GE134.out)⟩
          ·replace c29 := Bool.eq_false_iff.mpr c29
           subst c29
           rw [if_neg (show ¬ (false = true) by decide)] at H
           obtain rfl := Option.some.inj H
           have hnb42 := NB134_132.out
           have hnc42 := NB132_134.out
           obtain ⟨hcz43_0, hcz43_1, hcz43_2, hcz43_3⟩ := Y6 BK134.out
           go_wp2_with (first | ((with_reducible refine Qs (f := 68) rfl ?_); refine X2 (some 46) rfl rfl Try.func68 (by kernel_rfl) rfl #[.int .i64 ((Xe l0_6 x12_1).f2), .int .i64 0, .int .i64 (wrap64 (a1 - 1))] rfl (by (try simp only [List.map_toArray, List.map_cons, List.map_nil]); first | done | rfl | (simp only [List.length_drop, List.length_take]; rfl)) ?_; (with_reducible refine (Qi.calls ((Xe l0_6 x12_1).f2) 0 (wrap64 (a1 - 1)) false _ A28.out).mono ?_); rintro e w' ⟨rfl, ⟨nd, rfl⟩⟩; refine ⟨_, rfl, ?_⟩))
           go_ret
           exact ⟨by first | rfl | (simp [*]; done), by repeat (first | exact HB.out | apply Q4 | apply Q2 | apply Q6 | refine Q1 ?_ GE132.out | refine Q1 ?_ GE134.out)⟩
     ·rw [if_neg c7] at H
      exact absurd H (by simp)
    ·rw [if_neg c6] at H
     exact absurd H (by simp)
   ·rw [if_neg c5] at H
    have c5b0 : decide (x12_1 < (l0_6.length : Int)) = false := decide_eq_false c5
    clear c5
    obtain rfl := Option.some.inj H
    go_wp2
    go_ret
    exact ⟨by first | rfl | (simp [*]; done), by repeat (first | exact HB.out | apply Q4 | apply Q2 | apply Q6 | refine Q1 ?_ GE132.out)⟩
end Go.Proofs.Ytakabkjhnncbhaa.PX
namespace Go.Proofs.Ytakabkjhnncbhaa.PX
open Go.RowKit Go.Proofs.YtakabkjhnncbhaaW.PrintWords Go.Proofs.YtakabkjhnncbhaaW.PrintLast Go.Proofs.YtakabkjhnncbhaaW.PrintMore
attribute [local go_sem] Xk Xi Xs Xr X5 X4 Xj Xh   -- for this text's walks alone
set_option linter.unusedVariables false
set_option linter.unusedSimpArgs false
mutual
def Qv.l0 : Nat → Int → Int → List (S126) → Int → Int → ByteArray → Int → Int → List Int → Int → Bool → List (S97) → List (S126) → List (S128) → Option (Int)
 | 0, _, _, _, _, _, _, _, _, _, _, _, _, _, _ => none
 | k + 1, x1, x5, x11, x12, x13, x139000, x139001, x139002, x139003, x139004, x139005, x139006, x139007, x139008 => if x13 < x12 then (if 0 ≤ x13 then (if x13 < (x11.length : Int) then (if ((Xm x11 x13).f0) ≤ x5 then (Qv.j1 k x1 x11 x12 x13 true x139000 x139001 x139002 x139003 x139004 x139005 x139006 x139007 x139008 ((Xm x11 x13).f0) ((Xm x11 x13).f1) ((Xm x11 x13).f2)) else (Qv.j1 k x1 x11 x12 x13 (decide (((Xm x11 x13).f0) ≥ x139004)) x139000 x139001 x139002 x139003 x139004 x139005 x139006 x139007 x139008 ((Xm x11 x13).f0) ((Xm x11 x13).f1) ((Xm x11 x13).f2))) else (none)) else (none)) else (Qv.l1 k (-1) x139008 (x139008.length : Int) 0 x139000 x139001 x139002 x139003 x139004 x139005 x139006 x139007 x139008)
def Qv.j1 : Nat → Int → List (S126) → Int → Int → Bool → ByteArray → Int → Int → List Int → Int → Bool → List (S97) → List (S126) → List (S128) → Int → Int → Int → Option (Int)
 | 0, _, _, _, _, _, _, _, _, _, _, _, _, _, _, _, _, _ => none
 | k + 1, x1, x11, x12, x13, x17, x139000, x139001, x139002, x139003, x139004, x139005, x139006, x139007, x139008, x141000, x141001, x141002 => if x17 = true then (some 5) else ((Qi.f x141002 0 1000000).bind fun t141 => (if t141 = true then ((Qi.f x141001 0 (mx 0 (wrap64 (x1 - 1)))).bind fun t142 => (if t142 = true then (if x141002 > 0 then (if x1 = 0 then (some 3) else (Qv.l0 k x1 x141000 x11 x12 (wrap64 (x13 + 1)) x139000 x139001 x139002 x139003 x139004 x139005 x139006 x139007 x139008)) else (Qv.l0 k x1 x141000 x11 x12 (wrap64 (x13 + 1)) x139000 x139001 x139002 x139003 x139004 x139005 x139006 x139007 x139008)) else (some 3))) else (some 3)))
def Qv.l1 : Nat → Int → List (S128) → Int → Int → ByteArray → Int → Int → List Int → Int → Bool → List (S97) → List (S126) → List (S128) → Option (Int)
 | 0, _, _, _, _, _, _, _, _, _, _, _, _, _ => none
 | k + 1, x5, x56, x57, x58, x139000, x139001, x139002, x139003, x139004, x139005, x139006, x139007, x139008 => if x58 < x57 then (if 0 ≤ x58 then (if x58 < (x56.length : Int) then (if ((QV x56 x58).f0) ≤ x5 then (Qv.j3 k x56 x57 x58 true x139000 x139001 x139002 x139003 x139004 x139005 x139006 x139007 x139008 ((QV x56 x58).f0) ((QV x56 x58).f1) ((QV x56 x58).f2) ((QV x56 x58).f3)) else (Qv.j3 k x56 x57 x58 (decide (((QV x56 x58).f0) ≥ x139004)) x139000 x139001 x139002 x139003 x139004 x139005 x139006 x139007 x139008 ((QV x56 x58).f0) ((QV x56 x58).f1) ((QV x56 x58).f2) ((QV x56 x58).f3))) else (none)) else (none)) else (some 0)
def Qv.j3 : Nat → List (S128) → Int → Int → Bool → ByteArray → Int → Int → List Int → Int → Bool → List (S97) → List (S126) → List (S128) → Int → Int → Int → Int → Option (Int)
 | 0, _, _, _, _, _, _, _, _, _, _, _, _, _, _, _, _, _ => none
 | k + 1, x56, x57, x58, x62, x139000, x139001, x139002, x139003, x139004, x139005, x139006, x139007, x139008, x145000, x145001, x145002, x145003 => if x62 = true then (some 5) else ((Qi.f x145001 (-1) 7).bind fun t145 => (if t145 = true then ((Qi.f x145002 (-1048576) 1048576).bind fun t146 => (if t146 = true then ((Qi.f x145003 (-1048576) 0).bind fun t147 => (if t147 = true then (if x145001 < 0 then (if x145002 = 0 then (if x145003 = 0 then (Qv.l1 k x145000 x56 x57 (wrap64 (x58 + 1)) x139000 x139001 x139002 x139003 x139004 x139005 x139006 x139007 x139008) else (some 3)) else (some 3)) else (Qv.l1 k x145000 x56 x57 (wrap64 (x58 + 1)) x139000 x139001 x139002 x139003 x139004 x139005 x139006 x139007 x139008)) else (some 3))) else (some 3))) else (some 3)))
end
def Qv.f (k : Nat) (a0_0 : ByteArray) (a0_1 : Int) (a0_2 : Int) (l0_3 : List Int) (a0_4 : Int) (a0_5 : Bool) (l0_6 : List (S97)) (l0_7 : List (S126)) (l0_8 : List (S128)) (a1 : Int) : Option (Int) := Qv.l0 k a1 (-1) l0_7 (l0_7.length : Int) 0 a0_0 a0_1 a0_2 l0_3 a0_4 a0_5 l0_6 l0_7 l0_8
theorem Qv.Xn : ∀ k, (∀ y0 y1 y2 y3 y4 y5 y6 y7 y8 y9 y10 y11 y12 y13, LeO (Qv.l0 k y0 y1 y2 y3 y4 y5 y6 y7 y8 y9 y10 y11 y12 y13) (Qv.l0 (k + 1) y0 y1 y2 y3 y4 y5 y6 y7 y8 y9 y10 y11 y12 y13)) ∧ (∀ y0 y1 y2 y3 y4 y5 y6 y7 y8 y9 y10 y11 y12 y13 y14 y15 y16, LeO (Qv.j1 k y0 y1 y2 y3 y4 y5 y6 y7 y8 y9 y10 y11 y12 y13 y14 y15 y16) (Qv.j1 (k + 1) y0 y1 y2 y3 y4 y5 y6 y7 y8 y9 y10 y11 y12 y13 y14 y15 y16)) ∧ (∀ y0 y1 y2 y3 y4 y5 y6 y7 y8 y9 y10 y11 y12, LeO (Qv.l1 k y0 y1 y2 y3 y4 y5 y6 y7 y8 y9 y10 y11 y12) (Qv.l1 (k + 1) y0 y1 y2 y3 y4 y5 y6 y7 y8 y9 y10 y11 y12)) ∧ (∀ y0 y1 y2 y3 y4 y5 y6 y7 y8 y9 y10 y11 y12 y13 y14 y15 y16, LeO (Qv.j3 k y0 y1 y2 y3 y4 y5 y6 y7 y8 y9 y10 y11 y12 y13 y14 y15 y16) (Qv.j3 (k + 1) y0 y1 y2 y3 y4 y5 y6 y7 y8 y9 y10 y11 y12 y13 y14 y15 y16))
 | 0 => ⟨fun _ _ _ _ _ _ _ _ _ _ _ _ _ _ r h => by simp [Qv.l0] at h, fun _ _ _ _ _ _ _ _ _ _ _ _ _ _ _ _ _ r h => by simp [Qv.j1] at h, fun _ _ _ _ _ _ _ _ _ _ _ _ _ r h => by simp [Qv.l1] at h, fun _ _ _ _ _ _ _ _ _ _ _ _ _ _ _ _ _ r h => by simp [Qv.j3] at h⟩
 | k + 1 => by
  obtain ⟨ih0, ih1, ih2, ih3⟩ := Qv.Xn k
  refine ⟨?_, ?_, ?_, ?_⟩
  ·intro y0 y1 y2 y3 y4 y5 y6 y7 y8 y9 y10 y11 y12 y13
   unfold Qv.l0
   repeat' first
   | (with_reducible exact ih0 _ _ _ _ _ _ _ _ _ _ _ _ _ _)
   | (with_reducible exact ih1 _ _ _ _ _ _ _ _ _ _ _ _ _ _ _ _ _)
   | (with_reducible exact ih2 _ _ _ _ _ _ _ _ _ _ _ _ _)
   | (with_reducible exact ih3 _ _ _ _ _ _ _ _ _ _ _ _ _ _ _ _ _)
   | (with_reducible exact LeO.refl _)
   | (with_reducible exact LeO.none _)
   | (with_reducible refine LeO.ite ?_ ?_)
   | (with_reducible refine LeO.bind ?_ (fun _ => ?_))
  ·intro y0 y1 y2 y3 y4 y5 y6 y7 y8 y9 y10 y11 y12 y13 y14 y15 y16
   unfold Qv.j1
   repeat' first
   | (with_reducible exact ih0 _ _ _ _ _ _ _ _ _ _ _ _ _ _)
   | (with_reducible exact ih1 _ _ _ _ _ _ _ _ _ _ _ _ _ _ _ _ _)
   | (with_reducible exact ih2 _ _ _ _ _ _ _ _ _ _ _ _ _)
   | (with_reducible exact ih3 _ _ _ _ _ _ _ _ _ _ _ _ _ _ _ _ _)
   | (with_reducible exact LeO.refl _)
   | (with_reducible exact LeO.none _)
   | (with_reducible refine LeO.ite ?_ ?_)
   | (with_reducible refine LeO.bind ?_ (fun _ => ?_))
  ·intro y0 y1 y2 y3 y4 y5 y6 y7 y8 y9 y10 y11 y12
   unfold Qv.l1
   repeat' first
   | (with_reducible exact ih0 _ _ _ _ _ _ _ _ _ _ _ _ _ _)
   | (with_reducible exact ih1 _ _ _ _ _ _ _ _ _ _ _ _ _ _ _ _ _)
   | (with_reducible exact ih2 _ _ _ _ _ _ _ _ _ _ _ _ _)
   | (with_reducible exact ih3 _ _ _ _ _ _ _ _ _ _ _ _ _ _ _ _ _)
   | (with_reducible exact LeO.refl _)
   | (with_reducible exact LeO.none _)
   | (with_reducible refine LeO.ite ?_ ?_)
   | (with_reducible refine LeO.bind ?_ (fun _ => ?_))
  ·intro y0 y1 y2 y3 y4 y5 y6 y7 y8 y9 y10 y11 y12 y13 y14 y15 y16
   unfold Qv.j3
   repeat' first
   | (with_reducible exact ih0 _ _ _ _ _ _ _ _ _ _ _ _ _ _)
   | (with_reducible exact ih1 _ _ _ _ _ _ _ _ _ _ _ _ _ _ _ _ _)
   | (with_reducible exact ih2 _ _ _ _ _ _ _ _ _ _ _ _ _)
   | (with_reducible exact ih3 _ _ _ _ _ _ _ _ _ _ _ _ _ _ _ _ _)
   | (with_reducible exact LeO.refl _)
   | (with_reducible exact LeO.none _)
   | (with_reducible refine LeO.ite ?_ ?_)
   | (with_reducible refine LeO.bind ?_ (fun _ => ?_))
theorem Qv.mono : ∀ a0 a1 a2 a3 a4 a5 a6 a7 a8 a9 k, LeO (Qv.f k a0 a1 a2 a3 a4 a5 a6 a7 a8 a9) (Qv.f (k + 1) a0 a1 a2 a3 a4 a5 a6 a7 a8 a9) := by
 intro a0 a1 a2 a3 a4 a5 a6 a7 a8 a9 k
 obtain ⟨ih0, ih1, ih2, ih3⟩ := Qv.Xn k
 unfold Qv.f
 repeat' first
   | (with_reducible exact ih0 _ _ _ _ _ _ _ _ _ _ _ _ _ _)
   | (with_reducible exact ih1 _ _ _ _ _ _ _ _ _ _ _ _ _ _ _ _ _)
   | (with_reducible exact ih2 _ _ _ _ _ _ _ _ _ _ _ _ _)
   | (with_reducible exact ih3 _ _ _ _ _ _ _ _ _ _ _ _ _ _ _ _ _)
   | (with_reducible exact LeO.refl _)
   | (with_reducible exact LeO.none _)
   | (with_reducible refine LeO.ite ?_ ?_)
   | (with_reducible refine LeO.bind ?_ (fun _ => ?_))
set_option maxHeartbeats 8000000 in
set_option maxRecDepth 100000 in
theorem Qv.calls (k : Nat) (a0_0 : ByteArray) (a0_1 : Int) (a0_2 : Int) (A0_3 : Option Addr) (c0_3 : Nat) (l0_3 : List Int) (a0_4 : Int) (a0_5 : Bool) (A0_6 : Option Addr) (c0_6 : Nat) (l0_6 : List (S97)) (A0_7 : Option Addr) (c0_7 : Nat) (l0_7 : List (S126)) (A0_8 : Option Addr) (c0_8 : Nat) (l0_8 : List (S128)) (a1 : Int) (r : Int) (w : World) (hr0_3 : Kd.C (Kd.int .u8) w A0_3 l0_3.length l0_3) (hc0_3 : l0_3.length ≤ c0_3) (hr0_6 : Kd.C k97 w A0_6 l0_6.length l0_6) (hc0_6 : l0_6.length ≤ c0_6) (hr0_7 : Kd.C k126 w A0_7 l0_7.length l0_7) (hc0_7 : l0_7.length ≤ c0_7) (hr0_8 : Kd.C k128 w A0_8 l0_8.length l0_8) (hc0_8 : l0_8.length ≤ c0_8) (h : Qv.f k a0_0 a0_1 a0_2 l0_3 a0_4 a0_5 l0_6 l0_7 l0_8 a1 = some r) :
  Calls Try.prog 70 #[.agg #[.string a0_0, .int .i64 a0_1, .int .i64 a0_2, .slice A0_3 l0_3.length c0_3, .int .i64 a0_4, .bool a0_5, .slice A0_6 l0_6.length c0_6, .slice A0_7 l0_7.length c0_7, .slice A0_8 l0_8.length c0_8], .int .i64 a1] w fun e w' => e = .returned (.int .i64 r) ∧ Below w.heap.size w w' := by
 have hu89 := Try.underlying89
 have hu126 := Try.underlying126
 have hu128 := Try.underlying128
 have HR0_3 := Q0.mk hr0_3
 have HC0_3 := Q0.mk hc0_3
 clear hr0_3 hc0_3
 have HR0_6 := Q0.mk hr0_6
 have HC0_6 := Q0.mk hc0_6
 clear hr0_6 hc0_6
 have HR0_7 := Q0.mk hr0_7
 have HC0_7 := Q0.mk hc0_7
 clear hr0_7 hc0_7
 have HR0_8 := Q0.mk hr0_8
 have HC0_8 := Q0.mk hc0_8
 clear hr0_8 hc0_8
 have HB := Q0.mk (Below.refl w.heap.size w)
 have H := h
 clear h
 unfold Qv.f at H
 try dsimp only at H
 have H' := Q0.mk H
 clear H
 go_enter Try.func70, Try.ntmps70
 go_wp2_with (first | ((with_reducible refine QN (N := 2) rfl ?_); (try (refine Xx (by rfl) ?_; dsimp only)); refine QK ?hg (N := 2) ?hd (cs := #[.string a0_0, .int .i64 a0_1, .int .i64 a0_2, .slice A0_3 l0_3.length c0_3, .int .i64 a0_4, .bool a0_5, .slice A0_6 l0_6.length c0_6, .slice A0_7 l0_7.length c0_7, .slice A0_8 l0_8.length c0_8]) (t := 89) ?hr ?_; (case hd => rfl); (case hg => rfl); (case hr => first | (go_simp; done) | (go_simp; rfl)); intro gb138 hg w3 hbox hb; have BK138 := Q0.mk (hbox); have GW138 := Q0.mk ((by rw [hg]; exact (Qg HB.out) : w.heap.size ≤ gb138)); have GE138 := Q0.mk ((by rw [hg]; exact (Qg HB.out) : w.heap.size ≤ gb138)); replace HB := Q0.mk (Qj HB.out hb); clear hb hbox hg; obtain ⟨hcz4_0, hcz4_1, hcz4_2, hcz4_3, hcz4_4, hcz4_5, hcz4_6, hcz4_7, hcz4_8⟩ := Xg BK138.out; obtain ⟨hfz4_0, hfz4_1, hfz4_2, hfz4_3, hfz4_4, hfz4_5, hfz4_6, hfz4_7, hfz4_8⟩ := Ys BK138.out))
 go_loopg [5, 13] k (fun kq v5 v13 w' => ∃ (x5_1 : Int) (x13_1 : Int), v5 = .int .i64 x5_1 ∧ v13 = .int .i64 x13_1 ∧ Q0 (Qv.l0 kq a1 x5_1 l0_7 (l0_7.length : Int) x13_1 a0_0 a0_1 a0_2 l0_3 a0_4 a0_5 l0_6 l0_7 l0_8 = some r) ∧ Q0 (kq ≤ k) ∧ Q0 (w'.heap[gb138]? = some (.cells #[.string a0_0, .int .i64 a0_1, .int .i64 a0_2, (.slice A0_3 l0_3.length c0_3), .int .i64 a0_4, .bool a0_5, (.slice A0_6 l0_6.length c0_6), (.slice A0_7 l0_7.length c0_7), (.slice A0_8 l0_8.length c0_8)] 89 (0, 0))) ∧ Q0 (Below w.heap.size w w'))
 case atStart => exact ⟨((-1)), (0), (by first | rfl | (simp [*]; done)), (by first | rfl | (simp [*]; done)), H', ⟨Nat.le_refl _⟩, ⟨by (with_reducible repeat (first | refine Q7 ?_ _ | refine Qa ?_ | refine Q8 ?_ _)); exact BK138.out⟩, ⟨by repeat (first | exact HB.out | apply Q4 | apply Q2 | apply Q6 | refine Q1 ?_ GE138.out)⟩⟩
 case round =>
  clear H'
  try clear p2
  obtain ⟨x5_1, x13_1, rfl, rfl, HA, HK1, BK138, HB⟩ := hrel
  cases gk with
  | zero => exact absurd HA.out (by simp [Qv.l0])
  | succ k1 =>
   have H := HA.out
   clear HA
   simp only [Qv.l0] at H
   by_cases c5 : x13_1 < (l0_7.length : Int)
   ·rw [if_pos c5] at H
    have c5b0 : decide (x13_1 < (l0_7.length : Int)) = true := decide_eq_true c5
    clear c5
    by_cases c6 : 0 ≤ x13_1
    ·rw [if_pos c6] at H
     have c6b0 : decide (0 ≤ x13_1) = true := decide_eq_true c6
     clear c6
     by_cases c7 : x13_1 < (l0_7.length : Int)
     ·rw [if_pos c7] at H
      have c7b0 : decide (x13_1 < (l0_7.length : Int)) = true := decide_eq_true c7
      clear c7
      have HC8 := Q0.mk H
      clear H
      have p139 : 0 ≤ (x13_1 : Int) := of_decide_eq_true ‹_›
      have q139 : x13_1 < (l0_7.length : Int) := of_decide_eq_true ‹_›
      obtain ⟨ad139, e139, hx139_0, hx139_1, hx139_2⟩ := at_T126 HR0_7.out x13_1 p139 q139
      cases e139
      replace hx139_0 := cup HB.out hx139_0
      replace hx139_1 := cup HB.out hx139_1
      replace hx139_2 := cup HB.out hx139_2
      replace p139 := eq_true p139
      replace q139 := eq_true q139
      go_upto_region 5 with (first | ((with_reducible refine QN (N := 7) rfl ?_); (try (refine Xx (by rfl) ?_; dsimp only)); refine QK ?hg (N := 7) ?hd (cs := #[.int .i64 0, .int .i64 0, .int .i64 0]) (t := 126) ?hr ?_; (case hd => rfl); (case hg => rfl); (case hr => first | (go_simp; done) | (go_simp; rfl)); intro gb140 hg w9 hbox hb; have BK140 := Q0.mk (hbox); have GW140 := Q0.mk ((by rw [hg]; exact (Qg HB.out) : w.heap.size ≤ gb140)); have GE140 := Q0.mk ((by rw [hg]; exact (Qg HB.out) : w.heap.size ≤ gb140)); have NB138_140 := Q0.mk ((by rw [hg]; exact Nat.ne_of_lt (Qy BK138.out) : gb138 ≠ gb140)); have NB140_138 := Q0.mk ((by rw [hg]; exact Nat.ne_of_gt (Qy BK138.out) : gb140 ≠ gb138)); replace BK138 := Q0.mk (Q9 BK138.out hb); replace HB := Q0.mk (Qj HB.out hb); clear hb hbox hg; have hnb10 := NB140_138.out; have hnc10 := NB138_140.out; obtain ⟨hcz11_0, hcz11_1, hcz11_2⟩ := cells3 BK140.out; obtain ⟨hfz11_0, hfz11_1, hfz11_2⟩ := frozen3 BK140.out) | ((with_reducible refine QD (t := 126) (p := 7) rfl ?_); refine Qw (t := 126) (p := 7) (v := ?vo_w12) (w1 := (((w9.setCell ⟨gb140, 0, none⟩ (.int .i64 ((Xm l0_7 x13_1).f0))).setCell ⟨gb140, 1, none⟩ (.int .i64 ((Xm l0_7 x13_1).f1))).setCell ⟨gb140, 2, none⟩ (.int .i64 ((Xm l0_7 x13_1).f2)))) ?hg ?ho ?hn ?hr ?_; (case ho => rfl); (case hg => rfl); (case hn => rfl); (case hr => first | (go_simp; done) | (go_simp; rfl)); intro w12 hw; replace BK138 := Q0.mk (far3 hw BK138.out NB138_140.out); replace BK140 := Q0.mk (put3 hw BK140.out); replace HB := Q0.mk (bel3 hw HB.out GE140.out); clear hw))
      (try simp only [Act.put, List.setIfInBounds_toArray, List.set_cons_zero, List.set_cons_succ])
      go_cut [17] (fun v17 wc => ∃ (kq : Nat) (x17_7 : Bool), v17 = .bool x17_7 ∧ Q0 (Qv.j1 kq a1 l0_7 (l0_7.length : Int) x13_1 x17_7 a0_0 a0_1 a0_2 l0_3 a0_4 a0_5 l0_6 l0_7 l0_8 ((Xm l0_7 x13_1).f0) ((Xm l0_7 x13_1).f1) ((Xm l0_7 x13_1).f2) = some r) ∧ Q0 (kq ≤ k1) ∧ Q0 (wc.heap[gb138]? = some (.cells #[.string a0_0, .int .i64 a0_1, .int .i64 a0_2, (.slice A0_3 l0_3.length c0_3), .int .i64 a0_4, .bool a0_5, (.slice A0_6 l0_6.length c0_6), (.slice (some ad139) l0_7.length c0_7), (.slice A0_8 l0_8.length c0_8)] 89 (0, 0))) ∧ Q0 (wc.heap[gb140]? = some (.cells #[.int .i64 ((Xm l0_7 x13_1).f0), .int .i64 ((Xm l0_7 x13_1).f1), .int .i64 ((Xm l0_7 x13_1).f2)] 126 (0, 0))) ∧ Q0 (Below w.heap.size w wc))
      case first =>
       have H := HC8.out
       clear HC8
       by_cases c13 : ((Xm l0_7 x13_1).f0) ≤ x5_1
       ·rw [if_pos c13] at H
        have c13b0 : decide (((Xm l0_7 x13_1).f0) ≤ x5_1) = true := decide_eq_true c13
        clear c13
        (first | rw [c13b0] | (simp only [QO, QP]; rw [c13b0]) | skip)
        have H' := Q0.mk H
        clear H
        have hnb14 := NB140_138.out
        have hnc14 := NB138_140.out
        obtain ⟨hcz15_0, hcz15_1, hcz15_2⟩ := cells3 BK140.out
        go_wp2
        go_meet
        case rel => exact ⟨_, (true), (by first | rfl | (simp [*]; done)), H', ⟨by have := HK1.out; first | omega | exact Nat.le_refl _⟩, ⟨by (with_reducible repeat (first | refine Q7 ?_ _ | refine Qa ?_ | refine Q8 ?_ _)); exact BK138.out⟩, ⟨by (with_reducible repeat (first | refine Q7 ?_ _ | refine Qa ?_ | refine Q8 ?_ _)); exact BK140.out⟩, ⟨by repeat (first | exact HB.out | apply Q4 | apply Q2 | apply Q6 | refine Q1 ?_ GE138.out | refine Q1 ?_ GE140.out)⟩⟩
       ·rw [if_neg c13] at H
        have c13b0 : decide (((Xm l0_7 x13_1).f0) ≤ x5_1) = false := decide_eq_false c13
        clear c13
        (first | rw [c13b0] | (simp only [QO, QP]; rw [c13b0]) | skip)
        have H' := Q0.mk H
        clear H
        have hnb16 := NB140_138.out
        have hnc16 := NB138_140.out
        obtain ⟨hcz17_0, hcz17_1, hcz17_2⟩ := cells3 BK140.out
        obtain ⟨hcz18_0, hcz18_1, hcz18_2, hcz18_3, hcz18_4, hcz18_5, hcz18_6, hcz18_7, hcz18_8⟩ := Xg BK138.out
        go_wp2
        go_meet
        case rel => exact ⟨_, (decide (((Xm l0_7 x13_1).f0) ≥ a0_4)), (by first | rfl | (simp [*]; done)), H', ⟨by have := HK1.out; first | omega | exact Nat.le_refl _⟩, ⟨by (with_reducible repeat (first | refine Q7 ?_ _ | refine Qa ?_ | refine Q8 ?_ _)); exact BK138.out⟩, ⟨by (with_reducible repeat (first | refine Q7 ?_ _ | refine Qa ?_ | refine Q8 ?_ _)); exact BK140.out⟩, ⟨by repeat (first | exact HB.out | apply Q4 | apply Q2 | apply Q6 | refine Q1 ?_ GE138.out | refine Q1 ?_ GE140.out)⟩⟩
      case rest =>
       clear HC8
       try clear c1
       try clear p1
       try clear q1
       try clear hx1
       try clear p2
       try clear c5
       try clear c5b0
       try clear c6
       try clear c6b0
       try clear c7
       try clear c7b0
       try clear c10
       try clear c13
       try clear c13b0
       try clear p13
       try clear q13
       try clear hx13
       try clear c14
       try clear c16
       try clear hx139_0
       try clear hx139_1
       try clear hx139_2
       try clear p139
       try clear p2
       try clear q139
       obtain ⟨kq, x17_7, rfl, HA, HJ7, BK138, BK140, HB⟩ := hcut
       cases kq with
       | zero => exact absurd HA.out (by simp [Qv.j1])
       | succ kj7 =>
        have H := HA.out
        clear HA
        simp only [Qv.j1] at H
        by_cases c19 : x17_7 = true
        ·subst c19
         rw [if_pos rfl] at H
         obtain rfl := Option.some.inj H
         go_wp2
         go_ret
         exact ⟨by first | rfl | (simp [*]; done), by repeat (first | exact HB.out | apply Q4 | apply Q2 | apply Q6 | refine Q1 ?_ GE138.out | refine Q1 ?_ GE140.out)⟩
        ·replace c19 := Bool.eq_false_iff.mpr c19
         subst c19
         rw [if_neg (show ¬ (false = true) by decide)] at H
         replace H := Option.bind_eq_some_iff.mp H
         obtain ⟨t141, A200, H⟩ := H
         try dsimp only at H
         have A20 := Q0.mk A200
         clear A200
         by_cases c21 : t141 = true
         ·subst c21
          rw [if_pos rfl] at H
          obtain ⟨ji22, hji22⟩ : ∃ j_ : Int, (mx 0 (wrap64 (a1 - 1))) = j_ := ⟨_, rfl⟩
          replace H : ((Qi.f ((Xm l0_7 x13_1).f1) 0 (ji22)).bind fun t142 => (if t142 = true then (if ((Xm l0_7 x13_1).f2) > 0 then (if a1 = 0 then (some 3) else (Qv.l0 kj7 a1 ((Xm l0_7 x13_1).f0) l0_7 (l0_7.length : Int) (wrap64 (x13_1 + 1)) a0_0 a0_1 a0_2 l0_3 a0_4 a0_5 l0_6 l0_7 l0_8)) else (Qv.l0 kj7 a1 ((Xm l0_7 x13_1).f0) l0_7 (l0_7.length : Int) (wrap64 (x13_1 + 1)) a0_0 a0_1 a0_2 l0_3 a0_4 a0_5 l0_6 l0_7 l0_8)) else (some 3))) = some r := by first | (rw [hji22] at H; exact H) | (simp only [hji22] at H ⊢; exact H)
          (try rw [hji22] at A20)
          have hji22_ : (if 0 < (wrap64 (a1 - 1)) then (wrap64 (a1 - 1)) else 0) = ji22 := hji22
          replace H := Option.bind_eq_some_iff.mp H
          obtain ⟨t142, A230, H⟩ := H
          try dsimp only at H
          have A23 := Q0.mk A230
          clear A230
          by_cases c24 : t142 = true
          ·subst c24
           rw [if_pos rfl] at H
           by_cases c25 : ((Xm l0_7 x13_1).f2) > 0
           ·rw [if_pos c25] at H
            have c25b0 : decide (0 < ((Xm l0_7 x13_1).f2)) = true := decide_eq_true c25
            clear c25
            by_cases c26 : a1 = 0
            ·rw [if_pos c26] at H
             have c26b0 : (a1 == 0) = true := beq_iff_eq.mpr c26
             have c26b1 : (a1 != 0) = false := bne_eq_false_iff_eq.mpr c26
             clear c26
             obtain rfl := Option.some.inj H
             have hnb27 := NB140_138.out
             have hnc27 := NB138_140.out
             obtain ⟨hcz28_0, hcz28_1, hcz28_2⟩ := cells3 BK140.out
             go_wp2_with (first | ((with_reducible refine Qs (f := 68) rfl ?_); refine X2 (some 32) rfl rfl Try.func68 (by kernel_rfl) rfl #[.int .i64 ((Xm l0_7 x13_1).f2), .int .i64 0, .int .i64 1000000] rfl (by (try simp only [List.map_toArray, List.map_cons, List.map_nil]); first | done | rfl | (simp only [List.length_drop, List.length_take]; rfl)) ?_; (with_reducible refine (Qi.calls ((Xm l0_7 x13_1).f2) 0 1000000 true _ A20.out).mono ?_); rintro e w' ⟨rfl, ⟨nd, rfl⟩⟩; refine ⟨_, rfl, ?_⟩) | (go_at_call 68; (with_reducible refine (Qi.calls ((Xm l0_7 x13_1).f1) 0 ji22 true _ A23.out).mono ?_); rintro e w' ⟨rfl, ⟨nd, rfl⟩⟩))
             go_ret
             exact ⟨by first | rfl | (simp [errW_none, errW_some] <;> rfl) | (simp only [← hji22]; first | rfl | (simp [errW_none, errW_some] <;> rfl)) | (simp [*, errW_none, errW_some] <;> rfl), by repeat (first | exact HB.out | apply Q4 | apply Q2 | apply Q6 | refine Q1 ?_ GE138.out | refine Q1 ?_ GE140.out)⟩
            ·rw [if_neg c26] at H
             have c26b0 : (a1 == 0) = false := beq_eq_false_iff_ne.mpr c26
             have c26b1 : (a1 != 0) = true := bne_iff_ne.mpr c26
             have H' := Q0.mk H
             clear H
             have hnb29 := NB140_138.out
             have hnc29 := NB138_140.out
             obtain ⟨hcz30_0, hcz30_1, hcz30_2⟩ := cells3 BK140.out
             go_wp2_with (first | ((with_reducible refine Qs (f := 68) rfl ?_); refine X2 (some 32) rfl rfl Try.func68 (by kernel_rfl) rfl #[.int .i64 ((Xm l0_7 x13_1).f2), .int .i64 0, .int .i64 1000000] rfl (by (try simp only [List.map_toArray, List.map_cons, List.map_nil]); first | done | rfl | (simp only [List.length_drop, List.length_take]; rfl)) ?_; (with_reducible refine (Qi.calls ((Xm l0_7 x13_1).f2) 0 1000000 true _ A20.out).mono ?_); rintro e w' ⟨rfl, ⟨nd, rfl⟩⟩; refine ⟨_, rfl, ?_⟩) | (go_at_call 68; (with_reducible refine (Qi.calls ((Xm l0_7 x13_1).f1) 0 ji22 true _ A23.out).mono ?_); rintro e w' ⟨rfl, ⟨nd, rfl⟩⟩))
             go_roundg kj7
             case measure => have := HK1.out; have := HJ7.out; omega
             case rel => exact ⟨(((Xm l0_7 x13_1).f0)), (wrap64 (x13_1 + 1)), (by first | rfl | (simp [*]; done)), (by first | rfl | (simp [*]; done)), H', ⟨by have := HK1.out; have := HJ7.out; omega⟩, ⟨by (with_reducible repeat (first | refine Q7 ?_ _ | refine Qa ?_ | refine Q8 ?_ _)); exact BK138.out⟩, ⟨by repeat (first | exact HB.out | apply Q4 | apply Q2 | apply Q6 | refine Q1 ?_ GE138.out | refine Q1 ?_ GE140.out)⟩⟩
           ·rw [if_neg c25] at H
            have c25b0 : decide (0 < ((Xm l0_7 x13_1).f2)) = false := decide_eq_false c25
            clear c25
            have H' := Q0.mk H
            clear H
            have hnb31 := NB140_138.out
            have hnc31 := NB138_140.out
            obtain ⟨hcz32_0, hcz32_1, hcz32_2⟩ := cells3 BK140.out
            go_wp2_with (first | ((with_reducible refine Qs (f := 68) rfl ?_); refine X2 (some 32) rfl rfl Try.func68 (by kernel_rfl) rfl #[.int .i64 ((Xm l0_7 x13_1).f2), .int .i64 0, .int .i64 1000000] rfl (by (try simp only [List.map_toArray, List.map_cons, List.map_nil]); first | done | rfl | (simp only [List.length_drop, List.length_take]; rfl)) ?_; (with_reducible refine (Qi.calls ((Xm l0_7 x13_1).f2) 0 1000000 true _ A20.out).mono ?_); rintro e w' ⟨rfl, ⟨nd, rfl⟩⟩; refine ⟨_, rfl, ?_⟩) | (go_at_call 68; (with_reducible refine (Qi.calls ((Xm l0_7 x13_1).f1) 0 ji22 true _ A23.out).mono ?_); rintro e w' ⟨rfl, ⟨nd, rfl⟩⟩))
            go_roundg kj7
            case measure => have := HK1.out; have := HJ7.out; omega
            case rel => exact ⟨(((Xm l0_7 x13_1).f0)), (wrap64 (x13_1 + 1)), (by first | rfl | (simp [*]; done)), (by first | rfl | (simp [*]; done)), H', ⟨by have := HK1.out; have := HJ7.out; omega⟩, ⟨by (with_reducible repeat (first | refine Q7 ?_ _ | refine Qa ?_ | refine Q8 ?_ _)); exact BK138.out⟩, ⟨by repeat (first | exact HB.out | apply Q4 | apply Q2 | apply Q6 | refine Q1 ?_ GE138.out | refine Q1 ?_ GE140.out)⟩⟩
          ·replace c24 := Bool.eq_false_iff.mpr c24
           subst c24
           rw [if_neg (show ¬ (false = true) by decide)] at H
           obtain rfl := Option.some.inj H
           have hnb33 := NB140_138.out
           have hnc33 := NB138_140.out
           obtain ⟨hcz34_0, hcz34_1, hcz34_2⟩ := cells3 BK140.out
           go_wp2_with (first | ((with_reducible refine Qs (f := 68) rfl ?_); refine X2 (some 32) rfl rfl Try.func68 (by kernel_rfl) rfl #[.int .i64 ((Xm l0_7 x13_1).f2), .int .i64 0, .int .i64 1000000] rfl (by (try simp only [List.map_toArray, List.map_cons, List.map_nil]); first | done | rfl | (simp only [List.length_drop, List.length_take]; rfl)) ?_; (with_reducible refine (Qi.calls ((Xm l0_7 x13_1).f2) 0 1000000 true _ A20.out).mono ?_); rintro e w' ⟨rfl, ⟨nd, rfl⟩⟩; refine ⟨_, rfl, ?_⟩) | (go_at_call 68; (with_reducible refine (Qi.calls ((Xm l0_7 x13_1).f1) 0 ji22 false _ A23.out).mono ?_); rintro e w' ⟨rfl, ⟨nd, rfl⟩⟩))
           go_ret
           exact ⟨by first | rfl | (simp [errW_none, errW_some] <;> rfl) | (simp only [← hji22]; first | rfl | (simp [errW_none, errW_some] <;> rfl)) | (simp [*, errW_none, errW_some] <;> rfl), by repeat (first | exact HB.out | apply Q4 | apply Q2 | apply Q6 | refine Q1 ?_ GE138.out | refine Q1 ?_ GE140.out)⟩
         ·replace c21 := Bool.eq_false_iff.mpr c21
          subst c21
          rw [if_neg (show ¬ (false = true) by decide)] at H
          obtain rfl := Option.some.inj H
          have hnb35 := NB140_138.out
          have hnc35 := NB138_140.out
          obtain ⟨hcz36_0, hcz36_1, hcz36_2⟩ := cells3 BK140.out
          go_wp2_with (first | ((with_reducible refine Qs (f := 68) rfl ?_); refine X2 (some 32) rfl rfl Try.func68 (by kernel_rfl) rfl #[.int .i64 ((Xm l0_7 x13_1).f2), .int .i64 0, .int .i64 1000000] rfl (by (try simp only [List.map_toArray, List.map_cons, List.map_nil]); first | done | rfl | (simp only [List.length_drop, List.length_take]; rfl)) ?_; (with_reducible refine (Qi.calls ((Xm l0_7 x13_1).f2) 0 1000000 false _ A20.out).mono ?_); rintro e w' ⟨rfl, ⟨nd, rfl⟩⟩; refine ⟨_, rfl, ?_⟩))
          go_ret
          exact ⟨by first | rfl | (simp [*]; done), by repeat (first | exact HB.out | apply Q4 | apply Q2 | apply Q6 | refine Q1 ?_ GE138.out | refine Q1 ?_ GE140.out)⟩
     ·rw [if_neg c7] at H
      exact absurd H (by simp)
    ·rw [if_neg c6] at H
     exact absurd H (by simp)
   ·rw [if_neg c5] at H
    have c5b0 : decide (x13_1 < (l0_7.length : Int)) = false := decide_eq_false c5
    clear c5
    have H' := Q0.mk H
    clear H
    obtain ⟨hcz37_0, hcz37_1, hcz37_2, hcz37_3, hcz37_4, hcz37_5, hcz37_6, hcz37_7, hcz37_8⟩ := Xg BK138.out
    go_wp2
    go_loopg [5, 58] k1 (fun kq v5 v58 w' => ∃ (x5_2 : Int) (x58_2 : Int), v5 = .int .i64 x5_2 ∧ v58 = .int .i64 x58_2 ∧ Q0 (Qv.l1 kq x5_2 l0_8 (l0_8.length : Int) x58_2 a0_0 a0_1 a0_2 l0_3 a0_4 a0_5 l0_6 l0_7 l0_8 = some r) ∧ Q0 (kq ≤ k1) ∧ Q0 (w'.heap[gb138]? = some (.cells #[.string a0_0, .int .i64 a0_1, .int .i64 a0_2, (.slice A0_3 l0_3.length c0_3), .int .i64 a0_4, .bool a0_5, (.slice A0_6 l0_6.length c0_6), (.slice A0_7 l0_7.length c0_7), (.slice A0_8 l0_8.length c0_8)] 89 (0, 0))) ∧ Q0 (Below w.heap.size w w'))
    case atStart => exact ⟨((-1)), (0), (by first | rfl | (simp [*]; done)), (by first | rfl | (simp [*]; done)), H', ⟨Nat.le_refl _⟩, ⟨by (with_reducible repeat (first | refine Q7 ?_ _ | refine Qa ?_ | refine Q8 ?_ _)); exact BK138.out⟩, ⟨by repeat (first | exact HB.out | apply Q4 | apply Q2 | apply Q6 | refine Q1 ?_ GE138.out)⟩⟩
    case round =>
     clear H'
     try clear c1
     try clear p1
     try clear q1
     try clear hx1
     try clear c2
     try clear p2
     try clear c3
     try clear c5
     try clear c5b0
     try clear c6
     try clear c6b0
     try clear p6
     try clear c7
     try clear c7b0
     try clear c10
     try clear c13
     try clear c13b0
     try clear p13
     try clear q13
     try clear hx13
     try clear c14
     try clear c16
     try clear c19
     try clear c21
     try clear c24
     try clear c25
     try clear c25b0
     try clear c26
     try clear c26b0
     try clear c26b1
     try clear c27
     try clear c29
     try clear c31
     try clear c33
     try clear c35
     try clear hx139_0
     try clear hx139_1
     try clear hx139_2
     try clear p1
     try clear p13
     try clear p139
     try clear p2
     try clear q1
     try clear q13
     try clear q139
     obtain ⟨x5_2, x58_2, rfl, rfl, HA, HK2, BK138, HB⟩ := hrel
     cases gk with
     | zero => exact absurd HA.out (by simp [Qv.l1])
     | succ k2 =>
      have H := HA.out
      clear HA
      simp only [Qv.l1] at H
      by_cases c38 : x58_2 < (l0_8.length : Int)
      ·rw [if_pos c38] at H
       have c38b0 : decide (x58_2 < (l0_8.length : Int)) = true := decide_eq_true c38
       clear c38
       by_cases c39 : 0 ≤ x58_2
       ·rw [if_pos c39] at H
        have c39b0 : decide (0 ≤ x58_2) = true := decide_eq_true c39
        clear c39
        by_cases c40 : x58_2 < (l0_8.length : Int)
        ·rw [if_pos c40] at H
         have c40b0 : decide (x58_2 < (l0_8.length : Int)) = true := decide_eq_true c40
         clear c40
         have HC41 := Q0.mk H
         clear H
         have p143 : 0 ≤ (x58_2 : Int) := of_decide_eq_true ‹_›
         have q143 : x58_2 < (l0_8.length : Int) := of_decide_eq_true ‹_›
         obtain ⟨ad143, e143, hx143_0, hx143_1, hx143_2, hx143_3⟩ := at_T128 HR0_8.out x58_2 p143 q143
         cases e143
         replace hx143_0 := cup HB.out hx143_0
         replace hx143_1 := cup HB.out hx143_1
         replace hx143_2 := cup HB.out hx143_2
         replace hx143_3 := cup HB.out hx143_3
         replace p143 := eq_true p143
         replace q143 := eq_true q143
         go_upto_region 15 with (first | ((with_reducible refine QN (N := 9) rfl ?_); (try (refine Xx (by rfl) ?_; dsimp only)); refine QK ?hg (N := 9) ?hd (cs := #[.int .i64 0, .int .i64 0, .int .i64 0, .int .i64 0]) (t := 128) ?hr ?_; (case hd => rfl); (case hg => rfl); (case hr => first | (go_simp; done) | (go_simp; rfl)); intro gb144 hg w42 hbox hb; have BK144 := Q0.mk (hbox); have GW144 := Q0.mk ((by rw [hg]; exact (Qg HB.out) : w.heap.size ≤ gb144)); have GE144 := Q0.mk ((by rw [hg]; exact (Qg HB.out) : w.heap.size ≤ gb144)); have NB138_144 := Q0.mk ((by rw [hg]; exact Nat.ne_of_lt (Qy BK138.out) : gb138 ≠ gb144)); have NB144_138 := Q0.mk ((by rw [hg]; exact Nat.ne_of_gt (Qy BK138.out) : gb144 ≠ gb138)); replace BK138 := Q0.mk (Q9 BK138.out hb); replace HB := Q0.mk (Qj HB.out hb); clear hb hbox hg; have hnb43 := NB144_138.out; have hnc43 := NB138_144.out; obtain ⟨hcz44_0, hcz44_1, hcz44_2, hcz44_3⟩ := Y6 BK144.out; obtain ⟨hfz44_0, hfz44_1, hfz44_2, hfz44_3⟩ := frozen4 BK144.out) | ((with_reducible refine QD (t := 128) (p := 9) rfl ?_); refine Qw (t := 128) (p := 9) (v := ?vo_w45) (w1 := ((((w42.setCell ⟨gb144, 0, none⟩ (.int .i64 ((QV l0_8 x58_2).f0))).setCell ⟨gb144, 1, none⟩ (.int .i64 ((QV l0_8 x58_2).f1))).setCell ⟨gb144, 2, none⟩ (.int .i64 ((QV l0_8 x58_2).f2))).setCell ⟨gb144, 3, none⟩ (.int .i64 ((QV l0_8 x58_2).f3)))) ?hg ?ho ?hn ?hr ?_; (case ho => rfl); (case hg => rfl); (case hn => rfl); (case hr => first | (go_simp; done) | (go_simp; rfl)); intro w45 hw; replace BK138 := Q0.mk (far4 hw BK138.out NB138_144.out); replace BK144 := Q0.mk (put4 hw BK144.out); replace HB := Q0.mk (bel4 hw HB.out GE144.out); clear hw))
         (try simp only [Act.put, List.setIfInBounds_toArray, List.set_cons_zero, List.set_cons_succ])
         go_cut [62] (fun v62 wc => ∃ (kq : Nat) (x62_40 : Bool), v62 = .bool x62_40 ∧ Q0 (Qv.j3 kq l0_8 (l0_8.length : Int) x58_2 x62_40 a0_0 a0_1 a0_2 l0_3 a0_4 a0_5 l0_6 l0_7 l0_8 ((QV l0_8 x58_2).f0) ((QV l0_8 x58_2).f1) ((QV l0_8 x58_2).f2) ((QV l0_8 x58_2).f3) = some r) ∧ Q0 (kq ≤ k2) ∧ Q0 (wc.heap[gb138]? = some (.cells #[.string a0_0, .int .i64 a0_1, .int .i64 a0_2, (.slice A0_3 l0_3.length c0_3), .int .i64 a0_4, .bool a0_5, (.slice A0_6 l0_6.length c0_6), (.slice A0_7 l0_7.length c0_7), (.slice (some ad143) l0_8.length c0_8)] 89 (0, 0))) ∧ Q0 (wc.heap[gb144]? = some (.cells #[.int .i64 ((QV l0_8 x58_2).f0), .int .i64 ((QV l0_8 x58_2).f1), .int .i64 ((QV l0_8 x58_2).f2), .int .i64 ((QV l0_8 x58_2).f3)] 128 (0, 0))) ∧ Q0 (Below w.heap.size w wc))
         case first =>
          have H := HC41.out
          clear HC41
          by_cases c46 : ((QV l0_8 x58_2).f0) ≤ x5_2
          ·rw [if_pos c46] at H
           have c46b0 : decide (((QV l0_8 x58_2).f0) ≤ x5_2) = true := decide_eq_true c46
           clear c46
           (first | rw [c46b0] | (simp only [QO, QP]; rw [c46b0]) | skip)
           have H' := Q0.mk H
           clear H
           have hnb47 := NB144_138.out
           have hnc47 := NB138_144.out
           obtain ⟨hcz48_0, hcz48_1, hcz48_2, hcz48_3⟩ := Y6 BK144.out
           go_wp2
           go_meet
           case rel => exact ⟨_, (true), (by first | rfl | (simp [*]; done)), H', ⟨by have := HK1.out; have := HK2.out; first | omega | exact Nat.le_refl _⟩, ⟨by (with_reducible repeat (first | refine Q7 ?_ _ | refine Qa ?_ | refine Q8 ?_ _)); exact BK138.out⟩, ⟨by (with_reducible repeat (first | refine Q7 ?_ _ | refine Qa ?_ | refine Q8 ?_ _)); exact BK144.out⟩, ⟨by repeat (first | exact HB.out | apply Q4 | apply Q2 | apply Q6 | refine Q1 ?_ GE138.out | refine Q1 ?_ GE144.out)⟩⟩
          ·rw [if_neg c46] at H
           have c46b0 : decide (((QV l0_8 x58_2).f0) ≤ x5_2) = false := decide_eq_false c46
           clear c46
           (first | rw [c46b0] | (simp only [QO, QP]; rw [c46b0]) | skip)
           have H' := Q0.mk H
           clear H
           have hnb49 := NB144_138.out
           have hnc49 := NB138_144.out
           obtain ⟨hcz50_0, hcz50_1, hcz50_2, hcz50_3⟩ := Y6 BK144.out
           obtain ⟨hcz51_0, hcz51_1, hcz51_2, hcz51_3, hcz51_4, hcz51_5, hcz51_6, hcz51_7, hcz51_8⟩ := Xg BK138.out
           go_wp2
           go_meet
           case rel => exact ⟨_, (decide (((QV l0_8 x58_2).f0) ≥ a0_4)), (by first | rfl | (simp [*]; done)), H', ⟨by have := HK1.out; have := HK2.out; first | omega | exact Nat.le_refl _⟩, ⟨by (with_reducible repeat (first | refine Q7 ?_ _ | refine Qa ?_ | refine Q8 ?_ _)); exact BK138.out⟩, ⟨by (with_reducible repeat (first | refine Q7 ?_ _ | refine Qa ?_ | refine Q8 ?_ _)); exact BK144.out⟩, ⟨by repeat (first | exact HB.out | apply Q4 | apply Q2 | apply Q6 | refine Q1 ?_ GE138.out | refine Q1 ?_ GE144.out)⟩⟩
         case rest =>
          clear HC41
          try clear c1
          try clear p1
          try clear q1
          try clear hx1
          try clear c2
          try clear p2
          try clear c3
          try clear c4
          try clear c5
          try clear c5b0
          try clear c6
          try clear c6b0
          try clear p6
          try clear c7
          try clear c7b0
          try clear c10
          try clear c13
          try clear c13b0
          try clear p13
          try clear q13
          try clear hx13
          try clear c14
          try clear p14
          try clear q14
          try clear hx14
          try clear c16
          try clear c19
          try clear c21
          try clear c24
          try clear c25
          try clear c25b0
          try clear c26
          try clear c26b0
          try clear c26b1
          try clear c27
          try clear c29
          try clear c31
          try clear c33
          try clear c35
          try clear c38
          try clear c38b0
          try clear c39
          try clear c39b0
          try clear c40
          try clear c40b0
          try clear c43
          try clear c46
          try clear c46b0
          try clear c47
          try clear c49
          try clear hx139_0
          try clear hx139_1
          try clear hx139_2
          try clear hx143_0
          try clear hx143_1
          try clear hx143_2
          try clear hx143_3
          try clear p1
          try clear p13
          try clear p139
          try clear p143
          try clear p2
          try clear p6
          try clear q1
          try clear q13
          try clear q139
          try clear q143
          obtain ⟨kq, x62_40, rfl, HA, HJ40, BK138, BK144, HB⟩ := hcut
          cases kq with
          | zero => exact absurd HA.out (by simp [Qv.j3])
          | succ kj40 =>
           have H := HA.out
           clear HA
           simp only [Qv.j3] at H
           by_cases c52 : x62_40 = true
           ·subst c52
            rw [if_pos rfl] at H
            obtain rfl := Option.some.inj H
            go_wp2
            go_ret
            exact ⟨by first | rfl | (simp [*]; done), by repeat (first | exact HB.out | apply Q4 | apply Q2 | apply Q6 | refine Q1 ?_ GE138.out | refine Q1 ?_ GE144.out)⟩
           ·replace c52 := Bool.eq_false_iff.mpr c52
            subst c52
            rw [if_neg (show ¬ (false = true) by decide)] at H
            replace H := Option.bind_eq_some_iff.mp H
            obtain ⟨t145, A530, H⟩ := H
            try dsimp only at H
            have A53 := Q0.mk A530
            clear A530
            by_cases c54 : t145 = true
            ·subst c54
             rw [if_pos rfl] at H
             replace H := Option.bind_eq_some_iff.mp H
             obtain ⟨t146, A550, H⟩ := H
             try dsimp only at H
             have A55 := Q0.mk A550
             clear A550
             by_cases c56 : t146 = true
             ·subst c56
              rw [if_pos rfl] at H
              replace H := Option.bind_eq_some_iff.mp H
              obtain ⟨t147, A570, H⟩ := H
              try dsimp only at H
              have A57 := Q0.mk A570
              clear A570
              by_cases c58 : t147 = true
              ·subst c58
               rw [if_pos rfl] at H
               by_cases c59 : ((QV l0_8 x58_2).f1) < 0
               ·rw [if_pos c59] at H
                have c59b0 : decide (((QV l0_8 x58_2).f1) < 0) = true := decide_eq_true c59
                clear c59
                by_cases c60 : ((QV l0_8 x58_2).f2) = 0
                ·rw [if_pos c60] at H
                 have c60b0 : (((QV l0_8 x58_2).f2) == 0) = true := beq_iff_eq.mpr c60
                 have c60b1 : (((QV l0_8 x58_2).f2) != 0) = false := bne_eq_false_iff_eq.mpr c60
                 clear c60
                 by_cases c61 : ((QV l0_8 x58_2).f3) = 0
                 ·rw [if_pos c61] at H
                  have c61b0 : (((QV l0_8 x58_2).f3) == 0) = true := beq_iff_eq.mpr c61
                  have c61b1 : (((QV l0_8 x58_2).f3) != 0) = false := bne_eq_false_iff_eq.mpr c61
                  clear c61
                  have H' := Q0.mk H
                  clear H
                  have hnb62 := NB144_138.out
                  have hnc62 := NB138_144.out
                  obtain ⟨hcz63_0, hcz63_1, hcz63_2, hcz63_3⟩ := Y6 BK144.out
                  go_wp2_with (first | ((with_reducible refine Qs (f := 68) rfl ?_); refine X2 (some 77) rfl rfl Try.func68 (by kernel_rfl) rfl #[.int .i64 ((QV l0_8 x58_2).f1), .int .i64 (-1), .int .i64 7] rfl (by (try simp only [List.map_toArray, List.map_cons, List.map_nil]); first | done | rfl | (simp only [List.length_drop, List.length_take]; rfl)) ?_; (with_reducible refine (Qi.calls ((QV l0_8 x58_2).f1) (-1) 7 true _ A53.out).mono ?_); rintro e w' ⟨rfl, ⟨nd, rfl⟩⟩; refine ⟨_, rfl, ?_⟩) | (go_at_call 68; (with_reducible refine (Qi.calls ((QV l0_8 x58_2).f2) (-1048576) 1048576 true _ A55.out).mono ?_); rintro e w' ⟨rfl, ⟨nd, rfl⟩⟩) | (go_at_call 68; (with_reducible refine (Qi.calls ((QV l0_8 x58_2).f3) (-1048576) 0 true _ A57.out).mono ?_); rintro e w' ⟨rfl, ⟨nd, rfl⟩⟩))
                  go_roundg kj40
                  case measure => have := HK1.out; have := HK2.out; have := HJ40.out; omega
                  case rel => exact ⟨(((QV l0_8 x58_2).f0)), (wrap64 (x58_2 + 1)), (by first | rfl | (simp [*]; done)), (by first | rfl | (simp [*]; done)), H', ⟨by have := HK1.out; have := HK2.out; have := HJ40.out; omega⟩, ⟨by (with_reducible repeat (first | refine Q7 ?_ _ | refine Qa ?_ | refine Q8 ?_ _)); exact BK138.out⟩, ⟨by repeat (first | exact HB.out | apply Q4 | apply Q2 | apply Q6 | refine Q1 ?_ GE138.out | refine Q1 ?_ GE144.out)⟩⟩
                 ·rw [if_neg c61] at H
                  have c61b0 : (((QV l0_8 x58_2).f3) == 0) = false := beq_eq_false_iff_ne.mpr c61
                  have c61b1 : (((QV l0_8 x58_2).f3) != 0) = true := bne_iff_ne.mpr c61
                  obtain rfl := Option.some.inj H
                  have hnb64 := NB144_138.out
                  have hnc64 := NB138_144.out
                  obtain ⟨hcz65_0, hcz65_1, hcz65_2, hcz65_3⟩ := Y6 BK144.out
                  go_wp2_with (first | ((with_reducible refine Qs (f := 68) rfl ?_); refine X2 (some 77) rfl rfl Try.func68 (by kernel_rfl) rfl #[.int .i64 ((QV l0_8 x58_2).f1), .int .i64 (-1), .int .i64 7] rfl (by (try simp only [List.map_toArray, List.map_cons, List.map_nil]); first | done | rfl | (simp only [List.length_drop, List.length_take]; rfl)) ?_; (with_reducible refine (Qi.calls ((QV l0_8 x58_2).f1) (-1) 7 true _ A53.out).mono ?_); rintro e w' ⟨rfl, ⟨nd, rfl⟩⟩; refine ⟨_, rfl, ?_⟩) | (go_at_call 68; (with_reducible refine (Qi.calls ((QV l0_8 x58_2).f2) (-1048576) 1048576 true _ A55.out).mono ?_); rintro e w' ⟨rfl, ⟨nd, rfl⟩⟩) | (go_at_call 68; (with_reducible refine (Qi.calls ((QV l0_8 x58_2).f3) (-1048576) 0 true _ A57.out).mono ?_); rintro e w' ⟨rfl, ⟨nd, rfl⟩⟩))
                  go_ret
                  exact ⟨by first | rfl | (simp [*]; done), by repeat (first | exact HB.out | apply Q4 | apply Q2 | apply Q6 | refine Q1 ?_ GE138.out | refine Q1 ?_ GE144.out)⟩
                ·rw [if_neg c60] at H
                 have c60b0 : (((QV l0_8 x58_2).f2) == 0) = false := beq_eq_false_iff_ne.mpr c60
                 have c60b1 : (((QV l0_8 x58_2).f2) != 0) = true := bne_iff_ne.mpr c60
                 obtain rfl := Option.some.inj H
                 have hnb66 := NB144_138.out
                 have hnc66 := NB138_144.out
                 obtain ⟨hcz67_0, hcz67_1, hcz67_2, hcz67_3⟩ := Y6 BK144.out
                 go_wp2_with (first | ((with_reducible refine Qs (f := 68) rfl ?_); refine X2 (some 77) rfl rfl Try.func68 (by kernel_rfl) rfl #[.int .i64 ((QV l0_8 x58_2).f1), .int .i64 (-1), .int .i64 7] rfl (by (try simp only [List.map_toArray, List.map_cons, List.map_nil]); first | done | rfl | (simp only [List.length_drop, List.length_take]; rfl)) ?_; (with_reducible refine (Qi.calls ((QV l0_8 x58_2).f1) (-1) 7 true _ A53.out).mono ?_); rintro e w' ⟨rfl, ⟨nd, rfl⟩⟩; refine ⟨_, rfl, ?_⟩) | (go_at_call 68; (with_reducible refine (Qi.calls ((QV l0_8 x58_2).f2) (-1048576) 1048576 true _ A55.out).mono ?_); rintro e w' ⟨rfl, ⟨nd, rfl⟩⟩) | (go_at_call 68; (with_reducible refine (Qi.calls ((QV l0_8 x58_2).f3) (-1048576) 0 true _ A57.out).mono ?_); rintro e w' ⟨rfl, ⟨nd, rfl⟩⟩))
                 go_ret
                 exact ⟨by first | rfl | (simp [*]; done), by repeat (first | exact HB.out | apply Q4 | apply Q2 | apply Q6 | refine Q1 ?_ GE138.out | refine Q1 ?_ GE144.out)⟩
               ·rw [if_neg c59] at H
                have c59b0 : decide (((QV l0_8 x58_2).f1) < 0) = false := decide_eq_false c59
                clear c59
                have H' := Q0.mk H
                clear H
                have hnb68 := NB144_138.out
                have hnc68 := NB138_144.out
                obtain ⟨hcz69_0, hcz69_1, hcz69_2, hcz69_3⟩ := Y6 BK144.out
                go_wp2_with (first | ((with_reducible refine Qs (f := 68) rfl ?_); refine X2 (some 77) rfl rfl Try.func68 (by kernel_rfl) rfl #[.int .i64 ((QV l0_8 x58_2).f1), .int .i64 (-1), .int .i64 7] rfl (by (try simp only [List.map_toArray, List.map_cons, List.map_nil]); first | done | rfl | (simp only [List.length_drop, List.length_take]; rfl)) ?_; (with_reducible refine (Qi.calls ((QV l0_8 x58_2).f1) (-1) 7 true _ A53.out).mono ?_); rintro e w' ⟨rfl, ⟨nd, rfl⟩⟩; refine ⟨_, rfl, ?_⟩) | (go_at_call 68; (with_reducible refine (Qi.calls ((QV l0_8 x58_2).f2) (-1048576) 1048576 true _ A55.out).mono ?_); rintro e w' ⟨rfl, ⟨nd, rfl⟩⟩) | (go_at_call 68; (with_reducible refine (Qi.calls ((QV l0_8 x58_2).f3) (-1048576) 0 true _ A57.out).mono ?_); rintro e w' ⟨rfl, ⟨nd, rfl⟩⟩))
                go_roundg kj40
                case measure => have := HK1.out; have := HK2.out; have := HJ40.out; omega
                case rel => exact ⟨(((QV l0_8 x58_2).f0)), (wrap64 (x58_2 + 1)), (by first | rfl | (simp [*]; done)), (by first | rfl | (simp [*]; done)), H', ⟨by have := HK1.out; have := HK2.out; have := HJ40.out; omega⟩, ⟨by (with_reducible repeat (first | refine Q7 ?_ _ | refine Qa ?_ | refine Q8 ?_ _)); exact BK138.out⟩, ⟨by repeat (first | exact HB.out | apply Q4 | apply Q2 | apply Q6 | refine Q1 ?_ GE138.out | refine Q1 ?_ GE144.out)⟩⟩
              ·replace c58 := Bool.eq_false_iff.mpr c58
               subst c58
               rw [if_neg (show ¬ (false = true) by decide)] at H
               obtain rfl := Option.some.inj H
               have hnb70 := NB144_138.out
               have hnc70 := NB138_144.out
               obtain ⟨hcz71_0, hcz71_1, hcz71_2, hcz71_3⟩ := Y6 BK144.out
               go_wp2_with (first | ((with_reducible refine Qs (f := 68) rfl ?_); refine X2 (some 77) rfl rfl Try.func68 (by kernel_rfl) rfl #[.int .i64 ((QV l0_8 x58_2).f1), .int .i64 (-1), .int .i64 7] rfl (by (try simp only [List.map_toArray, List.map_cons, List.map_nil]); first | done | rfl | (simp only [List.length_drop, List.length_take]; rfl)) ?_; (with_reducible refine (Qi.calls ((QV l0_8 x58_2).f1) (-1) 7 true _ A53.out).mono ?_); rintro e w' ⟨rfl, ⟨nd, rfl⟩⟩; refine ⟨_, rfl, ?_⟩) | (go_at_call 68; (with_reducible refine (Qi.calls ((QV l0_8 x58_2).f2) (-1048576) 1048576 true _ A55.out).mono ?_); rintro e w' ⟨rfl, ⟨nd, rfl⟩⟩) | (go_at_call 68; (with_reducible refine (Qi.calls ((QV l0_8 x58_2).f3) (-1048576) 0 false _ A57.out).mono ?_); rintro e w' ⟨rfl, ⟨nd, rfl⟩⟩))
               go_ret
               exact ⟨by first | rfl | (simp [*]; done), by repeat (first | exact HB.out | apply Q4 | apply Q2 | apply Q6 | refine Q1 ?_ GE138.out | refine Q1 ?_ GE144.out)⟩
             ·replace c56 := Bool.eq_false_iff.mpr c56
              subst c56
              rw [if_neg (show ¬ (false = true) by decide)] at H
              obtain rfl := Option.some.inj H
              have hnb72 := NB144_138.out
              have hnc72 := NB138_144.out
              obtain ⟨hcz73_0, hcz73_1, hcz73_2, hcz73_3⟩ := Y6 BK144.out
              go_wp2_with (first | ((with_reducible refine Qs (f := 68) rfl ?_); refine X2 (some 77) rfl rfl Try.func68 (by kernel_rfl) rfl #[.int .i64 ((QV l0_8 x58_2).f1), .int .i64 (-1), .int .i64 7] rfl (by (try simp only [List.map_toArray, List.map_cons, List.map_nil]); first | done | rfl | (simp only [List.length_drop, List.length_take]; rfl)) ?_; (with_reducible refine (Qi.calls ((QV l0_8 x58_2).f1) (-1) 7 true _ A53.out).mono ?_); rintro e w' ⟨rfl, ⟨nd, rfl⟩⟩; refine ⟨_, rfl, ?_⟩) | (go_at_call 68; (with_reducible refine (Qi.calls ((QV l0_8 x58_2).f2) (-1048576) 1048576 false _ A55.out).mono ?_); rintro e w' ⟨rfl, ⟨nd, rfl⟩⟩))
              go_ret
              exact ⟨by first | rfl | (simp [*]; done), by repeat (first | exact HB.out | apply Q4 | apply Q2 | apply Q6 | refine Q1 ?_ GE138.out | refine Q1 ?_ GE144.out)⟩
            ·replace c54 := Bool.eq_false_iff.mpr c54
             subst c54
             rw [if_neg (show ¬ (false = true) by decide)] at H
             obtain rfl := Option.some.inj H
             have hnb74 := NB144_138.out
             have hnc74 := NB138_144.out
             obtain ⟨hcz75_0, hcz75_1, hcz75_2, hcz75_3⟩ := Y6 BK144.out
             go_wp2_with (first | ((with_reducible refine Qs (f := 68) rfl ?_); refine X2 (some 77) rfl rfl Try.func68 (by kernel_rfl) rfl #[.int .i64 ((QV l0_8 x58_2).f1), .int .i64 (-1), .int .i64 7] rfl (by (try simp only [List.map_toArray, List.map_cons, List.map_nil]); first | done | rfl | (simp only [List.length_drop, List.length_take]; rfl)) ?_; (with_reducible refine (Qi.calls ((QV l0_8 x58_2).f1) (-1) 7 false _ A53.out).mono ?_); rintro e w' ⟨rfl, ⟨nd, rfl⟩⟩; refine ⟨_, rfl, ?_⟩))
             go_ret
             exact ⟨by first | rfl | (simp [*]; done), by repeat (first | exact HB.out | apply Q4 | apply Q2 | apply Q6 | refine Q1 ?_ GE138.out | refine Q1 ?_ GE144.out)⟩
        ·rw [if_neg c40] at H
         exact absurd H (by simp)
       ·rw [if_neg c39] at H
        exact absurd H (by simp)
      ·rw [if_neg c38] at H
       have c38b0 : decide (x58_2 < (l0_8.length : Int)) = false := decide_eq_false c38
       clear c38
       obtain rfl := Option.some.inj H
       go_wp2
       go_ret
       exact ⟨by first | rfl | (simp [*]; done), by repeat (first | exact HB.out | apply Q4 | apply Q2 | apply Q6 | refine Q1 ?_ GE138.out)⟩
end Go.Proofs.Ytakabkjhnncbhaa.PX
namespace Go.Proofs.Ytakabkjhnncbhaa.PX
open Go.RowKit Go.Proofs.YtakabkjhnncbhaaW.PrintWords Go.Proofs.YtakabkjhnncbhaaW.PrintLast Go.Proofs.YtakabkjhnncbhaaW.PrintMore
attribute [local go_sem] Xk Xi Xs Xr X5 X4 Xj Xh   -- for this text's walks alone
set_option linter.unusedVariables false
set_option linter.unusedSimpArgs false
set_option maxHeartbeats 2000000 in
theorem ix89.calls (A : Option Addr) (c : Nat) (l : List S89) (g : Nat) (lb : Array Value) (p : S89 → Bool) (eg : ∀ args w, (callFunc g args).run Try.prog w = .ok (.enter g args) w) (w : World) (hr : Kd.C k89 w A l.length l)
    (hp : ∀ W (x : S89) cs, Below w.heap.size w W → k89.K W x cs → Calls Try.prog g (#[.agg cs.toArray] ++ lb) W fun e w' => e = .returned (.bool (p x)) ∧ Below W.heap.size W w') :
    Calls Try.prog 87 #[.slice A l.length c, .func (.func g) #[] lb] w fun e w' => e = .returned (.int .i64 (fidx p l)) ∧ Below w.heap.size w w' := by
  have hbig : l.length ≤ 9223372036854775807 := hr.2.1
  have HR := Q0.mk hr
  have HP := Q0.mk hp
  clear hr hp
  go_enter Try.func87, Try.ntmps87
  go_wp2
  go_loopg [5, 8] l.length (fun gg _ s8 wr => ∃ kk : Nat, kk ≤ l.length ∧ l.length - kk ≤ gg ∧ s8 = .int .i64 kk ∧ Q0 (Below w.heap.size w wr) ∧ Q0 (∀ j, j < kk → p (l.getD j z89) = false))
  case atStart => exact ⟨0, Nat.zero_le _, by omega, rfl, ⟨Below.refl _ w⟩, ⟨fun j hj => absurd hj (Nat.not_lt_zero _)⟩⟩
  case round =>
    obtain ⟨kk, hkk, hg, rfl, HB, HA⟩ := hrel
    by_cases hlt : kk < l.length
    · have hltz : (kk : Int) < (l.length : Int) := by omega
      obtain ⟨ad, A3, c3, A6, c6, A7, c7, A8, c8, e, hx0, hx1, hx2, hx3, hx4, hx5, hx6, hx7, hx8, l3, g3, l6, g6, l7, g7, l8, g8⟩ := Yu (Kd.Qx HR.out HB.out) (kk : Int) (by omega) hltz
      cases e
      have hcall := HP.out wr (Qe l kk) _ HB.out (k89_mk wr (Qe l kk) l3 g3 l6 g6 l7 g7 l8 g8)
      clear l3 g3 l6 g6 l7 g7 l8 g8
      have hd : Qe l kk = l.getD kk z89 := by unfold Qe; rw [Int.toNat_natCast]
      have HD := Q0.mk hd
      clear hd
      simp only [Int.toNat_natCast] at hx0 hx1 hx2 hx3 hx4 hx5 hx6 hx7 hx8
      generalize hy : Qe l kk = y at hx0 hx1 hx2 hx3 hx4 hx5 hx6 hx7 hx8 hcall HD
      have HY := Q0.mk hy
      clear hy
      cases hq : p y with
      | true =>
        rw [hq] at hcall
        have HQ := Q0.mk hq
        clear hq
        go_wp2_with (go_at_fn g; refine hcall.mono ?_; rintro e w' ⟨rfl, hb'⟩)
        go_ret
        refine ⟨?_, Qj HB.out hb'⟩
        rw [fidx_hit (d := z89) hlt (by rw [← HD.out]; exact HQ.out) HA.out]
        rfl
      | false =>
        rw [hq] at hcall
        have HQ := Q0.mk hq
        clear hq
        go_wp2_with (go_at_fn g; refine hcall.mono ?_; rintro e w' ⟨rfl, hb'⟩)
        go_roundg (l.length - (kk + 1))
        case measure => omega
        case rel =>
          refine ⟨kk + 1, by omega, by omega, by go_num, ⟨Qj HB.out hb'⟩, ⟨fun j hj => ?_⟩⟩
          by_cases e : j = kk
          · subst e
            rw [← HD.out]; exact HQ.out
          · exact HA.out j (by omega)
    · have hltz : ¬ (kk : Int) < (l.length : Int) := by omega
      have : kk = l.length := by omega
      subst this
      go_wp2
      go_ret
      refine ⟨?_, HB.out⟩
      rw [fidx_miss (d := z89) HA.out]
      rfl
set_option maxHeartbeats 2000000 in
theorem cf89.calls (A : Option Addr) (c : Nat) (l : List S89) (g : Nat) (lb : Array Value) (p : S89 → Bool) (eg : ∀ args w, (callFunc g args).run Try.prog w = .ok (.enter g args) w) (w : World) (hr : Kd.C k89 w A l.length l)
    (hp : ∀ W (x : S89) cs, Below w.heap.size w W → k89.K W x cs → Calls Try.prog g (#[.agg cs.toArray] ++ lb) W fun e w' => e = .returned (.bool (p x)) ∧ Below W.heap.size W w') :
    Calls Try.prog 66 #[.slice A l.length c, .func (.func g) #[] lb] w fun e w' => e = .returned (.bool (l.any p)) ∧ Below w.heap.size w w' := by
  rw [← fidx_any p l]
  have HX := Q0.mk (ix89.calls A c l g lb p eg w hr hp)
  clear hr hp
  go_enter Try.func66, Try.ntmps66
  go_wp2_with (go_at_call 87; refine HX.out.mono ?_; rintro e w' ⟨rfl, hb'⟩)
  go_ret
  exact ⟨rfl, hb'⟩
theorem Yb.one (x : S89) (A3 : Option Addr) (c3 : Nat) (A6 : Option Addr) (c6 : Nat) (A7 : Option Addr) (c7 : Nat) (A8 : Option Addr) (c8 : Nat) (gb : Nat) (nm : ByteArray) (W : World) (hbk : ∃ cs, W.heap[gb]? = some (.cells cs 89 (0,0)) ∧ cs[0]? = some (.string nm)) :
    Calls Try.prog 67 #[.agg #[.string x.f0, .int .i64 x.f1, .int .i64 x.f2, .slice A3 x.f3.length c3, .int .i64 x.f4, .bool x.f5, .slice A6 x.f6.length c6, .slice A7 x.f7.length c7, .slice A8 x.f8.length c8], .pointer (some ⟨gb,0,none⟩)] W fun e w' => e = .returned (.bool (x.f0.toList == nm.toList)) ∧ Below W.heap.size W w' := by
  obtain ⟨cs, hb, hn⟩ := hbk
  have hc0 : W.cell? ⟨gb, 0, none⟩ = some (.string nm) := (Qz hb 0).trans hn
  have hc1 : (W.alloc (.cells #[.string x.f0, .int .i64 x.f1, .int .i64 x.f2, .slice A3 x.f3.length c3, .int .i64 x.f4, .bool x.f5, .slice A6 x.f6.length c6, .slice A7 x.f7.length c7, .slice A8 x.f8.length c8] 89)).cell? ⟨gb, 0, none⟩ = some (.string nm) := XY (Q4 (Below.refl _ _) _) hc0
  clear hb hn hc0
  go_enter Try.func67, Try.ntmps67
  go_wp2
  go_ret
  exact ⟨rfl, Q4 (Below.refl _ _) _⟩
def Yb.f (l : List S89) (nm : ByteArray) : Option Bool := some (l.any fun x => x.f0.toList == nm.toList)
theorem Yb.calls (A : Option Addr) (c : Nat) (l : List S89) (gb : Nat) (nm : ByteArray) (r : Bool) (w : World) (hr : Kd.C k89 w A l.length l) (_hc : l.length ≤ c) (hbk : ∃ cs, w.heap[gb]? = some (.cells cs 89 (0,0)) ∧ cs[0]? = some (.string nm)) (h : Yb.f l nm = some r) :
    Calls Try.prog 66 #[.slice A l.length c, .func (.func 67) #[] #[.pointer (some ⟨gb, 0, none⟩)]] w fun e w' => e = .returned (.bool r) ∧ Below w.heap.size w w' := by
  have h := Option.some.inj h
  subst h
  refine cf89.calls A c l 67 _ (fun x => x.f0.toList == nm.toList) (enters_of Try.func67 (by kernel_rfl) rfl) w hr (fun W x cs hb hK => ?_)
  obtain ⟨A3, c3, A6, c6, A7, c7, A8, c8, rfl, _, _, _, _, _, _, _, _⟩ := k89_open hK
  obtain ⟨cs0, h0, h1⟩ := hbk
  exact Yb.one x _ _ _ _ _ _ _ _ gb nm W ⟨cs0, Q9 h0 hb, h1⟩
end Go.Proofs.Ytakabkjhnncbhaa.PX
