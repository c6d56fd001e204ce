/- A part of the proof of a law: its words, walks of functions, or plain lemmas. -/
-- Written by this session's own programs (wip/printx.py, gen_*.py, assemble.py) and by hand.
import Derived.Test.YtakabkjhnncbhaaT01
namespace Go.Proofs.Ytakabkjhnncbhaa.PX
open Go.RowKit Go.Proofs.YtakabkjhnncbhaaW.PrintWords Go.Proofs.YtakabkjhnncbhaaW.PrintLast Go.Proofs.YtakabkjhnncbhaaW.PrintMore
attribute [local go_sem] Xl Xj Xu Xt X7 X6 Xk Xi   -- for this text's walks alone
set_option linter.unusedVariables false
set_option linter.unusedSimpArgs false
mutual
def Qe.j0 : Nat → List (S122) → Int → Bool → Int → ByteArray → Int → Int → Int → List (S137) → Option (Int)
 | 0, _, _, _, _, _, _, _, _, _ => none
 | k + 1, x0, x1, x12, x127000, x127001, x127002, x127003, x127004, x127005 => if x12 = true then (some 4) else (if x127001.toList = ([] : List UInt8) then (Qe.j1 k x0 x1 false x127000 x127001 x127002 x127003 x127004 x127005) else ((Qo.f k x127001).bind fun t127 => (Qe.j1 k x0 x1 (!t127) x127000 x127001 x127002 x127003 x127004 x127005)))
def Qe.j1 : Nat → List (S122) → Int → Bool → Int → ByteArray → Int → Int → Int → List (S137) → Option (Int)
 | 0, _, _, _, _, _, _, _, _, _ => none
 | k + 1, x0, x1, x21, x127000, x127001, x127002, x127003, x127004, x127005 => if x21 = true then (some 12) else (if x127002 < 0 then (Qe.j2 k x0 x1 true x127000 x127001 x127002 x127003 x127004 x127005) else (if x127002 > 1000000 then (Qe.j2 k x0 x1 true x127000 x127001 x127002 x127003 x127004 x127005) else (if x127004 < 0 then (Qe.j2 k x0 x1 true x127000 x127001 x127002 x127003 x127004 x127005) else (if x127004 > 1000000 then (Qe.j2 k x0 x1 true x127000 x127001 x127002 x127003 x127004 x127005) else (if x127003 < 0 then (Qe.j2 k x0 x1 true x127000 x127001 x127002 x127003 x127004 x127005) else (Qe.j2 k x0 x1 (decide (x127003 ≥ (x0.length : Int))) x127000 x127001 x127002 x127003 x127004 x127005))))))
def Qe.j2 : Nat → List (S122) → Int → Bool → Int → ByteArray → Int → Int → Int → List (S137) → Option (Int)
 | 0, _, _, _, _, _, _, _, _, _ => none
 | k + 1, x0, x1, x31, x127000, x127001, x127002, x127003, x127004, x127005 => if x31 = true then (some 3) else (if x127000 = 3 then (if x127000 = 4 then (if x127000 = 1 then (Qe.j3 k x0 x1 (x127003 != 0) x127000 x127001 x127002 x127003 x127004 x127005) else (Qe.j3 k x0 x1 (x127003 != 0) x127000 x127001 x127002 x127003 x127004 x127005)) else (if (x127005.length : Int) > 0 then (Qe.j3 k x0 x1 true x127000 x127001 x127002 x127003 x127004 x127005) else (if x127000 = 1 then (Qe.j3 k x0 x1 (x127003 != 0) x127000 x127001 x127002 x127003 x127004 x127005) else (Qe.j3 k x0 x1 false x127000 x127001 x127002 x127003 x127004 x127005)))) else (if x127004 = 0 then (if x127000 = 4 then (if x127000 = 1 then (Qe.j3 k x0 x1 (x127003 != 0) x127000 x127001 x127002 x127003 x127004 x127005) else (Qe.j3 k x0 x1 (x127003 != 0) x127000 x127001 x127002 x127003 x127004 x127005)) else (if (x127005.length : Int) > 0 then (Qe.j3 k x0 x1 true x127000 x127001 x127002 x127003 x127004 x127005) else (if x127000 = 1 then (Qe.j3 k x0 x1 (x127003 != 0) x127000 x127001 x127002 x127003 x127004 x127005) else (Qe.j3 k x0 x1 false x127000 x127001 x127002 x127003 x127004 x127005)))) else (Qe.j3 k x0 x1 true x127000 x127001 x127002 x127003 x127004 x127005)))
def Qe.j3 : Nat → List (S122) → Int → Bool → Int → ByteArray → Int → Int → Int → List (S137) → Option (Int)
 | 0, _, _, _, _, _, _, _, _, _ => none
 | k + 1, x0, x1, x62, x127000, x127001, x127002, x127003, x127004, x127005 => if x62 = true then (some 5) else (if x127000 = 1 then (if x127002 = 1 then (if x127000 = 2 then (Qe.j4 k x0 x1 (x127002 != 4) x127000 x127001 x127002 x127003 x127004 x127005) else (Qe.j4 k x0 x1 false x127000 x127001 x127002 x127003 x127004 x127005)) else (if x127002 = 4 then (if x127000 = 2 then (Qe.j4 k x0 x1 (x127002 != 4) x127000 x127001 x127002 x127003 x127004 x127005) else (Qe.j4 k x0 x1 false x127000 x127001 x127002 x127003 x127004 x127005)) else (Qe.j4 k x0 x1 true x127000 x127001 x127002 x127003 x127004 x127005))) else (if x127000 = 2 then (Qe.j4 k x0 x1 (x127002 != 4) x127000 x127001 x127002 x127003 x127004 x127005) else (Qe.j4 k x0 x1 false x127000 x127001 x127002 x127003 x127004 x127005)))
def Qe.j4 : Nat → List (S122) → Int → Bool → Int → ByteArray → Int → Int → Int → List (S137) → Option (Int)
 | 0, _, _, _, _, _, _, _, _, _ => none
 | k + 1, x0, x1, x97, x127000, x127001, x127002, x127003, x127004, x127005 => if x97 = true then (some 9) else (if x127000 = 3 then (Qe.j5 k x0 x1 (decide (x127003 ≥ x1)) x127000 x127001 x127002 x127003 x127004 x127005) else (Qe.j5 k x0 x1 false x127000 x127001 x127002 x127003 x127004 x127005))
def Qe.j5 : Nat → List (S122) → Int → Bool → Int → ByteArray → Int → Int → Int → List (S137) → Option (Int)
 | 0, _, _, _, _, _, _, _, _, _ => none
 | k + 1, x0, x1, x121, x127000, x127001, x127002, x127003, x127004, x127005 => if x121 = true then (some 3) else (if x127000 = 3 then (if 0 ≤ x127003 then (if x127003 < (x0.length : Int) then (Qe.j6 k x0 x1 (x127002 != (wrap64 (x127004 * ((Q7 x0 x127003).f2)))) x127000 x127001 x127002 x127003 x127004 x127005) else (none)) else (none)) else (Qe.j6 k x0 x1 false x127000 x127001 x127002 x127003 x127004 x127005))
def Qe.j6 : Nat → List (S122) → Int → Bool → Int → ByteArray → Int → Int → Int → List (S137) → Option (Int)
 | 0, _, _, _, _, _, _, _, _, _ => none
 | k + 1, x0, x1, x131, x127000, x127001, x127002, x127003, x127004, x127005 => if x131 = true then (some 9) else (if (x127005.length : Int) > 8 then (some 2) else (Qe.l0 k x0 x1 (x127005.length : Int) 0))
def Qe.l0 : Nat → List (S122) → Int → Int → Int → Option (Int)
 | 0, _, _, _, _ => none
 | k + 1, x0, x1, x156, x157 => if x157 < x156 then ((QG.f k x0 x1 x157).bind fun t129 => (if t129 = 0 then (Qe.l0 k x0 x1 x156 (wrap64 (x157 + 1))) else (some t129))) else (some 0)
end
def Qe.f (k : Nat) (l0 : List (S122)) (a1 : Int) : Option (Int) := if 0 ≤ a1 then (if a1 < (l0.length : Int) then (if ((Q7 l0 a1).f0) < 1 then (Qe.j0 k l0 a1 true ((Q7 l0 a1).f0) ((Q7 l0 a1).f1) ((Q7 l0 a1).f2) ((Q7 l0 a1).f3) ((Q7 l0 a1).f4) ((Q7 l0 a1).f5)) else (Qe.j0 k l0 a1 (decide (((Q7 l0 a1).f0) > 4)) ((Q7 l0 a1).f0) ((Q7 l0 a1).f1) ((Q7 l0 a1).f2) ((Q7 l0 a1).f3) ((Q7 l0 a1).f4) ((Q7 l0 a1).f5))) else (none)) else (none)
theorem Qe.Xo : ∀ k, (∀ y0 y1 y2 y3 y4 y5 y6 y7 y8, LeO (Qe.j0 k y0 y1 y2 y3 y4 y5 y6 y7 y8) (Qe.j0 (k + 1) y0 y1 y2 y3 y4 y5 y6 y7 y8)) ∧ (∀ y0 y1 y2 y3 y4 y5 y6 y7 y8, LeO (Qe.j1 k y0 y1 y2 y3 y4 y5 y6 y7 y8) (Qe.j1 (k + 1) y0 y1 y2 y3 y4 y5 y6 y7 y8)) ∧ (∀ y0 y1 y2 y3 y4 y5 y6 y7 y8, LeO (Qe.j2 k y0 y1 y2 y3 y4 y5 y6 y7 y8) (Qe.j2 (k + 1) y0 y1 y2 y3 y4 y5 y6 y7 y8)) ∧ (∀ y0 y1 y2 y3 y4 y5 y6 y7 y8, LeO (Qe.j3 k y0 y1 y2 y3 y4 y5 y6 y7 y8) (Qe.j3 (k + 1) y0 y1 y2 y3 y4 y5 y6 y7 y8)) ∧ (∀ y0 y1 y2 y3 y4 y5 y6 y7 y8, LeO (Qe.j4 k y0 y1 y2 y3 y4 y5 y6 y7 y8) (Qe.j4 (k + 1) y0 y1 y2 y3 y4 y5 y6 y7 y8)) ∧ (∀ y0 y1 y2 y3 y4 y5 y6 y7 y8, LeO (Qe.j5 k y0 y1 y2 y3 y4 y5 y6 y7 y8) (Qe.j5 (k + 1) y0 y1 y2 y3 y4 y5 y6 y7 y8)) ∧ (∀ y0 y1 y2 y3 y4 y5 y6 y7 y8, LeO (Qe.j6 k y0 y1 y2 y3 y4 y5 y6 y7 y8) (Qe.j6 (k + 1) y0 y1 y2 y3 y4 y5 y6 y7 y8)) ∧ (∀ y0 y1 y2 y3, LeO (Qe.l0 k y0 y1 y2 y3) (Qe.l0 (k + 1) y0 y1 y2 y3))
 | 0 => ⟨fun _ _ _ _ _ _ _ _ _ r h => by simp [Qe.j0] at h, fun _ _ _ _ _ _ _ _ _ r h => by simp [Qe.j1] at h, fun _ _ _ _ _ _ _ _ _ r h => by simp [Qe.j2] at h, fun _ _ _ _ _ _ _ _ _ r h => by simp [Qe.j3] at h, fun _ _ _ _ _ _ _ _ _ r h => by simp [Qe.j4] at h, fun _ _ _ _ _ _ _ _ _ r h => by simp [Qe.j5] at h, fun _ _ _ _ _ _ _ _ _ r h => by simp [Qe.j6] at h, fun _ _ _ _ r h => by simp [Qe.l0] at h⟩
 | k + 1 => by
  obtain ⟨ih0, ih1, ih2, ih3, ih4, ih5, ih6, ih7⟩ := Qe.Xo k;refine ⟨?_, ?_, ?_, ?_, ?_, ?_, ?_, ?_⟩
  ·intro y0 y1 y2 y3 y4 y5 y6 y7 y8;unfold Qe.j0
   repeat' first
   | (with_reducible exact ih0 _ _ _ _ _ _ _ _ _)
   | (with_reducible exact ih1 _ _ _ _ _ _ _ _ _)
   | (with_reducible exact ih2 _ _ _ _ _ _ _ _ _)
   | (with_reducible exact ih3 _ _ _ _ _ _ _ _ _)
   | (with_reducible exact ih4 _ _ _ _ _ _ _ _ _)
   | (with_reducible exact ih5 _ _ _ _ _ _ _ _ _)
   | (with_reducible exact ih6 _ _ _ _ _ _ _ _ _)
   | (with_reducible exact ih7 _ _ _ _)
   | (with_reducible exact QG.mono _ _ _ _)
   | (with_reducible exact Qo.mono _ _)
   | (with_reducible exact LeO.refl _)
   | (with_reducible exact LeO.none _)
   | (with_reducible refine LeO.ite ?_ ?_)
   | (with_reducible refine LeO.bind ?_ (fun _ => ?_))
  ·intro y0 y1 y2 y3 y4 y5 y6 y7 y8;unfold Qe.j1
   repeat' first
   | (with_reducible exact ih0 _ _ _ _ _ _ _ _ _)
   | (with_reducible exact ih1 _ _ _ _ _ _ _ _ _)
   | (with_reducible exact ih2 _ _ _ _ _ _ _ _ _)
   | (with_reducible exact ih3 _ _ _ _ _ _ _ _ _)
   | (with_reducible exact ih4 _ _ _ _ _ _ _ _ _)
   | (with_reducible exact ih5 _ _ _ _ _ _ _ _ _)
   | (with_reducible exact ih6 _ _ _ _ _ _ _ _ _)
   | (with_reducible exact ih7 _ _ _ _)
   | (with_reducible exact QG.mono _ _ _ _)
   | (with_reducible exact Qo.mono _ _)
   | (with_reducible exact LeO.refl _)
   | (with_reducible exact LeO.none _)
   | (with_reducible refine LeO.ite ?_ ?_)
   | (with_reducible refine LeO.bind ?_ (fun _ => ?_))
  ·intro y0 y1 y2 y3 y4 y5 y6 y7 y8;unfold Qe.j2
   repeat' first
   | (with_reducible exact ih0 _ _ _ _ _ _ _ _ _)
   | (with_reducible exact ih1 _ _ _ _ _ _ _ _ _)
   | (with_reducible exact ih2 _ _ _ _ _ _ _ _ _)
   | (with_reducible exact ih3 _ _ _ _ _ _ _ _ _)
   | (with_reducible exact ih4 _ _ _ _ _ _ _ _ _)
   | (with_reducible exact ih5 _ _ _ _ _ _ _ _ _)
   | (with_reducible exact ih6 _ _ _ _ _ _ _ _ _)
   | (with_reducible exact ih7 _ _ _ _)
   | (with_reducible exact QG.mono _ _ _ _)
   | (with_reducible exact Qo.mono _ _)
   | (with_reducible exact LeO.refl _)
   | (with_reducible exact LeO.none _)
   | (with_reducible refine LeO.ite ?_ ?_)
   | (with_reducible refine LeO.bind ?_ (fun _ => ?_))
  ·intro y0 y1 y2 y3 y4 y5 y6 y7 y8;unfold Qe.j3
   repeat' first
   | (with_reducible exact ih0 _ _ _ _ _ _ _ _ _)
   | (with_reducible exact ih1 _ _ _ _ _ _ _ _ _)
   | (with_reducible exact ih2 _ _ _ _ _ _ _ _ _)
   | (with_reducible exact ih3 _ _ _ _ _ _ _ _ _)
   | (with_reducible exact ih4 _ _ _ _ _ _ _ _ _)
   | (with_reducible exact ih5 _ _ _ _ _ _ _ _ _)
   | (with_reducible exact ih6 _ _ _ _ _ _ _ _ _)
   | (with_reducible exact ih7 _ _ _ _)
   | (with_reducible exact QG.mono _ _ _ _)
   | (with_reducible exact Qo.mono _ _)
   | (with_reducible exact LeO.refl _)
   | (with_reducible exact LeO.none _)
   | (with_reducible refine LeO.ite ?_ ?_)
   | (with_reducible refine LeO.bind ?_ (fun _ => ?_))
  ·intro y0 y1 y2 y3 y4 y5 y6 y7 y8;unfold Qe.j4
   repeat' first
   | (with_reducible exact ih0 _ _ _ _ _ _ _ _ _)
   | (with_reducible exact ih1 _ _ _ _ _ _ _ _ _)
   | (with_reducible exact ih2 _ _ _ _ _ _ _ _ _)
   | (with_reducible exact ih3 _ _ _ _ _ _ _ _ _)
   | (with_reducible exact ih4 _ _ _ _ _ _ _ _ _)
   | (with_reducible exact ih5 _ _ _ _ _ _ _ _ _)
   | (with_reducible exact ih6 _ _ _ _ _ _ _ _ _)
   | (with_reducible exact ih7 _ _ _ _)
   | (with_reducible exact QG.mono _ _ _ _)
   | (with_reducible exact Qo.mono _ _)
   | (with_reducible exact LeO.refl _)
   | (with_reducible exact LeO.none _)
   | (with_reducible refine LeO.ite ?_ ?_)
   | (with_reducible refine LeO.bind ?_ (fun _ => ?_))
  ·intro y0 y1 y2 y3 y4 y5 y6 y7 y8;unfold Qe.j5
   repeat' first
   | (with_reducible exact ih0 _ _ _ _ _ _ _ _ _)
   | (with_reducible exact ih1 _ _ _ _ _ _ _ _ _)
   | (with_reducible exact ih2 _ _ _ _ _ _ _ _ _)
   | (with_reducible exact ih3 _ _ _ _ _ _ _ _ _)
   | (with_reducible exact ih4 _ _ _ _ _ _ _ _ _)
   | (with_reducible exact ih5 _ _ _ _ _ _ _ _ _)
   | (with_reducible exact ih6 _ _ _ _ _ _ _ _ _)
   | (with_reducible exact ih7 _ _ _ _)
   | (with_reducible exact QG.mono _ _ _ _)
   | (with_reducible exact Qo.mono _ _)
   | (with_reducible exact LeO.refl _)
   | (with_reducible exact LeO.none _)
   | (with_reducible refine LeO.ite ?_ ?_)
   | (with_reducible refine LeO.bind ?_ (fun _ => ?_))
  ·intro y0 y1 y2 y3 y4 y5 y6 y7 y8;unfold Qe.j6
   repeat' first
   | (with_reducible exact ih0 _ _ _ _ _ _ _ _ _)
   | (with_reducible exact ih1 _ _ _ _ _ _ _ _ _)
   | (with_reducible exact ih2 _ _ _ _ _ _ _ _ _)
   | (with_reducible exact ih3 _ _ _ _ _ _ _ _ _)
   | (with_reducible exact ih4 _ _ _ _ _ _ _ _ _)
   | (with_reducible exact ih5 _ _ _ _ _ _ _ _ _)
   | (with_reducible exact ih6 _ _ _ _ _ _ _ _ _)
   | (with_reducible exact ih7 _ _ _ _)
   | (with_reducible exact QG.mono _ _ _ _)
   | (with_reducible exact Qo.mono _ _)
   | (with_reducible exact LeO.refl _)
   | (with_reducible exact LeO.none _)
   | (with_reducible refine LeO.ite ?_ ?_)
   | (with_reducible refine LeO.bind ?_ (fun _ => ?_))
  ·intro y0 y1 y2 y3;unfold Qe.l0
   repeat' first
   | (with_reducible exact ih0 _ _ _ _ _ _ _ _ _)
   | (with_reducible exact ih1 _ _ _ _ _ _ _ _ _)
   | (with_reducible exact ih2 _ _ _ _ _ _ _ _ _)
   | (with_reducible exact ih3 _ _ _ _ _ _ _ _ _)
   | (with_reducible exact ih4 _ _ _ _ _ _ _ _ _)
   | (with_reducible exact ih5 _ _ _ _ _ _ _ _ _)
   | (with_reducible exact ih6 _ _ _ _ _ _ _ _ _)
   | (with_reducible exact ih7 _ _ _ _)
   | (with_reducible exact QG.mono _ _ _ _)
   | (with_reducible exact Qo.mono _ _)
   | (with_reducible exact LeO.refl _)
   | (with_reducible exact LeO.none _)
   | (with_reducible refine LeO.ite ?_ ?_)
   | (with_reducible refine LeO.bind ?_ (fun _ => ?_))
theorem Qe.mono : ∀ a0 a1 k, LeO (Qe.f k a0 a1) (Qe.f (k + 1) a0 a1) := by
 intro a0 a1 k;obtain ⟨ih0, ih1, ih2, ih3, ih4, ih5, ih6, ih7⟩ := Qe.Xo k;unfold Qe.f
 repeat' first
   | (with_reducible exact ih0 _ _ _ _ _ _ _ _ _)
   | (with_reducible exact ih1 _ _ _ _ _ _ _ _ _)
   | (with_reducible exact ih2 _ _ _ _ _ _ _ _ _)
   | (with_reducible exact ih3 _ _ _ _ _ _ _ _ _)
   | (with_reducible exact ih4 _ _ _ _ _ _ _ _ _)
   | (with_reducible exact ih5 _ _ _ _ _ _ _ _ _)
   | (with_reducible exact ih6 _ _ _ _ _ _ _ _ _)
   | (with_reducible exact ih7 _ _ _ _)
   | (with_reducible exact QG.mono _ _ _ _)
   | (with_reducible exact Qo.mono _ _)
   | (with_reducible exact LeO.refl _)
   | (with_reducible exact LeO.none _)
   | (with_reducible refine LeO.ite ?_ ?_)
   | (with_reducible refine LeO.bind ?_ (fun _ => ?_))
set_option maxHeartbeats 60000000 in
set_option maxRecDepth 100000 in
theorem Qe.calls (k : Nat) (A0 : Option Addr) (c0 : Nat) (l0 : List (S122)) (a1 : Int) (r : Int) (w : World) (hr0 : Kd.C k122 w A0 l0.length l0) (hc0 : l0.length ≤ c0) (h : Qe.f k l0 a1 = some r) :
  Calls Try.prog 65 #[.slice A0 l0.length c0, .int .i64 a1] w fun e w' => e = .returned (.int .i64 r) ∧ Below w.heap.size w w' := by
 have hu122 := Try.underlying122;have HR0 := Q0.mk hr0;have HC0 := Q0.mk hc0;clear hr0 hc0;have HB := Q0.mk (Below.refl w.heap.size w);have H := h;clear h;unfold Qe.f at H;(try dsimp only at H);by_cases c3 : 0 ≤ a1
 ·rw [if_pos c3] at H;have c3b0 : decide (0 ≤ a1) = true := decide_eq_true c3;clear c3;by_cases c4 : a1 < (l0.length : Int)
  ·rw [if_pos c4] at H;have c4b0 : decide (a1 < (l0.length : Int)) = true := decide_eq_true c4;clear c4;have HC5 := Q0.mk H;clear H;have p125 : 0 ≤ (a1 : Int) := of_decide_eq_true ‹_›;have q125 : a1 < (l0.length : Int) := of_decide_eq_true ‹_›;obtain ⟨ad125, A125_5, c125_5, e125, hx125_0, hx125_1, hx125_2, hx125_3, hx125_4, hx125_5, hl125_5, hi125_5⟩ := at_T122 HR0.out a1 p125 q125
   cases e125
   have HR125_5 := Q0.mk hi125_5;have HC125_5 := Q0.mk hl125_5;clear hi125_5 hl125_5;replace p125 := eq_true p125;replace q125 := eq_true q125
   go_enter Try.func65, Try.ntmps65
   (go_upto_region 2 with (first | ((with_reducible refine QP (N := 5) rfl ?_); (try (refine XB (by rfl) ?_; dsimp only)); refine QL ?hg (N := 5) ?hd (cs := #[.int .i64 0, .string (⟨#[]⟩ : ByteArray), .int .i64 0, .int .i64 0, .int .i64 0, .slice none 0 0]) (t := 122) ?hr ?_; (case hd => rfl); (case hg => rfl); (case hr => first | (go_simp; done) | (go_simp; rfl)); intro gb126 hg w6 hbox hb; have BK126 := Q0.mk (hbox); have GW126 := Q0.mk ((by rw [hg]; exact (Qi HB.out) : w.heap.size ≤ gb126)); have GE126 := Q0.mk ((by rw [hg]; exact (Qi HB.out) : w.heap.size ≤ gb126)); replace HB := Q0.mk (Ql HB.out hb); clear hb hbox hg; obtain ⟨hcz7_0, hcz7_1, hcz7_2, hcz7_3, hcz7_4, hcz7_5⟩ := QF BK126.out; obtain ⟨hfz7_0, hfz7_1, hfz7_2, hfz7_3, hfz7_4, hfz7_5⟩ := QT BK126.out) | ((with_reducible refine QE (t := 122) (p := 5) rfl ?_); (try (rw [Yc w6]; generalize hq_ : World.drewN w6 _ = w6; replace BK126 := Q0.mk (Yk hq_ BK126.out); replace HB := Q0.mk (Yu hq_ HB.out); clear hq_)); refine Qw (t := 122) (p := 5) (v := ?vo_w8) (w1 := ((((((w6.setCell ⟨gb126, 0, none⟩ (.int .i64 ((Q7 l0 a1).f0))).setCell ⟨gb126, 1, none⟩ (.string ((Q7 l0 a1).f1))).setCell ⟨gb126, 2, none⟩ (.int .i64 ((Q7 l0 a1).f2))).setCell ⟨gb126, 3, none⟩ (.int .i64 ((Q7 l0 a1).f3))).setCell ⟨gb126, 4, none⟩ (.int .i64 ((Q7 l0 a1).f4))).setCell ⟨gb126, 5, none⟩ (.slice A125_5 ((Q7 l0 a1).f5).length c125_5))) ?hg ?ho ?hn ?hr ?_; (case ho => rfl); (case hg => rfl); (case hn => rfl); (case hr => first | (go_simp; done) | (go_simp; rfl)); intro w8 hw; replace BK126 := Q0.mk (put6 hw BK126.out); replace HB := Q0.mk (bel6 hw HB.out GE126.out); clear hw)));repeat (go_quiet (fail); go_upto_region 2 with (fail))
   (try simp only [Act.put, List.setIfInBounds_toArray, List.set_cons_zero, List.set_cons_succ])
   go_cut [12] (fun v12 wc => ∃ (kq : Nat) (x12_4 : Bool), v12 = .bool x12_4 ∧ Q0 (Qe.j0 kq l0 a1 x12_4 ((Q7 l0 a1).f0) ((Q7 l0 a1).f1) ((Q7 l0 a1).f2) ((Q7 l0 a1).f3) ((Q7 l0 a1).f4) ((Q7 l0 a1).f5) = some r) ∧ Q0 (kq ≤ k) ∧ Q0 (wc.heap[gb126]? = some (.cells #[.int .i64 ((Q7 l0 a1).f0), .string ((Q7 l0 a1).f1), .int .i64 ((Q7 l0 a1).f2), .int .i64 ((Q7 l0 a1).f3), .int .i64 ((Q7 l0 a1).f4), (.slice A125_5 ((Q7 l0 a1).f5).length c125_5)] 122 (0, 0))) ∧ Q0 (Below w.heap.size w wc))
   case first => as_aux_lemma =>
    have H := HC5.out;clear HC5;by_cases c9 : ((Q7 l0 a1).f0) < 1
    ·rw [if_pos c9] at H;have c9b0 : decide (((Q7 l0 a1).f0) < 1) = true := decide_eq_true c9;clear c9
     (first | rw [c9b0] | (simp only [QN, QO]; rw [c9b0]) | skip)
     have H' := Q0.mk H;clear H;obtain ⟨hcz10_0, hcz10_1, hcz10_2, hcz10_3, hcz10_4, hcz10_5⟩ := QF BK126.out;go_wp2;(repeat (go_quiet (fail); try go_wp2));go_meet;case rel => exact ⟨_, (true), (by first | rfl | (simp [*]; done)), H', ⟨by first | omega | exact Nat.le_refl _⟩, ⟨by (with_reducible repeat (first | refine Q8 ?_ _ | refine Qb ?_ | refine Q9 ?_ _)); exact BK126.out⟩, ⟨by repeat (first | exact HB.out | apply Q5 | apply Q2 | apply Q6 | refine Q1 ?_ GE126.out)⟩⟩
    ·rw [if_neg c9] at H;have c9b0 : decide (((Q7 l0 a1).f0) < 1) = false := decide_eq_false c9;clear c9
     (first | rw [c9b0] | (simp only [QN, QO]; rw [c9b0]) | skip)
     have H' := Q0.mk H;clear H;obtain ⟨hcz11_0, hcz11_1, hcz11_2, hcz11_3, hcz11_4, hcz11_5⟩ := QF BK126.out;go_wp2;(repeat (go_quiet (fail); try go_wp2));go_meet;case rel => exact ⟨_, (decide (((Q7 l0 a1).f0) > 4)), (by first | rfl | (simp [*]; done)), H', ⟨by first | omega | exact Nat.le_refl _⟩, ⟨by (with_reducible repeat (first | refine Q8 ?_ _ | refine Qb ?_ | refine Q9 ?_ _)); exact BK126.out⟩, ⟨by repeat (first | exact HB.out | apply Q5 | apply Q2 | apply Q6 | refine Q1 ?_ GE126.out)⟩⟩
   case rest =>
    clear HC5;(try clear c1);(try clear p1);(try clear q1);(try clear hx1);(try clear p2);(try clear c3);(try clear c3b0);(try clear c4);(try clear c4b0);(try clear c6);(try clear c9);(try clear c9b0);(try clear hx125_0);(try clear hx125_1);(try clear hx125_2);(try clear hx125_3);(try clear hx125_4);(try clear hx125_5);(try clear p125);(try clear q125);obtain ⟨kq, x12_4, rfl, HA, HJ4, BK126, HB⟩ := hcut
    cases kq with
    | zero => exact absurd HA.out (by simp [Qe.j0])
    | succ kj4 =>
     have H := HA.out;clear HA;simp only [Qe.j0] at H;by_cases c12 : x12_4 = true
     ·subst c12;rw [if_pos rfl] at H;obtain rfl := Option.some.inj H;go_wp2;(repeat (go_quiet (fail); try go_wp2));go_ret;exact ⟨by first | rfl | (simp [*]; done), by repeat (first | exact HB.out | apply Q5 | apply Q2 | apply Q6 | refine Q1 ?_ GE126.out)⟩
     ·replace c12 := Bool.eq_false_iff.mpr c12;subst c12;rw [if_neg (show ¬ (false = true) by decide)] at H;have HC13 := Q0.mk H;clear H;(go_upto_region 4 with (fail));(repeat (go_quiet (fail); go_upto_region 4 with (fail)));go_cut [21] (fun v21 wc => ∃ (kq : Nat) (x21_12 : Bool), v21 = .bool x21_12 ∧ Q0 (Qe.j1 kq l0 a1 x21_12 ((Q7 l0 a1).f0) ((Q7 l0 a1).f1) ((Q7 l0 a1).f2) ((Q7 l0 a1).f3) ((Q7 l0 a1).f4) ((Q7 l0 a1).f5) = some r) ∧ Q0 (kq ≤ kj4) ∧ Q0 (wc.heap[gb126]? = some (.cells #[.int .i64 ((Q7 l0 a1).f0), .string ((Q7 l0 a1).f1), .int .i64 ((Q7 l0 a1).f2), .int .i64 ((Q7 l0 a1).f3), .int .i64 ((Q7 l0 a1).f4), (.slice A125_5 ((Q7 l0 a1).f5).length c125_5)] 122 (0, 0))) ∧ Q0 (Below w.heap.size w wc))
      case first => as_aux_lemma =>
       have H := HC13.out;clear HC13;by_cases c14 : ((Q7 l0 a1).f1).toList = ([] : List UInt8)
       ·rw [if_pos c14] at H;have c14b0 : (((Q7 l0 a1).f1).toList == ([] : List UInt8)) = true := beq_iff_eq.mpr c14;have c14b1 : (((Q7 l0 a1).f1).toList != ([] : List UInt8)) = false := bne_eq_false_iff_eq.mpr c14;clear c14
        (first | rw [c14b0] | (simp only [QN, QO]; rw [c14b0]) | skip)
        have H' := Q0.mk H;clear H;obtain ⟨hcz15_0, hcz15_1, hcz15_2, hcz15_3, hcz15_4, hcz15_5⟩ := QF BK126.out;go_wp2;(repeat (go_quiet (fail); try go_wp2));go_meet;case rel => exact ⟨_, (false), (by first | rfl | (simp [*]; done)), H', ⟨by have := HJ4.out; first | omega | exact Nat.le_refl _⟩, ⟨by (with_reducible repeat (first | refine Q8 ?_ _ | refine Qb ?_ | refine Q9 ?_ _)); exact BK126.out⟩, ⟨by repeat (first | exact HB.out | apply Q5 | apply Q2 | apply Q6 | refine Q1 ?_ GE126.out)⟩⟩
       ·rw [if_neg c14] at H;have c14b0 : (((Q7 l0 a1).f1).toList == ([] : List UInt8)) = false := beq_eq_false_iff_ne.mpr c14;have c14b1 : (((Q7 l0 a1).f1).toList != ([] : List UInt8)) = true := bne_iff_ne.mpr c14
        (first | rw [c14b0] | (simp only [QN, QO]; rw [c14b0]) | skip)
        replace H := Option.bind_eq_some_iff.mp H;obtain ⟨t127, A160, H⟩ := H;(try dsimp only at H);have A16 := Q0.mk A160;clear A160;have H' := Q0.mk H;clear H;obtain ⟨hcz17_0, hcz17_1, hcz17_2, hcz17_3, hcz17_4, hcz17_5⟩ := QF BK126.out;go_wp2_with (first | (go_at_call 43; (with_reducible refine (Qo.calls kj4 ((Q7 l0 a1).f1) t127 _ A16.out).mono ?_); rintro e w' ⟨rfl, ⟨nd, rfl⟩⟩; (try first | exact ⟨rfl, _, World.drewN_drewN _ _ _⟩ | exact ⟨rfl, _, Eq.trans (World.drewN_drewN _ _ _) (congrArg (World.drewN _) (Nat.add_assoc _ _ _))⟩)));(repeat (go_quiet (fail); try go_wp2));go_meet;case rel => exact ⟨_, (!t127), (by first | rfl | (simp [*]; done)), H', ⟨by have := HJ4.out; first | omega | exact Nat.le_refl _⟩, ⟨by (with_reducible repeat (first | refine Q8 ?_ _ | refine Qb ?_ | refine Q9 ?_ _)); exact BK126.out⟩, ⟨by repeat (first | exact HB.out | apply Q5 | apply Q2 | apply Q6 | refine Q1 ?_ GE126.out)⟩⟩
      case rest =>
       clear HC13;(try clear c1);(try clear p1);(try clear q1);(try clear hx1);(try clear p2);(try clear c3);(try clear c3b0);(try clear c4);(try clear c4b0);(try clear c6);(try clear c9);(try clear c9b0);(try clear c12);(try clear p12);(try clear q12);(try clear hx12);(try clear c14);(try clear c14b0);(try clear c14b1);(try clear hx125_0);(try clear hx125_1);(try clear hx125_2);(try clear hx125_3);(try clear hx125_4);(try clear hx125_5);(try clear p1);(try clear p125);(try clear p2);(try clear q1);(try clear q125);obtain ⟨kq, x21_12, rfl, HA, HJ12, BK126, HB⟩ := hcut
       cases kq with
       | zero => exact absurd HA.out (by simp [Qe.j1])
       | succ kj12 =>
        have H := HA.out;clear HA;simp only [Qe.j1] at H;by_cases c18 : x21_12 = true
        ·subst c18;rw [if_pos rfl] at H;obtain rfl := Option.some.inj H;go_wp2;(repeat (go_quiet (fail); try go_wp2));go_ret;exact ⟨by first | rfl | (simp [*]; done), by repeat (first | exact HB.out | apply Q5 | apply Q2 | apply Q6 | refine Q1 ?_ GE126.out)⟩
        ·replace c18 := Bool.eq_false_iff.mpr c18;subst c18;rw [if_neg (show ¬ (false = true) by decide)] at H;have HC19 := Q0.mk H;clear H;(go_upto_region 6 with (fail));(repeat (go_quiet (fail); go_upto_region 6 with (fail)));go_cut [31] (fun v31 wc => ∃ (kq : Nat) (x31_18 : Bool), v31 = .bool x31_18 ∧ Q0 (Qe.j2 kq l0 a1 x31_18 ((Q7 l0 a1).f0) ((Q7 l0 a1).f1) ((Q7 l0 a1).f2) ((Q7 l0 a1).f3) ((Q7 l0 a1).f4) ((Q7 l0 a1).f5) = some r) ∧ Q0 (kq ≤ kj12) ∧ Q0 (wc.heap[gb126]? = some (.cells #[.int .i64 ((Q7 l0 a1).f0), .string ((Q7 l0 a1).f1), .int .i64 ((Q7 l0 a1).f2), .int .i64 ((Q7 l0 a1).f3), .int .i64 ((Q7 l0 a1).f4), (.slice A125_5 ((Q7 l0 a1).f5).length c125_5)] 122 (0, 0))) ∧ Q0 (Below w.heap.size w wc))
         case first => as_aux_lemma =>
          have H := HC19.out;clear HC19;by_cases c20 : ((Q7 l0 a1).f2) < 0
          ·rw [if_pos c20] at H;have c20b0 : decide (((Q7 l0 a1).f2) < 0) = true := decide_eq_true c20;clear c20
           (first | rw [c20b0] | (simp only [QN, QO]; rw [c20b0]) | skip)
           have H' := Q0.mk H;clear H;obtain ⟨hcz21_0, hcz21_1, hcz21_2, hcz21_3, hcz21_4, hcz21_5⟩ := QF BK126.out;go_wp2;(repeat (go_quiet (fail); try go_wp2));go_meet;case rel => exact ⟨_, (true), (by first | rfl | (simp [*]; done)), H', ⟨by have := HJ4.out; have := HJ12.out; first | omega | exact Nat.le_refl _⟩, ⟨by (with_reducible repeat (first | refine Q8 ?_ _ | refine Qb ?_ | refine Q9 ?_ _)); exact BK126.out⟩, ⟨by repeat (first | exact HB.out | apply Q5 | apply Q2 | apply Q6 | refine Q1 ?_ GE126.out)⟩⟩
          ·rw [if_neg c20] at H;have c20b0 : decide (((Q7 l0 a1).f2) < 0) = false := decide_eq_false c20;clear c20
           (first | rw [c20b0] | (simp only [QN, QO]; rw [c20b0]) | skip)
           by_cases c22 : ((Q7 l0 a1).f2) > 1000000
           ·rw [if_pos c22] at H;have c22b0 : decide (1000000 < ((Q7 l0 a1).f2)) = true := decide_eq_true c22;clear c22;have H' := Q0.mk H;clear H;obtain ⟨hcz23_0, hcz23_1, hcz23_2, hcz23_3, hcz23_4, hcz23_5⟩ := QF BK126.out;go_wp2;(repeat (go_quiet (fail); try go_wp2));go_meet;case rel => exact ⟨_, (true), (by first | rfl | (simp [*]; done)), H', ⟨by have := HJ4.out; have := HJ12.out; first | omega | exact Nat.le_refl _⟩, ⟨by (with_reducible repeat (first | refine Q8 ?_ _ | refine Qb ?_ | refine Q9 ?_ _)); exact BK126.out⟩, ⟨by repeat (first | exact HB.out | apply Q5 | apply Q2 | apply Q6 | refine Q1 ?_ GE126.out)⟩⟩
           ·rw [if_neg c22] at H;have c22b0 : decide (1000000 < ((Q7 l0 a1).f2)) = false := decide_eq_false c22;clear c22;by_cases c24 : ((Q7 l0 a1).f4) < 0
            ·rw [if_pos c24] at H;have c24b0 : decide (((Q7 l0 a1).f4) < 0) = true := decide_eq_true c24;clear c24;have H' := Q0.mk H;clear H;obtain ⟨hcz25_0, hcz25_1, hcz25_2, hcz25_3, hcz25_4, hcz25_5⟩ := QF BK126.out;go_wp2;(repeat (go_quiet (fail); try go_wp2));go_meet;case rel => exact ⟨_, (true), (by first | rfl | (simp [*]; done)), H', ⟨by have := HJ4.out; have := HJ12.out; first | omega | exact Nat.le_refl _⟩, ⟨by (with_reducible repeat (first | refine Q8 ?_ _ | refine Qb ?_ | refine Q9 ?_ _)); exact BK126.out⟩, ⟨by repeat (first | exact HB.out | apply Q5 | apply Q2 | apply Q6 | refine Q1 ?_ GE126.out)⟩⟩
            ·rw [if_neg c24] at H;have c24b0 : decide (((Q7 l0 a1).f4) < 0) = false := decide_eq_false c24;clear c24;by_cases c26 : ((Q7 l0 a1).f4) > 1000000
             ·rw [if_pos c26] at H;have c26b0 : decide (1000000 < ((Q7 l0 a1).f4)) = true := decide_eq_true c26;clear c26;have H' := Q0.mk H;clear H;obtain ⟨hcz27_0, hcz27_1, hcz27_2, hcz27_3, hcz27_4, hcz27_5⟩ := QF BK126.out;go_wp2;(repeat (go_quiet (fail); try go_wp2));go_meet;case rel => exact ⟨_, (true), (by first | rfl | (simp [*]; done)), H', ⟨by have := HJ4.out; have := HJ12.out; first | omega | exact Nat.le_refl _⟩, ⟨by (with_reducible repeat (first | refine Q8 ?_ _ | refine Qb ?_ | refine Q9 ?_ _)); exact BK126.out⟩, ⟨by repeat (first | exact HB.out | apply Q5 | apply Q2 | apply Q6 | refine Q1 ?_ GE126.out)⟩⟩
             ·rw [if_neg c26] at H;have c26b0 : decide (1000000 < ((Q7 l0 a1).f4)) = false := decide_eq_false c26;clear c26;by_cases c28 : ((Q7 l0 a1).f3) < 0
              ·rw [if_pos c28] at H;have c28b0 : decide (((Q7 l0 a1).f3) < 0) = true := decide_eq_true c28;clear c28;have H' := Q0.mk H;clear H;obtain ⟨hcz29_0, hcz29_1, hcz29_2, hcz29_3, hcz29_4, hcz29_5⟩ := QF BK126.out;go_wp2;(repeat (go_quiet (fail); try go_wp2));go_meet;case rel => exact ⟨_, (true), (by first | rfl | (simp [*]; done)), H', ⟨by have := HJ4.out; have := HJ12.out; first | omega | exact Nat.le_refl _⟩, ⟨by (with_reducible repeat (first | refine Q8 ?_ _ | refine Qb ?_ | refine Q9 ?_ _)); exact BK126.out⟩, ⟨by repeat (first | exact HB.out | apply Q5 | apply Q2 | apply Q6 | refine Q1 ?_ GE126.out)⟩⟩
              ·rw [if_neg c28] at H;have c28b0 : decide (((Q7 l0 a1).f3) < 0) = false := decide_eq_false c28;clear c28;have H' := Q0.mk H;clear H;obtain ⟨hcz30_0, hcz30_1, hcz30_2, hcz30_3, hcz30_4, hcz30_5⟩ := QF BK126.out;go_wp2;(repeat (go_quiet (fail); try go_wp2));go_meet;case rel => exact ⟨_, (decide (((Q7 l0 a1).f3) ≥ (l0.length : Int))), (by first | rfl | (simp [*]; done)), H', ⟨by have := HJ4.out; have := HJ12.out; first | omega | exact Nat.le_refl _⟩, ⟨by (with_reducible repeat (first | refine Q8 ?_ _ | refine Qb ?_ | refine Q9 ?_ _)); exact BK126.out⟩, ⟨by repeat (first | exact HB.out | apply Q5 | apply Q2 | apply Q6 | refine Q1 ?_ GE126.out)⟩⟩
         case rest =>
          clear HC19;(try clear c1);(try clear p1);(try clear q1);(try clear hx1);(try clear c2);(try clear p2);(try clear c3);(try clear c3b0);(try clear c4);(try clear c4b0);(try clear c6);(try clear c9);(try clear c9b0);(try clear c12);(try clear p12);(try clear q12);(try clear hx12);(try clear c14);(try clear c14b0);(try clear c14b1);(try clear c18);(try clear c20);(try clear c20b0);(try clear c22);(try clear c22b0);(try clear c24);(try clear c24b0);(try clear c26);(try clear c26b0);(try clear c28);(try clear c28b0);(try clear hx125_0);(try clear hx125_1);(try clear hx125_2);(try clear hx125_3);(try clear hx125_4);(try clear hx125_5);(try clear p1);(try clear p12);(try clear p125);(try clear p2);(try clear q1);(try clear q12);(try clear q125);obtain ⟨kq, x31_18, rfl, HA, HJ18, BK126, HB⟩ := hcut
          cases kq with
          | zero => exact absurd HA.out (by simp [Qe.j2])
          | succ kj18 =>
           have H := HA.out;clear HA;simp only [Qe.j2] at H;by_cases c31 : x31_18 = true
           ·subst c31;rw [if_pos rfl] at H;obtain rfl := Option.some.inj H;go_wp2;(repeat (go_quiet (fail); try go_wp2));go_ret;exact ⟨by first | rfl | (simp [*]; done), by repeat (first | exact HB.out | apply Q5 | apply Q2 | apply Q6 | refine Q1 ?_ GE126.out)⟩
           ·replace c31 := Bool.eq_false_iff.mpr c31;subst c31;rw [if_neg (show ¬ (false = true) by decide)] at H;have HC32 := Q0.mk H;clear H;(go_upto_region 8 with (fail));(repeat (go_quiet (fail); go_upto_region 8 with (fail)));go_cut [62] (fun v62 wc => ∃ (kq : Nat) (x62_31 : Bool), v62 = .bool x62_31 ∧ Q0 (Qe.j3 kq l0 a1 x62_31 ((Q7 l0 a1).f0) ((Q7 l0 a1).f1) ((Q7 l0 a1).f2) ((Q7 l0 a1).f3) ((Q7 l0 a1).f4) ((Q7 l0 a1).f5) = some r) ∧ Q0 (kq ≤ kj18) ∧ Q0 (wc.heap[gb126]? = some (.cells #[.int .i64 ((Q7 l0 a1).f0), .string ((Q7 l0 a1).f1), .int .i64 ((Q7 l0 a1).f2), .int .i64 ((Q7 l0 a1).f3), .int .i64 ((Q7 l0 a1).f4), (.slice A125_5 ((Q7 l0 a1).f5).length c125_5)] 122 (0, 0))) ∧ Q0 (Below w.heap.size w wc))
            case first => as_aux_lemma =>
             have H := HC32.out;clear HC32;by_cases c33 : ((Q7 l0 a1).f0) = 3
             ·rw [if_pos c33] at H;have c33b0 : (((Q7 l0 a1).f0) == 3) = true := beq_iff_eq.mpr c33;have c33b1 : (((Q7 l0 a1).f0) != 3) = false := bne_eq_false_iff_eq.mpr c33;clear c33
              (first | rw [c33b0] | (simp only [QN, QO]; rw [c33b0]) | skip)
              by_cases c34 : ((Q7 l0 a1).f0) = 4
              ·rw [if_pos c34] at H;have c34b0 : (((Q7 l0 a1).f0) == 4) = true := beq_iff_eq.mpr c34;have c34b1 : (((Q7 l0 a1).f0) != 4) = false := bne_eq_false_iff_eq.mpr c34;clear c34;by_cases c35 : ((Q7 l0 a1).f0) = 1
               ·rw [if_pos c35] at H;have c35b0 : (((Q7 l0 a1).f0) == 1) = true := beq_iff_eq.mpr c35;have c35b1 : (((Q7 l0 a1).f0) != 1) = false := bne_eq_false_iff_eq.mpr c35;clear c35;have H' := Q0.mk H;clear H;obtain ⟨hcz36_0, hcz36_1, hcz36_2, hcz36_3, hcz36_4, hcz36_5⟩ := QF BK126.out;go_wp2;(repeat (go_quiet (fail); try go_wp2));go_meet;case rel => exact ⟨_, ((((Q7 l0 a1).f3) != 0)), (by first | rfl | (simp [*]; done)), H', ⟨by have := HJ4.out; have := HJ12.out; have := HJ18.out; first | omega | exact Nat.le_refl _⟩, ⟨by (with_reducible repeat (first | refine Q8 ?_ _ | refine Qb ?_ | refine Q9 ?_ _)); exact BK126.out⟩, ⟨by repeat (first | exact HB.out | apply Q5 | apply Q2 | apply Q6 | refine Q1 ?_ GE126.out)⟩⟩
               ·rw [if_neg c35] at H;have c35b0 : (((Q7 l0 a1).f0) == 1) = false := beq_eq_false_iff_ne.mpr c35;have c35b1 : (((Q7 l0 a1).f0) != 1) = true := bne_iff_ne.mpr c35;have H' := Q0.mk H;clear H;obtain ⟨hcz37_0, hcz37_1, hcz37_2, hcz37_3, hcz37_4, hcz37_5⟩ := QF BK126.out;go_wp2;(repeat (go_quiet (fail); try go_wp2));go_meet;case rel => exact ⟨_, ((((Q7 l0 a1).f3) != 0)), (by first | rfl | (simp [*]; done)), H', ⟨by have := HJ4.out; have := HJ12.out; have := HJ18.out; first | omega | exact Nat.le_refl _⟩, ⟨by (with_reducible repeat (first | refine Q8 ?_ _ | refine Qb ?_ | refine Q9 ?_ _)); exact BK126.out⟩, ⟨by repeat (first | exact HB.out | apply Q5 | apply Q2 | apply Q6 | refine Q1 ?_ GE126.out)⟩⟩
              ·rw [if_neg c34] at H;have c34b0 : (((Q7 l0 a1).f0) == 4) = false := beq_eq_false_iff_ne.mpr c34;have c34b1 : (((Q7 l0 a1).f0) != 4) = true := bne_iff_ne.mpr c34;by_cases c38 : (((Q7 l0 a1).f5).length : Int) > 0
               ·rw [if_pos c38] at H;have c38b0 : decide (0 < (((Q7 l0 a1).f5).length : Int)) = true := decide_eq_true c38;have c38b1 : decide (0 < ((Q7 l0 a1).f5).length) = true := decide_eq_true (by omega);clear c38;have H' := Q0.mk H;clear H;obtain ⟨hcz39_0, hcz39_1, hcz39_2, hcz39_3, hcz39_4, hcz39_5⟩ := QF BK126.out;go_wp2;(repeat (go_quiet (fail); try go_wp2));go_meet;case rel => exact ⟨_, (true), (by first | rfl | (simp [*]; done)), H', ⟨by have := HJ4.out; have := HJ12.out; have := HJ18.out; first | omega | exact Nat.le_refl _⟩, ⟨by (with_reducible repeat (first | refine Q8 ?_ _ | refine Qb ?_ | refine Q9 ?_ _)); exact BK126.out⟩, ⟨by repeat (first | exact HB.out | apply Q5 | apply Q2 | apply Q6 | refine Q1 ?_ GE126.out)⟩⟩
               ·rw [if_neg c38] at H;have c38b0 : decide (0 < (((Q7 l0 a1).f5).length : Int)) = false := decide_eq_false c38;have c38b1 : decide (0 < ((Q7 l0 a1).f5).length) = false := decide_eq_false (by omega);clear c38;by_cases c40 : ((Q7 l0 a1).f0) = 1
                ·rw [if_pos c40] at H;have c40b0 : (((Q7 l0 a1).f0) == 1) = true := beq_iff_eq.mpr c40;have c40b1 : (((Q7 l0 a1).f0) != 1) = false := bne_eq_false_iff_eq.mpr c40;clear c40;have H' := Q0.mk H;clear H;obtain ⟨hcz41_0, hcz41_1, hcz41_2, hcz41_3, hcz41_4, hcz41_5⟩ := QF BK126.out;go_wp2;(repeat (go_quiet (fail); try go_wp2));go_meet;case rel => exact ⟨_, ((((Q7 l0 a1).f3) != 0)), (by first | rfl | (simp [*]; done)), H', ⟨by have := HJ4.out; have := HJ12.out; have := HJ18.out; first | omega | exact Nat.le_refl _⟩, ⟨by (with_reducible repeat (first | refine Q8 ?_ _ | refine Qb ?_ | refine Q9 ?_ _)); exact BK126.out⟩, ⟨by repeat (first | exact HB.out | apply Q5 | apply Q2 | apply Q6 | refine Q1 ?_ GE126.out)⟩⟩
                ·rw [if_neg c40] at H;have c40b0 : (((Q7 l0 a1).f0) == 1) = false := beq_eq_false_iff_ne.mpr c40;have c40b1 : (((Q7 l0 a1).f0) != 1) = true := bne_iff_ne.mpr c40;have H' := Q0.mk H;clear H;obtain ⟨hcz42_0, hcz42_1, hcz42_2, hcz42_3, hcz42_4, hcz42_5⟩ := QF BK126.out;go_wp2;(repeat (go_quiet (fail); try go_wp2));go_meet;case rel => exact ⟨_, (false), (by first | rfl | (simp [*]; done)), H', ⟨by have := HJ4.out; have := HJ12.out; have := HJ18.out; first | omega | exact Nat.le_refl _⟩, ⟨by (with_reducible repeat (first | refine Q8 ?_ _ | refine Qb ?_ | refine Q9 ?_ _)); exact BK126.out⟩, ⟨by repeat (first | exact HB.out | apply Q5 | apply Q2 | apply Q6 | refine Q1 ?_ GE126.out)⟩⟩
             ·rw [if_neg c33] at H;have c33b0 : (((Q7 l0 a1).f0) == 3) = false := beq_eq_false_iff_ne.mpr c33;have c33b1 : (((Q7 l0 a1).f0) != 3) = true := bne_iff_ne.mpr c33
              (first | rw [c33b0] | (simp only [QN, QO]; rw [c33b0]) | skip)
              by_cases c43 : ((Q7 l0 a1).f4) = 0
              ·rw [if_pos c43] at H;have c43b0 : (((Q7 l0 a1).f4) == 0) = true := beq_iff_eq.mpr c43;have c43b1 : (((Q7 l0 a1).f4) != 0) = false := bne_eq_false_iff_eq.mpr c43;clear c43;by_cases c44 : ((Q7 l0 a1).f0) = 4
               ·rw [if_pos c44] at H;have c44b0 : (((Q7 l0 a1).f0) == 4) = true := beq_iff_eq.mpr c44;have c44b1 : (((Q7 l0 a1).f0) != 4) = false := bne_eq_false_iff_eq.mpr c44;clear c44;by_cases c45 : ((Q7 l0 a1).f0) = 1
                ·rw [if_pos c45] at H;have c45b0 : (((Q7 l0 a1).f0) == 1) = true := beq_iff_eq.mpr c45;have c45b1 : (((Q7 l0 a1).f0) != 1) = false := bne_eq_false_iff_eq.mpr c45;clear c45;have H' := Q0.mk H;clear H;obtain ⟨hcz46_0, hcz46_1, hcz46_2, hcz46_3, hcz46_4, hcz46_5⟩ := QF BK126.out;go_wp2;(repeat (go_quiet (fail); try go_wp2));go_meet;case rel => exact ⟨_, ((((Q7 l0 a1).f3) != 0)), (by first | rfl | (simp [*]; done)), H', ⟨by have := HJ4.out; have := HJ12.out; have := HJ18.out; first | omega | exact Nat.le_refl _⟩, ⟨by (with_reducible repeat (first | refine Q8 ?_ _ | refine Qb ?_ | refine Q9 ?_ _)); exact BK126.out⟩, ⟨by repeat (first | exact HB.out | apply Q5 | apply Q2 | apply Q6 | refine Q1 ?_ GE126.out)⟩⟩
                ·rw [if_neg c45] at H;have c45b0 : (((Q7 l0 a1).f0) == 1) = false := beq_eq_false_iff_ne.mpr c45;have c45b1 : (((Q7 l0 a1).f0) != 1) = true := bne_iff_ne.mpr c45;have H' := Q0.mk H;clear H;obtain ⟨hcz47_0, hcz47_1, hcz47_2, hcz47_3, hcz47_4, hcz47_5⟩ := QF BK126.out;go_wp2;(repeat (go_quiet (fail); try go_wp2));go_meet;case rel => exact ⟨_, ((((Q7 l0 a1).f3) != 0)), (by first | rfl | (simp [*]; done)), H', ⟨by have := HJ4.out; have := HJ12.out; have := HJ18.out; first | omega | exact Nat.le_refl _⟩, ⟨by (with_reducible repeat (first | refine Q8 ?_ _ | refine Qb ?_ | refine Q9 ?_ _)); exact BK126.out⟩, ⟨by repeat (first | exact HB.out | apply Q5 | apply Q2 | apply Q6 | refine Q1 ?_ GE126.out)⟩⟩
               ·rw [if_neg c44] at H;have c44b0 : (((Q7 l0 a1).f0) == 4) = false := beq_eq_false_iff_ne.mpr c44;have c44b1 : (((Q7 l0 a1).f0) != 4) = true := bne_iff_ne.mpr c44;by_cases c48 : (((Q7 l0 a1).f5).length : Int) > 0
                ·rw [if_pos c48] at H;have c48b0 : decide (0 < (((Q7 l0 a1).f5).length : Int)) = true := decide_eq_true c48;have c48b1 : decide (0 < ((Q7 l0 a1).f5).length) = true := decide_eq_true (by omega);clear c48;have H' := Q0.mk H;clear H;obtain ⟨hcz49_0, hcz49_1, hcz49_2, hcz49_3, hcz49_4, hcz49_5⟩ := QF BK126.out;go_wp2;(repeat (go_quiet (fail); try go_wp2));go_meet;case rel => exact ⟨_, (true), (by first | rfl | (simp [*]; done)), H', ⟨by have := HJ4.out; have := HJ12.out; have := HJ18.out; first | omega | exact Nat.le_refl _⟩, ⟨by (with_reducible repeat (first | refine Q8 ?_ _ | refine Qb ?_ | refine Q9 ?_ _)); exact BK126.out⟩, ⟨by repeat (first | exact HB.out | apply Q5 | apply Q2 | apply Q6 | refine Q1 ?_ GE126.out)⟩⟩
                ·rw [if_neg c48] at H;have c48b0 : decide (0 < (((Q7 l0 a1).f5).length : Int)) = false := decide_eq_false c48;have c48b1 : decide (0 < ((Q7 l0 a1).f5).length) = false := decide_eq_false (by omega);clear c48;by_cases c50 : ((Q7 l0 a1).f0) = 1
                 ·rw [if_pos c50] at H;have c50b0 : (((Q7 l0 a1).f0) == 1) = true := beq_iff_eq.mpr c50;have c50b1 : (((Q7 l0 a1).f0) != 1) = false := bne_eq_false_iff_eq.mpr c50;clear c50;have H' := Q0.mk H;clear H;obtain ⟨hcz51_0, hcz51_1, hcz51_2, hcz51_3, hcz51_4, hcz51_5⟩ := QF BK126.out;go_wp2;(repeat (go_quiet (fail); try go_wp2));go_meet;case rel => exact ⟨_, ((((Q7 l0 a1).f3) != 0)), (by first | rfl | (simp [*]; done)), H', ⟨by have := HJ4.out; have := HJ12.out; have := HJ18.out; first | omega | exact Nat.le_refl _⟩, ⟨by (with_reducible repeat (first | refine Q8 ?_ _ | refine Qb ?_ | refine Q9 ?_ _)); exact BK126.out⟩, ⟨by repeat (first | exact HB.out | apply Q5 | apply Q2 | apply Q6 | refine Q1 ?_ GE126.out)⟩⟩
                 ·rw [if_neg c50] at H;have c50b0 : (((Q7 l0 a1).f0) == 1) = false := beq_eq_false_iff_ne.mpr c50;have c50b1 : (((Q7 l0 a1).f0) != 1) = true := bne_iff_ne.mpr c50;have H' := Q0.mk H;clear H;obtain ⟨hcz52_0, hcz52_1, hcz52_2, hcz52_3, hcz52_4, hcz52_5⟩ := QF BK126.out;go_wp2;(repeat (go_quiet (fail); try go_wp2));go_meet;case rel => exact ⟨_, (false), (by first | rfl | (simp [*]; done)), H', ⟨by have := HJ4.out; have := HJ12.out; have := HJ18.out; first | omega | exact Nat.le_refl _⟩, ⟨by (with_reducible repeat (first | refine Q8 ?_ _ | refine Qb ?_ | refine Q9 ?_ _)); exact BK126.out⟩, ⟨by repeat (first | exact HB.out | apply Q5 | apply Q2 | apply Q6 | refine Q1 ?_ GE126.out)⟩⟩
              ·rw [if_neg c43] at H;have c43b0 : (((Q7 l0 a1).f4) == 0) = false := beq_eq_false_iff_ne.mpr c43;have c43b1 : (((Q7 l0 a1).f4) != 0) = true := bne_iff_ne.mpr c43;have H' := Q0.mk H;clear H;obtain ⟨hcz53_0, hcz53_1, hcz53_2, hcz53_3, hcz53_4, hcz53_5⟩ := QF BK126.out;go_wp2;(repeat (go_quiet (fail); try go_wp2));go_meet;case rel => exact ⟨_, (true), (by first | rfl | (simp [*]; done)), H', ⟨by have := HJ4.out; have := HJ12.out; have := HJ18.out; first | omega | exact Nat.le_refl _⟩, ⟨by (with_reducible repeat (first | refine Q8 ?_ _ | refine Qb ?_ | refine Q9 ?_ _)); exact BK126.out⟩, ⟨by repeat (first | exact HB.out | apply Q5 | apply Q2 | apply Q6 | refine Q1 ?_ GE126.out)⟩⟩
            case rest =>
             clear HC32;(try clear c1);(try clear p1);(try clear q1);(try clear hx1);(try clear c2);(try clear p2);(try clear c3);(try clear c3b0);(try clear c4);(try clear c4b0);(try clear c5);(try clear c6);(try clear c9);(try clear c9b0);(try clear c12);(try clear p12);(try clear q12);(try clear hx12);(try clear c14);(try clear c14b0);(try clear c14b1);(try clear c18);(try clear c20);(try clear c20b0);(try clear c22);(try clear c22b0);(try clear c24);(try clear c24b0);(try clear c26);(try clear c26b0);(try clear c28);(try clear c28b0);(try clear c31);(try clear c33);(try clear c33b0);(try clear c33b1);(try clear c34);(try clear c34b0);(try clear c34b1);(try clear c35);(try clear c35b0);(try clear c35b1);(try clear c38);(try clear c38b0);(try clear c38b1);(try clear c40);(try clear c40b0);(try clear c40b1);(try clear c43);(try clear c43b0);(try clear c43b1);(try clear c44);(try clear c44b0);(try clear c44b1);(try clear c45);(try clear c45b0);(try clear c45b1);(try clear c48);(try clear c48b0);(try clear c48b1);(try clear c50);(try clear c50b0);(try clear c50b1);(try clear hx125_0);(try clear hx125_1);(try clear hx125_2);(try clear hx125_3);(try clear hx125_4);(try clear hx125_5);(try clear p1);(try clear p12);(try clear p125);(try clear p2);(try clear q1);(try clear q12);(try clear q125);obtain ⟨kq, x62_31, rfl, HA, HJ31, BK126, HB⟩ := hcut
             cases kq with
             | zero => exact absurd HA.out (by simp [Qe.j3])
             | succ kj31 =>
              have H := HA.out;clear HA;simp only [Qe.j3] at H;by_cases c54 : x62_31 = true
              ·subst c54;rw [if_pos rfl] at H;obtain rfl := Option.some.inj H;go_wp2;(repeat (go_quiet (fail); try go_wp2));go_ret;exact ⟨by first | rfl | (simp [*]; done), by repeat (first | exact HB.out | apply Q5 | apply Q2 | apply Q6 | refine Q1 ?_ GE126.out)⟩
              ·replace c54 := Bool.eq_false_iff.mpr c54;subst c54;rw [if_neg (show ¬ (false = true) by decide)] at H;have HC55 := Q0.mk H;clear H;(go_upto_region 10 with (fail));(repeat (go_quiet (fail); go_upto_region 10 with (fail)));go_cut [97] (fun v97 wc => ∃ (kq : Nat) (x97_54 : Bool), v97 = .bool x97_54 ∧ Q0 (Qe.j4 kq l0 a1 x97_54 ((Q7 l0 a1).f0) ((Q7 l0 a1).f1) ((Q7 l0 a1).f2) ((Q7 l0 a1).f3) ((Q7 l0 a1).f4) ((Q7 l0 a1).f5) = some r) ∧ Q0 (kq ≤ kj31) ∧ Q0 (wc.heap[gb126]? = some (.cells #[.int .i64 ((Q7 l0 a1).f0), .string ((Q7 l0 a1).f1), .int .i64 ((Q7 l0 a1).f2), .int .i64 ((Q7 l0 a1).f3), .int .i64 ((Q7 l0 a1).f4), (.slice A125_5 ((Q7 l0 a1).f5).length c125_5)] 122 (0, 0))) ∧ Q0 (Below w.heap.size w wc))
               case first => as_aux_lemma =>
                have H := HC55.out;clear HC55;by_cases c56 : ((Q7 l0 a1).f0) = 1
                ·rw [if_pos c56] at H;have c56b0 : (((Q7 l0 a1).f0) == 1) = true := beq_iff_eq.mpr c56;have c56b1 : (((Q7 l0 a1).f0) != 1) = false := bne_eq_false_iff_eq.mpr c56;clear c56
                 (first | rw [c56b0] | (simp only [QN, QO]; rw [c56b0]) | skip)
                 by_cases c57 : ((Q7 l0 a1).f2) = 1
                 ·rw [if_pos c57] at H;have c57b0 : (((Q7 l0 a1).f2) == 1) = true := beq_iff_eq.mpr c57;have c57b1 : (((Q7 l0 a1).f2) != 1) = false := bne_eq_false_iff_eq.mpr c57;clear c57;by_cases c58 : ((Q7 l0 a1).f0) = 2
                  ·rw [if_pos c58] at H;have c58b0 : (((Q7 l0 a1).f0) == 2) = true := beq_iff_eq.mpr c58;have c58b1 : (((Q7 l0 a1).f0) != 2) = false := bne_eq_false_iff_eq.mpr c58;clear c58;have H' := Q0.mk H;clear H;obtain ⟨hcz59_0, hcz59_1, hcz59_2, hcz59_3, hcz59_4, hcz59_5⟩ := QF BK126.out;go_wp2;(repeat (go_quiet (fail); try go_wp2));go_meet;case rel => exact ⟨_, ((((Q7 l0 a1).f2) != 4)), (by first | rfl | (simp [*]; done)), H', ⟨by have := HJ4.out; have := HJ12.out; have := HJ18.out; have := HJ31.out; first | omega | exact Nat.le_refl _⟩, ⟨by (with_reducible repeat (first | refine Q8 ?_ _ | refine Qb ?_ | refine Q9 ?_ _)); exact BK126.out⟩, ⟨by repeat (first | exact HB.out | apply Q5 | apply Q2 | apply Q6 | refine Q1 ?_ GE126.out)⟩⟩
                  ·rw [if_neg c58] at H;have c58b0 : (((Q7 l0 a1).f0) == 2) = false := beq_eq_false_iff_ne.mpr c58;have c58b1 : (((Q7 l0 a1).f0) != 2) = true := bne_iff_ne.mpr c58;have H' := Q0.mk H;clear H;obtain ⟨hcz60_0, hcz60_1, hcz60_2, hcz60_3, hcz60_4, hcz60_5⟩ := QF BK126.out;go_wp2;(repeat (go_quiet (fail); try go_wp2));go_meet;case rel => exact ⟨_, (false), (by first | rfl | (simp [*]; done)), H', ⟨by have := HJ4.out; have := HJ12.out; have := HJ18.out; have := HJ31.out; first | omega | exact Nat.le_refl _⟩, ⟨by (with_reducible repeat (first | refine Q8 ?_ _ | refine Qb ?_ | refine Q9 ?_ _)); exact BK126.out⟩, ⟨by repeat (first | exact HB.out | apply Q5 | apply Q2 | apply Q6 | refine Q1 ?_ GE126.out)⟩⟩
                 ·rw [if_neg c57] at H;have c57b0 : (((Q7 l0 a1).f2) == 1) = false := beq_eq_false_iff_ne.mpr c57;have c57b1 : (((Q7 l0 a1).f2) != 1) = true := bne_iff_ne.mpr c57;by_cases c61 : ((Q7 l0 a1).f2) = 4
                  ·rw [if_pos c61] at H;have c61b0 : (((Q7 l0 a1).f2) == 4) = true := beq_iff_eq.mpr c61;have c61b1 : (((Q7 l0 a1).f2) != 4) = false := bne_eq_false_iff_eq.mpr c61;clear c61;by_cases c62 : ((Q7 l0 a1).f0) = 2
                   ·rw [if_pos c62] at H;have c62b0 : (((Q7 l0 a1).f0) == 2) = true := beq_iff_eq.mpr c62;have c62b1 : (((Q7 l0 a1).f0) != 2) = false := bne_eq_false_iff_eq.mpr c62;clear c62;have H' := Q0.mk H;clear H;obtain ⟨hcz63_0, hcz63_1, hcz63_2, hcz63_3, hcz63_4, hcz63_5⟩ := QF BK126.out;go_wp2;(repeat (go_quiet (fail); try go_wp2));go_meet;case rel => exact ⟨_, ((((Q7 l0 a1).f2) != 4)), (by first | rfl | (simp [*]; done)), H', ⟨by have := HJ4.out; have := HJ12.out; have := HJ18.out; have := HJ31.out; first | omega | exact Nat.le_refl _⟩, ⟨by (with_reducible repeat (first | refine Q8 ?_ _ | refine Qb ?_ | refine Q9 ?_ _)); exact BK126.out⟩, ⟨by repeat (first | exact HB.out | apply Q5 | apply Q2 | apply Q6 | refine Q1 ?_ GE126.out)⟩⟩
                   ·rw [if_neg c62] at H;have c62b0 : (((Q7 l0 a1).f0) == 2) = false := beq_eq_false_iff_ne.mpr c62;have c62b1 : (((Q7 l0 a1).f0) != 2) = true := bne_iff_ne.mpr c62;have H' := Q0.mk H;clear H;obtain ⟨hcz64_0, hcz64_1, hcz64_2, hcz64_3, hcz64_4, hcz64_5⟩ := QF BK126.out;go_wp2;(repeat (go_quiet (fail); try go_wp2));go_meet;case rel => exact ⟨_, (false), (by first | rfl | (simp [*]; done)), H', ⟨by have := HJ4.out; have := HJ12.out; have := HJ18.out; have := HJ31.out; first | omega | exact Nat.le_refl _⟩, ⟨by (with_reducible repeat (first | refine Q8 ?_ _ | refine Qb ?_ | refine Q9 ?_ _)); exact BK126.out⟩, ⟨by repeat (first | exact HB.out | apply Q5 | apply Q2 | apply Q6 | refine Q1 ?_ GE126.out)⟩⟩
                  ·rw [if_neg c61] at H;have c61b0 : (((Q7 l0 a1).f2) == 4) = false := beq_eq_false_iff_ne.mpr c61;have c61b1 : (((Q7 l0 a1).f2) != 4) = true := bne_iff_ne.mpr c61;have H' := Q0.mk H;clear H;obtain ⟨hcz65_0, hcz65_1, hcz65_2, hcz65_3, hcz65_4, hcz65_5⟩ := QF BK126.out;go_wp2;(repeat (go_quiet (fail); try go_wp2));go_meet;case rel => exact ⟨_, (true), (by first | rfl | (simp [*]; done)), H', ⟨by have := HJ4.out; have := HJ12.out; have := HJ18.out; have := HJ31.out; first | omega | exact Nat.le_refl _⟩, ⟨by (with_reducible repeat (first | refine Q8 ?_ _ | refine Qb ?_ | refine Q9 ?_ _)); exact BK126.out⟩, ⟨by repeat (first | exact HB.out | apply Q5 | apply Q2 | apply Q6 | refine Q1 ?_ GE126.out)⟩⟩
                ·rw [if_neg c56] at H;have c56b0 : (((Q7 l0 a1).f0) == 1) = false := beq_eq_false_iff_ne.mpr c56;have c56b1 : (((Q7 l0 a1).f0) != 1) = true := bne_iff_ne.mpr c56
                 (first | rw [c56b0] | (simp only [QN, QO]; rw [c56b0]) | skip)
                 by_cases c66 : ((Q7 l0 a1).f0) = 2
                 ·rw [if_pos c66] at H;have c66b0 : (((Q7 l0 a1).f0) == 2) = true := beq_iff_eq.mpr c66;have c66b1 : (((Q7 l0 a1).f0) != 2) = false := bne_eq_false_iff_eq.mpr c66;clear c66;have H' := Q0.mk H;clear H;obtain ⟨hcz67_0, hcz67_1, hcz67_2, hcz67_3, hcz67_4, hcz67_5⟩ := QF BK126.out;go_wp2;(repeat (go_quiet (fail); try go_wp2));go_meet;case rel => exact ⟨_, ((((Q7 l0 a1).f2) != 4)), (by first | rfl | (simp [*]; done)), H', ⟨by have := HJ4.out; have := HJ12.out; have := HJ18.out; have := HJ31.out; first | omega | exact Nat.le_refl _⟩, ⟨by (with_reducible repeat (first | refine Q8 ?_ _ | refine Qb ?_ | refine Q9 ?_ _)); exact BK126.out⟩, ⟨by repeat (first | exact HB.out | apply Q5 | apply Q2 | apply Q6 | refine Q1 ?_ GE126.out)⟩⟩
                 ·rw [if_neg c66] at H;have c66b0 : (((Q7 l0 a1).f0) == 2) = false := beq_eq_false_iff_ne.mpr c66;have c66b1 : (((Q7 l0 a1).f0) != 2) = true := bne_iff_ne.mpr c66;have H' := Q0.mk H;clear H;obtain ⟨hcz68_0, hcz68_1, hcz68_2, hcz68_3, hcz68_4, hcz68_5⟩ := QF BK126.out;go_wp2;(repeat (go_quiet (fail); try go_wp2));go_meet;case rel => exact ⟨_, (false), (by first | rfl | (simp [*]; done)), H', ⟨by have := HJ4.out; have := HJ12.out; have := HJ18.out; have := HJ31.out; first | omega | exact Nat.le_refl _⟩, ⟨by (with_reducible repeat (first | refine Q8 ?_ _ | refine Qb ?_ | refine Q9 ?_ _)); exact BK126.out⟩, ⟨by repeat (first | exact HB.out | apply Q5 | apply Q2 | apply Q6 | refine Q1 ?_ GE126.out)⟩⟩
               case rest =>
                clear HC55;(try clear c1);(try clear p1);(try clear q1);(try clear hx1);(try clear c2);(try clear p2);(try clear c3);(try clear c3b0);(try clear c4);(try clear c4b0);(try clear c5);(try clear c6);(try clear c9);(try clear c9b0);(try clear c12);(try clear p12);(try clear q12);(try clear hx12);(try clear c14);(try clear c14b0);(try clear c14b1);(try clear c18);(try clear c20);(try clear c20b0);(try clear c22);(try clear c22b0);(try clear c24);(try clear c24b0);(try clear c26);(try clear c26b0);(try clear c28);(try clear c28b0);(try clear c31);(try clear c33);(try clear c33b0);(try clear c33b1);(try clear c34);(try clear c34b0);(try clear c34b1);(try clear c35);(try clear c35b0);(try clear c35b1);(try clear c38);(try clear c38b0);(try clear c38b1);(try clear c40);(try clear c40b0);(try clear c40b1);(try clear c43);(try clear c43b0);(try clear c43b1);(try clear c44);(try clear c44b0);(try clear c44b1);(try clear c45);(try clear c45b0);(try clear c45b1);(try clear c48);(try clear c48b0);(try clear c48b1);(try clear c50);(try clear c50b0);(try clear c50b1);(try clear c54);(try clear c56);(try clear c56b0);(try clear c56b1);(try clear c57);(try clear c57b0);(try clear c57b1);(try clear c58);(try clear c58b0);(try clear c58b1);(try clear c61);(try clear c61b0);(try clear c61b1);(try clear c62);(try clear c62b0);(try clear c62b1);(try clear c66);(try clear c66b0);(try clear c66b1);(try clear hx125_0);(try clear hx125_1);(try clear hx125_2);(try clear hx125_3);(try clear hx125_4);(try clear hx125_5);(try clear p1);(try clear p12);(try clear p125);(try clear p2);(try clear q1);(try clear q12);(try clear q125);obtain ⟨kq, x97_54, rfl, HA, HJ54, BK126, HB⟩ := hcut
                cases kq with
                | zero => exact absurd HA.out (by simp [Qe.j4])
                | succ kj54 =>
                 have H := HA.out;clear HA;simp only [Qe.j4] at H;by_cases c69 : x97_54 = true
                 ·subst c69;rw [if_pos rfl] at H;obtain rfl := Option.some.inj H;go_wp2;(repeat (go_quiet (fail); try go_wp2));go_ret;exact ⟨by first | rfl | (simp [*]; done), by repeat (first | exact HB.out | apply Q5 | apply Q2 | apply Q6 | refine Q1 ?_ GE126.out)⟩
                 ·replace c69 := Bool.eq_false_iff.mpr c69;subst c69;rw [if_neg (show ¬ (false = true) by decide)] at H;have HC70 := Q0.mk H;clear H;(go_upto_region 12 with (fail));(repeat (go_quiet (fail); go_upto_region 12 with (fail)));go_cut [121] (fun v121 wc => ∃ (kq : Nat) (x121_69 : Bool), v121 = .bool x121_69 ∧ Q0 (Qe.j5 kq l0 a1 x121_69 ((Q7 l0 a1).f0) ((Q7 l0 a1).f1) ((Q7 l0 a1).f2) ((Q7 l0 a1).f3) ((Q7 l0 a1).f4) ((Q7 l0 a1).f5) = some r) ∧ Q0 (kq ≤ kj54) ∧ Q0 (wc.heap[gb126]? = some (.cells #[.int .i64 ((Q7 l0 a1).f0), .string ((Q7 l0 a1).f1), .int .i64 ((Q7 l0 a1).f2), .int .i64 ((Q7 l0 a1).f3), .int .i64 ((Q7 l0 a1).f4), (.slice A125_5 ((Q7 l0 a1).f5).length c125_5)] 122 (0, 0))) ∧ Q0 (Below w.heap.size w wc))
                  case first => as_aux_lemma =>
                   have H := HC70.out;clear HC70;by_cases c71 : ((Q7 l0 a1).f0) = 3
                   ·rw [if_pos c71] at H;have c71b0 : (((Q7 l0 a1).f0) == 3) = true := beq_iff_eq.mpr c71;have c71b1 : (((Q7 l0 a1).f0) != 3) = false := bne_eq_false_iff_eq.mpr c71;clear c71
                    (first | rw [c71b0] | (simp only [QN, QO]; rw [c71b0]) | skip)
                    have H' := Q0.mk H;clear H;obtain ⟨hcz72_0, hcz72_1, hcz72_2, hcz72_3, hcz72_4, hcz72_5⟩ := QF BK126.out;go_wp2;(repeat (go_quiet (fail); try go_wp2));go_meet;case rel => exact ⟨_, (decide (((Q7 l0 a1).f3) ≥ a1)), (by first | rfl | (simp [*]; done)), H', ⟨by have := HJ4.out; have := HJ12.out; have := HJ18.out; have := HJ31.out; have := HJ54.out; first | omega | exact Nat.le_refl _⟩, ⟨by (with_reducible repeat (first | refine Q8 ?_ _ | refine Qb ?_ | refine Q9 ?_ _)); exact BK126.out⟩, ⟨by repeat (first | exact HB.out | apply Q5 | apply Q2 | apply Q6 | refine Q1 ?_ GE126.out)⟩⟩
                   ·rw [if_neg c71] at H;have c71b0 : (((Q7 l0 a1).f0) == 3) = false := beq_eq_false_iff_ne.mpr c71;have c71b1 : (((Q7 l0 a1).f0) != 3) = true := bne_iff_ne.mpr c71
                    (first | rw [c71b0] | (simp only [QN, QO]; rw [c71b0]) | skip)
                    have H' := Q0.mk H;clear H;obtain ⟨hcz73_0, hcz73_1, hcz73_2, hcz73_3, hcz73_4, hcz73_5⟩ := QF BK126.out;go_wp2;(repeat (go_quiet (fail); try go_wp2));go_meet;case rel => exact ⟨_, (false), (by first | rfl | (simp [*]; done)), H', ⟨by have := HJ4.out; have := HJ12.out; have := HJ18.out; have := HJ31.out; have := HJ54.out; first | omega | exact Nat.le_refl _⟩, ⟨by (with_reducible repeat (first | refine Q8 ?_ _ | refine Qb ?_ | refine Q9 ?_ _)); exact BK126.out⟩, ⟨by repeat (first | exact HB.out | apply Q5 | apply Q2 | apply Q6 | refine Q1 ?_ GE126.out)⟩⟩
                  case rest =>
                   clear HC70;(try clear c1);(try clear p1);(try clear q1);(try clear hx1);(try clear c2);(try clear p2);(try clear c3);(try clear c3b0);(try clear c4);(try clear c4b0);(try clear c5);(try clear c6);(try clear c7);(try clear c9);(try clear c9b0);(try clear c12);(try clear p12);(try clear q12);(try clear hx12);(try clear c14);(try clear c14b0);(try clear c14b1);(try clear c18);(try clear c20);(try clear c20b0);(try clear c22);(try clear c22b0);(try clear c24);(try clear c24b0);(try clear c26);(try clear c26b0);(try clear c28);(try clear c28b0);(try clear c31);(try clear c33);(try clear c33b0);(try clear c33b1);(try clear c34);(try clear c34b0);(try clear c34b1);(try clear c35);(try clear c35b0);(try clear c35b1);(try clear c38);(try clear c38b0);(try clear c38b1);(try clear c40);(try clear c40b0);(try clear c40b1);(try clear c43);(try clear c43b0);(try clear c43b1);(try clear c44);(try clear c44b0);(try clear c44b1);(try clear c45);(try clear c45b0);(try clear c45b1);(try clear c48);(try clear c48b0);(try clear c48b1);(try clear c50);(try clear c50b0);(try clear c50b1);(try clear c54);(try clear c56);(try clear c56b0);(try clear c56b1);(try clear c57);(try clear c57b0);(try clear c57b1);(try clear c58);(try clear c58b0);(try clear c58b1);(try clear c61);(try clear c61b0);(try clear c61b1);(try clear c62);(try clear c62b0);(try clear c62b1);(try clear c66);(try clear c66b0);(try clear c66b1);(try clear c69);(try clear c71);(try clear c71b0);(try clear c71b1);(try clear hx125_0);(try clear hx125_1);(try clear hx125_2);(try clear hx125_3);(try clear hx125_4);(try clear hx125_5);(try clear p1);(try clear p12);(try clear p125);(try clear p2);(try clear q1);(try clear q12);(try clear q125);obtain ⟨kq, x121_69, rfl, HA, HJ69, BK126, HB⟩ := hcut
                   cases kq with
                   | zero => exact absurd HA.out (by simp [Qe.j5])
                   | succ kj69 =>
                    have H := HA.out;clear HA;simp only [Qe.j5] at H;by_cases c74 : x121_69 = true
                    ·subst c74;rw [if_pos rfl] at H;obtain rfl := Option.some.inj H;go_wp2;(repeat (go_quiet (fail); try go_wp2));go_ret;exact ⟨by first | rfl | (simp [*]; done), by repeat (first | exact HB.out | apply Q5 | apply Q2 | apply Q6 | refine Q1 ?_ GE126.out)⟩
                    ·replace c74 := Bool.eq_false_iff.mpr c74;subst c74;rw [if_neg (show ¬ (false = true) by decide)] at H;have HC75 := Q0.mk H;clear H;(go_upto_region 14 with (fail));(repeat (go_quiet (fail); go_upto_region 14 with (fail)));go_cut [131] (fun v131 wc => ∃ (kq : Nat) (x131_74 : Bool), v131 = .bool x131_74 ∧ Q0 (Qe.j6 kq l0 a1 x131_74 ((Q7 l0 a1).f0) ((Q7 l0 a1).f1) ((Q7 l0 a1).f2) ((Q7 l0 a1).f3) ((Q7 l0 a1).f4) ((Q7 l0 a1).f5) = some r) ∧ Q0 (kq ≤ kj69) ∧ Q0 (wc.heap[gb126]? = some (.cells #[.int .i64 ((Q7 l0 a1).f0), .string ((Q7 l0 a1).f1), .int .i64 ((Q7 l0 a1).f2), .int .i64 ((Q7 l0 a1).f3), .int .i64 ((Q7 l0 a1).f4), (.slice A125_5 ((Q7 l0 a1).f5).length c125_5)] 122 (0, 0))) ∧ Q0 (Below w.heap.size w wc))
                     case first => as_aux_lemma =>
                      have H := HC75.out;clear HC75;by_cases c76 : ((Q7 l0 a1).f0) = 3
                      ·rw [if_pos c76] at H;have c76b0 : (((Q7 l0 a1).f0) == 3) = true := beq_iff_eq.mpr c76;have c76b1 : (((Q7 l0 a1).f0) != 3) = false := bne_eq_false_iff_eq.mpr c76;clear c76
                       (first | rw [c76b0] | (simp only [QN, QO]; rw [c76b0]) | skip)
                       by_cases c77 : 0 ≤ ((Q7 l0 a1).f3)
                       ·rw [if_pos c77] at H;have c77b0 : decide (0 ≤ ((Q7 l0 a1).f3)) = true := decide_eq_true c77;clear c77;by_cases c78 : ((Q7 l0 a1).f3) < (l0.length : Int)
                        ·rw [if_pos c78] at H;have c78b0 : decide (((Q7 l0 a1).f3) < (l0.length : Int)) = true := decide_eq_true c78;clear c78;have H' := Q0.mk H;clear H;obtain ⟨hcz79_0, hcz79_1, hcz79_2, hcz79_3, hcz79_4, hcz79_5⟩ := QF BK126.out;have p128 : 0 ≤ (((Q7 l0 a1).f3) : Int) := of_decide_eq_true ‹_›;have q128 : ((Q7 l0 a1).f3) < (l0.length : Int) := of_decide_eq_true ‹_›;obtain ⟨ad128, A128_5, c128_5, e128, hx128_0, hx128_1, hx128_2, hx128_3, hx128_4, hx128_5, hl128_5, hi128_5⟩ := at_T122 HR0.out ((Q7 l0 a1).f3) p128 q128;obtain rfl : ad125 = ad128 := (by injection e128);replace hx128_0 := cup HB.out hx128_0;replace hx128_1 := cup HB.out hx128_1;replace hx128_2 := cup HB.out hx128_2;replace hx128_3 := cup HB.out hx128_3;replace hx128_4 := cup HB.out hx128_4;replace hx128_5 := cup HB.out hx128_5;have HR128_5 := Q0.mk hi128_5;have HC128_5 := Q0.mk hl128_5;clear hi128_5 hl128_5;replace p128 := eq_true p128;replace q128 := eq_true q128;go_wp2;(repeat (go_quiet (fail); try go_wp2));go_meet;case rel => exact ⟨_, ((((Q7 l0 a1).f2) != (wrap64 (((Q7 l0 a1).f4) * ((Q7 l0 ((Q7 l0 a1).f3)).f2))))), (by first | rfl | (simp [*]; done)), H', ⟨by have := HJ4.out; have := HJ12.out; have := HJ18.out; have := HJ31.out; have := HJ54.out; have := HJ69.out; first | omega | exact Nat.le_refl _⟩, ⟨by (with_reducible repeat (first | refine Q8 ?_ _ | refine Qb ?_ | refine Q9 ?_ _)); exact BK126.out⟩, ⟨by repeat (first | exact HB.out | apply Q5 | apply Q2 | apply Q6 | refine Q1 ?_ GE126.out)⟩⟩
                        ·rw [if_neg c78] at H;exact absurd H (by simp)
                       ·rw [if_neg c77] at H;exact absurd H (by simp)
                      ·rw [if_neg c76] at H;have c76b0 : (((Q7 l0 a1).f0) == 3) = false := beq_eq_false_iff_ne.mpr c76;have c76b1 : (((Q7 l0 a1).f0) != 3) = true := bne_iff_ne.mpr c76
                       (first | rw [c76b0] | (simp only [QN, QO]; rw [c76b0]) | skip)
                       have H' := Q0.mk H;clear H;obtain ⟨hcz80_0, hcz80_1, hcz80_2, hcz80_3, hcz80_4, hcz80_5⟩ := QF BK126.out;go_wp2;(repeat (go_quiet (fail); try go_wp2));go_meet;case rel => exact ⟨_, (false), (by first | rfl | (simp [*]; done)), H', ⟨by have := HJ4.out; have := HJ12.out; have := HJ18.out; have := HJ31.out; have := HJ54.out; have := HJ69.out; first | omega | exact Nat.le_refl _⟩, ⟨by (with_reducible repeat (first | refine Q8 ?_ _ | refine Qb ?_ | refine Q9 ?_ _)); exact BK126.out⟩, ⟨by repeat (first | exact HB.out | apply Q5 | apply Q2 | apply Q6 | refine Q1 ?_ GE126.out)⟩⟩
                     case rest =>
                      clear HC75;(try clear c1);(try clear p1);(try clear q1);(try clear hx1);(try clear c2);(try clear p2);(try clear c3);(try clear c3b0);(try clear c4);(try clear c4b0);(try clear c5);(try clear c6);(try clear p6);(try clear c7);(try clear c9);(try clear c9b0);(try clear c12);(try clear p12);(try clear q12);(try clear hx12);(try clear c14);(try clear c14b0);(try clear c14b1);(try clear c18);(try clear c20);(try clear c20b0);(try clear c22);(try clear c22b0);(try clear c24);(try clear c24b0);(try clear c26);(try clear c26b0);(try clear c28);(try clear c28b0);(try clear c31);(try clear c33);(try clear c33b0);(try clear c33b1);(try clear c34);(try clear c34b0);(try clear c34b1);(try clear c35);(try clear c35b0);(try clear c35b1);(try clear c38);(try clear c38b0);(try clear c38b1);(try clear c40);(try clear c40b0);(try clear c40b1);(try clear c43);(try clear c43b0);(try clear c43b1);(try clear c44);(try clear c44b0);(try clear c44b1);(try clear c45);(try clear c45b0);(try clear c45b1);(try clear c48);(try clear c48b0);(try clear c48b1);(try clear c50);(try clear c50b0);(try clear c50b1);(try clear c54);(try clear c56);(try clear c56b0);(try clear c56b1);(try clear c57);(try clear c57b0);(try clear c57b1);(try clear c58);(try clear c58b0);(try clear c58b1);(try clear c61);(try clear c61b0);(try clear c61b1);(try clear c62);(try clear c62b0);(try clear c62b1);(try clear p64);(try clear c66);(try clear c66b0);(try clear c66b1);(try clear c69);(try clear c71);(try clear c71b0);(try clear c71b1);(try clear c74);(try clear c76);(try clear c76b0);(try clear c76b1);(try clear c77);(try clear c77b0);(try clear c78);(try clear c78b0);(try clear hx125_0);(try clear hx125_1);(try clear hx125_2);(try clear hx125_3);(try clear hx125_4);(try clear hx125_5);(try clear hx128_0);(try clear hx128_1);(try clear hx128_2);(try clear hx128_3);(try clear hx128_4);(try clear hx128_5);(try clear p1);(try clear p12);(try clear p125);(try clear p128);(try clear p2);(try clear q1);(try clear q12);(try clear q125);(try clear q128);obtain ⟨kq, x131_74, rfl, HA, HJ74, BK126, HB⟩ := hcut
                      cases kq with
                      | zero => exact absurd HA.out (by simp [Qe.j6])
                      | succ kj74 =>
                       have H := HA.out;clear HA;simp only [Qe.j6] at H;by_cases c81 : x131_74 = true
                       ·subst c81;rw [if_pos rfl] at H;obtain rfl := Option.some.inj H;go_wp2;(repeat (go_quiet (fail); try go_wp2));go_ret;exact ⟨by first | rfl | (simp [*]; done), by repeat (first | exact HB.out | apply Q5 | apply Q2 | apply Q6 | refine Q1 ?_ GE126.out)⟩
                       ·replace c81 := Bool.eq_false_iff.mpr c81;subst c81;rw [if_neg (show ¬ (false = true) by decide)] at H;by_cases c82 : (((Q7 l0 a1).f5).length : Int) > 8
                        ·rw [if_pos c82] at H;have c82b0 : decide (8 < (((Q7 l0 a1).f5).length : Int)) = true := decide_eq_true c82;have c82b1 : decide (8 < ((Q7 l0 a1).f5).length) = true := decide_eq_true (by omega);clear c82;obtain rfl := Option.some.inj H;obtain ⟨hcz83_0, hcz83_1, hcz83_2, hcz83_3, hcz83_4, hcz83_5⟩ := QF BK126.out;go_wp2;(repeat (go_quiet (fail); try go_wp2));go_ret;exact ⟨by first | rfl | (simp [*]; done), by repeat (first | exact HB.out | apply Q5 | apply Q2 | apply Q6 | refine Q1 ?_ GE126.out)⟩
                        ·rw [if_neg c82] at H;have c82b0 : decide (8 < (((Q7 l0 a1).f5).length : Int)) = false := decide_eq_false c82;have c82b1 : decide (8 < ((Q7 l0 a1).f5).length) = false := decide_eq_false (by omega);clear c82;have H' := Q0.mk H;clear H;obtain ⟨hcz84_0, hcz84_1, hcz84_2, hcz84_3, hcz84_4, hcz84_5⟩ := QF BK126.out;go_wp2;repeat (go_quiet (fail); try go_wp2)
                         go_loopg [157] kj74 (fun kq v157 w' => ∃ (x157_8 : Int), v157 = .int .i64 x157_8 ∧ Q0 (Qe.l0 kq l0 a1 (((Q7 l0 a1).f5).length : Int) x157_8 = some r) ∧ Q0 (kq ≤ kj74) ∧ Q0 (w'.heap[gb126]? = some (.cells #[.int .i64 ((Q7 l0 a1).f0), .string ((Q7 l0 a1).f1), .int .i64 ((Q7 l0 a1).f2), .int .i64 ((Q7 l0 a1).f3), .int .i64 ((Q7 l0 a1).f4), (.slice A125_5 ((Q7 l0 a1).f5).length c125_5)] 122 (0, 0))) ∧ Q0 (Below w.heap.size w w'))
                         case atStart => exact ⟨(0), (by first | rfl | (simp [*]; done)), H', ⟨Nat.le_refl _⟩, ⟨by (with_reducible repeat (first | refine Q8 ?_ _ | refine Qb ?_ | refine Q9 ?_ _)); exact BK126.out⟩, ⟨by repeat (first | exact HB.out | apply Q5 | apply Q2 | apply Q6 | refine Q1 ?_ GE126.out)⟩⟩
                         case round =>
                          clear H';(try clear c1);(try clear p1);(try clear q1);(try clear hx1);(try clear c2);(try clear p2);(try clear c3);(try clear c3b0);(try clear c4);(try clear c4b0);(try clear c5);(try clear c6);(try clear p6);(try clear c7);(try clear c8);(try clear c9);(try clear c9b0);(try clear c12);(try clear p12);(try clear q12);(try clear hx12);(try clear c14);(try clear c14b0);(try clear c14b1);(try clear c18);(try clear c20);(try clear c20b0);(try clear c22);(try clear c22b0);(try clear c24);(try clear c24b0);(try clear c26);(try clear c26b0);(try clear c28);(try clear c28b0);(try clear c31);(try clear c33);(try clear c33b0);(try clear c33b1);(try clear c34);(try clear c34b0);(try clear c34b1);(try clear c35);(try clear c35b0);(try clear c35b1);(try clear c38);(try clear c38b0);(try clear c38b1);(try clear c40);(try clear c40b0);(try clear c40b1);(try clear c43);(try clear c43b0);(try clear c43b1);(try clear c44);(try clear c44b0);(try clear c44b1);(try clear c45);(try clear c45b0);(try clear c45b1);(try clear c48);(try clear c48b0);(try clear c48b1);(try clear c50);(try clear c50b0);(try clear c50b1);(try clear c54);(try clear c56);(try clear c56b0);(try clear c56b1);(try clear c57);(try clear c57b0);(try clear c57b1);(try clear c58);(try clear c58b0);(try clear c58b1);(try clear c61);(try clear c61b0);(try clear c61b1);(try clear c62);(try clear c62b0);(try clear c62b1);(try clear p64);(try clear c66);(try clear c66b0);(try clear c66b1);(try clear c69);(try clear c71);(try clear c71b0);(try clear c71b1);(try clear c74);(try clear c76);(try clear c76b0);(try clear c76b1);(try clear c77);(try clear c77b0);(try clear c78);(try clear c78b0);(try clear c81);(try clear c82);(try clear c82b0);(try clear c82b1);(try clear hx125_0);(try clear hx125_1);(try clear hx125_2);(try clear hx125_3);(try clear hx125_4);(try clear hx125_5);(try clear hx128_0);(try clear hx128_1);(try clear hx128_2);(try clear hx128_3);(try clear hx128_4);(try clear hx128_5);(try clear p1);(try clear p12);(try clear p125);(try clear p128);(try clear p2);(try clear p6);(try clear p64);(try clear q1);(try clear q12);(try clear q125);(try clear q128);obtain ⟨x157_8, rfl, HA, HK8, BK126, HB⟩ := hrel
                          cases gk with
                          | zero => exact absurd HA.out (by simp [Qe.l0])
                          | succ k8 =>
                           have H := HA.out;clear HA;simp only [Qe.l0] at H;by_cases c85 : x157_8 < (((Q7 l0 a1).f5).length : Int)
                           ·rw [if_pos c85] at H;have c85b0 : decide (x157_8 < (((Q7 l0 a1).f5).length : Int)) = true := decide_eq_true c85;clear c85;replace H := Option.bind_eq_some_iff.mp H;obtain ⟨t129, A860, H⟩ := H;(try dsimp only at H);have A86 := Q0.mk A860;clear A860;by_cases c87 : t129 = 0
                            ·rw [if_pos c87] at H;have c87b0 : (t129 == 0) = true := beq_iff_eq.mpr c87;have c87b1 : (t129 != 0) = false := bne_eq_false_iff_eq.mpr c87;clear c87;have H' := Q0.mk H;clear H;go_wp2_with (first | (go_at_call 86; (with_reducible refine (QG.calls k8 _ _ l0 a1 x157_8 t129 _ ?side1 ?side2 A86.out).mono ?_); (case side1 => repeat (first | exact (Kd.Qy HR0.out HB.out) | (with_reducible refine Kd.QS ?_ _) | (with_reducible refine Kd.QR ?_ _) | (with_reducible refine Kd.X5 ?_))); (case side2 => exact HC0.out); rintro e w88 ⟨rfl, hb⟩; replace BK126 := Q0.mk (Qc BK126.out hb); replace HB := Q0.mk (Ql HB.out hb)));repeat (go_quiet (fail); try go_wp2)
                             go_roundg k8
                             (case measure => have := HJ4.out; have := HJ12.out; have := HJ18.out; have := HJ31.out; have := HJ54.out; have := HJ69.out; have := HJ74.out; have := HK8.out; omega);case rel => exact ⟨(wrap64 (x157_8 + 1)), (by first | rfl | (simp [*]; done)), H', ⟨by have := HJ4.out; have := HJ12.out; have := HJ18.out; have := HJ31.out; have := HJ54.out; have := HJ69.out; have := HJ74.out; have := HK8.out; omega⟩, ⟨by (with_reducible repeat (first | refine Q8 ?_ _ | refine Qb ?_ | refine Q9 ?_ _)); exact BK126.out⟩, ⟨by repeat (first | exact HB.out | apply Q5 | apply Q2 | apply Q6 | refine Q1 ?_ GE126.out)⟩⟩
                            ·rw [if_neg c87] at H;have c87b0 : (t129 == 0) = false := beq_eq_false_iff_ne.mpr c87;have c87b1 : (t129 != 0) = true := bne_iff_ne.mpr c87;obtain rfl := Option.some.inj H;go_wp2_with (first | (go_at_call 86; (with_reducible refine (QG.calls k8 _ _ l0 a1 x157_8 t129 _ ?side1 ?side2 A86.out).mono ?_); (case side1 => repeat (first | exact (Kd.Qy HR0.out HB.out) | (with_reducible refine Kd.QS ?_ _) | (with_reducible refine Kd.QR ?_ _) | (with_reducible refine Kd.X5 ?_))); (case side2 => exact HC0.out); rintro e w89 ⟨rfl, hb⟩; replace BK126 := Q0.mk (Qc BK126.out hb); replace HB := Q0.mk (Ql HB.out hb)));(repeat (go_quiet (fail); try go_wp2));go_ret;exact ⟨by first | rfl | (simp [*]; done), by repeat (first | exact HB.out | apply Q5 | apply Q2 | apply Q6 | refine Q1 ?_ GE126.out)⟩
                           ·rw [if_neg c85] at H;have c85b0 : decide (x157_8 < (((Q7 l0 a1).f5).length : Int)) = false := decide_eq_false c85;clear c85;obtain rfl := Option.some.inj H;go_wp2;(repeat (go_quiet (fail); try go_wp2));go_ret;exact ⟨by first | rfl | (simp [*]; done), by repeat (first | exact HB.out | apply Q5 | apply Q2 | apply Q6 | refine Q1 ?_ GE126.out)⟩
  ·rw [if_neg c4] at H;exact absurd H (by simp)
 ·rw [if_neg c3] at H;exact absurd H (by simp)
end Go.Proofs.Ytakabkjhnncbhaa.PX
