/- A part of the proof of a law: its words, walks of functions, or plain lemmas. -/
-- Written by this session's own programs (wip/printx.py, gen_*.py, assemble.py) and by hand.
import Derived.Test.YtakabkjhnncbhaaT01
import Derived.Test.YtakabkjhnncbhaaT13
namespace Go.Proofs.Ytakabkjhnncbhaa.PX
open Go.RowKit Go.Proofs.YtakabkjhnncbhaaW.PrintWords Go.Proofs.YtakabkjhnncbhaaW.PrintLast Go.Proofs.YtakabkjhnncbhaaW.PrintMore
attribute [local go_sem] Xl Xj Xu Xt X7 X6 Xk Xi   -- for this text's walks alone
set_option linter.unusedVariables false
set_option linter.unusedSimpArgs false
theorem fieldA33_0_16 (v0 v1 : Value) (w : World) : (Go.Instr.field 33 (.agg #[v0, v1]) 0).run Try.prog w = .ok v0 w := by
 have h := Try.underlying33;unfold Go.Instr.field;go_simp;rfl
attribute [local go_sem] fieldA33_0_16
mutual
def Qf.l0 : Nat → List (S46) → List (List Bool) → Int → Option ((List (List Bool)))
 | 0, _, _, _ => none
 | k + 1, x0, x3, x4 => if x4 < (x0.length : Int) then (Qf.l1 k x0 x3 x4 0) else (some x3)
def Qf.l1 : Nat → List (S46) → List (List Bool) → Int → Int → Option ((List (List Bool)))
 | 0, _, _, _, _ => none
 | k + 1, x0, x3, x4, x5 => if 0 ≤ x4 then (if x4 < (x0.length : Int) then (if x5 < (((Q3 x0 x4).f3).length : Int) then (if x4 ≤ (x0.length : Int) then (if 0 ≤ x5 then ((Qn.f k (x0.take (x4 : Int).toNat) ((Qa ((Q3 x0 x4).f3) x5).f0)).bind fun bt350 => (if bt350.1 < 0 then (Qf.l1 k x0 x3 x4 (wrap64 (x5 + 1))) else (Qf.l2 k x0 x3 x4 x5 0))) else (none)) else (none)) else (Qf.l0 k x0 x3 (wrap64 (x4 + 1)))) else (none)) else (none)
def Qf.l2 : Nat → List (S46) → List (List Bool) → Int → Int → Int → Option ((List (List Bool)))
 | 0, _, _, _, _, _ => none
 | k + 1, x0, x3, x4, x5, x6 => if 0 ≤ x4 then (if x4 < (x0.length : Int) then (if 0 ≤ x5 then (if x5 < (((Q3 x0 x4).f3).length : Int) then (if x6 < (((Qa ((Q3 x0 x4).f3) x5).f1).length : Int) then (if x4 < (x3.length : Int) then (if 0 ≤ x6 then (if 0 ≤ (rd ((Qa ((Q3 x0 x4).f3) x5).f1) x6) then (if (rd ((Qa ((Q3 x0 x4).f3) x5).f1) x6) < ((Qs x3 x4).length : Int) then (Qf.l2 k x0 (x3.set (x4 : Int).toNat ((Qs x3 x4).set ((rd ((Qa ((Q3 x0 x4).f3) x5).f1) x6) : Int).toNat false)) x4 x5 (wrap64 (x6 + 1))) else (none)) else (none)) else (none)) else (none)) else (Qf.l1 k x0 x3 x4 (wrap64 (x5 + 1)))) else (none)) else (none)) else (none)) else (none)
end
def Qf.f (k : Nat) (l0 : List (S46)) : Option ((List (List Bool))) := (Qk.f k l0).bind fun t340 => (Qf.l0 k l0 t340 0)
theorem Qf.Xo : ∀ k, (∀ y0 y1 y2, LeO (Qf.l0 k y0 y1 y2) (Qf.l0 (k + 1) y0 y1 y2)) ∧ (∀ y0 y1 y2 y3, LeO (Qf.l1 k y0 y1 y2 y3) (Qf.l1 (k + 1) y0 y1 y2 y3)) ∧ (∀ y0 y1 y2 y3 y4, LeO (Qf.l2 k y0 y1 y2 y3 y4) (Qf.l2 (k + 1) y0 y1 y2 y3 y4))
 | 0 => ⟨fun _ _ _ r h => by simp [Qf.l0] at h, fun _ _ _ _ r h => by simp [Qf.l1] at h, fun _ _ _ _ _ r h => by simp [Qf.l2] at h⟩
 | k + 1 => by
  obtain ⟨ih0, ih1, ih2⟩ := Qf.Xo k;refine ⟨?_, ?_, ?_⟩
  ·intro y0 y1 y2;unfold Qf.l0
   repeat' first
   | (with_reducible exact ih0 _ _ _)
   | (with_reducible exact ih1 _ _ _ _)
   | (with_reducible exact ih2 _ _ _ _ _)
   | (with_reducible exact Qk.mono _ _)
   | (with_reducible exact Qn.mono _ _ _)
   | (with_reducible exact LeO.refl _)
   | (with_reducible exact LeO.none _)
   | (with_reducible refine LeO.ite ?_ ?_)
   | (with_reducible refine LeO.bind ?_ (fun _ => ?_))
  ·intro y0 y1 y2 y3;unfold Qf.l1
   repeat' first
   | (with_reducible exact ih0 _ _ _)
   | (with_reducible exact ih1 _ _ _ _)
   | (with_reducible exact ih2 _ _ _ _ _)
   | (with_reducible exact Qk.mono _ _)
   | (with_reducible exact Qn.mono _ _ _)
   | (with_reducible exact LeO.refl _)
   | (with_reducible exact LeO.none _)
   | (with_reducible refine LeO.ite ?_ ?_)
   | (with_reducible refine LeO.bind ?_ (fun _ => ?_))
  ·intro y0 y1 y2 y3 y4;unfold Qf.l2
   repeat' first
   | (with_reducible exact ih0 _ _ _)
   | (with_reducible exact ih1 _ _ _ _)
   | (with_reducible exact ih2 _ _ _ _ _)
   | (with_reducible exact Qk.mono _ _)
   | (with_reducible exact Qn.mono _ _ _)
   | (with_reducible exact LeO.refl _)
   | (with_reducible exact LeO.none _)
   | (with_reducible refine LeO.ite ?_ ?_)
   | (with_reducible refine LeO.bind ?_ (fun _ => ?_))
theorem Qf.mono : ∀ a0 k, LeO (Qf.f k a0) (Qf.f (k + 1) a0) := by
 intro a0 k;obtain ⟨ih0, ih1, ih2⟩ := Qf.Xo k;unfold Qf.f
 repeat' first
   | (with_reducible exact ih0 _ _ _)
   | (with_reducible exact ih1 _ _ _ _)
   | (with_reducible exact ih2 _ _ _ _ _)
   | (with_reducible exact Qk.mono _ _)
   | (with_reducible exact Qn.mono _ _ _)
   | (with_reducible exact LeO.refl _)
   | (with_reducible exact LeO.none _)
   | (with_reducible refine LeO.ite ?_ ?_)
   | (with_reducible refine LeO.bind ?_ (fun _ => ?_))
def Qf.T8 : Bool × List (List Nat × List Nat) := (true, [([], []), ([], []), ([0, 1], [0, 1]), ([], []), ([], []), ([3, 4], [3, 4]), ([5], [5]), ([6], [6]), ([], []), ([7, 8], [7, 8]), ([9], [9]), ([10], [10]), ([2, 11], [2, 11]), ([12], [12]), ([13], [13])])
def Qf.B8 : List Nat := [0, 0, 3, 0, 0, 24, 56, 120, 0, 504, 1016, 2040, 4095, 8191, 16383]
theorem Qf.tab8 : rtab .any (opsOf Try.f16 8) = Qf.T8 := by kernel_rfl
theorem Qf.bits8 : waitsOk Qf.T8.2 Qf.B8 = true := by kernel_rfl
def Qf.T12 : Bool × List (List Nat × List Nat) := (true, [([], []), ([], []), ([0, 1], [0, 1]), ([2], [2]), ([], []), ([], []), ([4, 5], [4, 5]), ([6], [6]), ([7], [7]), ([], []), ([8, 9], [8, 9]), ([10], [10]), ([11], [11]), ([], []), ([12, 13], [12, 13]), ([14], [14]), ([3, 15, 0, 1, 2, 3, 4, 5, 6, 7, 8, 9, 10, 11, 12, 13, 14, 15], [3, 15]), ([16, 0, 1, 2, 3, 4, 5, 6, 7, 8, 9, 10, 11, 12, 13, 14, 15], [16])])
def Qf.B12 : List Nat := [0, 0, 3, 7, 0, 0, 48, 112, 240, 0, 1008, 2032, 4080, 0, 16368, 32752, 65535, 131071]
theorem Qf.tab12 : rtab .any (opsOf Try.f16 12) = Qf.T12 := by kernel_rfl
theorem Qf.bits12 : waitsOk Qf.T12.2 Qf.B12 = true := by kernel_rfl
set_option maxHeartbeats 8000000 in
set_option maxRecDepth 100000 in
theorem Qf.calls (k : Nat) (A0 : Option Addr) (c0 : Nat) (l0 : List (S46)) (r : List (List Bool)) (w : World) (hr0 : Kd.C k46 w A0 l0.length l0) (hc0 : l0.length ≤ c0) (h : Qf.f k l0 = some r) :
  Calls Try.prog 16 #[.slice A0 l0.length c0] w fun e w' => ∃ v0_ : Value, e = .returned (v0_) ∧ Kd.S (Kd.slice 4 Kd.bool) 39 w' w.heap.size (fun _ => True) v0_ r ∧ Below w.heap.size w w' := by
 have hu33 := Try.underlying33;have HR0 := Q0.mk hr0;have HC0 := Q0.mk hc0;clear hr0 hc0;have HB := Q0.mk (Below.refl w.heap.size w);have H := h;clear h;unfold Qf.f at H;(try dsimp only at H);replace H := Option.bind_eq_some_iff.mp H;obtain ⟨t340, A20, H⟩ := H;(try dsimp only at H);have A2 := Q0.mk A20;clear A20;have H' := Q0.mk H;clear H
 go_enter Try.func16, Try.ntmps16
 go_wp2_with (first | ((with_reducible refine Qx (f := 32) rfl ?_); refine Xb (some 8) rfl rfl Try.func32 (by kernel_rfl) rfl #[.slice A0 l0.length c0] rfl (by (try simp only [List.map_toArray, List.map_cons, List.map_nil]); first | done | rfl | (simp only [List.length_drop, List.length_take]; rfl)) ?_; (with_reducible refine (Qk.calls k _ _ l0 t340 _ ?side1 ?side2 A2.out).mono ?_); (case side1 => repeat (first | exact HR0.out | (with_reducible refine Kd.QS ?_ _) | (with_reducible refine Kd.QR ?_ _) | (with_reducible refine Kd.X5 ?_))); (case side2 => exact HC0.out); rintro e w3 ⟨v341, rfl, ho0, hb⟩; refine ⟨_, rfl, ?_⟩; have HO342 := Q0.mk (Kd.S_lower ho0 (Qi HB.out)); replace HB := Q0.mk (Ql HB.out hb); (try clear ho0)))
 go_loopg [4] k (fun kq v4 w' => ∃ (x3_1 : List (List Bool)) (x4_1 : Int), v4 = .int .i64 x4_1 ∧ Q0 (Qf.l0 kq l0 x3_1 x4_1 = some r) ∧ Q0 (kq ≤ k) ∧ Q0 (Kd.S (Kd.slice 4 Kd.bool) 39 w' w.heap.size (fun _ => True) v341 x3_1) ∧ Q0 (Below w.heap.size w w'))
 case atStart => exact ⟨(t340), (0), (by first | rfl | (simp [*]; done)), H', ⟨Nat.le_refl _⟩, ⟨by (with_reducible repeat (first | apply Kd.X2 | apply Kd.QY | apply Kd.Xa)); exact HO342.out⟩, ⟨by repeat (first | exact HB.out | apply Q5 | apply Q2 | apply Q6)⟩⟩
 case round =>
  clear H';(try clear c1);(try clear p2);(try clear c3);obtain ⟨x3_1, x4_1, rfl, HA, HK1, HO_3, HB⟩ := hrel
  cases gk with
  | zero => exact absurd HA.out (by simp [Qf.l0])
  | succ k1 =>
   have H := HA.out;clear HA;simp only [Qf.l0] at H;by_cases c4 : x4_1 < (l0.length : Int)
   ·rw [if_pos c4] at H;have c4b0 : decide (x4_1 < (l0.length : Int)) = true := decide_eq_true c4;clear c4;have H' := Q0.mk H;clear H;go_wp2
    go_loopg [5] k1 (fun kq v5 w' => ∃ (x3_2 : List (List Bool)) (x5_2 : Int), v5 = .int .i64 x5_2 ∧ Q0 (Qf.l1 kq l0 x3_2 x4_1 x5_2 = some r) ∧ Q0 (kq ≤ k1) ∧ Q0 (Kd.S (Kd.slice 4 Kd.bool) 39 w' w.heap.size (fun _ => True) v341 x3_2) ∧ Q0 (Below w.heap.size w w'))
    case atStart => exact ⟨(x3_1), (0), (by first | rfl | (simp [*]; done)), H', ⟨Nat.le_refl _⟩, ⟨by (with_reducible repeat (first | apply Kd.X2 | apply Kd.QY | apply Kd.Xa)); exact HO_3.out⟩, ⟨by repeat (first | exact HB.out | apply Q5 | apply Q2 | apply Q6)⟩⟩
    case round =>
     clear H';(try clear c1);(try clear p2);(try clear c3);(try clear c4);(try clear c4b0);(try clear p2);obtain ⟨x3_2, x5_2, rfl, HA, HK2, HO_3, HB⟩ := hrel
     cases gk with
     | zero => exact absurd HA.out (by simp [Qf.l1])
     | succ k2 =>
      have H := HA.out;clear HA;simp only [Qf.l1] at H;by_cases c5 : 0 ≤ x4_1
      ·rw [if_pos c5] at H;have c5b0 : decide (0 ≤ x4_1) = true := decide_eq_true c5;clear c5;by_cases c6 : x4_1 < (l0.length : Int)
       ·rw [if_pos c6] at H;have c6b0 : decide (x4_1 < (l0.length : Int)) = true := decide_eq_true c6;clear c6;by_cases c7 : x5_2 < (((Q3 l0 x4_1).f3).length : Int)
        ·rw [if_pos c7] at H;have c7b0 : decide (x5_2 < (((Q3 l0 x4_1).f3).length : Int)) = true := decide_eq_true c7;clear c7;have c8b0 := eq_true (of_decide_eq_true ‹_› : 0 ≤ x4_1);by_cases c9 : x4_1 ≤ (l0.length : Int)
         ·rw [if_pos c9] at H;have c9b0 := eq_true c9;have c9b1 : decide (x4_1 ≤ (l0.length : Int)) = true := decide_eq_true c9;clear c9;obtain ⟨y344, hy344⟩ : ∃ y_ : List (S46), y_ = (l0.take (x4_1 : Int).toNat) := ⟨_, rfl⟩;(replace H : (if 0 ≤ x5_2 then ((Qn.f k2 y344 ((Qa ((Q3 l0 x4_1).f3) x5_2).f0)).bind fun bt350 => (if bt350.1 < 0 then (Qf.l1 k2 l0 x3_2 x4_1 (wrap64 (x5_2 + 1))) else (Qf.l2 k2 l0 x3_2 x4_1 x5_2 0))) else (none)) = some r := by first | (rw [hy344]; with_reducible exact H) | (have H2_ := (Option.bind_some _ _).symm.trans H; rw [hy344]; with_reducible exact H2_) | (have H2_ := (Option.bind_some _ _).symm.trans H; with_reducible exact H2_) | with_reducible exact H | (rw [hy344]; exact H) | exact H);have Ny344 := Q0.mk hy344;clear hy344;by_cases c10 : 0 ≤ x5_2
          ·rw [if_pos c10] at H;have c10b0 : decide (0 ≤ x5_2) = true := decide_eq_true c10;clear c10;replace H := Option.bind_eq_some_iff.mp H;obtain ⟨⟨t350, t351⟩, A110, H⟩ := H;(try dsimp only at H);have A11 := Q0.mk A110;clear A110;by_cases c12 : t350 < 0
           ·rw [if_pos c12] at H;have c12b0 : decide (t350 < 0) = true := decide_eq_true c12;clear c12;have H' := Q0.mk H;clear H;have p343 : 0 ≤ (x4_1 : Int) := of_decide_eq_true ‹_›;have q343 : x4_1 < (l0.length : Int) := of_decide_eq_true ‹_›;obtain ⟨ad343, A343_1, c343_1, A343_2, c343_2, A343_3, c343_3, A343_4, c343_4, A343_5, c343_5, e343, hx343_0, hx343_1, hx343_2, hx343_3, hx343_4, hx343_5, hl343_1, hi343_1, hl343_2, hi343_2, hl343_3, hi343_3, hl343_4, hi343_4, hl343_5, hi343_5⟩ := XP HR0.out x4_1 p343 q343
            cases e343
            replace hx343_0 := cup HB.out hx343_0;replace hx343_1 := cup HB.out hx343_1;replace hx343_2 := cup HB.out hx343_2;replace hx343_3 := cup HB.out hx343_3;replace hx343_4 := cup HB.out hx343_4;replace hx343_5 := cup HB.out hx343_5;have HR343_1 := Q0.mk hi343_1;have HC343_1 := Q0.mk hl343_1;clear hi343_1 hl343_1;have HR343_2 := Q0.mk hi343_2;have HC343_2 := Q0.mk hl343_2;clear hi343_2 hl343_2;have HR343_3 := Q0.mk hi343_3;have HC343_3 := Q0.mk hl343_3;clear hi343_3 hl343_3;have HR343_4 := Q0.mk hi343_4;have HC343_4 := Q0.mk hl343_4;clear hi343_4 hl343_4;have HR343_5 := Q0.mk hi343_5;have HC343_5 := Q0.mk hl343_5;clear hi343_5 hl343_5;replace p343 := eq_true p343;replace q343 := eq_true q343;(try go_wp2);have n0_ := Q0.mk (Kd.Xa HO_3.out);have n1_ := Q0.mk (Q6 HB.out);clear HO_3;clear HB;have HO_3 := n0_;have HB := n1_;clear n0_ n1_;have q14 : (x4_1 : Int) ≤ ((l0.length : Int) : Int) := of_decide_eq_true ‹_›;obtain ⟨i014, hi014, _, hsz14, _⟩ := info_parts info46;have hroom14 : l0.length ≤ c0 := HC0.out;have hC14 : Kd.C k46 _ (some ad343) l0.length l0 := HR0.out;have hcut14 := cut_to (P := Try.prog) 22 46 .i64 Try.underlying22 hi014 (some ad343) l0.length c0 x4_1 (of_decide_eq_true ‹_›) q14 hroom14;have hr14 := Kd.C_take (m := (x4_1 : Int).toNat) hC14 (by omega)
            have hy14 : y344.length = (x4_1 : Int).toNat := (by rw [Ny344.out, List.length_take]; omega)
            rw [← Ny344.out] at hr14;rw [← hy14] at hcut14;have HR347 := Q0.mk hr14;have HC347 := Q0.mk (show y344.length ≤ c0 from by omega);clear hr14 hC14 hroom14 hi014 hsz14;have KY14 := Q0.mk hy14;clear hy14;replace q14 := eq_true q14;have p348 : 0 ≤ (x4_1 : Int) := of_decide_eq_true ‹_›;have q348 : x4_1 < (l0.length : Int) := of_decide_eq_true ‹_›;obtain ⟨ad348, A348_1, c348_1, A348_2, c348_2, A348_3, c348_3, A348_4, c348_4, A348_5, c348_5, e348, hx348_0, hx348_1, hx348_2, hx348_3, hx348_4, hx348_5, hl348_1, hi348_1, hl348_2, hi348_2, hl348_3, hi348_3, hl348_4, hi348_4, hl348_5, hi348_5⟩ := XP HR0.out x4_1 p348 q348;have hw348_5 := hx348_5;have hw348_4 := hx348_4;have hw348_3 := hx348_3;have hw348_2 := hx348_2;have hw348_1 := hx348_1;have hw348_0 := hx348_0;obtain rfl : ad343 = ad348 := (by injection e348);replace hx348_0 := cup HB.out hx348_0;replace hx348_1 := cup HB.out hx348_1;replace hx348_2 := cup HB.out hx348_2;replace hx348_3 := cup HB.out hx348_3;replace hx348_4 := cup HB.out hx348_4;replace hx348_5 := cup HB.out hx348_5;have HR348_1 := Q0.mk hi348_1;have HC348_1 := Q0.mk hl348_1;clear hi348_1 hl348_1;have HR348_2 := Q0.mk hi348_2;have HC348_2 := Q0.mk hl348_2;clear hi348_2 hl348_2;have HR348_3 := Q0.mk hi348_3;have HC348_3 := Q0.mk hl348_3;clear hi348_3 hl348_3;have HR348_4 := Q0.mk hi348_4;have HC348_4 := Q0.mk hl348_4;clear hi348_4 hl348_4;have HR348_5 := Q0.mk hi348_5;have HC348_5 := Q0.mk hl348_5;clear hi348_5 hl348_5;replace p348 := eq_true p348;replace q348 := eq_true q348;have p349 : 0 ≤ (x5_2 : Int) := of_decide_eq_true ‹_›;have q349 : x5_2 < (((Q3 l0 x4_1).f3).length : Int) := of_decide_eq_true ‹_›;obtain ⟨ad349, A349_1, c349_1, e349, hx349_0, hx349_1, hl349_1, hi349_1⟩ := at_T49 HR348_3.out x5_2 p349 q349;have hw349_1 := hx349_1;have hw349_0 := hx349_0
            cases e349
            replace hx349_0 := cup HB.out hx349_0;replace hx349_1 := cup HB.out hx349_1;have HR349_1 := Q0.mk hi349_1;have HC349_1 := Q0.mk hl349_1;clear hi349_1 hl349_1;replace p349 := eq_true p349;replace q349 := eq_true q349;refine start_ (n := 15) (S := fun w' => w'.cell? (ad343.add ((x4_1).toNat * 6)) = some (.string ((Q3 l0 x4_1).f0)) ∧ w'.cell? ⟨(ad343.add ((x4_1).toNat * 6)).block, (ad343.add ((x4_1).toNat * 6)).off + 1, none⟩ = some (.slice A348_1 ((Q3 l0 x4_1).f1).length c348_1) ∧ w'.cell? ⟨(ad343.add ((x4_1).toNat * 6)).block, (ad343.add ((x4_1).toNat * 6)).off + 2, none⟩ = some (.slice A348_2 ((Q3 l0 x4_1).f2).length c348_2) ∧ w'.cell? ⟨(ad343.add ((x4_1).toNat * 6)).block, (ad343.add ((x4_1).toNat * 6)).off + 3, none⟩ = some (.slice (some ad349) ((Q3 l0 x4_1).f3).length c348_3) ∧ w'.cell? ⟨(ad343.add ((x4_1).toNat * 6)).block, (ad343.add ((x4_1).toNat * 6)).off + 4, none⟩ = some (.slice A348_4 ((Q3 l0 x4_1).f4).length c348_4) ∧ w'.cell? ⟨(ad343.add ((x4_1).toNat * 6)).block, (ad343.add ((x4_1).toNat * 6)).off + 5, none⟩ = some (.slice A348_5 ((Q3 l0 x4_1).f5).length c348_5) ∧ w'.cell? (ad349.add ((x5_2).toNat * 2)) = some (.string ((Qa ((Q3 l0 x4_1).f3) x5_2).f0)) ∧ w'.cell? ⟨(ad349.add ((x5_2).toNat * 2)).block, (ad349.add ((x5_2).toNat * 2)).off + 1, none⟩ = some (.slice A349_1 ((Qa ((Q3 l0 x4_1).f3) x5_2).f1).length c349_1)) (ds := []) #[false, false, false, false, false, false, false, false, false, false, false, false, false, false, false] (by kernel_rfl) rfl rfl ⟨(cup HB.out hw348_0), (cup HB.out hw348_1), (cup HB.out hw348_2), (cup HB.out hw348_3), (cup HB.out hw348_4), (cup HB.out hw348_5), (cup HB.out hw349_0), (cup HB.out hw349_1)⟩ (fun hHeld => ?_); refine with_tabW Qf.tab8 Qf.bits8 (fun HT_ HW_ => ?_);generalize wr.drew = w13 at HO_3 HB HR347 HR348_1 HR348_2 HR348_3 HR348_4 HR348_5 HR349_1 hx348_0 hx348_1 hx348_2 hx348_3 hx348_4 hx348_5 hx349_0 hx349_1 hHeld ⊢;refine Xg (i := 0) (N := some 25) (v := ?_) (a' := ?_) #[true, false, false, false, false, false, false, false, false, false, false, false, false, false, false] rfl rfl (QX HT_.out (by kernel_rfl)) (fun _ _ _ h => h) (Or.inl ⟨by rfl, ?_⟩) ?_ ?_;rotate_left
            ·intro w';go_simp
             with_reducible rfl
            rotate_left
            ·simp only [Act.put, List.setIfInBounds_toArray, List.set_cons_zero, List.set_cons_succ, QN, QO];rfl
            refine Xg (i := 1) (N := some 26) (v := ?_) (a' := ?_) #[true, true, false, false, false, false, false, false, false, false, false, false, false, false, false] rfl rfl (QX HT_.out (by kernel_rfl)) (fun _ _ _ h => h) (Or.inl ⟨by rfl, ?_⟩) ?_ ?_;rotate_left
            ·intro w';go_simp
             with_reducible rfl
            rotate_left
            ·simp only [Act.put, List.setIfInBounds_toArray, List.set_cons_zero, List.set_cons_succ, QN, QO];rfl
            refine Xg (i := 2) (N := some 27) (v := ?_) (a' := ?_) #[true, true, true, false, false, false, false, false, false, false, false, false, false, false, false] rfl rfl (QX HT_.out (by kernel_rfl)) (fun _ _ _ h => h) (Or.inl ⟨by rfl, ?_⟩) ?_ ?_;rotate_left
            ·intro w';go_simp
             with_reducible rfl
            rotate_left
            ·simp only [Act.put, List.setIfInBounds_toArray, List.set_cons_zero, List.set_cons_succ, QN, QO];rfl
            refine Xg (i := 3) (N := some 28) (v := ?_) (a' := ?_) #[true, true, true, true, false, false, false, false, false, false, false, false, false, false, false] rfl rfl (QX HT_.out (by kernel_rfl)) (fun _ _ _ h => h) (Or.inl ⟨by rfl, ?_⟩) ?_ ?_;rotate_left
            ·intro w';go_simp
             with_reducible rfl
            rotate_left
            ·simp only [Act.put, List.setIfInBounds_toArray, List.set_cons_zero, List.set_cons_succ, QN, QO];rfl
            refine Xg (i := 4) (N := some 29) (v := ?_) (a' := ?_) #[true, true, true, true, true, false, false, false, false, false, false, false, false, false, false] rfl rfl (QX HT_.out (by kernel_rfl)) (fun _ _ _ h => h) (Or.inl ⟨by rfl, ?_⟩) ?_ ?_;rotate_left
            ·intro w';go_simp
             with_reducible rfl
            rotate_left
            ·simp only [Act.put, List.setIfInBounds_toArray, List.set_cons_zero, List.set_cons_succ, QN, QO];rfl
            refine Xg (i := 5) (N := some 30) (v := ?_) (a' := ?_) #[true, true, true, true, true, true, false, false, false, false, false, false, false, false, false] rfl rfl (QX HT_.out (by kernel_rfl)) (fun _ _ _ h => h) (Or.inl ⟨by rfl, ?_⟩) ?_ ?_;rotate_left
            ·intro w';go_simp
             with_reducible rfl
            rotate_left
            ·simp only [Act.put, List.setIfInBounds_toArray, List.set_cons_zero, List.set_cons_succ, QN, QO];rfl
            refine Xg (i := 6) (N := some 31) (v := ?_) (a' := ?_) #[true, true, true, true, true, true, true, false, false, false, false, false, false, false, false] rfl rfl (QX HT_.out (by kernel_rfl)) (fun _ _ _ h => h) (Or.inl ⟨by rfl, ?_⟩) ?_ ?_;rotate_left
            ·intro w';go_simp
             with_reducible rfl
            rotate_left
            ·simp only [Act.put, List.setIfInBounds_toArray, List.set_cons_zero, List.set_cons_succ, QN, QO];rfl
            refine Xg (i := 8) (N := some 33) (v := ?_) (a' := ?_) #[true, true, true, true, true, true, true, false, true, false, false, false, false, false, false] rfl rfl (QX HT_.out (by kernel_rfl)) (fun _ _ _ h => h) (Or.inl ⟨by rfl, ?_⟩) ?_ ?_;rotate_left
            ·intro w';go_simp
             with_reducible rfl
            rotate_left
            ·simp only [Act.put, List.setIfInBounds_toArray, List.set_cons_zero, List.set_cons_succ, QN, QO];rfl
            refine Yl (i := 7) (N := some 32) (v := ?_) (a' := ?_) #[true, true, true, true, true, true, true, true, true, false, false, false, false, false, false] rfl rfl (XV HT_.out HW_.out (by kernel_rfl)) (fun _ _ _ h => h) (Or.inl ⟨by rfl, ?_⟩) hHeld ?_ ?_;rotate_left
            ·rintro w' ⟨s0, s1, s2, s3, s4, s5, s6, s7⟩;go_simp
             with_reducible rfl
            rotate_left
            ·simp only [Act.put, List.setIfInBounds_toArray, List.set_cons_zero, List.set_cons_succ, QN, QO];rfl
            refine Xg (i := 9) (N := some 34) (v := ?_) (a' := ?_) #[true, true, true, true, true, true, true, true, true, true, false, false, false, false, false] rfl rfl (QX HT_.out (by kernel_rfl)) (fun _ _ _ h => h) (Or.inl ⟨by rfl, ?_⟩) ?_ ?_;rotate_left
            ·intro w';go_simp
             with_reducible rfl
            rotate_left
            ·simp only [Act.put, List.setIfInBounds_toArray, List.set_cons_zero, List.set_cons_succ, QN, QO];rfl
            refine Xg (i := 10) (N := some 35) (v := ?_) (a' := ?_) #[true, true, true, true, true, true, true, true, true, true, true, false, false, false, false] rfl rfl (QX HT_.out (by kernel_rfl)) (fun _ _ _ h => h) (Or.inl ⟨by rfl, ?_⟩) ?_ ?_;rotate_left
            ·intro w';go_simp
             with_reducible rfl
            rotate_left
            ·simp only [Act.put, List.setIfInBounds_toArray, List.set_cons_zero, List.set_cons_succ, QN, QO];rfl
            refine Yl (i := 11) (N := some 36) (v := ?_) (a' := ?_) #[true, true, true, true, true, true, true, true, true, true, true, true, false, false, false] rfl rfl (XV HT_.out HW_.out (by kernel_rfl)) (fun _ _ _ h => h) (Or.inl ⟨by rfl, ?_⟩) hHeld ?_ ?_;rotate_left
            ·rintro w' ⟨s0, s1, s2, s3, s4, s5, s6, s7⟩;go_simp
             with_reducible rfl
            rotate_left
            ·simp only [Act.put, List.setIfInBounds_toArray, List.set_cons_zero, List.set_cons_succ, QN, QO];rfl
            refine one_ (i := 12) (N := some 37) #[true, true, true, true, true, true, true, true, true, true, true, true, true, false, false] rfl rfl (one_of HT_.out (by kernel_rfl)) (by decide) (fun K hK => ?_);refine goes_ Try.func14 (by kernel_rfl) rfl #[.slice (some ad343) y344.length c0, .string ((Qa ((Q3 l0 x4_1).f3) x5_2).f0)] (by rfl) rfl rfl (by (try simp only [List.map_toArray, List.map_cons, List.map_nil]); first | done | rfl | (simp only [List.length_drop, List.length_take]; rfl)) ?_
            with_reducible refine (Qn.calls k2 _ _ y344 ((Qa ((Q3 l0 x4_1).f3) x5_2).f0) t350 t351 _ ?side1 ?side2 A11.out).mono ?_
            (case side1 => repeat (first | exact (Kd.Qy HR347.out HB.out) | (with_reducible refine Kd.QS ?_ _) | (with_reducible refine Kd.QR ?_ _) | (with_reducible refine Kd.X5 ?_)))
            (case side2 => exact HC347.out)
            rintro e w15 ⟨rfl, hb⟩;refine ⟨_, rfl, ?_⟩;have n0_ := Q0.mk (Kd.Yf (by (with_reducible repeat (first | apply Kd.X2 | apply Kd.QY | apply Kd.Xa)); exact HO_3.out) hb);have n1_ := Q0.mk (Ql (by repeat (first | exact HB.out | apply Q5 | apply Q2 | apply Q6)) hb);clear HO_3;clear HB;have HO_3 := n0_;have HB := n1_;clear n0_ n1_
            (try clear hb)
            (try clear hb2)
            (try clear hk)
            (try clear hi)
            refine hK.out _ _ ⟨(cup HB.out hw348_0), (cup HB.out hw348_1), (cup HB.out hw348_2), (cup HB.out hw348_3), (cup HB.out hw348_4), (cup HB.out hw348_5), (cup HB.out hw349_0), (cup HB.out hw349_1)⟩ (fun hHeld => ?_);clear hK K;refine norm_ (a' := ?_) ?_ ?_;rotate_left
            ·show Act.put _ (some 37) _ = _;simp only [Act.put, List.setIfInBounds_toArray, List.set_cons_zero, List.set_cons_succ, QN, QO];rfl
            refine Xg (i := 13) (N := some 38) (v := ?_) (a' := ?_) #[true, true, true, true, true, true, true, true, true, true, true, true, true, true, false] rfl rfl (QX HT_.out (by kernel_rfl)) (fun _ _ _ h => h) (Or.inl ⟨by rfl, ?_⟩) ?_ ?_;rotate_left
            ·intro w';go_simp
             with_reducible rfl
            rotate_left
            ·simp only [Act.put, List.setIfInBounds_toArray, List.set_cons_zero, List.set_cons_succ, QN, QO];rfl
            refine Xg (i := 14) (N := some 39) (v := ?_) (a' := ?_) #[true, true, true, true, true, true, true, true, true, true, true, true, true, true, true] rfl rfl (QX HT_.out (by kernel_rfl)) (fun _ _ _ h => h) (Or.inl ⟨by rfl, ?_⟩) ?_ ?_;rotate_left
            ·intro w';go_simp
             with_reducible rfl
            rotate_left
            ·simp only [Act.put, List.setIfInBounds_toArray, List.set_cons_zero, List.set_cons_succ, QN, QO];rfl
            refine done_ (done_of HT_.out (by kernel_rfl)) ?_;try go_wp2
            go_roundg k2
            (case measure => have := HK1.out; have := HK2.out; omega);case rel => exact ⟨(x3_2), (wrap64 (x5_2 + 1)), (by first | rfl | (simp [*]; done)), H', ⟨by have := HK1.out; have := HK2.out; omega⟩, ⟨by (with_reducible repeat (first | apply Kd.X2 | apply Kd.QY | apply Kd.Xa)); exact HO_3.out⟩, ⟨by repeat (first | exact HB.out | apply Q5 | apply Q2 | apply Q6)⟩⟩
           ·rw [if_neg c12] at H;have c12b0 : decide (t350 < 0) = false := decide_eq_false c12;clear c12;have H' := Q0.mk H;clear H;have p343 : 0 ≤ (x4_1 : Int) := of_decide_eq_true ‹_›;have q343 : x4_1 < (l0.length : Int) := of_decide_eq_true ‹_›;obtain ⟨ad343, A343_1, c343_1, A343_2, c343_2, A343_3, c343_3, A343_4, c343_4, A343_5, c343_5, e343, hx343_0, hx343_1, hx343_2, hx343_3, hx343_4, hx343_5, hl343_1, hi343_1, hl343_2, hi343_2, hl343_3, hi343_3, hl343_4, hi343_4, hl343_5, hi343_5⟩ := XP HR0.out x4_1 p343 q343
            cases e343
            replace hx343_0 := cup HB.out hx343_0;replace hx343_1 := cup HB.out hx343_1;replace hx343_2 := cup HB.out hx343_2;replace hx343_3 := cup HB.out hx343_3;replace hx343_4 := cup HB.out hx343_4;replace hx343_5 := cup HB.out hx343_5;have HR343_1 := Q0.mk hi343_1;have HC343_1 := Q0.mk hl343_1;clear hi343_1 hl343_1;have HR343_2 := Q0.mk hi343_2;have HC343_2 := Q0.mk hl343_2;clear hi343_2 hl343_2;have HR343_3 := Q0.mk hi343_3;have HC343_3 := Q0.mk hl343_3;clear hi343_3 hl343_3;have HR343_4 := Q0.mk hi343_4;have HC343_4 := Q0.mk hl343_4;clear hi343_4 hl343_4;have HR343_5 := Q0.mk hi343_5;have HC343_5 := Q0.mk hl343_5;clear hi343_5 hl343_5;replace p343 := eq_true p343;replace q343 := eq_true q343;(try go_wp2);have n0_ := Q0.mk (Kd.Xa HO_3.out);have n1_ := Q0.mk (Q6 HB.out);clear HO_3;clear HB;have HO_3 := n0_;have HB := n1_;clear n0_ n1_;have q17 : (x4_1 : Int) ≤ ((l0.length : Int) : Int) := of_decide_eq_true ‹_›;obtain ⟨i017, hi017, _, hsz17, _⟩ := info_parts info46;have hroom17 : l0.length ≤ c0 := HC0.out;have hC17 : Kd.C k46 _ (some ad343) l0.length l0 := HR0.out;have hcut17 := cut_to (P := Try.prog) 22 46 .i64 Try.underlying22 hi017 (some ad343) l0.length c0 x4_1 (of_decide_eq_true ‹_›) q17 hroom17;have hr17 := Kd.C_take (m := (x4_1 : Int).toNat) hC17 (by omega)
            have hy17 : y344.length = (x4_1 : Int).toNat := (by rw [Ny344.out, List.length_take]; omega)
            rw [← Ny344.out] at hr17;rw [← hy17] at hcut17;have HR347 := Q0.mk hr17;have HC347 := Q0.mk (show y344.length ≤ c0 from by omega);clear hr17 hC17 hroom17 hi017 hsz17;have KY17 := Q0.mk hy17;clear hy17;replace q17 := eq_true q17;have p348 : 0 ≤ (x4_1 : Int) := of_decide_eq_true ‹_›;have q348 : x4_1 < (l0.length : Int) := of_decide_eq_true ‹_›;obtain ⟨ad348, A348_1, c348_1, A348_2, c348_2, A348_3, c348_3, A348_4, c348_4, A348_5, c348_5, e348, hx348_0, hx348_1, hx348_2, hx348_3, hx348_4, hx348_5, hl348_1, hi348_1, hl348_2, hi348_2, hl348_3, hi348_3, hl348_4, hi348_4, hl348_5, hi348_5⟩ := XP HR0.out x4_1 p348 q348;have hw348_5 := hx348_5;have hw348_4 := hx348_4;have hw348_3 := hx348_3;have hw348_2 := hx348_2;have hw348_1 := hx348_1;have hw348_0 := hx348_0;obtain rfl : ad343 = ad348 := (by injection e348);replace hx348_0 := cup HB.out hx348_0;replace hx348_1 := cup HB.out hx348_1;replace hx348_2 := cup HB.out hx348_2;replace hx348_3 := cup HB.out hx348_3;replace hx348_4 := cup HB.out hx348_4;replace hx348_5 := cup HB.out hx348_5;have HR348_1 := Q0.mk hi348_1;have HC348_1 := Q0.mk hl348_1;clear hi348_1 hl348_1;have HR348_2 := Q0.mk hi348_2;have HC348_2 := Q0.mk hl348_2;clear hi348_2 hl348_2;have HR348_3 := Q0.mk hi348_3;have HC348_3 := Q0.mk hl348_3;clear hi348_3 hl348_3;have HR348_4 := Q0.mk hi348_4;have HC348_4 := Q0.mk hl348_4;clear hi348_4 hl348_4;have HR348_5 := Q0.mk hi348_5;have HC348_5 := Q0.mk hl348_5;clear hi348_5 hl348_5;replace p348 := eq_true p348;replace q348 := eq_true q348;have p349 : 0 ≤ (x5_2 : Int) := of_decide_eq_true ‹_›;have q349 : x5_2 < (((Q3 l0 x4_1).f3).length : Int) := of_decide_eq_true ‹_›;obtain ⟨ad349, A349_1, c349_1, e349, hx349_0, hx349_1, hl349_1, hi349_1⟩ := at_T49 HR348_3.out x5_2 p349 q349;have hw349_1 := hx349_1;have hw349_0 := hx349_0
            cases e349
            replace hx349_0 := cup HB.out hx349_0;replace hx349_1 := cup HB.out hx349_1;have HR349_1 := Q0.mk hi349_1;have HC349_1 := Q0.mk hl349_1;clear hi349_1 hl349_1;replace p349 := eq_true p349;replace q349 := eq_true q349;refine start_ (n := 15) (S := fun w' => w'.cell? (ad343.add ((x4_1).toNat * 6)) = some (.string ((Q3 l0 x4_1).f0)) ∧ w'.cell? ⟨(ad343.add ((x4_1).toNat * 6)).block, (ad343.add ((x4_1).toNat * 6)).off + 1, none⟩ = some (.slice A348_1 ((Q3 l0 x4_1).f1).length c348_1) ∧ w'.cell? ⟨(ad343.add ((x4_1).toNat * 6)).block, (ad343.add ((x4_1).toNat * 6)).off + 2, none⟩ = some (.slice A348_2 ((Q3 l0 x4_1).f2).length c348_2) ∧ w'.cell? ⟨(ad343.add ((x4_1).toNat * 6)).block, (ad343.add ((x4_1).toNat * 6)).off + 3, none⟩ = some (.slice (some ad349) ((Q3 l0 x4_1).f3).length c348_3) ∧ w'.cell? ⟨(ad343.add ((x4_1).toNat * 6)).block, (ad343.add ((x4_1).toNat * 6)).off + 4, none⟩ = some (.slice A348_4 ((Q3 l0 x4_1).f4).length c348_4) ∧ w'.cell? ⟨(ad343.add ((x4_1).toNat * 6)).block, (ad343.add ((x4_1).toNat * 6)).off + 5, none⟩ = some (.slice A348_5 ((Q3 l0 x4_1).f5).length c348_5) ∧ w'.cell? (ad349.add ((x5_2).toNat * 2)) = some (.string ((Qa ((Q3 l0 x4_1).f3) x5_2).f0)) ∧ w'.cell? ⟨(ad349.add ((x5_2).toNat * 2)).block, (ad349.add ((x5_2).toNat * 2)).off + 1, none⟩ = some (.slice A349_1 ((Qa ((Q3 l0 x4_1).f3) x5_2).f1).length c349_1)) (ds := []) #[false, false, false, false, false, false, false, false, false, false, false, false, false, false, false] (by kernel_rfl) rfl rfl ⟨(cup HB.out hw348_0), (cup HB.out hw348_1), (cup HB.out hw348_2), (cup HB.out hw348_3), (cup HB.out hw348_4), (cup HB.out hw348_5), (cup HB.out hw349_0), (cup HB.out hw349_1)⟩ (fun hHeld => ?_); refine with_tabW Qf.tab8 Qf.bits8 (fun HT_ HW_ => ?_);generalize wr.drew = w16 at HO_3 HB HR347 HR348_1 HR348_2 HR348_3 HR348_4 HR348_5 HR349_1 hx348_0 hx348_1 hx348_2 hx348_3 hx348_4 hx348_5 hx349_0 hx349_1 hHeld ⊢;refine Xg (i := 0) (N := some 25) (v := ?_) (a' := ?_) #[true, false, false, false, false, false, false, false, false, false, false, false, false, false, false] rfl rfl (QX HT_.out (by kernel_rfl)) (fun _ _ _ h => h) (Or.inl ⟨by rfl, ?_⟩) ?_ ?_;rotate_left
            ·intro w';go_simp
             with_reducible rfl
            rotate_left
            ·simp only [Act.put, List.setIfInBounds_toArray, List.set_cons_zero, List.set_cons_succ, QN, QO];rfl
            refine Xg (i := 1) (N := some 26) (v := ?_) (a' := ?_) #[true, true, false, false, false, false, false, false, false, false, false, false, false, false, false] rfl rfl (QX HT_.out (by kernel_rfl)) (fun _ _ _ h => h) (Or.inl ⟨by rfl, ?_⟩) ?_ ?_;rotate_left
            ·intro w';go_simp
             with_reducible rfl
            rotate_left
            ·simp only [Act.put, List.setIfInBounds_toArray, List.set_cons_zero, List.set_cons_succ, QN, QO];rfl
            refine Xg (i := 2) (N := some 27) (v := ?_) (a' := ?_) #[true, true, true, false, false, false, false, false, false, false, false, false, false, false, false] rfl rfl (QX HT_.out (by kernel_rfl)) (fun _ _ _ h => h) (Or.inl ⟨by rfl, ?_⟩) ?_ ?_;rotate_left
            ·intro w';go_simp
             with_reducible rfl
            rotate_left
            ·simp only [Act.put, List.setIfInBounds_toArray, List.set_cons_zero, List.set_cons_succ, QN, QO];rfl
            refine Xg (i := 3) (N := some 28) (v := ?_) (a' := ?_) #[true, true, true, true, false, false, false, false, false, false, false, false, false, false, false] rfl rfl (QX HT_.out (by kernel_rfl)) (fun _ _ _ h => h) (Or.inl ⟨by rfl, ?_⟩) ?_ ?_;rotate_left
            ·intro w';go_simp
             with_reducible rfl
            rotate_left
            ·simp only [Act.put, List.setIfInBounds_toArray, List.set_cons_zero, List.set_cons_succ, QN, QO];rfl
            refine Xg (i := 4) (N := some 29) (v := ?_) (a' := ?_) #[true, true, true, true, true, false, false, false, false, false, false, false, false, false, false] rfl rfl (QX HT_.out (by kernel_rfl)) (fun _ _ _ h => h) (Or.inl ⟨by rfl, ?_⟩) ?_ ?_;rotate_left
            ·intro w';go_simp
             with_reducible rfl
            rotate_left
            ·simp only [Act.put, List.setIfInBounds_toArray, List.set_cons_zero, List.set_cons_succ, QN, QO];rfl
            refine Xg (i := 5) (N := some 30) (v := ?_) (a' := ?_) #[true, true, true, true, true, true, false, false, false, false, false, false, false, false, false] rfl rfl (QX HT_.out (by kernel_rfl)) (fun _ _ _ h => h) (Or.inl ⟨by rfl, ?_⟩) ?_ ?_;rotate_left
            ·intro w';go_simp
             with_reducible rfl
            rotate_left
            ·simp only [Act.put, List.setIfInBounds_toArray, List.set_cons_zero, List.set_cons_succ, QN, QO];rfl
            refine Xg (i := 6) (N := some 31) (v := ?_) (a' := ?_) #[true, true, true, true, true, true, true, false, false, false, false, false, false, false, false] rfl rfl (QX HT_.out (by kernel_rfl)) (fun _ _ _ h => h) (Or.inl ⟨by rfl, ?_⟩) ?_ ?_;rotate_left
            ·intro w';go_simp
             with_reducible rfl
            rotate_left
            ·simp only [Act.put, List.setIfInBounds_toArray, List.set_cons_zero, List.set_cons_succ, QN, QO];rfl
            refine Xg (i := 8) (N := some 33) (v := ?_) (a' := ?_) #[true, true, true, true, true, true, true, false, true, false, false, false, false, false, false] rfl rfl (QX HT_.out (by kernel_rfl)) (fun _ _ _ h => h) (Or.inl ⟨by rfl, ?_⟩) ?_ ?_;rotate_left
            ·intro w';go_simp
             with_reducible rfl
            rotate_left
            ·simp only [Act.put, List.setIfInBounds_toArray, List.set_cons_zero, List.set_cons_succ, QN, QO];rfl
            refine Yl (i := 7) (N := some 32) (v := ?_) (a' := ?_) #[true, true, true, true, true, true, true, true, true, false, false, false, false, false, false] rfl rfl (XV HT_.out HW_.out (by kernel_rfl)) (fun _ _ _ h => h) (Or.inl ⟨by rfl, ?_⟩) hHeld ?_ ?_;rotate_left
            ·rintro w' ⟨s0, s1, s2, s3, s4, s5, s6, s7⟩;go_simp
             with_reducible rfl
            rotate_left
            ·simp only [Act.put, List.setIfInBounds_toArray, List.set_cons_zero, List.set_cons_succ, QN, QO];rfl
            refine Xg (i := 9) (N := some 34) (v := ?_) (a' := ?_) #[true, true, true, true, true, true, true, true, true, true, false, false, false, false, false] rfl rfl (QX HT_.out (by kernel_rfl)) (fun _ _ _ h => h) (Or.inl ⟨by rfl, ?_⟩) ?_ ?_;rotate_left
            ·intro w';go_simp
             with_reducible rfl
            rotate_left
            ·simp only [Act.put, List.setIfInBounds_toArray, List.set_cons_zero, List.set_cons_succ, QN, QO];rfl
            refine Xg (i := 10) (N := some 35) (v := ?_) (a' := ?_) #[true, true, true, true, true, true, true, true, true, true, true, false, false, false, false] rfl rfl (QX HT_.out (by kernel_rfl)) (fun _ _ _ h => h) (Or.inl ⟨by rfl, ?_⟩) ?_ ?_;rotate_left
            ·intro w';go_simp
             with_reducible rfl
            rotate_left
            ·simp only [Act.put, List.setIfInBounds_toArray, List.set_cons_zero, List.set_cons_succ, QN, QO];rfl
            refine Yl (i := 11) (N := some 36) (v := ?_) (a' := ?_) #[true, true, true, true, true, true, true, true, true, true, true, true, false, false, false] rfl rfl (XV HT_.out HW_.out (by kernel_rfl)) (fun _ _ _ h => h) (Or.inl ⟨by rfl, ?_⟩) hHeld ?_ ?_;rotate_left
            ·rintro w' ⟨s0, s1, s2, s3, s4, s5, s6, s7⟩;go_simp
             with_reducible rfl
            rotate_left
            ·simp only [Act.put, List.setIfInBounds_toArray, List.set_cons_zero, List.set_cons_succ, QN, QO];rfl
            refine one_ (i := 12) (N := some 37) #[true, true, true, true, true, true, true, true, true, true, true, true, true, false, false] rfl rfl (one_of HT_.out (by kernel_rfl)) (by decide) (fun K hK => ?_);refine goes_ Try.func14 (by kernel_rfl) rfl #[.slice (some ad343) y344.length c0, .string ((Qa ((Q3 l0 x4_1).f3) x5_2).f0)] (by rfl) rfl rfl (by (try simp only [List.map_toArray, List.map_cons, List.map_nil]); first | done | rfl | (simp only [List.length_drop, List.length_take]; rfl)) ?_
            with_reducible refine (Qn.calls k2 _ _ y344 ((Qa ((Q3 l0 x4_1).f3) x5_2).f0) t350 t351 _ ?side1 ?side2 A11.out).mono ?_
            (case side1 => repeat (first | exact (Kd.Qy HR347.out HB.out) | (with_reducible refine Kd.QS ?_ _) | (with_reducible refine Kd.QR ?_ _) | (with_reducible refine Kd.X5 ?_)))
            (case side2 => exact HC347.out)
            rintro e w18 ⟨rfl, hb⟩;refine ⟨_, rfl, ?_⟩;have n0_ := Q0.mk (Kd.Yf (by (with_reducible repeat (first | apply Kd.X2 | apply Kd.QY | apply Kd.Xa)); exact HO_3.out) hb);have n1_ := Q0.mk (Ql (by repeat (first | exact HB.out | apply Q5 | apply Q2 | apply Q6)) hb);clear HO_3;clear HB;have HO_3 := n0_;have HB := n1_;clear n0_ n1_
            (try clear hb)
            (try clear hb2)
            (try clear hk)
            (try clear hi)
            refine hK.out _ _ ⟨(cup HB.out hw348_0), (cup HB.out hw348_1), (cup HB.out hw348_2), (cup HB.out hw348_3), (cup HB.out hw348_4), (cup HB.out hw348_5), (cup HB.out hw349_0), (cup HB.out hw349_1)⟩ (fun hHeld => ?_);clear hK K;refine norm_ (a' := ?_) ?_ ?_;rotate_left
            ·show Act.put _ (some 37) _ = _;simp only [Act.put, List.setIfInBounds_toArray, List.set_cons_zero, List.set_cons_succ, QN, QO];rfl
            refine Xg (i := 13) (N := some 38) (v := ?_) (a' := ?_) #[true, true, true, true, true, true, true, true, true, true, true, true, true, true, false] rfl rfl (QX HT_.out (by kernel_rfl)) (fun _ _ _ h => h) (Or.inl ⟨by rfl, ?_⟩) ?_ ?_;rotate_left
            ·intro w';go_simp
             with_reducible rfl
            rotate_left
            ·simp only [Act.put, List.setIfInBounds_toArray, List.set_cons_zero, List.set_cons_succ, QN, QO];rfl
            refine Xg (i := 14) (N := some 39) (v := ?_) (a' := ?_) #[true, true, true, true, true, true, true, true, true, true, true, true, true, true, true] rfl rfl (QX HT_.out (by kernel_rfl)) (fun _ _ _ h => h) (Or.inl ⟨by rfl, ?_⟩) ?_ ?_;rotate_left
            ·intro w';go_simp
             with_reducible rfl
            rotate_left
            ·simp only [Act.put, List.setIfInBounds_toArray, List.set_cons_zero, List.set_cons_succ, QN, QO];rfl
            refine done_ (done_of HT_.out (by kernel_rfl)) ?_;try go_wp2
            go_loopg [6] k2 (fun kq v6 w' => ∃ (x3_3 : List (List Bool)) (x6_3 : Int), v6 = .int .i64 x6_3 ∧ Q0 (Qf.l2 kq l0 x3_3 x4_1 x5_2 x6_3 = some r) ∧ Q0 (kq ≤ k2) ∧ Q0 (Kd.S (Kd.slice 4 Kd.bool) 39 w' w.heap.size (fun _ => True) v341 x3_3) ∧ Q0 (Below w.heap.size w w'))
            case atStart => exact ⟨(x3_2), (0), (by first | rfl | (simp [*]; done)), H', ⟨Nat.le_refl _⟩, ⟨by (with_reducible repeat (first | apply Kd.X2 | apply Kd.QY | apply Kd.Xa)); exact HO_3.out⟩, ⟨by repeat (first | exact HB.out | apply Q5 | apply Q2 | apply Q6)⟩⟩
            case round =>
             clear H';(try clear c1);(try clear q1);(try clear p2);(try clear c3);(try clear p3);(try clear q3);(try clear hx3);(try clear c4);(try clear c4b0);(try clear c5);(try clear c5b0);(try clear c6);(try clear c6b0);(try clear p6);(try clear c7);(try clear c7b0);(try clear c8);(try clear c8b0);(try clear c9);(try clear c9b0);(try clear c9b1);(try clear c10);(try clear c10b0);(try clear c12);(try clear c12b0);(try clear c14);(try clear q14);(try clear c16);(try clear q17);(try clear hx343_0);(try clear hx343_1);(try clear hx343_2);(try clear hx343_3);(try clear hx343_4);(try clear hx343_5);(try clear hx348_0);(try clear hx348_1);(try clear hx348_2);(try clear hx348_3);(try clear hx348_4);(try clear hx348_5);(try clear hx349_0);(try clear hx349_1);(try clear p2);(try clear p343);(try clear p348);(try clear p349);(try clear q14);(try clear q17);(try clear q343);(try clear q348);(try clear q349);obtain ⟨x3_3, x6_3, rfl, HA, HK3, HO_3, HB⟩ := hrel
             cases gk with
             | zero => exact absurd HA.out (by simp [Qf.l2])
             | succ k3 =>
              have H := HA.out;clear HA;simp only [Qf.l2] at H;by_cases c19 : 0 ≤ x4_1
              ·rw [if_pos c19] at H;have c19b0 : decide (0 ≤ x4_1) = true := decide_eq_true c19;clear c19;by_cases c20 : x4_1 < (l0.length : Int)
               ·rw [if_pos c20] at H;have c20b0 : decide (x4_1 < (l0.length : Int)) = true := decide_eq_true c20;clear c20;by_cases c21 : 0 ≤ x5_2
                ·rw [if_pos c21] at H;have c21b0 : decide (0 ≤ x5_2) = true := decide_eq_true c21;clear c21;by_cases c22 : x5_2 < (((Q3 l0 x4_1).f3).length : Int)
                 ·rw [if_pos c22] at H;have c22b0 : decide (x5_2 < (((Q3 l0 x4_1).f3).length : Int)) = true := decide_eq_true c22;clear c22;by_cases c23 : x6_3 < (((Qa ((Q3 l0 x4_1).f3) x5_2).f1).length : Int)
                  ·rw [if_pos c23] at H;have c23b0 : decide (x6_3 < (((Qa ((Q3 l0 x4_1).f3) x5_2).f1).length : Int)) = true := decide_eq_true c23;clear c23;by_cases c24 : x4_1 < (x3_3.length : Int)
                   ·rw [if_pos c24] at H;have c24b0 : decide (x4_1 < (x3_3.length : Int)) = true := decide_eq_true c24;clear c24;by_cases c25 : 0 ≤ x6_3
                    ·rw [if_pos c25] at H;have c25b0 : decide (0 ≤ x6_3) = true := decide_eq_true c25;clear c25;by_cases c26 : 0 ≤ (rd ((Qa ((Q3 l0 x4_1).f3) x5_2).f1) x6_3)
                     ·rw [if_pos c26] at H;have c26b0 : decide (0 ≤ (rd ((Qa ((Q3 l0 x4_1).f3) x5_2).f1) x6_3)) = true := decide_eq_true c26;clear c26;by_cases c27 : (rd ((Qa ((Q3 l0 x4_1).f3) x5_2).f1) x6_3) < ((Qs x3_3 x4_1).length : Int)
                      ·rw [if_pos c27] at H;have c27b0 : decide ((rd ((Qa ((Q3 l0 x4_1).f3) x5_2).f1) x6_3) < ((Qs x3_3 x4_1).length : Int)) = true := decide_eq_true c27;clear c27;obtain ⟨y358, hy358⟩ : ∃ y_ : List Bool, y_ = ((Qs x3_3 x4_1).set ((rd ((Qa ((Q3 l0 x4_1).f3) x5_2).f1) x6_3) : Int).toNat false) := ⟨_, rfl⟩;(replace H : (Qf.l2 k3 l0 (x3_3.set (x4_1 : Int).toNat y358) x4_1 x5_2 (wrap64 (x6_3 + 1))) = some r := by first | (rw [hy358]; with_reducible exact H) | (have H2_ := (Option.bind_some _ _).symm.trans H; rw [hy358]; with_reducible exact H2_) | (have H2_ := (Option.bind_some _ _).symm.trans H; with_reducible exact H2_) | with_reducible exact H | (rw [hy358]; exact H) | exact H);have Ny358 := Q0.mk hy358;clear hy358;obtain ⟨y360, hy360⟩ : ∃ y_ : List (List Bool), y_ = (x3_3.set (x4_1 : Int).toNat y358) := ⟨_, rfl⟩;(replace H : (Qf.l2 k3 l0 y360 x4_1 x5_2 (wrap64 (x6_3 + 1))) = some r := by first | (rw [hy360]; with_reducible exact H) | (have H2_ := (Option.bind_some _ _).symm.trans H; rw [hy360]; with_reducible exact H2_) | (have H2_ := (Option.bind_some _ _).symm.trans H; with_reducible exact H2_) | with_reducible exact H | (rw [hy360]; exact H) | exact H);have Ny360 := Q0.mk hy360;clear hy360;have H' := Q0.mk H;clear H;have p352 : 0 ≤ (x4_1 : Int) := of_decide_eq_true ‹_›;have q352 : x4_1 < (l0.length : Int) := of_decide_eq_true ‹_›;obtain ⟨ad352, A352_1, c352_1, A352_2, c352_2, A352_3, c352_3, A352_4, c352_4, A352_5, c352_5, e352, hx352_0, hx352_1, hx352_2, hx352_3, hx352_4, hx352_5, hl352_1, hi352_1, hl352_2, hi352_2, hl352_3, hi352_3, hl352_4, hi352_4, hl352_5, hi352_5⟩ := XP HR0.out x4_1 p352 q352;obtain rfl : ad343 = ad352 := (by injection e352);replace hx352_0 := cup HB.out hx352_0;replace hx352_1 := cup HB.out hx352_1;replace hx352_2 := cup HB.out hx352_2;replace hx352_3 := cup HB.out hx352_3;replace hx352_4 := cup HB.out hx352_4;replace hx352_5 := cup HB.out hx352_5;have HR352_1 := Q0.mk hi352_1;have HC352_1 := Q0.mk hl352_1;clear hi352_1 hl352_1;have HR352_2 := Q0.mk hi352_2;have HC352_2 := Q0.mk hl352_2;clear hi352_2 hl352_2;have HR352_3 := Q0.mk hi352_3;have HC352_3 := Q0.mk hl352_3;clear hi352_3 hl352_3;have HR352_4 := Q0.mk hi352_4;have HC352_4 := Q0.mk hl352_4;clear hi352_4 hl352_4;have HR352_5 := Q0.mk hi352_5;have HC352_5 := Q0.mk hl352_5;clear hi352_5 hl352_5;replace p352 := eq_true p352;replace q352 := eq_true q352;have p353 : 0 ≤ (x5_2 : Int) := of_decide_eq_true ‹_›;have q353 : x5_2 < (((Q3 l0 x4_1).f3).length : Int) := of_decide_eq_true ‹_›;obtain ⟨ad353, A353_1, c353_1, e353, hx353_0, hx353_1, hl353_1, hi353_1⟩ := at_T49 HR352_3.out x5_2 p353 q353
                       cases e353
                       replace hx353_0 := cup HB.out hx353_0;replace hx353_1 := cup HB.out hx353_1;have HR353_1 := Q0.mk hi353_1;have HC353_1 := Q0.mk hl353_1;clear hi353_1 hl353_1;replace p353 := eq_true p353;replace q353 := eq_true q353;(try go_wp2);have n0_ := Q0.mk (Kd.Xa HO_3.out);have n1_ := Q0.mk (Q6 HB.out);clear HO_3;clear HB;have HO_3 := n0_;have HB := n1_;clear n0_ n1_;obtain ⟨Ao30, co30, eo30⟩ := Kd.Ye HO_3.out
                       (first | subst eo30 | (injection eo30 with f1_ f2_ f3_; have f4_ := f1_.symm; have f5_ := f3_.symm; clear f1_ f2_ f3_; subst f4_; subst f5_))
                       have p354 : 0 ≤ (x4_1 : Int) := of_decide_eq_true ‹_›;have q354 : x4_1 < (x3_3.length : Int) := of_decide_eq_true ‹_›;obtain ⟨ad354, A354_0, c354_0, e354, hx354_0, hl354_0, hi354_0⟩ := XQ (Kd.Xm HO_3.out).2.2 x4_1 p354 q354
                       cases e354
                       obtain ⟨ce354, hce354, hMe354, hcc354⟩ := Kd.S_get HO_3.out [] x4_1 p354 (by first | exact q354 | exact of_decide_eq_true ‹_› | (have e_ := (Kd.Xm HO_3.out).1; omega));obtain ⟨ve354_0, rfl, ge354_0⟩ := hMe354;have hv354_0 := hcc354 0 _ rfl;rw [Nat.add_zero, show ((Kd.slice 4 Kd.bool)).sz = 1 from rfl, Nat.mul_one] at hv354_0;replace hv354_0 := Option.some.inj (hv354_0.symm.trans hx354_0);rw [hv354_0] at ge354_0;have HL354_0 := Q0.mk (show Kd.R Kd.bool 4 _ _ _ _ (Qs x3_3 x4_1) from ge354_0);clear hv354_0 ge354_0;have HX354_0 := Q0.mk hx354_0;clear hcc354 hce354;have HR354_0 := Q0.mk hi354_0;have HC354_0 := Q0.mk hl354_0;clear hi354_0 hl354_0;replace p354 := eq_true p354;replace q354 := eq_true q354;have p355 : 0 ≤ (x4_1 : Int) := of_decide_eq_true ‹_›;have q355 : x4_1 < (l0.length : Int) := of_decide_eq_true ‹_›;obtain ⟨ad355, A355_1, c355_1, A355_2, c355_2, A355_3, c355_3, A355_4, c355_4, A355_5, c355_5, e355, hx355_0, hx355_1, hx355_2, hx355_3, hx355_4, hx355_5, hl355_1, hi355_1, hl355_2, hi355_2, hl355_3, hi355_3, hl355_4, hi355_4, hl355_5, hi355_5⟩ := XP HR0.out x4_1 p355 q355;have hw355_5 := hx355_5;have hw355_4 := hx355_4;have hw355_3 := hx355_3;have hw355_2 := hx355_2;have hw355_1 := hx355_1;have hw355_0 := hx355_0;obtain rfl : ad343 = ad355 := (by injection e355);replace hx355_0 := cup HB.out hx355_0;replace hx355_1 := cup HB.out hx355_1;replace hx355_2 := cup HB.out hx355_2;replace hx355_3 := cup HB.out hx355_3;replace hx355_4 := cup HB.out hx355_4;replace hx355_5 := cup HB.out hx355_5;have HR355_1 := Q0.mk hi355_1;have HC355_1 := Q0.mk hl355_1;clear hi355_1 hl355_1;have HR355_2 := Q0.mk hi355_2;have HC355_2 := Q0.mk hl355_2;clear hi355_2 hl355_2;have HR355_3 := Q0.mk hi355_3;have HC355_3 := Q0.mk hl355_3;clear hi355_3 hl355_3;have HR355_4 := Q0.mk hi355_4;have HC355_4 := Q0.mk hl355_4;clear hi355_4 hl355_4;have HR355_5 := Q0.mk hi355_5;have HC355_5 := Q0.mk hl355_5;clear hi355_5 hl355_5;replace p355 := eq_true p355;replace q355 := eq_true q355;have p356 : 0 ≤ (x5_2 : Int) := of_decide_eq_true ‹_›;have q356 : x5_2 < (((Q3 l0 x4_1).f3).length : Int) := of_decide_eq_true ‹_›;obtain ⟨ad356, A356_1, c356_1, e356, hx356_0, hx356_1, hl356_1, hi356_1⟩ := at_T49 HR355_3.out x5_2 p356 q356;have hw356_1 := hx356_1;have hw356_0 := hx356_0
                       cases e356
                       replace hx356_0 := cup HB.out hx356_0;replace hx356_1 := cup HB.out hx356_1;have HR356_1 := Q0.mk hi356_1;have HC356_1 := Q0.mk hl356_1;clear hi356_1 hl356_1;replace p356 := eq_true p356;replace q356 := eq_true q356;have p357 : 0 ≤ (x6_3 : Int) := of_decide_eq_true ‹_›;have q357 : x6_3 < (((Qa ((Q3 l0 x4_1).f3) x5_2).f1).length : Int) := of_decide_eq_true ‹_›;obtain ⟨ad357, e357, hx357_0⟩ := Kd.at_int HR356_1.out x6_3 p357 q357;have hw357_0 := hx357_0
                       cases e357
                       replace hx357_0 := cup HB.out hx357_0;replace p357 := eq_true p357;replace q357 := eq_true q357;have p28 : 0 ≤ ((rd ((Qa ((Q3 l0 x4_1).f3) x5_2).f1) x6_3) : Int) := of_decide_eq_true ‹_›;have q28 : ((rd ((Qa ((Q3 l0 x4_1).f3) x5_2).f1) x6_3) : Int) < (((Qs x3_3 x4_1).length : Int) : Int) := of_decide_eq_true ‹_›;obtain ⟨go28, co28, eo28, gb28, gl28, cl28, HG28⟩ := Kd.R_form HL354_0.out (by omega)
                       (first | cases eo28 | (injection eo28 with ea_ en_ ec_; (first | subst ea_ | (injection ea_ with ea_; subst ea_)); subst ec_; clear en_))
                       have GB28 := Q0.mk gb28;have GG28 := Q0.mk HG28;clear gb28 gl28 HG28;obtain ⟨hx28_0, hf28_0⟩ := Kd.Yg false HL354_0.out ((rd ((Qa ((Q3 l0 x4_1).f3) x5_2).f1) x6_3) : Int) p28 q28;replace p28 := eq_true p28;replace q28 := eq_true q28
                       have hq31 : (x4_1 : Int) < (x3_3.length : Int) := (by have h_ : (x4_1 : Int) < ((x3_3.length : Int) : Int) := of_decide_eq_true ‹_›; first | exact h_ | (have e_ := (Kd.Xm HO_3.out).1; omega) | simpa only [List.length_set, List.length_set] using h_)
                       obtain ⟨oki31, ce31, hcl31, hM31, hcc31, hok31, hbk31⟩ := Kd.S_borrow HO_3.out [] (x4_1 : Int) (of_decide_eq_true ‹_›) hq31;obtain ⟨ve31_0, rfl, ge31_0⟩ := hM31;have hv31 := hcc31 0 _ rfl;rw [Nat.add_zero, show ((Kd.slice 4 Kd.bool)).sz = 1 from rfl, Nat.mul_one] at hv31;replace hv31 := Option.some.inj (hv31.symm.trans HX354_0.out);subst hv31;clear hcc31 hcl31;replace ge31_0 := (show Kd.R Kd.bool 4 _ _ _ _ (Qs x3_3 x4_1) from ge31_0);have HP31 := Kd.Yw ge31_0 ((rd ((Qa ((Q3 l0 x4_1).f3) x5_2).f1) x6_3) : Int) false;rw [← Ny358.out] at HP31;have HS31 := hbk31 HP31.2 (fun k_ e_ => by injection e_ with e_; subst e_; exact ge31_0.1 _ rfl) (x' := y358) (Kd.M_row HP31.1);rw [← Ny360.out] at HS31;have HQ31 := Q0.mk HS31;clear HP31 HS31 hbk31 hok31;refine start_ (n := 18) (S := fun w' => w'.cell? (ad354.add (x4_1).toNat) = some (.slice (some ⟨go28, 0, none⟩) (Qs x3_3 x4_1).length c354_0) ∧ w'.cell? (ad343.add ((x4_1).toNat * 6)) = some (.string ((Q3 l0 x4_1).f0)) ∧ w'.cell? ⟨(ad343.add ((x4_1).toNat * 6)).block, (ad343.add ((x4_1).toNat * 6)).off + 1, none⟩ = some (.slice A355_1 ((Q3 l0 x4_1).f1).length c355_1) ∧ w'.cell? ⟨(ad343.add ((x4_1).toNat * 6)).block, (ad343.add ((x4_1).toNat * 6)).off + 2, none⟩ = some (.slice A355_2 ((Q3 l0 x4_1).f2).length c355_2) ∧ w'.cell? ⟨(ad343.add ((x4_1).toNat * 6)).block, (ad343.add ((x4_1).toNat * 6)).off + 3, none⟩ = some (.slice (some ad356) ((Q3 l0 x4_1).f3).length c355_3) ∧ w'.cell? ⟨(ad343.add ((x4_1).toNat * 6)).block, (ad343.add ((x4_1).toNat * 6)).off + 4, none⟩ = some (.slice A355_4 ((Q3 l0 x4_1).f4).length c355_4) ∧ w'.cell? ⟨(ad343.add ((x4_1).toNat * 6)).block, (ad343.add ((x4_1).toNat * 6)).off + 5, none⟩ = some (.slice A355_5 ((Q3 l0 x4_1).f5).length c355_5) ∧ w'.cell? (ad356.add ((x5_2).toNat * 2)) = some (.string ((Qa ((Q3 l0 x4_1).f3) x5_2).f0)) ∧ w'.cell? ⟨(ad356.add ((x5_2).toNat * 2)).block, (ad356.add ((x5_2).toNat * 2)).off + 1, none⟩ = some (.slice (some ad357) ((Qa ((Q3 l0 x4_1).f3) x5_2).f1).length c356_1) ∧ w'.cell? (ad357.add (x6_3).toNat) = some (.int .i64 (rd ((Qa ((Q3 l0 x4_1).f3) x5_2).f1) x6_3))) (ds := [17]) #[false, false, false, false, false, false, false, false, false, false, false, false, false, false, false, false, false, false] (by kernel_rfl) rfl rfl ⟨hx354_0, (cup HB.out hw355_0), (cup HB.out hw355_1), (cup HB.out hw355_2), (cup HB.out hw355_3), (cup HB.out hw355_4), (cup HB.out hw355_5), (cup HB.out hw356_0), (cup HB.out hw356_1), (cup HB.out hw357_0)⟩ (fun hHeld => ?_); refine with_tabW Qf.tab12 Qf.bits12 (fun HT_ HW_ => ?_);generalize wr.drew = w29 at HO_3 HB GG28 HL354_0 HQ31 HR354_0 HR355_1 HR355_2 HR355_3 HR355_4 HR355_5 HR356_1 HX354_0 hf28_0 hx28_0 hx354_0 hx355_0 hx355_1 hx355_2 hx355_3 hx355_4 hx355_5 hx356_0 hx356_1 hx357_0 hHeld ⊢;refine Xg (i := 0) (N := some 54) (v := ?_) (a' := ?_) #[true, false, false, false, false, false, false, false, false, false, false, false, false, false, false, false, false, false] rfl rfl (QX HT_.out (by kernel_rfl)) (fun _ _ _ h => h) (Or.inl ⟨by rfl, ?_⟩) ?_ ?_;rotate_left
                       ·intro w';go_simp
                        with_reducible rfl
                       rotate_left
                       ·simp only [Act.put, List.setIfInBounds_toArray, List.set_cons_zero, List.set_cons_succ, QN, QO];rfl
                       refine Xg (i := 1) (N := some 55) (v := ?_) (a' := ?_) #[true, true, false, false, false, false, false, false, false, false, false, false, false, false, false, false, false, false] rfl rfl (QX HT_.out (by kernel_rfl)) (fun _ _ _ h => h) (Or.inl ⟨by rfl, ?_⟩) ?_ ?_;rotate_left
                       ·intro w';go_simp
                        with_reducible rfl
                       rotate_left
                       ·simp only [Act.put, List.setIfInBounds_toArray, List.set_cons_zero, List.set_cons_succ, QN, QO];rfl
                       refine Xg (i := 2) (N := some 56) (v := ?_) (a' := ?_) #[true, true, true, false, false, false, false, false, false, false, false, false, false, false, false, false, false, false] rfl rfl (QX HT_.out (by kernel_rfl)) (fun _ _ _ h => h) (Or.inl ⟨by rfl, ?_⟩) ?_ ?_;rotate_left
                       ·intro w';go_simp
                        with_reducible rfl
                       rotate_left
                       ·simp only [Act.put, List.setIfInBounds_toArray, List.set_cons_zero, List.set_cons_succ, QN, QO];rfl
                       refine Xg (i := 4) (N := some 58) (v := ?_) (a' := ?_) #[true, true, true, false, true, false, false, false, false, false, false, false, false, false, false, false, false, false] rfl rfl (QX HT_.out (by kernel_rfl)) (fun _ _ _ h => h) (Or.inl ⟨by rfl, ?_⟩) ?_ ?_;rotate_left
                       ·intro w';go_simp
                        with_reducible rfl
                       rotate_left
                       ·simp only [Act.put, List.setIfInBounds_toArray, List.set_cons_zero, List.set_cons_succ, QN, QO];rfl
                       refine Xg (i := 5) (N := some 59) (v := ?_) (a' := ?_) #[true, true, true, false, true, true, false, false, false, false, false, false, false, false, false, false, false, false] rfl rfl (QX HT_.out (by kernel_rfl)) (fun _ _ _ h => h) (Or.inl ⟨by rfl, ?_⟩) ?_ ?_;rotate_left
                       ·intro w';go_simp
                        with_reducible rfl
                       rotate_left
                       ·simp only [Act.put, List.setIfInBounds_toArray, List.set_cons_zero, List.set_cons_succ, QN, QO];rfl
                       refine Xg (i := 6) (N := some 60) (v := ?_) (a' := ?_) #[true, true, true, false, true, true, true, false, false, false, false, false, false, false, false, false, false, false] rfl rfl (QX HT_.out (by kernel_rfl)) (fun _ _ _ h => h) (Or.inl ⟨by rfl, ?_⟩) ?_ ?_;rotate_left
                       ·intro w';go_simp
                        with_reducible rfl
                       rotate_left
                       ·simp only [Act.put, List.setIfInBounds_toArray, List.set_cons_zero, List.set_cons_succ, QN, QO];rfl
                       refine Xg (i := 7) (N := some 61) (v := ?_) (a' := ?_) #[true, true, true, false, true, true, true, true, false, false, false, false, false, false, false, false, false, false] rfl rfl (QX HT_.out (by kernel_rfl)) (fun _ _ _ h => h) (Or.inl ⟨by rfl, ?_⟩) ?_ ?_;rotate_left
                       ·intro w';go_simp
                        with_reducible rfl
                       rotate_left
                       ·simp only [Act.put, List.setIfInBounds_toArray, List.set_cons_zero, List.set_cons_succ, QN, QO];rfl
                       refine Xg (i := 9) (N := some 63) (v := ?_) (a' := ?_) #[true, true, true, false, true, true, true, true, false, true, false, false, false, false, false, false, false, false] rfl rfl (QX HT_.out (by kernel_rfl)) (fun _ _ _ h => h) (Or.inl ⟨by rfl, ?_⟩) ?_ ?_;rotate_left
                       ·intro w';go_simp
                        with_reducible rfl
                       rotate_left
                       ·simp only [Act.put, List.setIfInBounds_toArray, List.set_cons_zero, List.set_cons_succ, QN, QO];rfl
                       refine Xg (i := 13) (N := some 67) (v := ?_) (a' := ?_) #[true, true, true, false, true, true, true, true, false, true, false, false, false, true, false, false, false, false] rfl rfl (QX HT_.out (by kernel_rfl)) (fun _ _ _ h => h) (Or.inl ⟨by rfl, ?_⟩) ?_ ?_;rotate_left
                       ·intro w';go_simp
                        with_reducible rfl
                       rotate_left
                       ·simp only [Act.put, List.setIfInBounds_toArray, List.set_cons_zero, List.set_cons_succ, QN, QO];rfl
                       refine Yl (i := 3) (N := some 57) (v := ?_) (a' := ?_) #[true, true, true, true, true, true, true, true, false, true, false, false, false, true, false, false, false, false] rfl rfl (XV HT_.out HW_.out (by kernel_rfl)) (fun _ _ _ h => h) (Or.inl ⟨by rfl, ?_⟩) hHeld ?_ ?_;rotate_left
                       ·rintro w' ⟨s0, s1, s2, s3, s4, s5, s6, s7, s8, s9⟩;go_simp
                        with_reducible rfl
                       rotate_left
                       ·simp only [Act.put, List.setIfInBounds_toArray, List.set_cons_zero, List.set_cons_succ, QN, QO];rfl
                       refine Yl (i := 8) (N := some 62) (v := ?_) (a' := ?_) #[true, true, true, true, true, true, true, true, true, true, false, false, false, true, false, false, false, false] rfl rfl (XV HT_.out HW_.out (by kernel_rfl)) (fun _ _ _ h => h) (Or.inl ⟨by rfl, ?_⟩) hHeld ?_ ?_;rotate_left
                       ·rintro w' ⟨s0, s1, s2, s3, s4, s5, s6, s7, s8, s9⟩;go_simp
                        with_reducible rfl
                       rotate_left
                       ·simp only [Act.put, List.setIfInBounds_toArray, List.set_cons_zero, List.set_cons_succ, QN, QO];rfl
                       refine Xg (i := 10) (N := some 64) (v := ?_) (a' := ?_) #[true, true, true, true, true, true, true, true, true, true, true, false, false, true, false, false, false, false] rfl rfl (QX HT_.out (by kernel_rfl)) (fun _ _ _ h => h) (Or.inl ⟨by rfl, ?_⟩) ?_ ?_;rotate_left
                       ·intro w';go_simp
                        with_reducible rfl
                       rotate_left
                       ·simp only [Act.put, List.setIfInBounds_toArray, List.set_cons_zero, List.set_cons_succ, QN, QO];rfl
                       refine Xg (i := 11) (N := some 65) (v := ?_) (a' := ?_) #[true, true, true, true, true, true, true, true, true, true, true, true, false, true, false, false, false, false] rfl rfl (QX HT_.out (by kernel_rfl)) (fun _ _ _ h => h) (Or.inl ⟨by rfl, ?_⟩) ?_ ?_;rotate_left
                       ·intro w';go_simp
                        with_reducible rfl
                       rotate_left
                       ·simp only [Act.put, List.setIfInBounds_toArray, List.set_cons_zero, List.set_cons_succ, QN, QO];rfl
                       refine Yl (i := 12) (N := some 66) (v := ?_) (a' := ?_) #[true, true, true, true, true, true, true, true, true, true, true, true, true, true, false, false, false, false] rfl rfl (XV HT_.out HW_.out (by kernel_rfl)) (fun _ _ _ h => h) (Or.inl ⟨by rfl, ?_⟩) hHeld ?_ ?_;rotate_left
                       ·rintro w' ⟨s0, s1, s2, s3, s4, s5, s6, s7, s8, s9⟩;go_simp
                        with_reducible rfl
                       rotate_left
                       ·simp only [Act.put, List.setIfInBounds_toArray, List.set_cons_zero, List.set_cons_succ, QN, QO];rfl
                       refine Xg (i := 14) (N := some 68) (v := ?_) (a' := ?_) #[true, true, true, true, true, true, true, true, true, true, true, true, true, true, true, false, false, false] rfl rfl (QX HT_.out (by kernel_rfl)) (fun _ _ _ h => h) (Or.inl ⟨by rfl, ?_⟩) ?_ ?_;rotate_left
                       ·intro w';go_simp
                        with_reducible rfl
                       rotate_left
                       ·simp only [Act.put, List.setIfInBounds_toArray, List.set_cons_zero, List.set_cons_succ, QN, QO];rfl
                       refine Yl (i := 15) (N := some 69) (v := ?_) (a' := ?_) #[true, true, true, true, true, true, true, true, true, true, true, true, true, true, true, true, false, false] rfl rfl (XV HT_.out HW_.out (by kernel_rfl)) (fun _ _ _ h => h) (Or.inl ⟨by rfl, ?_⟩) hHeld ?_ ?_;rotate_left
                       ·rintro w' ⟨s0, s1, s2, s3, s4, s5, s6, s7, s8, s9⟩;go_simp
                        with_reducible rfl
                       rotate_left
                       ·simp only [Act.put, List.setIfInBounds_toArray, List.set_cons_zero, List.set_cons_succ, QN, QO];rfl
                       refine Xg (i := 16) (N := some 70) (v := ?_) (a' := ?_) #[true, true, true, true, true, true, true, true, true, true, true, true, true, true, true, true, true, false] rfl rfl (QX HT_.out (by kernel_rfl)) (fun _ _ _ h => h) (Or.inl ⟨by rfl, ?_⟩) ?_ ?_;rotate_left
                       ·intro w';go_simp
                        with_reducible rfl
                       rotate_left
                       ·simp only [Act.put, List.setIfInBounds_toArray, List.set_cons_zero, List.set_cons_succ, QN, QO];rfl
                       refine last_ (i := 17) (N := none) #[true, true, true, true, true, true, true, true, true, true, true, true, true, true, true, true, true, true] rfl rfl (one_of HT_.out (by kernel_rfl)) (by decide) (fun K hK => ?_);refine skip_ (w1 := ?_) (by rfl) rfl ?_ ?_;rotate_left
                       ·go_simp;rfl
                       refine hK.out _ _ ?_;clear hK K;refine done_ (done_of HT_.out (by kernel_rfl)) ?_;try go_wp2
                       go_roundg k3
                       (case measure => have := HK1.out; have := HK2.out; have := HK3.out; omega);case rel => exact ⟨(y360), (wrap64 (x6_3 + 1)), (by first | rfl | (simp [*]; done)), H', ⟨by have := HK1.out; have := HK2.out; have := HK3.out; omega⟩, ⟨by (with_reducible repeat (first | apply Kd.X2 | apply Kd.QY | apply Kd.Xa)); exact HQ31.out⟩, ⟨by repeat (first | exact HB.out | apply Q5 | apply Q2 | apply Q6 | refine Q1 ?_ GB28.out)⟩⟩
                      ·rw [if_neg c27] at H;exact absurd H (by simp)
                     ·rw [if_neg c26] at H;exact absurd H (by simp)
                    ·rw [if_neg c25] at H;exact absurd H (by simp)
                   ·rw [if_neg c24] at H;exact absurd H (by simp)
                  ·rw [if_neg c23] at H;have c23b0 : decide (x6_3 < (((Qa ((Q3 l0 x4_1).f3) x5_2).f1).length : Int)) = false := decide_eq_false c23;clear c23;have H' := Q0.mk H;clear H;have p352 : 0 ≤ (x4_1 : Int) := of_decide_eq_true ‹_›;have q352 : x4_1 < (l0.length : Int) := of_decide_eq_true ‹_›;obtain ⟨ad352, A352_1, c352_1, A352_2, c352_2, A352_3, c352_3, A352_4, c352_4, A352_5, c352_5, e352, hx352_0, hx352_1, hx352_2, hx352_3, hx352_4, hx352_5, hl352_1, hi352_1, hl352_2, hi352_2, hl352_3, hi352_3, hl352_4, hi352_4, hl352_5, hi352_5⟩ := XP HR0.out x4_1 p352 q352;obtain rfl : ad343 = ad352 := (by injection e352);replace hx352_0 := cup HB.out hx352_0;replace hx352_1 := cup HB.out hx352_1;replace hx352_2 := cup HB.out hx352_2;replace hx352_3 := cup HB.out hx352_3;replace hx352_4 := cup HB.out hx352_4;replace hx352_5 := cup HB.out hx352_5;have HR352_1 := Q0.mk hi352_1;have HC352_1 := Q0.mk hl352_1;clear hi352_1 hl352_1;have HR352_2 := Q0.mk hi352_2;have HC352_2 := Q0.mk hl352_2;clear hi352_2 hl352_2;have HR352_3 := Q0.mk hi352_3;have HC352_3 := Q0.mk hl352_3;clear hi352_3 hl352_3;have HR352_4 := Q0.mk hi352_4;have HC352_4 := Q0.mk hl352_4;clear hi352_4 hl352_4;have HR352_5 := Q0.mk hi352_5;have HC352_5 := Q0.mk hl352_5;clear hi352_5 hl352_5;replace p352 := eq_true p352;replace q352 := eq_true q352;have p353 : 0 ≤ (x5_2 : Int) := of_decide_eq_true ‹_›;have q353 : x5_2 < (((Q3 l0 x4_1).f3).length : Int) := of_decide_eq_true ‹_›;obtain ⟨ad353, A353_1, c353_1, e353, hx353_0, hx353_1, hl353_1, hi353_1⟩ := at_T49 HR352_3.out x5_2 p353 q353
                   cases e353
                   replace hx353_0 := cup HB.out hx353_0;replace hx353_1 := cup HB.out hx353_1;have HR353_1 := Q0.mk hi353_1;have HC353_1 := Q0.mk hl353_1;clear hi353_1 hl353_1;replace p353 := eq_true p353;replace q353 := eq_true q353;go_wp2
                   go_roundg k3
                   (case measure => have := HK1.out; have := HK2.out; have := HK3.out; omega);case rel => exact ⟨(x3_3), (wrap64 (x5_2 + 1)), (by first | rfl | (simp [*]; done)), H', ⟨by have := HK1.out; have := HK2.out; have := HK3.out; omega⟩, ⟨by (with_reducible repeat (first | apply Kd.X2 | apply Kd.QY | apply Kd.Xa)); exact HO_3.out⟩, ⟨by repeat (first | exact HB.out | apply Q5 | apply Q2 | apply Q6)⟩⟩
                 ·rw [if_neg c22] at H;exact absurd H (by simp)
                ·rw [if_neg c21] at H;exact absurd H (by simp)
               ·rw [if_neg c20] at H;exact absurd H (by simp)
              ·rw [if_neg c19] at H;exact absurd H (by simp)
          ·rw [if_neg c10] at H;exact absurd H (by simp)
         ·rw [if_neg c9] at H;exact absurd H (by simp)
        ·rw [if_neg c7] at H;have c7b0 : decide (x5_2 < (((Q3 l0 x4_1).f3).length : Int)) = false := decide_eq_false c7;clear c7;have H' := Q0.mk H;clear H;have p343 : 0 ≤ (x4_1 : Int) := of_decide_eq_true ‹_›;have q343 : x4_1 < (l0.length : Int) := of_decide_eq_true ‹_›;obtain ⟨ad343, A343_1, c343_1, A343_2, c343_2, A343_3, c343_3, A343_4, c343_4, A343_5, c343_5, e343, hx343_0, hx343_1, hx343_2, hx343_3, hx343_4, hx343_5, hl343_1, hi343_1, hl343_2, hi343_2, hl343_3, hi343_3, hl343_4, hi343_4, hl343_5, hi343_5⟩ := XP HR0.out x4_1 p343 q343
         cases e343
         replace hx343_0 := cup HB.out hx343_0;replace hx343_1 := cup HB.out hx343_1;replace hx343_2 := cup HB.out hx343_2;replace hx343_3 := cup HB.out hx343_3;replace hx343_4 := cup HB.out hx343_4;replace hx343_5 := cup HB.out hx343_5;have HR343_1 := Q0.mk hi343_1;have HC343_1 := Q0.mk hl343_1;clear hi343_1 hl343_1;have HR343_2 := Q0.mk hi343_2;have HC343_2 := Q0.mk hl343_2;clear hi343_2 hl343_2;have HR343_3 := Q0.mk hi343_3;have HC343_3 := Q0.mk hl343_3;clear hi343_3 hl343_3;have HR343_4 := Q0.mk hi343_4;have HC343_4 := Q0.mk hl343_4;clear hi343_4 hl343_4;have HR343_5 := Q0.mk hi343_5;have HC343_5 := Q0.mk hl343_5;clear hi343_5 hl343_5;replace p343 := eq_true p343;replace q343 := eq_true q343;go_wp2
         go_roundg k2
         (case measure => have := HK1.out; have := HK2.out; omega);case rel => exact ⟨(x3_2), (wrap64 (x4_1 + 1)), (by first | rfl | (simp [*]; done)), H', ⟨by have := HK1.out; have := HK2.out; omega⟩, ⟨by (with_reducible repeat (first | apply Kd.X2 | apply Kd.QY | apply Kd.Xa)); exact HO_3.out⟩, ⟨by repeat (first | exact HB.out | apply Q5 | apply Q2 | apply Q6)⟩⟩
       ·rw [if_neg c6] at H;exact absurd H (by simp)
      ·rw [if_neg c5] at H;exact absurd H (by simp)
   ·rw [if_neg c4] at H;have c4b0 : decide (x4_1 < (l0.length : Int)) = false := decide_eq_false c4;clear c4;obtain rfl := Option.some.inj H;go_wp2;go_ret;exact ⟨_, by first | rfl | (simp [*]; done), by (with_reducible repeat (first | apply Kd.X2 | apply Kd.QY | apply Kd.Xa)); exact HO_3.out, by repeat (first | exact HB.out | apply Q5 | apply Q2 | apply Q6)⟩
end Go.Proofs.Ytakabkjhnncbhaa.PX
