/- A part of the proof of a law: its words, walks of functions, or plain lemmas. -/
-- Written by this session's own programs (wip/printx.py, gen_*.py, assemble.py) and by hand.
import Derived.Test.YtakabkjhnncbhaaS01
import Derived.Test.YtakabkjhnncbhaaS07
import Derived.Test.YtakabkjhnncbhaaS08
namespace Go.Proofs.Ytakabkjhnncbhaa.PX
open Go.RowKit Go.Proofs.YtakabkjhnncbhaaW.PrintWords Go.Proofs.YtakabkjhnncbhaaW.PrintLast Go.Proofs.YtakabkjhnncbhaaW.PrintMore
attribute [local go_sem] Xk Xi Xs Xr X5 X4 Xj Xh   -- for this text's walks alone
set_option linter.unusedVariables false
set_option linter.unusedSimpArgs false
attribute [local go_sem high] eqA24
mutual
def Qf.l0 : Nat → List (S46) → List (List Bool) → List (S46) → Int → Int → Option ((List (List Bool)) × Int × Int)
 | 0, _, _, _, _, _ => none
 | k + 1, x0, x5, x25, x26, x27 => if x27 < x26 then (if 0 ≤ x27 then (if x27 < (x25.length : Int) then (if 0 ≤ (((Q3 x25 x27).f1).length : Int) then (if ((((Q3 x25 x27).f1).length : Int) : Int).toNat ≤ 281474976710656 then (Qf.l1 k x0 x5 x27 (List.replicate ((((Q3 x25 x27).f1).length : Int) : Int).toNat false) x25 x26 x27 ((Q3 x25 x27).f3) (((Q3 x25 x27).f3).length : Int) 0) else (none)) else (none)) else (none)) else (none)) else (some (x5, 0, 0))
def Qf.l1 : Nat → List (S46) → List (List Bool) → Int → List Bool → List (S46) → Int → Int → List (S49) → Int → Int → Option ((List (List Bool)) × Int × Int)
 | 0, _, _, _, _, _, _, _, _, _, _ => none
 | k + 1, x0, x5, x6, x8, x25, x26, x27, x37, x38, x39 => if x39 < x38 then (if 0 ≤ x39 then (if x39 < (x37.length : Int) then ((QU.f k x0 ((Qh x37 x39).f0)).bind fun bt236 => (Qf.l2 k x0 x5 x6 x8 x39 bt236.1 bt236.2 x25 x26 x27 x37 x38 x39 ((Qh x37 x39).f1) (((Qh x37 x39).f1).length : Int) 0)) else (none)) else (none)) else (Qf.l3 k x0 x5 x6 x25 x26 x27 x8 (x8.length : Int) 0)
def Qf.l2 : Nat → List (S46) → List (List Bool) → Int → List Bool → Int → Int → Int → List (S46) → Int → Int → List (S49) → Int → Int → List Int → Int → Int → Option ((List (List Bool)) × Int × Int)
 | 0, _, _, _, _, _, _, _, _, _, _, _, _, _, _, _, _ => none
 | k + 1, x0, x5, x6, x8, x9, x11, x12, x25, x26, x27, x37, x38, x39, x52, x53, x54 => if x54 < x53 then (if 0 ≤ x54 then (if x54 < (x52.length : Int) then (if 0 ≤ x6 then (if x6 < (x5.length : Int) then (if 0 ≤ (rd x52 x54) then (if (rd x52 x54) < ((QM x5 x6).length : Int) then ((some (x5.set (x6 : Int).toNat ((QM x5 x6).set ((rd x52 x54) : Int).toNat false) : List (List Bool))).bind fun y242 => (if (rd x52 x54) < (x8.length : Int) then (if rdOf false x8 (rd x52 x54) = true then (Qf.l2 k x0 y242 x6 (x8.set ((rd x52 x54) : Int).toNat true) x9 x11 x12 x25 x26 x27 x37 x38 x39 x52 x53 (wrap64 (x54 + 1))) else (if x11 = x6 then (Qf.l2 k x0 y242 x6 (x8.set ((rd x52 x54) : Int).toNat (x12 == x9)) x9 x11 x12 x25 x26 x27 x37 x38 x39 x52 x53 (wrap64 (x54 + 1))) else (Qf.l2 k x0 y242 x6 (x8.set ((rd x52 x54) : Int).toNat false) x9 x11 x12 x25 x26 x27 x37 x38 x39 x52 x53 (wrap64 (x54 + 1))))) else (none))) else (none)) else (none)) else (none)) else (none)) else (none)) else (none)) else (Qf.l1 k x0 x5 x6 x8 x25 x26 x27 x37 x38 (wrap64 (x39 + 1)))
def Qf.l3 : Nat → List (S46) → List (List Bool) → Int → List (S46) → Int → Int → List Bool → Int → Int → Option ((List (List Bool)) × Int × Int)
 | 0, _, _, _, _, _, _, _, _, _ => none
 | k + 1, x0, x5, x6, x25, x26, x27, x83, x84, x85 => if x85 < x84 then (if 0 ≤ x85 then (if x85 < (x83.length : Int) then (if 0 ≤ x6 then (if x6 < (x5.length : Int) then (if x85 < ((QM x5 x6).length : Int) then (if rdOf false (QM x5 x6) x85 = true then (Qf.l3 k x0 (x5.set (x6 : Int).toNat ((QM x5 x6).set (x85 : Int).toNat true)) x6 x25 x26 x27 x83 x84 (wrap64 (x85 + 1))) else (Qf.l3 k x0 (x5.set (x6 : Int).toNat ((QM x5 x6).set (x85 : Int).toNat (rdOf false x83 x85))) x6 x25 x26 x27 x83 x84 (wrap64 (x85 + 1)))) else (none)) else (none)) else (none)) else (none)) else (none)) else (Qf.l0 k x0 x5 x25 x26 (wrap64 (x27 + 1)))
end
def Qf.f (k : Nat) (l0 : List (S46)) : Option ((List (List Bool)) × Int × Int) := (QI.f k l0).bind fun bt223 => (if (!(bt223.1 == 0) || (!(bt223.2 == 0))) = true then (some (([] : List (List Bool)), bt223.1, bt223.2)) else ((QQ.f k l0).bind fun t226 => (Qf.l0 k l0 t226 l0 (l0.length : Int) 0)))
theorem Qf.Xn : ∀ k, (∀ y0 y1 y2 y3 y4, LeO (Qf.l0 k y0 y1 y2 y3 y4) (Qf.l0 (k + 1) y0 y1 y2 y3 y4)) ∧ (∀ y0 y1 y2 y3 y4 y5 y6 y7 y8 y9, LeO (Qf.l1 k y0 y1 y2 y3 y4 y5 y6 y7 y8 y9) (Qf.l1 (k + 1) y0 y1 y2 y3 y4 y5 y6 y7 y8 y9)) ∧ (∀ y0 y1 y2 y3 y4 y5 y6 y7 y8 y9 y10 y11 y12 y13 y14 y15, LeO (Qf.l2 k y0 y1 y2 y3 y4 y5 y6 y7 y8 y9 y10 y11 y12 y13 y14 y15) (Qf.l2 (k + 1) y0 y1 y2 y3 y4 y5 y6 y7 y8 y9 y10 y11 y12 y13 y14 y15)) ∧ (∀ y0 y1 y2 y3 y4 y5 y6 y7 y8, LeO (Qf.l3 k y0 y1 y2 y3 y4 y5 y6 y7 y8) (Qf.l3 (k + 1) y0 y1 y2 y3 y4 y5 y6 y7 y8))
 | 0 => ⟨fun _ _ _ _ _ r h => by simp [Qf.l0] at h, fun _ _ _ _ _ _ _ _ _ _ r h => by simp [Qf.l1] at h, fun _ _ _ _ _ _ _ _ _ _ _ _ _ _ _ _ r h => by simp [Qf.l2] at h, fun _ _ _ _ _ _ _ _ _ r h => by simp [Qf.l3] at h⟩
 | k + 1 => by
  obtain ⟨ih0, ih1, ih2, ih3⟩ := Qf.Xn k
  refine ⟨?_, ?_, ?_, ?_⟩
  ·intro y0 y1 y2 y3 y4
   unfold Qf.l0
   repeat' first
   | (with_reducible exact ih0 _ _ _ _ _)
   | (with_reducible exact ih1 _ _ _ _ _ _ _ _ _ _)
   | (with_reducible exact ih2 _ _ _ _ _ _ _ _ _ _ _ _ _ _ _ _)
   | (with_reducible exact ih3 _ _ _ _ _ _ _ _ _)
   | (with_reducible exact QU.mono _ _ _)
   | (with_reducible exact QQ.mono _ _)
   | (with_reducible exact QI.mono _ _)
   | (with_reducible exact LeO.refl _)
   | (with_reducible exact LeO.none _)
   | (with_reducible refine LeO.ite ?_ ?_)
   | (with_reducible refine LeO.bind ?_ (fun _ => ?_))
  ·intro y0 y1 y2 y3 y4 y5 y6 y7 y8 y9
   unfold Qf.l1
   repeat' first
   | (with_reducible exact ih0 _ _ _ _ _)
   | (with_reducible exact ih1 _ _ _ _ _ _ _ _ _ _)
   | (with_reducible exact ih2 _ _ _ _ _ _ _ _ _ _ _ _ _ _ _ _)
   | (with_reducible exact ih3 _ _ _ _ _ _ _ _ _)
   | (with_reducible exact QU.mono _ _ _)
   | (with_reducible exact QQ.mono _ _)
   | (with_reducible exact QI.mono _ _)
   | (with_reducible exact LeO.refl _)
   | (with_reducible exact LeO.none _)
   | (with_reducible refine LeO.ite ?_ ?_)
   | (with_reducible refine LeO.bind ?_ (fun _ => ?_))
  ·intro y0 y1 y2 y3 y4 y5 y6 y7 y8 y9 y10 y11 y12 y13 y14 y15
   unfold Qf.l2
   repeat' first
   | (with_reducible exact ih0 _ _ _ _ _)
   | (with_reducible exact ih1 _ _ _ _ _ _ _ _ _ _)
   | (with_reducible exact ih2 _ _ _ _ _ _ _ _ _ _ _ _ _ _ _ _)
   | (with_reducible exact ih3 _ _ _ _ _ _ _ _ _)
   | (with_reducible exact QU.mono _ _ _)
   | (with_reducible exact QQ.mono _ _)
   | (with_reducible exact QI.mono _ _)
   | (with_reducible exact LeO.refl _)
   | (with_reducible exact LeO.none _)
   | (with_reducible refine LeO.ite ?_ ?_)
   | (with_reducible refine LeO.bind ?_ (fun _ => ?_))
  ·intro y0 y1 y2 y3 y4 y5 y6 y7 y8
   unfold Qf.l3
   repeat' first
   | (with_reducible exact ih0 _ _ _ _ _)
   | (with_reducible exact ih1 _ _ _ _ _ _ _ _ _ _)
   | (with_reducible exact ih2 _ _ _ _ _ _ _ _ _ _ _ _ _ _ _ _)
   | (with_reducible exact ih3 _ _ _ _ _ _ _ _ _)
   | (with_reducible exact QU.mono _ _ _)
   | (with_reducible exact QQ.mono _ _)
   | (with_reducible exact QI.mono _ _)
   | (with_reducible exact LeO.refl _)
   | (with_reducible exact LeO.none _)
   | (with_reducible refine LeO.ite ?_ ?_)
   | (with_reducible refine LeO.bind ?_ (fun _ => ?_))
theorem Qf.mono : ∀ a0 k, LeO (Qf.f k a0) (Qf.f (k + 1) a0) := by
 intro a0 k
 obtain ⟨ih0, ih1, ih2, ih3⟩ := Qf.Xn k
 unfold Qf.f
 repeat' first
   | (with_reducible exact ih0 _ _ _ _ _)
   | (with_reducible exact ih1 _ _ _ _ _ _ _ _ _ _)
   | (with_reducible exact ih2 _ _ _ _ _ _ _ _ _ _ _ _ _ _ _ _)
   | (with_reducible exact ih3 _ _ _ _ _ _ _ _ _)
   | (with_reducible exact QU.mono _ _ _)
   | (with_reducible exact QQ.mono _ _)
   | (with_reducible exact QI.mono _ _)
   | (with_reducible exact LeO.refl _)
   | (with_reducible exact LeO.none _)
   | (with_reducible refine LeO.ite ?_ ?_)
   | (with_reducible refine LeO.bind ?_ (fun _ => ?_))
def Qf.T23 : Bool × List (List Nat × List Nat) := (true, [([], []), ([], []), ([0, 1], [0, 1]), ([2], [2]), ([], []), ([], []), ([], []), ([5, 6], [5, 6]), ([7], [7]), ([], []), ([8, 9], [8, 9]), ([10], [10]), ([11], [11]), ([12], [12]), ([12, 13], [12, 13]), ([3, 4, 0, 1, 2, 3, 4, 5, 6, 7, 8, 9, 10, 11, 12, 13, 14], [3, 4]), ([15, 14, 12, 0, 1, 2, 3, 4, 5, 6, 7, 8, 9, 10, 11, 12, 13, 14], [14, 15])])
def Qf.B23 : List Nat := [0, 0, 3, 7, 0, 0, 0, 96, 224, 0, 992, 2016, 4064, 8160, 16352, 32767, 65535]
theorem Qf.tab23 : rtab .any (opsOf Try.f11 23) = Qf.T23 := by kernel_rfl
theorem Qf.bits23 : waitsOk Qf.T23.2 Qf.B23 = true := by kernel_rfl
set_option maxHeartbeats 8000000 in
set_option maxRecDepth 100000 in
theorem Qf.calls (k : Nat) (A0 : Option Addr) (c0 : Nat) (l0 : List (S46)) (r1 : List (List Bool)) (r2 : Int) (r3 : Int) (w : World) (hr0 : Kd.C k46 w A0 l0.length l0) (hc0 : l0.length ≤ c0) (h : Qf.f k l0 = some (r1, r2, r3)) :
  Calls Try.prog 11 #[.slice A0 l0.length c0] w fun e w' => ∃ v0_ : Value, e = .returned (.tuple #[v0_, .agg #[.int .i64 r2, .int .i64 r3]]) ∧ Kd.S (Kd.slice 4 Kd.bool) 39 w' w.heap.size (fun _ => True) v0_ r1 ∧ Below w.heap.size w w' := by
 have hu24 := Try.underlying24
 have hu46 := Try.underlying46
 have hu49 := Try.underlying49
 have HR0 := Q0.mk hr0
 have HC0 := Q0.mk hc0
 clear hr0 hc0
 have HB := Q0.mk (Below.refl w.heap.size w)
 have H := h
 clear h
 unfold Qf.f at H
 try dsimp only at H
 replace H := Option.bind_eq_some_iff.mp H
 obtain ⟨⟨t223, t224⟩, A20, H⟩ := H
 try dsimp only at H
 have A2 := Q0.mk A20
 clear A20
 by_cases c3 : (!(t223 == 0) || (!(t224 == 0))) = true
 ·rw [if_pos c3] at H
  have c3b0 : (!(t223 == 0) || (!(t224 == 0))) = true := c3
  clear c3
  simp only [Option.some.injEq, Prod.mk.injEq] at H
  obtain ⟨rfl, rfl, rfl⟩ := H
  go_enter Try.func11, Try.ntmps11
  try go_wp2_with (first | ((with_reducible refine QN (N := 3) rfl ?_); refine QK ?hg (N := 3) ?hd (cs := #[.int .i64 0, .int .i64 0]) (t := 24) ?hr ?_; (case hd => rfl); (case hg => rfl); (case hr => first | (go_simp; done) | (go_simp; rfl)); intro gb222 hg w4 hbox hb; have BK222 := Q0.mk (hbox); have GW222 := Q0.mk ((by rw [hg]; exact (Qg HB.out) : w.heap.size ≤ gb222)); have GE222 := Q0.mk ((by rw [hg]; exact (Qg HB.out) : w.heap.size ≤ gb222)); replace HB := Q0.mk (Qj HB.out hb); clear hb hbox hg) | ((with_reducible refine Qs (f := 27) rfl ?_); refine X2 (some 18) rfl rfl Try.func27 (by kernel_rfl) rfl #[.slice A0 l0.length c0] rfl (by (try simp only [List.map_toArray, List.map_cons, List.map_nil]); first | done | rfl | (simp only [List.length_drop, List.length_take]; rfl)) ?_; (with_reducible refine (QI.calls k _ _ l0 t223 t224 _ ?side1 ?side2 A2.out).mono ?_); (case side1 => repeat (first | exact (Kd.Qx HR0.out HB.out) | (with_reducible refine Kd.QT ?_ _) | (with_reducible refine Kd.QS ?_ _) | (with_reducible refine Kd.X6 ?_))); (case side2 => exact HC0.out); rintro e w5 ⟨rfl, hb⟩; refine ⟨_, rfl, ?_⟩; replace BK222 := Q0.mk (Q9 BK222.out hb); replace HB := Q0.mk (Qj HB.out hb)) | ((with_reducible refine QN (N := 4) rfl ?_); refine QK ?hg (N := 4) ?hd (cs := #[.int .i64 0, .int .i64 0]) (t := 24) ?hr ?_; (case hd => rfl); (case hg => rfl); (case hr => first | (go_simp; done) | (go_simp; rfl)); intro gb225 hg w6 hbox hb; have BK225 := Q0.mk (hbox); have GW225 := Q0.mk ((by rw [hg]; exact (Qg HB.out) : w.heap.size ≤ gb225)); have GE225 := Q0.mk ((by rw [hg]; exact (Qg HB.out) : w.heap.size ≤ gb225)); have NB222_225 := Q0.mk ((by rw [hg]; exact Nat.ne_of_lt (Qy BK222.out) : gb222 ≠ gb225)); have NB225_222 := Q0.mk ((by rw [hg]; exact Nat.ne_of_gt (Qy BK222.out) : gb225 ≠ gb222)); replace BK222 := Q0.mk (Q9 BK222.out hb); replace HB := Q0.mk (Qj HB.out hb); clear hb hbox hg; have hnb7 := NB225_222.out; have hnc7 := NB222_225.out; obtain ⟨hcz8_0, hcz8_1⟩ := QB BK225.out; obtain ⟨hfz8_0, hfz8_1⟩ := Qt BK225.out) | ((with_reducible refine QD (t := 24) (p := 4) rfl ?_); refine Qw (t := 24) (p := 4) (v := ?vo_w9) (w1 := ((w6.setCell ⟨gb225, 0, none⟩ (.int .i64 t223)).setCell ⟨gb225, 1, none⟩ (.int .i64 t224))) ?hg ?ho ?hn ?hr ?_; (case ho => rfl); (case hg => rfl); (case hn => rfl); (case hr => first | (go_simp; done) | (go_simp; rfl)); intro w9 hw; replace BK222 := Q0.mk (far2 hw BK222.out NB222_225.out); replace BK225 := Q0.mk (put2 hw BK225.out); replace HB := Q0.mk (bel2 hw HB.out GE225.out); clear hw; obtain ⟨hcz10_0, hcz10_1⟩ := QB BK225.out; obtain ⟨hfz10_0, hfz10_1⟩ := Qt BK225.out))
  have n0_ := Q0.mk (Qa BK222.out)
  have n1_ := Q0.mk (Qa BK225.out)
  have n2_ := Q0.mk (Q6 HB.out)
  clear BK222
  clear BK225
  clear HB
  have BK222 := n0_
  have BK225 := n1_
  have HB := n2_
  clear n0_ n1_ n2_
  refine start_ (n := 3) (S := fun w' => w'.cell? ⟨gb225, 0, none⟩ = some (.int .i64 t223) ∧ w'.cell? ⟨gb225, 1, none⟩ = some (.int .i64 t224)) (ds := []) #[false, false, false] (by kernel_rfl) rfl rfl ⟨(Qz BK225.out 0).trans rfl, (Qz BK225.out 1).trans rfl⟩ (fun hHeld => ?_)
  generalize w9.drew = w11 at BK222 BK225 HB hHeld ⊢
  refine Xf (i := 1) (N := some 2) (v := ?_) (a' := ?_) #[false, true, false] rfl rfl (by kernel_rfl) (fun _ _ _ h => h) (Or.inl ⟨by rfl, ?_⟩) ?_ ?_
  rotate_left
  ·intro w'
   go_simp
   with_reducible rfl
  rotate_left
  ·simp only [Act.put, List.setIfInBounds_toArray, List.set_cons_zero, List.set_cons_succ, QO, QP]
   rfl
  refine Yk (i := 0) (N := some 22) (v := ?_) (a' := ?_) #[true, true, false] rfl rfl (by kernel_rfl) (fun _ _ _ h => h) (Or.inl ⟨by rfl, ?_⟩) hHeld ?_ ?_
  rotate_left
  ·rintro w' ⟨s0, s1⟩
   go_simp
   with_reducible rfl
  rotate_left
  ·simp only [Act.put, List.setIfInBounds_toArray, List.set_cons_zero, List.set_cons_succ, QO, QP]
   rfl
  refine one_ (i := 2) (N := none) #[true, true, true] rfl rfl (by kernel_rfl) (by decide) (fun K hK => ?_)
  have hs12 : w11.cell? ⟨gb222, 0, none⟩ = some (.int .i64 0) := (Qz BK222.out 0).trans rfl
  have hfs12 := QZ BK222.out 0
  have hns12_1 := NB225_222.out
  have hms12_1 := NB222_225.out
  have hs13 : w11.cell? ⟨gb222, 1, none⟩ = some (.int .i64 0) := (Qz BK222.out 1).trans rfl
  have hfs13 := QZ BK222.out 1
  have hns13_1 := NB225_222.out
  have hms13_1 := NB222_225.out
  refine skip_ (w1 := ?_) (by rfl) rfl ?_ ?_
  rotate_left
  ·go_simp
   rfl
  refine hK.out _ _ ⟨((cell_far (p := ⟨gb222, _, none⟩) NB225_222.out _).trans (((cell_far (p := ⟨gb222, _, none⟩) NB225_222.out _).trans (hHeld.1)))), ((cell_far (p := ⟨gb222, _, none⟩) NB225_222.out _).trans (((cell_far (p := ⟨gb222, _, none⟩) NB225_222.out _).trans (hHeld.2))))⟩ (fun hHeld => ?_)
  clear hK K
  refine done_ (by kernel_rfl) ?_
  try go_wp2
  refine bodyPost_ret (results_tc rfl _ _ gb222 24 #[.int .i64 t223, .int .i64 t224] (0, 0) _ rfl (by (with_reducible repeat (first | refine Q7 ?_ _ | refine Qa ?_ | refine Q8 ?_ _)); refine Xd (cs := #[.int .i64 t223, .int .i64 0]) ?_ 1 _ rfl; (with_reducible repeat (first | refine Q7 ?_ _ | refine Qa ?_ | refine Q8 ?_ _)); refine Xd (cs := #[.int .i64 0, .int .i64 0]) ?_ 0 _ rfl; (with_reducible repeat (first | refine Q7 ?_ _ | refine Qa ?_ | refine Q8 ?_ _)); exact BK222.out) Try.underlying24 rfl (by kernel_rfl)) rfl ?_
  exact ⟨_, by first | rfl | (simp [*]; done), by first | exact Kd.S_nil _ _ _ _ _ | exact Kd.N_nil _ _ _ _ _ | exact Kd.V_nil _ _ _ _ _ | exact Kd.Q_nil _ _ _ _ _ | exact Kd.R_nil _ _ _ _ _, by repeat (first | exact HB.out | apply Q4 | apply Q2 | apply Q6 | refine Q1 ?_ GE222.out | refine Q1 ?_ GE225.out)⟩
 ·rw [if_neg c3] at H
  have c3b0 : (!(t223 == 0) || (!(t224 == 0))) = false := by simpa using c3
  clear c3
  replace H := Option.bind_eq_some_iff.mp H
  obtain ⟨t226, A140, H⟩ := H
  try dsimp only at H
  have A14 := Q0.mk A140
  clear A140
  have H' := Q0.mk H
  clear H
  go_enter Try.func11, Try.ntmps11
  go_wp2_with (first | ((with_reducible refine QN (N := 3) rfl ?_); refine QK ?hg (N := 3) ?hd (cs := #[.int .i64 0, .int .i64 0]) (t := 24) ?hr ?_; (case hd => rfl); (case hg => rfl); (case hr => first | (go_simp; done) | (go_simp; rfl)); intro gb222 hg w15 hbox hb; have BK222 := Q0.mk (hbox); have GW222 := Q0.mk ((by rw [hg]; exact (Qg HB.out) : w.heap.size ≤ gb222)); have GE222 := Q0.mk ((by rw [hg]; exact (Qg HB.out) : w.heap.size ≤ gb222)); replace HB := Q0.mk (Qj HB.out hb); clear hb hbox hg) | ((with_reducible refine Qs (f := 27) rfl ?_); refine X2 (some 18) rfl rfl Try.func27 (by kernel_rfl) rfl #[.slice A0 l0.length c0] rfl (by (try simp only [List.map_toArray, List.map_cons, List.map_nil]); first | done | rfl | (simp only [List.length_drop, List.length_take]; rfl)) ?_; (with_reducible refine (QI.calls k _ _ l0 t223 t224 _ ?side1 ?side2 A2.out).mono ?_); (case side1 => repeat (first | exact (Kd.Qx HR0.out HB.out) | (with_reducible refine Kd.QT ?_ _) | (with_reducible refine Kd.QS ?_ _) | (with_reducible refine Kd.X6 ?_))); (case side2 => exact HC0.out); rintro e w16 ⟨rfl, hb⟩; refine ⟨_, rfl, ?_⟩; replace BK222 := Q0.mk (Q9 BK222.out hb); replace HB := Q0.mk (Qj HB.out hb)) | ((with_reducible refine QN (N := 4) rfl ?_); refine QK ?hg (N := 4) ?hd (cs := #[.int .i64 0, .int .i64 0]) (t := 24) ?hr ?_; (case hd => rfl); (case hg => rfl); (case hr => first | (go_simp; done) | (go_simp; rfl)); intro gb225 hg w17 hbox hb; have BK225 := Q0.mk (hbox); have GW225 := Q0.mk ((by rw [hg]; exact (Qg HB.out) : w.heap.size ≤ gb225)); have GE225 := Q0.mk ((by rw [hg]; exact (Qg HB.out) : w.heap.size ≤ gb225)); have NB222_225 := Q0.mk ((by rw [hg]; exact Nat.ne_of_lt (Qy BK222.out) : gb222 ≠ gb225)); have NB225_222 := Q0.mk ((by rw [hg]; exact Nat.ne_of_gt (Qy BK222.out) : gb225 ≠ gb222)); replace BK222 := Q0.mk (Q9 BK222.out hb); replace HB := Q0.mk (Qj HB.out hb); clear hb hbox hg; have hnb18 := NB225_222.out; have hnc18 := NB222_225.out; obtain ⟨hcz19_0, hcz19_1⟩ := QB BK225.out; obtain ⟨hfz19_0, hfz19_1⟩ := Qt BK225.out) | ((with_reducible refine QD (t := 24) (p := 4) rfl ?_); refine Qw (t := 24) (p := 4) (v := ?vo_w20) (w1 := ((w17.setCell ⟨gb225, 0, none⟩ (.int .i64 t223)).setCell ⟨gb225, 1, none⟩ (.int .i64 t224))) ?hg ?ho ?hn ?hr ?_; (case ho => rfl); (case hg => rfl); (case hn => rfl); (case hr => first | (go_simp; done) | (go_simp; rfl)); intro w20 hw; replace BK222 := Q0.mk (far2 hw BK222.out NB222_225.out); replace BK225 := Q0.mk (put2 hw BK225.out); replace HB := Q0.mk (bel2 hw HB.out GE225.out); clear hw; obtain ⟨hcz21_0, hcz21_1⟩ := QB BK225.out; obtain ⟨hfz21_0, hfz21_1⟩ := Qt BK225.out) | ((with_reducible refine Qs (f := 28) rfl ?_); refine X2 (some 24) rfl rfl Try.func28 (by kernel_rfl) rfl #[.slice A0 l0.length c0] rfl (by (try simp only [List.map_toArray, List.map_cons, List.map_nil]); first | done | rfl | (simp only [List.length_drop, List.length_take]; rfl)) ?_; (with_reducible refine (QQ.calls k _ _ l0 t226 _ ?side1 ?side2 A14.out).mono ?_); (case side1 => repeat (first | exact (Kd.Qx HR0.out HB.out) | (with_reducible refine Kd.QT ?_ _) | (with_reducible refine Kd.QS ?_ _) | (with_reducible refine Kd.X6 ?_))); (case side2 => exact HC0.out); rintro e w22 ⟨v227, rfl, ho0, hb⟩; refine ⟨_, rfl, ?_⟩; have HO228 := Q0.mk (Kd.S_lower ho0 (Qg HB.out)); replace BK222 := Q0.mk (Q9 BK222.out hb); replace BK225 := Q0.mk (Q9 BK225.out hb); replace HB := Q0.mk (Qj HB.out hb); (try clear ho0)))
  go_loopg [27] k (fun kq v27 w' => ∃ (x5_1 : List (List Bool)) (x27_1 : Int), v27 = .int .i64 x27_1 ∧ Q0 (Qf.l0 kq l0 x5_1 l0 (l0.length : Int) x27_1 = some (r1, r2, r3)) ∧ Q0 (kq ≤ k) ∧ Q0 (Kd.S (Kd.slice 4 Kd.bool) 39 w' w.heap.size (fun _ => True) v227 x5_1) ∧ Q0 (w'.heap[gb222]? = some (.cells #[.int .i64 0, .int .i64 0] 24 (0, 0))) ∧ Q0 (w'.heap[gb225]? = some (.cells #[.int .i64 t223, .int .i64 t224] 24 (0, 0))) ∧ Q0 (Below w.heap.size w w'))
  case atStart => exact ⟨(t226), (0), (by first | rfl | (simp [*]; done)), H', ⟨Nat.le_refl _⟩, ⟨by (with_reducible repeat (first | apply Kd.X9 | apply Kd.X8 | apply Kd.Xl)); exact HO228.out⟩, ⟨by (with_reducible repeat (first | refine Q7 ?_ _ | refine Qa ?_ | refine Q8 ?_ _)); exact BK222.out⟩, ⟨by (with_reducible repeat (first | refine Q7 ?_ _ | refine Qa ?_ | refine Q8 ?_ _)); exact BK225.out⟩, ⟨by repeat (first | exact HB.out | apply Q4 | apply Q2 | apply Q6 | refine Q1 ?_ GE222.out | refine Q1 ?_ GE225.out)⟩⟩
  case round =>
   clear H'
   try clear c1
   try clear c2
   try clear p2
   try clear c3
   try clear c3b0
   try clear c7
   try clear c11
   try clear c18
   obtain ⟨x5_1, x27_1, rfl, HA, HK1, HO_5, BK222, BK225, HB⟩ := hrel
   cases gk with
   | zero => exact absurd HA.out (by simp [Qf.l0])
   | succ k1 =>
    have H := HA.out
    clear HA
    simp only [Qf.l0] at H
    by_cases c23 : x27_1 < (l0.length : Int)
    ·rw [if_pos c23] at H
     have c23b0 : decide (x27_1 < (l0.length : Int)) = true := decide_eq_true c23
     clear c23
     by_cases c24 : 0 ≤ x27_1
     ·rw [if_pos c24] at H
      have c24b0 : decide (0 ≤ x27_1) = true := decide_eq_true c24
      clear c24
      by_cases c25 : x27_1 < (l0.length : Int)
      ·rw [if_pos c25] at H
       have c25b0 : decide (x27_1 < (l0.length : Int)) = true := decide_eq_true c25
       clear c25
       by_cases c26 : 0 ≤ (((Q3 l0 x27_1).f1).length : Int)
       ·rw [if_pos c26] at H
        have c26b0 := eq_true c26
        have c26b1 : decide (0 ≤ (((Q3 l0 x27_1).f1).length : Int)) = true := decide_eq_true c26
        clear c26
        by_cases c27 : ((((Q3 l0 x27_1).f1).length : Int) : Int).toNat ≤ 281474976710656
        ·rw [if_pos c27] at H
         have c27b0 := eq_true c27
         have c27b1 : decide (((((Q3 l0 x27_1).f1).length : Int) : Int).toNat ≤ 281474976710656) = true := decide_eq_true c27
         clear c27
         obtain ⟨y231, hy231⟩ : ∃ y_ : List Bool, y_ = (List.replicate ((((Q3 l0 x27_1).f1).length : Int) : Int).toNat false) := ⟨_, rfl⟩
         replace H : (Qf.l1 k1 l0 x5_1 x27_1 y231 l0 (l0.length : Int) x27_1 ((Q3 l0 x27_1).f3) (((Q3 l0 x27_1).f3).length : Int) 0) = some (r1, r2, r3) := by first | (rw [hy231]; with_reducible exact H) | (have H2_ := (Option.bind_some _ _).symm.trans H; rw [hy231]; with_reducible exact H2_) | (have H2_ := (Option.bind_some _ _).symm.trans H; with_reducible exact H2_) | with_reducible exact H | (rw [hy231]; exact H) | exact H
         have Ny231 := Q0.mk hy231
         clear hy231
         have H' := Q0.mk H
         clear H
         have p229 : 0 ≤ (x27_1 : Int) := of_decide_eq_true ‹_›
         have q229 : x27_1 < (l0.length : Int) := of_decide_eq_true ‹_›
         obtain ⟨ad229, A229_1, c229_1, A229_2, c229_2, A229_3, c229_3, A229_4, c229_4, A229_5, c229_5, e229, hx229_0, hx229_1, hx229_2, hx229_3, hx229_4, hx229_5, hl229_1, hi229_1, hl229_2, hi229_2, hl229_3, hi229_3, hl229_4, hi229_4, hl229_5, hi229_5⟩ := Y0 HR0.out x27_1 p229 q229
         cases e229
         replace hx229_0 := cup HB.out hx229_0
         replace hx229_1 := cup HB.out hx229_1
         replace hx229_2 := cup HB.out hx229_2
         replace hx229_3 := cup HB.out hx229_3
         replace hx229_4 := cup HB.out hx229_4
         replace hx229_5 := cup HB.out hx229_5
         have HR229_1 := Q0.mk hi229_1
         have HC229_1 := Q0.mk hl229_1
         clear hi229_1 hl229_1
         have HR229_2 := Q0.mk hi229_2
         have HC229_2 := Q0.mk hl229_2
         clear hi229_2 hl229_2
         have HR229_3 := Q0.mk hi229_3
         have HC229_3 := Q0.mk hl229_3
         clear hi229_3 hl229_3
         have HR229_4 := Q0.mk hi229_4
         have HC229_4 := Q0.mk hl229_4
         clear hi229_4 hl229_4
         have HR229_5 := Q0.mk hi229_5
         have HC229_5 := Q0.mk hl229_5
         clear hi229_5 hl229_5
         replace p229 := eq_true p229
         replace q229 := eq_true q229
         go_wp2_with (first | ((with_reducible refine QN (N := 7) rfl ?_); refine QK ?hg (N := 7) ?hd (cs := #[.string (⟨#[]⟩ : ByteArray), .slice none 0 0, .slice none 0 0, .slice none 0 0, .slice none 0 0, .slice none 0 0]) (t := 46) ?hr ?_; (case hd => rfl); (case hg => rfl); (case hr => first | (go_simp; done) | (go_simp; rfl)); intro gb230 hg w28 hbox hb; have BK230 := Q0.mk (hbox); have GW230 := Q0.mk ((by rw [hg]; exact (Qg HB.out) : w.heap.size ≤ gb230)); have GE230 := Q0.mk ((by rw [hg]; exact (Qg HB.out) : w.heap.size ≤ gb230)); have NB222_230 := Q0.mk ((by rw [hg]; exact Nat.ne_of_lt (Qy BK222.out) : gb222 ≠ gb230)); have NB230_222 := Q0.mk ((by rw [hg]; exact Nat.ne_of_gt (Qy BK222.out) : gb230 ≠ gb222)); have NB225_230 := Q0.mk ((by rw [hg]; exact Nat.ne_of_lt (Qy BK225.out) : gb225 ≠ gb230)); have NB230_225 := Q0.mk ((by rw [hg]; exact Nat.ne_of_gt (Qy BK225.out) : gb230 ≠ gb225)); replace HO_5 := Q0.mk (Kd.XQ HO_5.out hb); replace BK222 := Q0.mk (Q9 BK222.out hb); replace BK225 := Q0.mk (Q9 BK225.out hb); replace HB := Q0.mk (Qj HB.out hb); clear hb hbox hg; have hnb29 := NB230_222.out; have hnc29 := NB222_230.out; have hnb30 := NB230_225.out; have hnc30 := NB225_230.out; obtain ⟨hcz31_0, hcz31_1, hcz31_2, hcz31_3, hcz31_4, hcz31_5⟩ := QE BK230.out; obtain ⟨hfz31_0, hfz31_1, hfz31_2, hfz31_3, hfz31_4, hfz31_5⟩ := QR BK230.out) | ((with_reducible refine QD (t := 46) (p := 7) rfl ?_); refine Qw (t := 46) (p := 7) (v := ?vo_w32) (w1 := ((((((w28.setCell ⟨gb230, 0, none⟩ (.string ((Q3 l0 x27_1).f0))).setCell ⟨gb230, 1, none⟩ (.slice A229_1 ((Q3 l0 x27_1).f1).length c229_1)).setCell ⟨gb230, 2, none⟩ (.slice A229_2 ((Q3 l0 x27_1).f2).length c229_2)).setCell ⟨gb230, 3, none⟩ (.slice A229_3 ((Q3 l0 x27_1).f3).length c229_3)).setCell ⟨gb230, 4, none⟩ (.slice A229_4 ((Q3 l0 x27_1).f4).length c229_4)).setCell ⟨gb230, 5, none⟩ (.slice A229_5 ((Q3 l0 x27_1).f5).length c229_5))) ?hg ?ho ?hn ?hr ?_; (case ho => rfl); (case hg => rfl); (case hn => rfl); (case hr => first | (go_simp; done) | (go_simp; rfl)); intro w32 hw; replace HO_5 : Q0 (Kd.S (Kd.slice 4 Kd.bool) 39 w32 w.heap.size (fun _ => True) v227 x5_1) := ⟨(by rw [hw]; exact (by (with_reducible repeat (first | apply Kd.X9 | apply Kd.X8 | apply Kd.Xl)); exact Kd.XP (Kd.Y1 (p := ⟨gb230, 5, none⟩) (Kd.Y1 (p := ⟨gb230, 4, none⟩) (Kd.Y1 (p := ⟨gb230, 3, none⟩) (Kd.Y1 (p := ⟨gb230, 2, none⟩) (Kd.Y1 (p := ⟨gb230, 1, none⟩) (Kd.Y1 (p := ⟨gb230, 0, none⟩) (Kd.Yv HO_5.out BK230.out (by decide)) (fun _ hk => hk.2) (.string ((Q3 l0 x27_1).f0))) (fun _ hk => hk.2) (.slice A229_1 ((Q3 l0 x27_1).f1).length c229_1)) (fun _ hk => hk.2) (.slice A229_2 ((Q3 l0 x27_1).f2).length c229_2)) (fun _ hk => hk.2) (.slice A229_3 ((Q3 l0 x27_1).f3).length c229_3)) (fun _ hk => hk.2) (.slice A229_4 ((Q3 l0 x27_1).f4).length c229_4)) (fun _ hk => hk.2) (.slice A229_5 ((Q3 l0 x27_1).f5).length c229_5)) (fun _ hk => trivial)))⟩; replace BK222 := Q0.mk (far6 hw BK222.out NB222_230.out); replace BK225 := Q0.mk (far6 hw BK225.out NB225_230.out); replace BK230 := Q0.mk (put6 hw BK230.out); replace HB := Q0.mk (bel6 hw HB.out GE230.out); clear hw; obtain ⟨hcz33_0, hcz33_1, hcz33_2, hcz33_3, hcz33_4, hcz33_5⟩ := QE BK230.out; obtain ⟨hfz33_0, hfz33_1, hfz33_2, hfz33_3, hfz33_4, hfz33_5⟩ := QR BK230.out) | ((with_reducible refine QN (N := 35) rfl ?_); refine Kd.R_make Kd.bool _ 4 rfl (N := 35) rfl 39 _ _ rfl (((Q3 l0 x27_1).f1).length : Int) rfl rfl Try.underlying39 (.bool false) 1 info4 rfl (by decide) (by omega) false (ok := fun _ => True) (okp := fun _ => True) rfl (fun _ hk => hk) trivial (of_decide_eq_true ‹_›) (Nat.le_trans (Nat.mul_le_mul_right _ (of_decide_eq_true ‹_› : (((Q3 l0 x27_1).f1).length : Int).toNat ≤ 281474976710656)) (by omega)) (Below.refl _ _) (Nat.le_refl _) ?_; intro v232 w34 ho35 hb hg_ hnew_; clear hg_ hnew_; (first | rw [← Ny231.out] at ho35 | (simp only [Int.reduceToNat] at ho35; rw [← Ny231.out] at ho35)); have HO233 := Q0.mk (Kd.Yw ho35 (Qg HB.out)); replace HO_5 := Q0.mk (Kd.S_elder' HO_5.out (Kd.XV ho35) hb); replace BK222 := Q0.mk (Q9 BK222.out hb); replace BK225 := Q0.mk (Q9 BK225.out hb); replace BK230 := Q0.mk (Q9 BK230.out hb); replace HB := Q0.mk (Qj HB.out hb); clear hb ho35; obtain ⟨hcz36_0, hcz36_1, hcz36_2, hcz36_3, hcz36_4, hcz36_5⟩ := QE BK230.out; obtain ⟨hfz36_0, hfz36_1, hfz36_2, hfz36_3, hfz36_4, hfz36_5⟩ := QR BK230.out))
         go_loopg [39] k1 (fun kq v39 w' => ∃ (x5_2 : List (List Bool)) (x8_2 : List Bool) (x39_2 : Int), v39 = .int .i64 x39_2 ∧ Q0 (Qf.l1 kq l0 x5_2 x27_1 x8_2 l0 (l0.length : Int) x27_1 ((Q3 l0 x27_1).f3) (((Q3 l0 x27_1).f3).length : Int) x39_2 = some (r1, r2, r3)) ∧ Q0 (kq ≤ k1) ∧ Q0 (Kd.S (Kd.slice 4 Kd.bool) 39 w' w.heap.size (fun k_ => some k_ ≠ (v232 : Value).ownBlock) v227 x5_2) ∧ Q0 (Kd.R Kd.bool 4 w' w.heap.size (fun _ => True) v232 x8_2) ∧ Q0 (w'.heap[gb222]? = some (.cells #[.int .i64 0, .int .i64 0] 24 (0, 0))) ∧ Q0 (w'.heap[gb225]? = some (.cells #[.int .i64 t223, .int .i64 t224] 24 (0, 0))) ∧ Q0 (w'.heap[gb230]? = some (.cells #[.string ((Q3 l0 x27_1).f0), (.slice A229_1 ((Q3 l0 x27_1).f1).length c229_1), (.slice A229_2 ((Q3 l0 x27_1).f2).length c229_2), (.slice A229_3 ((Q3 l0 x27_1).f3).length c229_3), (.slice A229_4 ((Q3 l0 x27_1).f4).length c229_4), (.slice A229_5 ((Q3 l0 x27_1).f5).length c229_5)] 46 (0, 0))) ∧ Q0 (Below w.heap.size w w'))
         case atStart => exact ⟨(x5_1), (y231), (0), (by first | rfl | (simp [*]; done)), H', ⟨Nat.le_refl _⟩, ⟨by (with_reducible repeat (first | apply Kd.X9 | apply Kd.X8 | apply Kd.Xl)); exact Kd.XP HO_5.out (fun _ hk => hk.2)⟩, ⟨by (with_reducible repeat (first | apply Kd.XN | apply Kd.XM | apply Kd.XT)); exact HO233.out⟩, ⟨by (with_reducible repeat (first | refine Q7 ?_ _ | refine Qa ?_ | refine Q8 ?_ _)); exact BK222.out⟩, ⟨by (with_reducible repeat (first | refine Q7 ?_ _ | refine Qa ?_ | refine Q8 ?_ _)); exact BK225.out⟩, ⟨by (with_reducible repeat (first | refine Q7 ?_ _ | refine Qa ?_ | refine Q8 ?_ _)); exact BK230.out⟩, ⟨by repeat (first | exact HB.out | apply Q4 | apply Q2 | apply Q6 | refine Q1 ?_ GE222.out | refine Q1 ?_ GE225.out | refine Q1 ?_ GE230.out)⟩⟩
         case round =>
          clear H'
          try clear c1
          try clear c2
          try clear p2
          try clear q2
          try clear hx2
          try clear c3
          try clear c3b0
          try clear c7
          try clear c11
          try clear c18
          try clear c22
          try clear p22
          try clear q22
          try clear hx22
          try clear c23
          try clear c23b0
          try clear c24
          try clear c24b0
          try clear c25
          try clear c25b0
          try clear c26
          try clear c26b0
          try clear c26b1
          try clear c27
          try clear c27b0
          try clear c27b1
          try clear c28
          try clear c29
          try clear c30
          try clear hx229_0
          try clear hx229_1
          try clear hx229_2
          try clear hx229_3
          try clear hx229_4
          try clear hx229_5
          try clear p2
          try clear p229
          try clear q229
          obtain ⟨x5_2, x8_2, x39_2, rfl, HA, HK2, HO_5, HO_8, BK222, BK225, BK230, HB⟩ := hrel
          cases gk with
          | zero => exact absurd HA.out (by simp [Qf.l1])
          | succ k2 =>
           have H := HA.out
           clear HA
           simp only [Qf.l1] at H
           by_cases c37 : x39_2 < (((Q3 l0 x27_1).f3).length : Int)
           ·rw [if_pos c37] at H
            have c37b0 : decide (x39_2 < (((Q3 l0 x27_1).f3).length : Int)) = true := decide_eq_true c37
            clear c37
            by_cases c38 : 0 ≤ x39_2
            ·rw [if_pos c38] at H
             have c38b0 : decide (0 ≤ x39_2) = true := decide_eq_true c38
             clear c38
             by_cases c39 : x39_2 < (((Q3 l0 x27_1).f3).length : Int)
             ·rw [if_pos c39] at H
              have c39b0 : decide (x39_2 < (((Q3 l0 x27_1).f3).length : Int)) = true := decide_eq_true c39
              clear c39
              replace H := Option.bind_eq_some_iff.mp H
              obtain ⟨⟨t236, t237⟩, A400, H⟩ := H
              try dsimp only at H
              have A40 := Q0.mk A400
              clear A400
              have H' := Q0.mk H
              clear H
              have p234 : 0 ≤ (x39_2 : Int) := of_decide_eq_true ‹_›
              have q234 : x39_2 < (((Q3 l0 x27_1).f3).length : Int) := of_decide_eq_true ‹_›
              obtain ⟨ad234, A234_1, c234_1, e234, hx234_0, hx234_1, hl234_1, hi234_1⟩ := at_T49 HR229_3.out x39_2 p234 q234
              cases e234
              replace hx234_0 := cup HB.out hx234_0
              replace hx234_1 := cup HB.out hx234_1
              have HR234_1 := Q0.mk hi234_1
              have HC234_1 := Q0.mk hl234_1
              clear hi234_1 hl234_1
              replace p234 := eq_true p234
              replace q234 := eq_true q234
              go_wp2_with (first | ((with_reducible refine QN (N := 10) rfl ?_); refine QK ?hg (N := 10) ?hd (cs := #[.string (⟨#[]⟩ : ByteArray), .slice none 0 0]) (t := 49) ?hr ?_; (case hd => rfl); (case hg => rfl); (case hr => first | (go_simp; done) | (go_simp; rfl)); intro gb235 hg w41 hbox hb; have BK235 := Q0.mk (hbox); have GW235 := Q0.mk ((by rw [hg]; exact (Qg HB.out) : w.heap.size ≤ gb235)); have GE235 := Q0.mk ((by rw [hg]; exact (Qg HB.out) : w.heap.size ≤ gb235)); have NB222_235 := Q0.mk ((by rw [hg]; exact Nat.ne_of_lt (Qy BK222.out) : gb222 ≠ gb235)); have NB235_222 := Q0.mk ((by rw [hg]; exact Nat.ne_of_gt (Qy BK222.out) : gb235 ≠ gb222)); have NB225_235 := Q0.mk ((by rw [hg]; exact Nat.ne_of_lt (Qy BK225.out) : gb225 ≠ gb235)); have NB235_225 := Q0.mk ((by rw [hg]; exact Nat.ne_of_gt (Qy BK225.out) : gb235 ≠ gb225)); have NB230_235 := Q0.mk ((by rw [hg]; exact Nat.ne_of_lt (Qy BK230.out) : gb230 ≠ gb235)); have NB235_230 := Q0.mk ((by rw [hg]; exact Nat.ne_of_gt (Qy BK230.out) : gb235 ≠ gb230)); replace HO_5 := Q0.mk (Kd.XQ HO_5.out hb); replace HO_8 := Q0.mk (Kd.R_below HO_8.out hb); replace BK222 := Q0.mk (Q9 BK222.out hb); replace BK225 := Q0.mk (Q9 BK225.out hb); replace BK230 := Q0.mk (Q9 BK230.out hb); replace HB := Q0.mk (Qj HB.out hb); clear hb hbox hg; have hnb42 := NB235_222.out; have hnc42 := NB222_235.out; have hnb43 := NB235_225.out; have hnc43 := NB225_235.out; have hnb44 := NB235_230.out; have hnc44 := NB230_235.out; obtain ⟨hcz45_0, hcz45_1⟩ := QB BK235.out; obtain ⟨hfz45_0, hfz45_1⟩ := Qt BK235.out) | ((with_reducible refine QD (t := 49) (p := 10) rfl ?_); refine Qw (t := 49) (p := 10) (v := ?vo_w46) (w1 := ((w41.setCell ⟨gb235, 0, none⟩ (.string ((Qh ((Q3 l0 x27_1).f3) x39_2).f0))).setCell ⟨gb235, 1, none⟩ (.slice A234_1 ((Qh ((Q3 l0 x27_1).f3) x39_2).f1).length c234_1))) ?hg ?ho ?hn ?hr ?_; (case ho => rfl); (case hg => rfl); (case hn => rfl); (case hr => first | (go_simp; done) | (go_simp; rfl)); intro w46 hw; replace HO_5 : Q0 (Kd.S (Kd.slice 4 Kd.bool) 39 w46 w.heap.size (fun k_ => some k_ ≠ (v232 : Value).ownBlock) v227 x5_2) := ⟨(by rw [hw]; exact (by (with_reducible repeat (first | apply Kd.X9 | apply Kd.X8 | apply Kd.Xl)); exact Kd.XP (Kd.Y1 (p := ⟨gb235, 1, none⟩) (Kd.Y1 (p := ⟨gb235, 0, none⟩) (Kd.Yv HO_5.out BK235.out (by decide)) (fun _ hk => hk.2) (.string ((Qh ((Q3 l0 x27_1).f3) x39_2).f0))) (fun _ hk => hk.2) (.slice A234_1 ((Qh ((Q3 l0 x27_1).f3) x39_2).f1).length c234_1)) (fun _ hk => hk.1)))⟩; replace HO_8 : Q0 (Kd.R Kd.bool 4 w46 w.heap.size (fun _ => True) v232 x8_2) := ⟨(by rw [hw]; exact (by (with_reducible repeat (first | apply Kd.XN | apply Kd.XM | apply Kd.XT)); exact Kd.XA (Kd.R_far (p := ⟨gb235, 1, none⟩) (Kd.R_far (p := ⟨gb235, 0, none⟩) (Kd.XX HO_8.out BK235.out (by decide)) (fun _ hk => hk.2) (.string ((Qh ((Q3 l0 x27_1).f3) x39_2).f0))) (fun _ hk => hk.2) (.slice A234_1 ((Qh ((Q3 l0 x27_1).f3) x39_2).f1).length c234_1)) (fun _ hk => trivial)))⟩; replace BK222 := Q0.mk (far2 hw BK222.out NB222_235.out); replace BK225 := Q0.mk (far2 hw BK225.out NB225_235.out); replace BK230 := Q0.mk (far2 hw BK230.out NB230_235.out); replace BK235 := Q0.mk (put2 hw BK235.out); replace HB := Q0.mk (bel2 hw HB.out GE235.out); clear hw; obtain ⟨hcz47_0, hcz47_1⟩ := QB BK235.out; obtain ⟨hfz47_0, hfz47_1⟩ := Qt BK235.out) | ((with_reducible refine Qs (f := 29) rfl ?_); refine X2 (some 48) rfl rfl Try.func29 (by kernel_rfl) rfl #[.slice (some ad229) l0.length c0, .string ((Qh ((Q3 l0 x27_1).f3) x39_2).f0)] rfl (by (try simp only [List.map_toArray, List.map_cons, List.map_nil]); first | done | rfl | (simp only [List.length_drop, List.length_take]; rfl)) ?_; (with_reducible refine (QU.calls k2 _ _ l0 ((Qh ((Q3 l0 x27_1).f3) x39_2).f0) t236 t237 _ ?side1 ?side2 A40.out).mono ?_); (case side1 => repeat (first | exact (Kd.Qx HR0.out HB.out) | (with_reducible refine Kd.QT ?_ _) | (with_reducible refine Kd.QS ?_ _) | (with_reducible refine Kd.X6 ?_))); (case side2 => exact HC0.out); rintro e w48 ⟨rfl, hb⟩; refine ⟨_, rfl, ?_⟩; replace HO_5 := Q0.mk (Kd.XQ HO_5.out hb); replace HO_8 := Q0.mk (Kd.R_below HO_8.out hb); replace BK222 := Q0.mk (Q9 BK222.out hb); replace BK225 := Q0.mk (Q9 BK225.out hb); replace BK230 := Q0.mk (Q9 BK230.out hb); replace BK235 := Q0.mk (Q9 BK235.out hb); replace HB := Q0.mk (Qj HB.out hb); obtain ⟨hcz49_0, hcz49_1⟩ := QB BK235.out; obtain ⟨hfz49_0, hfz49_1⟩ := Qt BK235.out))
              go_loopg [54] k2 (fun kq v54 w' => ∃ (x5_3 : List (List Bool)) (x8_3 : List Bool) (x54_3 : Int), v54 = .int .i64 x54_3 ∧ Q0 (Qf.l2 kq l0 x5_3 x27_1 x8_3 x39_2 t236 t237 l0 (l0.length : Int) x27_1 ((Q3 l0 x27_1).f3) (((Q3 l0 x27_1).f3).length : Int) x39_2 ((Qh ((Q3 l0 x27_1).f3) x39_2).f1) (((Qh ((Q3 l0 x27_1).f3) x39_2).f1).length : Int) x54_3 = some (r1, r2, r3)) ∧ Q0 (kq ≤ k2) ∧ Q0 (Kd.S (Kd.slice 4 Kd.bool) 39 w' w.heap.size (fun k_ => some k_ ≠ (v232 : Value).ownBlock) v227 x5_3) ∧ Q0 (Kd.R Kd.bool 4 w' w.heap.size (fun _ => True) v232 x8_3) ∧ Q0 (w'.heap[gb222]? = some (.cells #[.int .i64 0, .int .i64 0] 24 (0, 0))) ∧ Q0 (w'.heap[gb225]? = some (.cells #[.int .i64 t223, .int .i64 t224] 24 (0, 0))) ∧ Q0 (w'.heap[gb230]? = some (.cells #[.string ((Q3 l0 x27_1).f0), (.slice A229_1 ((Q3 l0 x27_1).f1).length c229_1), (.slice A229_2 ((Q3 l0 x27_1).f2).length c229_2), (.slice (some ad234) ((Q3 l0 x27_1).f3).length c229_3), (.slice A229_4 ((Q3 l0 x27_1).f4).length c229_4), (.slice A229_5 ((Q3 l0 x27_1).f5).length c229_5)] 46 (0, 0))) ∧ Q0 (w'.heap[gb235]? = some (.cells #[.string ((Qh ((Q3 l0 x27_1).f3) x39_2).f0), (.slice A234_1 ((Qh ((Q3 l0 x27_1).f3) x39_2).f1).length c234_1)] 49 (0, 0))) ∧ Q0 (Below w.heap.size w w'))
              case atStart => exact ⟨(x5_2), (x8_2), (0), (by first | rfl | (simp [*]; done)), H', ⟨Nat.le_refl _⟩, ⟨by (with_reducible repeat (first | apply Kd.X9 | apply Kd.X8 | apply Kd.Xl)); exact HO_5.out⟩, ⟨by (with_reducible repeat (first | apply Kd.XN | apply Kd.XM | apply Kd.XT)); exact HO_8.out⟩, ⟨by (with_reducible repeat (first | refine Q7 ?_ _ | refine Qa ?_ | refine Q8 ?_ _)); exact BK222.out⟩, ⟨by (with_reducible repeat (first | refine Q7 ?_ _ | refine Qa ?_ | refine Q8 ?_ _)); exact BK225.out⟩, ⟨by (with_reducible repeat (first | refine Q7 ?_ _ | refine Qa ?_ | refine Q8 ?_ _)); exact BK230.out⟩, ⟨by (with_reducible repeat (first | refine Q7 ?_ _ | refine Qa ?_ | refine Q8 ?_ _)); exact BK235.out⟩, ⟨by repeat (first | exact HB.out | apply Q4 | apply Q2 | apply Q6 | refine Q1 ?_ GE222.out | refine Q1 ?_ GE225.out | refine Q1 ?_ GE230.out | refine Q1 ?_ GE235.out)⟩⟩
              case round =>
               clear H'
               try clear c1
               try clear c2
               try clear p2
               try clear q2
               try clear hx2
               try clear c3
               try clear c3b0
               try clear c4
               try clear c7
               try clear c11
               try clear c18
               try clear c22
               try clear p22
               try clear q22
               try clear hx22
               try clear c23
               try clear c23b0
               try clear p23
               try clear q23
               try clear hx23
               try clear c24
               try clear c24b0
               try clear c25
               try clear c25b0
               try clear c26
               try clear c26b0
               try clear c26b1
               try clear c27
               try clear c27b0
               try clear c27b1
               try clear c28
               try clear c29
               try clear c30
               try clear c37
               try clear c37b0
               try clear c38
               try clear c38b0
               try clear c39
               try clear c39b0
               try clear c42
               try clear c43
               try clear c44
               try clear hx229_0
               try clear hx229_1
               try clear hx229_2
               try clear hx229_3
               try clear hx229_4
               try clear hx229_5
               try clear hx234_0
               try clear hx234_1
               try clear p2
               try clear p22
               try clear p229
               try clear p234
               try clear q2
               try clear q22
               try clear q229
               try clear q234
               obtain ⟨x5_3, x8_3, x54_3, rfl, HA, HK3, HO_5, HO_8, BK222, BK225, BK230, BK235, HB⟩ := hrel
               cases gk with
               | zero => exact absurd HA.out (by simp [Qf.l2])
               | succ k3 =>
                have H := HA.out
                clear HA
                simp only [Qf.l2] at H
                by_cases c50 : x54_3 < (((Qh ((Q3 l0 x27_1).f3) x39_2).f1).length : Int)
                ·rw [if_pos c50] at H
                 have c50b0 : decide (x54_3 < (((Qh ((Q3 l0 x27_1).f3) x39_2).f1).length : Int)) = true := decide_eq_true c50
                 clear c50
                 by_cases c51 : 0 ≤ x54_3
                 ·rw [if_pos c51] at H
                  have c51b0 : decide (0 ≤ x54_3) = true := decide_eq_true c51
                  clear c51
                  by_cases c52 : x54_3 < (((Qh ((Q3 l0 x27_1).f3) x39_2).f1).length : Int)
                  ·rw [if_pos c52] at H
                   have c52b0 : decide (x54_3 < (((Qh ((Q3 l0 x27_1).f3) x39_2).f1).length : Int)) = true := decide_eq_true c52
                   clear c52
                   by_cases c53 : 0 ≤ x27_1
                   ·rw [if_pos c53] at H
                    have c53b0 : decide (0 ≤ x27_1) = true := decide_eq_true c53
                    clear c53
                    by_cases c54 : x27_1 < (x5_3.length : Int)
                    ·rw [if_pos c54] at H
                     have c54b0 : decide (x27_1 < (x5_3.length : Int)) = true := decide_eq_true c54
                     clear c54
                     by_cases c55 : 0 ≤ (rd ((Qh ((Q3 l0 x27_1).f3) x39_2).f1) x54_3)
                     ·rw [if_pos c55] at H
                      have c55b0 : decide (0 ≤ (rd ((Qh ((Q3 l0 x27_1).f3) x39_2).f1) x54_3)) = true := decide_eq_true c55
                      clear c55
                      by_cases c56 : (rd ((Qh ((Q3 l0 x27_1).f3) x39_2).f1) x54_3) < ((QM x5_3 x27_1).length : Int)
                      ·rw [if_pos c56] at H
                       have c56b0 : decide ((rd ((Qh ((Q3 l0 x27_1).f3) x39_2).f1) x54_3) < ((QM x5_3 x27_1).length : Int)) = true := decide_eq_true c56
                       clear c56
                       obtain ⟨y240, hy240⟩ : ∃ y_ : List Bool, y_ = ((QM x5_3 x27_1).set ((rd ((Qh ((Q3 l0 x27_1).f3) x39_2).f1) x54_3) : Int).toNat false) := ⟨_, rfl⟩
                       replace H : ((some (x5_3.set (x27_1 : Int).toNat y240 : List (List Bool))).bind fun y242 => (if (rd ((Qh ((Q3 l0 x27_1).f3) x39_2).f1) x54_3) < (x8_3.length : Int) then (if rdOf false x8_3 (rd ((Qh ((Q3 l0 x27_1).f3) x39_2).f1) x54_3) = true then (Qf.l2 k3 l0 y242 x27_1 (x8_3.set ((rd ((Qh ((Q3 l0 x27_1).f3) x39_2).f1) x54_3) : Int).toNat true) x39_2 t236 t237 l0 (l0.length : Int) x27_1 ((Q3 l0 x27_1).f3) (((Q3 l0 x27_1).f3).length : Int) x39_2 ((Qh ((Q3 l0 x27_1).f3) x39_2).f1) (((Qh ((Q3 l0 x27_1).f3) x39_2).f1).length : Int) (wrap64 (x54_3 + 1))) else (if t236 = x27_1 then (Qf.l2 k3 l0 y242 x27_1 (x8_3.set ((rd ((Qh ((Q3 l0 x27_1).f3) x39_2).f1) x54_3) : Int).toNat (t237 == x39_2)) x39_2 t236 t237 l0 (l0.length : Int) x27_1 ((Q3 l0 x27_1).f3) (((Q3 l0 x27_1).f3).length : Int) x39_2 ((Qh ((Q3 l0 x27_1).f3) x39_2).f1) (((Qh ((Q3 l0 x27_1).f3) x39_2).f1).length : Int) (wrap64 (x54_3 + 1))) else (Qf.l2 k3 l0 y242 x27_1 (x8_3.set ((rd ((Qh ((Q3 l0 x27_1).f3) x39_2).f1) x54_3) : Int).toNat false) x39_2 t236 t237 l0 (l0.length : Int) x27_1 ((Q3 l0 x27_1).f3) (((Q3 l0 x27_1).f3).length : Int) x39_2 ((Qh ((Q3 l0 x27_1).f3) x39_2).f1) (((Qh ((Q3 l0 x27_1).f3) x39_2).f1).length : Int) (wrap64 (x54_3 + 1))))) else (none))) = some (r1, r2, r3) := by first | (rw [hy240]; with_reducible exact H) | (have H2_ := (Option.bind_some _ _).symm.trans H; rw [hy240]; with_reducible exact H2_) | (have H2_ := (Option.bind_some _ _).symm.trans H; with_reducible exact H2_) | with_reducible exact H | (rw [hy240]; exact H) | exact H
                       have Ny240 := Q0.mk hy240
                       clear hy240
                       obtain ⟨y242, hy242⟩ : ∃ y_ : List (List Bool), y_ = (x5_3.set (x27_1 : Int).toNat y240) := ⟨_, rfl⟩
                       replace H : (if (rd ((Qh ((Q3 l0 x27_1).f3) x39_2).f1) x54_3) < (x8_3.length : Int) then (if rdOf false x8_3 (rd ((Qh ((Q3 l0 x27_1).f3) x39_2).f1) x54_3) = true then (Qf.l2 k3 l0 y242 x27_1 (x8_3.set ((rd ((Qh ((Q3 l0 x27_1).f3) x39_2).f1) x54_3) : Int).toNat true) x39_2 t236 t237 l0 (l0.length : Int) x27_1 ((Q3 l0 x27_1).f3) (((Q3 l0 x27_1).f3).length : Int) x39_2 ((Qh ((Q3 l0 x27_1).f3) x39_2).f1) (((Qh ((Q3 l0 x27_1).f3) x39_2).f1).length : Int) (wrap64 (x54_3 + 1))) else (if t236 = x27_1 then (Qf.l2 k3 l0 y242 x27_1 (x8_3.set ((rd ((Qh ((Q3 l0 x27_1).f3) x39_2).f1) x54_3) : Int).toNat (t237 == x39_2)) x39_2 t236 t237 l0 (l0.length : Int) x27_1 ((Q3 l0 x27_1).f3) (((Q3 l0 x27_1).f3).length : Int) x39_2 ((Qh ((Q3 l0 x27_1).f3) x39_2).f1) (((Qh ((Q3 l0 x27_1).f3) x39_2).f1).length : Int) (wrap64 (x54_3 + 1))) else (Qf.l2 k3 l0 y242 x27_1 (x8_3.set ((rd ((Qh ((Q3 l0 x27_1).f3) x39_2).f1) x54_3) : Int).toNat false) x39_2 t236 t237 l0 (l0.length : Int) x27_1 ((Q3 l0 x27_1).f3) (((Q3 l0 x27_1).f3).length : Int) x39_2 ((Qh ((Q3 l0 x27_1).f3) x39_2).f1) (((Qh ((Q3 l0 x27_1).f3) x39_2).f1).length : Int) (wrap64 (x54_3 + 1))))) else (none)) = some (r1, r2, r3) := by first | (rw [hy242]; with_reducible exact H) | (have H2_ := (Option.bind_some _ _).symm.trans H; rw [hy242]; with_reducible exact H2_) | (have H2_ := (Option.bind_some _ _).symm.trans H; with_reducible exact H2_) | with_reducible exact H | (rw [hy242]; exact H) | exact H
                       have Ny242 := Q0.mk hy242
                       clear hy242
                       by_cases c58 : (rd ((Qh ((Q3 l0 x27_1).f3) x39_2).f1) x54_3) < (x8_3.length : Int)
                       ·rw [if_pos c58] at H
                        have c58b0 : decide ((rd ((Qh ((Q3 l0 x27_1).f3) x39_2).f1) x54_3) < (x8_3.length : Int)) = true := decide_eq_true c58
                        clear c58
                        obtain ⟨bq59, hbq59⟩ : ∃ b_ : Bool, b_ = (rdOf false x8_3 (rd ((Qh ((Q3 l0 x27_1).f3) x39_2).f1) x54_3)) := ⟨_, rfl⟩
                        replace H : (if bq59 = true then (Qf.l2 k3 l0 y242 x27_1 (x8_3.set ((rd ((Qh ((Q3 l0 x27_1).f3) x39_2).f1) x54_3) : Int).toNat true) x39_2 t236 t237 l0 (l0.length : Int) x27_1 ((Q3 l0 x27_1).f3) (((Q3 l0 x27_1).f3).length : Int) x39_2 ((Qh ((Q3 l0 x27_1).f3) x39_2).f1) (((Qh ((Q3 l0 x27_1).f3) x39_2).f1).length : Int) (wrap64 (x54_3 + 1))) else (if t236 = x27_1 then (Qf.l2 k3 l0 y242 x27_1 (x8_3.set ((rd ((Qh ((Q3 l0 x27_1).f3) x39_2).f1) x54_3) : Int).toNat (t237 == x39_2)) x39_2 t236 t237 l0 (l0.length : Int) x27_1 ((Q3 l0 x27_1).f3) (((Q3 l0 x27_1).f3).length : Int) x39_2 ((Qh ((Q3 l0 x27_1).f3) x39_2).f1) (((Qh ((Q3 l0 x27_1).f3) x39_2).f1).length : Int) (wrap64 (x54_3 + 1))) else (Qf.l2 k3 l0 y242 x27_1 (x8_3.set ((rd ((Qh ((Q3 l0 x27_1).f3) x39_2).f1) x54_3) : Int).toNat false) x39_2 t236 t237 l0 (l0.length : Int) x27_1 ((Q3 l0 x27_1).f3) (((Q3 l0 x27_1).f3).length : Int) x39_2 ((Qh ((Q3 l0 x27_1).f3) x39_2).f1) (((Qh ((Q3 l0 x27_1).f3) x39_2).f1).length : Int) (wrap64 (x54_3 + 1))))) = some (r1, r2, r3) := by rw [← hbq59] at H; exact H
                        have Nbq59 := Q0.mk hbq59
                        clear hbq59
                        by_cases c60 : bq59 = true
                        ·subst c60
                         rw [if_pos rfl] at H
                         obtain ⟨y244, hy244⟩ : ∃ y_ : List Bool, y_ = (x8_3.set ((rd ((Qh ((Q3 l0 x27_1).f3) x39_2).f1) x54_3) : Int).toNat true) := ⟨_, rfl⟩
                         replace H : (Qf.l2 k3 l0 y242 x27_1 y244 x39_2 t236 t237 l0 (l0.length : Int) x27_1 ((Q3 l0 x27_1).f3) (((Q3 l0 x27_1).f3).length : Int) x39_2 ((Qh ((Q3 l0 x27_1).f3) x39_2).f1) (((Qh ((Q3 l0 x27_1).f3) x39_2).f1).length : Int) (wrap64 (x54_3 + 1))) = some (r1, r2, r3) := by first | (rw [hy244]; with_reducible exact H) | (have H2_ := (Option.bind_some _ _).symm.trans H; rw [hy244]; with_reducible exact H2_) | (have H2_ := (Option.bind_some _ _).symm.trans H; with_reducible exact H2_) | with_reducible exact H | (rw [hy244]; exact H) | exact H
                         have Ny244 := Q0.mk hy244
                         clear hy244
                         have H' := Q0.mk H
                         clear H
                         have p238 : 0 ≤ (x54_3 : Int) := of_decide_eq_true ‹_›
                         have q238 : x54_3 < (((Qh ((Q3 l0 x27_1).f3) x39_2).f1).length : Int) := of_decide_eq_true ‹_›
                         obtain ⟨ad238, e238, hx238_0⟩ := Kd.at_int HR234_1.out x54_3 p238 q238
                         cases e238
                         replace hx238_0 := cup HB.out hx238_0
                         replace p238 := eq_true p238
                         replace q238 := eq_true q238
                         obtain ⟨Ao62, co62, eo62⟩ := Kd.S_slice HO_5.out
                         subst eo62
                         have p239 : 0 ≤ (x27_1 : Int) := of_decide_eq_true ‹_›
                         have q239 : x27_1 < (x5_3.length : Int) := of_decide_eq_true ‹_›
                         obtain ⟨ad239, A239_0, c239_0, e239, hx239_0, hl239_0, hi239_0⟩ := Yc (Kd.XC HO_5.out).2.2 x27_1 p239 q239
                         cases e239
                         obtain ⟨ce239, hce239, hMe239, hcc239⟩ := Kd.S_get HO_5.out [] x27_1 p239 (by first | exact q239 | exact of_decide_eq_true ‹_› | (have e_ := (Kd.XC HO_5.out).1; omega))
                         obtain ⟨ve239_0, rfl, ge239_0⟩ := hMe239
                         have hv239_0 := hcc239 0 _ rfl
                         rw [Nat.add_zero, show ((Kd.slice 4 Kd.bool)).sz = 1 from rfl, Nat.mul_one] at hv239_0
                         replace hv239_0 := Option.some.inj (hv239_0.symm.trans hx239_0)
                         rw [hv239_0] at ge239_0
                         have HL239_0 := Q0.mk (show Kd.R Kd.bool 4 _ _ _ _ (QM x5_3 x27_1) from ge239_0)
                         clear hv239_0 ge239_0
                         have HX239_0 := Q0.mk hx239_0
                         clear hcc239 hce239
                         have HR239_0 := Q0.mk hi239_0
                         have HC239_0 := Q0.mk hl239_0
                         clear hi239_0 hl239_0
                         replace p239 := eq_true p239
                         replace q239 := eq_true q239
                         have p57 : 0 ≤ ((rd ((Qh ((Q3 l0 x27_1).f3) x39_2).f1) x54_3) : Int) := of_decide_eq_true ‹_›
                         have q57 : ((rd ((Qh ((Q3 l0 x27_1).f3) x39_2).f1) x54_3) : Int) < (((QM x5_3 x27_1).length : Int) : Int) := of_decide_eq_true ‹_›
                         obtain ⟨go57, co57, eo57, gb57, gl57, cl57, HG57⟩ := Kd.R_form HL239_0.out (by omega)
                         (first | cases eo57 | (injection eo57 with ea_ en_ ec_; (first | subst ea_ | (injection ea_ with ea_; subst ea_)); subst ec_; clear en_))
                         have GB57 := Q0.mk gb57
                         have GG57 := Q0.mk HG57
                         clear gb57 gl57 HG57
                         obtain ⟨hx57_0, hf57_0⟩ := Kd.Yg false HL239_0.out ((rd ((Qh ((Q3 l0 x27_1).f3) x39_2).f1) x54_3) : Int) p57 q57
                         replace p57 := eq_true p57
                         replace q57 := eq_true q57
                         have hq63 : (x27_1 : Int) < (x5_3.length : Int) := (by have h_ : (x27_1 : Int) < ((x5_3.length : Int) : Int) := of_decide_eq_true ‹_›; first | exact h_ | (have e_ := (Kd.XC HO_5.out).1; omega) | simpa only [List.length_set, List.length_set] using h_)
                         obtain ⟨oki63, ce63, hcl63, hM63, hcc63, hok63, hbk63⟩ := Kd.S_borrow HO_5.out [] (x27_1 : Int) (of_decide_eq_true ‹_›) hq63
                         obtain ⟨ve63_0, rfl, ge63_0⟩ := hM63
                         have hv63 := hcc63 0 _ rfl
                         rw [Nat.add_zero, show ((Kd.slice 4 Kd.bool)).sz = 1 from rfl, Nat.mul_one] at hv63
                         replace hv63 := Option.some.inj (hv63.symm.trans HX239_0.out)
                         subst hv63
                         clear hcc63 hcl63
                         replace ge63_0 := (show Kd.R Kd.bool 4 _ _ _ _ (QM x5_3 x27_1) from ge63_0)
                         have HP63 := Kd.R_putg ge63_0 ((rd ((Qh ((Q3 l0 x27_1).f3) x39_2).f1) x54_3) : Int) false
                         go_wp2_with (first | ((with_reducible refine QD (t := 4) (p := 63) rfl ?_); refine Qw (t := 4) (p := 63) (v := ?vo_w64) (w1 := (wr.setCell ⟨go57, ((rd ((Qh ((Q3 l0 x27_1).f3) x39_2).f1) x54_3) : Int).toNat, none⟩ (.bool false))) ?hg ?ho ?hn ?hr ?_; (case ho => rfl); (case hg => rfl); (case hn => rfl); (case hr => first | (go_simp; done) | (go_simp; rfl)); intro w64 hw; have hg : wr.grownBy w64 (some go57) := (by rw [hw]; exact HP63.2); have hz_ : Kd.R Kd.bool 4 w64 w.heap.size oki63 (.slice (some ⟨go57, 0, none⟩) (QM x5_3 x27_1).length c239_0) y240 := (by rw [hw, Ny240.out]; exact HP63.1); have hp_ : Kd.S (Kd.slice 4 Kd.bool) 39 w64 w.heap.size (fun k_ => some k_ ≠ (v232 : Value).ownBlock) (.slice (some ad239) x5_3.length co62) y242 := (by rw [Ny242.out]; exact hbk63 hg (fun k_ e_ => by injection e_ with e_; subst e_; exact ge63_0.1 _ rfl) (Kd.M_row hz_)); have hm_ := Kd.XA hz_ hok63; clear HP63 hbk63; have HL257 := Q0.mk (hm_); have HC241 := Q0.mk ((Kd.XK hm_).2.1); replace HO_5 := Q0.mk (hp_); replace HO_8 := Q0.mk (Kd.R_grown1 HO_8.out rfl hg ((HL239_0.out.1 _ rfl).1)); replace BK222 := Q0.mk (Xv (g := gb222) (o := .cells #[.int .i64 0, .int .i64 0] 24 (0, 0)) BK222.out hg (Kd.R_ne HL239_0.out BK222.out (by decide))); replace BK225 := Q0.mk (Xv (g := gb225) (o := .cells #[.int .i64 t223, .int .i64 t224] 24 (0, 0)) BK225.out hg (Kd.R_ne HL239_0.out BK225.out (by decide))); replace BK230 := Q0.mk (Xv (g := gb230) (o := .cells #[.string ((Q3 l0 x27_1).f0), .slice A229_1 ((Q3 l0 x27_1).f1).length c229_1, .slice A229_2 ((Q3 l0 x27_1).f2).length c229_2, .slice (some ad234) ((Q3 l0 x27_1).f3).length c229_3, .slice A229_4 ((Q3 l0 x27_1).f4).length c229_4, .slice A229_5 ((Q3 l0 x27_1).f5).length c229_5] 46 (0, 0)) BK230.out hg (Kd.R_ne HL239_0.out BK230.out (by decide))); replace BK235 := Q0.mk (Xv (g := gb235) (o := .cells #[.string ((Qh ((Q3 l0 x27_1).f3) x39_2).f0), .slice (some ad238) ((Qh ((Q3 l0 x27_1).f3) x39_2).f1).length c234_1] 49 (0, 0)) BK235.out hg (Kd.R_ne HL239_0.out BK235.out (by decide))); replace HB := Q0.mk ((by rw [hw]; exact Q1 (HB.out) GB57.out : Below w.heap.size w w64)); clear HL239_0; clear hg hw hp_ hz_ hm_ hok63; obtain ⟨Ao65, co65, eo65⟩ := Kd.Yn HO_8.out; subst eo65; have p243 : 0 ≤ ((rd ((Qh ((Q3 l0 x27_1).f3) x39_2).f1) x54_3) : Int) := of_decide_eq_true ‹_›; have q243 : (rd ((Qh ((Q3 l0 x27_1).f3) x39_2).f1) x54_3) < (x8_3.length : Int) := of_decide_eq_true ‹_›; obtain ⟨ad243, e243, hx243_0⟩ := Kd.Yt (Kd.XK HO_8.out).2.2 (rd ((Qh ((Q3 l0 x27_1).f3) x39_2).f1) x54_3) p243 q243; (try rw [← Nbq59.out] at hx243_0); cases e243; replace p243 := eq_true p243; replace q243 := eq_true q243; have p61 : 0 ≤ ((rd ((Qh ((Q3 l0 x27_1).f3) x39_2).f1) x54_3) : Int) := of_decide_eq_true ‹_›; have q61 : ((rd ((Qh ((Q3 l0 x27_1).f3) x39_2).f1) x54_3) : Int) < ((x8_3.length : Int) : Int) := of_decide_eq_true ‹_›; obtain ⟨go61, co61, eo61, gb61, gl61, cl61, HG61⟩ := Kd.R_form HO_8.out (by omega); (first | cases eo61 | (injection eo61 with ea_ en_ ec_; (first | subst ea_ | (injection ea_ with ea_; subst ea_)); subst ec_; clear en_)); have GB61 := Q0.mk gb61; have GG61 := Q0.mk HG61; clear gb61 gl61 HG61; (first | simp only [add_plain] at hx243_0 | skip); obtain ⟨hx61_0, hf61_0⟩ := Kd.Yg false HO_8.out ((rd ((Qh ((Q3 l0 x27_1).f3) x39_2).f1) x54_3) : Int) p61 q61; replace p61 := eq_true p61; replace q61 := eq_true q61; obtain ⟨hy66_, hz66_⟩ := Kd.Yg false HO_8.out ((rd ((Qh ((Q3 l0 x27_1).f3) x39_2).f1) x54_3) : Int) (of_decide_eq_true ‹_›) (of_decide_eq_true ‹_›); have HP66 := Kd.R_putg HO_8.out ((rd ((Qh ((Q3 l0 x27_1).f3) x39_2).f1) x54_3) : Int) true) | ((with_reducible refine QD (t := 4) (p := 80) rfl ?_); refine Qw (t := 4) (p := 80) (v := ?vo_w67) (w1 := (w64.setCell ⟨go61, ((rd ((Qh ((Q3 l0 x27_1).f3) x39_2).f1) x54_3) : Int).toNat, none⟩ (.bool true))) ?hg ?ho ?hn ?hr ?_; (case ho => rfl); (case hg => rfl); (case hn => rfl); (case hr => first | (go_simp; done) | (go_simp; rfl)); intro w67 hw; have hg : w64.grownBy w67 (some go61) := (by rw [hw]; exact HP66.2); have hp_ : Kd.R Kd.bool 4 w67 w.heap.size (fun _ => True) (.slice (some ⟨go61, 0, none⟩) x8_3.length co65) y244 := (by rw [hw, Ny244.out]; exact HP66.1); clear HP66; replace HO_5 := Q0.mk (Kd.S_after (v := (.slice (some ⟨go61, 0, none⟩) x8_3.length co65)) (v1 := (.slice (some ⟨go61, 0, none⟩) x8_3.length co65)) (ok := (fun _ => True)) (by (with_reducible repeat (first | apply Kd.X9 | apply Kd.X8 | apply Kd.Xl)); exact Kd.XP HO_5.out (fun _ hk => ⟨trivial, hk⟩)) hg (.inl rfl)); replace BK222 := Q0.mk (Xv (g := gb222) (o := .cells #[.int .i64 0, .int .i64 0] 24 (0, 0)) BK222.out hg (Kd.R_ne HO_8.out BK222.out (by decide))); replace BK225 := Q0.mk (Xv (g := gb225) (o := .cells #[.int .i64 t223, .int .i64 t224] 24 (0, 0)) BK225.out hg (Kd.R_ne HO_8.out BK225.out (by decide))); replace BK230 := Q0.mk (Xv (g := gb230) (o := .cells #[.string ((Q3 l0 x27_1).f0), .slice A229_1 ((Q3 l0 x27_1).f1).length c229_1, .slice A229_2 ((Q3 l0 x27_1).f2).length c229_2, .slice (some ad234) ((Q3 l0 x27_1).f3).length c229_3, .slice A229_4 ((Q3 l0 x27_1).f4).length c229_4, .slice A229_5 ((Q3 l0 x27_1).f5).length c229_5] 46 (0, 0)) BK230.out hg (Kd.R_ne HO_8.out BK230.out (by decide))); replace BK235 := Q0.mk (Xv (g := gb235) (o := .cells #[.string ((Qh ((Q3 l0 x27_1).f3) x39_2).f0), .slice (some ad238) ((Qh ((Q3 l0 x27_1).f3) x39_2).f1).length c234_1] 49 (0, 0)) BK235.out hg (Kd.R_ne HO_8.out BK235.out (by decide))); replace HO_8 := Q0.mk (hp_); replace HL257 := Q0.mk (Kd.R_after (v := (.slice (some ⟨go61, 0, none⟩) x8_3.length co65)) (v1 := (.slice (some ⟨go61, 0, none⟩) x8_3.length co65)) (ok := (fun k_ => some k_ ≠ (.slice (some ad239) x5_3.length co62 : Value).ownBlock)) (by (with_reducible repeat (first | apply Kd.XN | apply Kd.XM | apply Kd.XT)); exact Kd.XA HL257.out (fun _ hk => ⟨hk.2, hk.1⟩)) hg (.inl rfl)); replace HB := Q0.mk ((by rw [hw]; exact Q1 (HB.out) GB61.out : Below w.heap.size w w67)); clear hg hw hp_))
                         go_roundg k3
                         case measure => have := HK1.out; have := HK2.out; have := HK3.out; omega
                         case rel => exact ⟨(y242), (y244), (wrap64 (x54_3 + 1)), (by first | rfl | (simp [*]; done)), H', ⟨by have := HK1.out; have := HK2.out; have := HK3.out; omega⟩, ⟨by (with_reducible repeat (first | apply Kd.X9 | apply Kd.X8 | apply Kd.Xl)); exact Kd.XP HO_5.out (fun _ hk => hk.2)⟩, ⟨by (with_reducible repeat (first | apply Kd.XN | apply Kd.XM | apply Kd.XT)); exact HO_8.out⟩, ⟨by (with_reducible repeat (first | refine Q7 ?_ _ | refine Qa ?_ | refine Q8 ?_ _)); exact BK222.out⟩, ⟨by (with_reducible repeat (first | refine Q7 ?_ _ | refine Qa ?_ | refine Q8 ?_ _)); exact BK225.out⟩, ⟨by (with_reducible repeat (first | refine Q7 ?_ _ | refine Qa ?_ | refine Q8 ?_ _)); exact BK230.out⟩, ⟨by (with_reducible repeat (first | refine Q7 ?_ _ | refine Qa ?_ | refine Q8 ?_ _)); exact BK235.out⟩, ⟨by repeat (first | exact HB.out | apply Q4 | apply Q2 | apply Q6 | refine Q1 ?_ GE222.out | refine Q1 ?_ GE225.out | refine Q1 ?_ GE230.out | refine Q1 ?_ GE235.out)⟩⟩
                        ·replace c60 := Bool.eq_false_iff.mpr c60
                         subst c60
                         rw [if_neg (show ¬ (false = true) by decide)] at H
                         by_cases c68 : t236 = x27_1
                         ·rw [if_pos c68] at H
                          have c68b0 : (t236 == x27_1) = true := beq_iff_eq.mpr c68
                          have c68b1 : (t236 != x27_1) = false := bne_eq_false_iff_eq.mpr c68
                          clear c68
                          obtain ⟨y245, hy245⟩ : ∃ y_ : List Bool, y_ = (x8_3.set ((rd ((Qh ((Q3 l0 x27_1).f3) x39_2).f1) x54_3) : Int).toNat (t237 == x39_2)) := ⟨_, rfl⟩
                          replace H : (Qf.l2 k3 l0 y242 x27_1 y245 x39_2 t236 t237 l0 (l0.length : Int) x27_1 ((Q3 l0 x27_1).f3) (((Q3 l0 x27_1).f3).length : Int) x39_2 ((Qh ((Q3 l0 x27_1).f3) x39_2).f1) (((Qh ((Q3 l0 x27_1).f3) x39_2).f1).length : Int) (wrap64 (x54_3 + 1))) = some (r1, r2, r3) := by first | (rw [hy245]; with_reducible exact H) | (have H2_ := (Option.bind_some _ _).symm.trans H; rw [hy245]; with_reducible exact H2_) | (have H2_ := (Option.bind_some _ _).symm.trans H; with_reducible exact H2_) | with_reducible exact H | (rw [hy245]; exact H) | exact H
                          have Ny245 := Q0.mk hy245
                          clear hy245
                          have H' := Q0.mk H
                          clear H
                          have p238 : 0 ≤ (x54_3 : Int) := of_decide_eq_true ‹_›
                          have q238 : x54_3 < (((Qh ((Q3 l0 x27_1).f3) x39_2).f1).length : Int) := of_decide_eq_true ‹_›
                          obtain ⟨ad238, e238, hx238_0⟩ := Kd.at_int HR234_1.out x54_3 p238 q238
                          cases e238
                          replace hx238_0 := cup HB.out hx238_0
                          replace p238 := eq_true p238
                          replace q238 := eq_true q238
                          obtain ⟨Ao70, co70, eo70⟩ := Kd.S_slice HO_5.out
                          subst eo70
                          have p239 : 0 ≤ (x27_1 : Int) := of_decide_eq_true ‹_›
                          have q239 : x27_1 < (x5_3.length : Int) := of_decide_eq_true ‹_›
                          obtain ⟨ad239, A239_0, c239_0, e239, hx239_0, hl239_0, hi239_0⟩ := Yc (Kd.XC HO_5.out).2.2 x27_1 p239 q239
                          cases e239
                          obtain ⟨ce239, hce239, hMe239, hcc239⟩ := Kd.S_get HO_5.out [] x27_1 p239 (by first | exact q239 | exact of_decide_eq_true ‹_› | (have e_ := (Kd.XC HO_5.out).1; omega))
                          obtain ⟨ve239_0, rfl, ge239_0⟩ := hMe239
                          have hv239_0 := hcc239 0 _ rfl
                          rw [Nat.add_zero, show ((Kd.slice 4 Kd.bool)).sz = 1 from rfl, Nat.mul_one] at hv239_0
                          replace hv239_0 := Option.some.inj (hv239_0.symm.trans hx239_0)
                          rw [hv239_0] at ge239_0
                          have HL239_0 := Q0.mk (show Kd.R Kd.bool 4 _ _ _ _ (QM x5_3 x27_1) from ge239_0)
                          clear hv239_0 ge239_0
                          have HX239_0 := Q0.mk hx239_0
                          clear hcc239 hce239
                          have HR239_0 := Q0.mk hi239_0
                          have HC239_0 := Q0.mk hl239_0
                          clear hi239_0 hl239_0
                          replace p239 := eq_true p239
                          replace q239 := eq_true q239
                          have p57 : 0 ≤ ((rd ((Qh ((Q3 l0 x27_1).f3) x39_2).f1) x54_3) : Int) := of_decide_eq_true ‹_›
                          have q57 : ((rd ((Qh ((Q3 l0 x27_1).f3) x39_2).f1) x54_3) : Int) < (((QM x5_3 x27_1).length : Int) : Int) := of_decide_eq_true ‹_›
                          obtain ⟨go57, co57, eo57, gb57, gl57, cl57, HG57⟩ := Kd.R_form HL239_0.out (by omega)
                          (first | cases eo57 | (injection eo57 with ea_ en_ ec_; (first | subst ea_ | (injection ea_ with ea_; subst ea_)); subst ec_; clear en_))
                          have GB57 := Q0.mk gb57
                          have GG57 := Q0.mk HG57
                          clear gb57 gl57 HG57
                          obtain ⟨hx57_0, hf57_0⟩ := Kd.Yg false HL239_0.out ((rd ((Qh ((Q3 l0 x27_1).f3) x39_2).f1) x54_3) : Int) p57 q57
                          replace p57 := eq_true p57
                          replace q57 := eq_true q57
                          have hq71 : (x27_1 : Int) < (x5_3.length : Int) := (by have h_ : (x27_1 : Int) < ((x5_3.length : Int) : Int) := of_decide_eq_true ‹_›; first | exact h_ | (have e_ := (Kd.XC HO_5.out).1; omega) | simpa only [List.length_set, List.length_set] using h_)
                          obtain ⟨oki71, ce71, hcl71, hM71, hcc71, hok71, hbk71⟩ := Kd.S_borrow HO_5.out [] (x27_1 : Int) (of_decide_eq_true ‹_›) hq71
                          obtain ⟨ve71_0, rfl, ge71_0⟩ := hM71
                          have hv71 := hcc71 0 _ rfl
                          rw [Nat.add_zero, show ((Kd.slice 4 Kd.bool)).sz = 1 from rfl, Nat.mul_one] at hv71
                          replace hv71 := Option.some.inj (hv71.symm.trans HX239_0.out)
                          subst hv71
                          clear hcc71 hcl71
                          replace ge71_0 := (show Kd.R Kd.bool 4 _ _ _ _ (QM x5_3 x27_1) from ge71_0)
                          have HP71 := Kd.R_putg ge71_0 ((rd ((Qh ((Q3 l0 x27_1).f3) x39_2).f1) x54_3) : Int) false
                          go_wp2_with (first | ((with_reducible refine QD (t := 4) (p := 63) rfl ?_); refine Qw (t := 4) (p := 63) (v := ?vo_w72) (w1 := (wr.setCell ⟨go57, ((rd ((Qh ((Q3 l0 x27_1).f3) x39_2).f1) x54_3) : Int).toNat, none⟩ (.bool false))) ?hg ?ho ?hn ?hr ?_; (case ho => rfl); (case hg => rfl); (case hn => rfl); (case hr => first | (go_simp; done) | (go_simp; rfl)); intro w72 hw; have hg : wr.grownBy w72 (some go57) := (by rw [hw]; exact HP71.2); have hz_ : Kd.R Kd.bool 4 w72 w.heap.size oki71 (.slice (some ⟨go57, 0, none⟩) (QM x5_3 x27_1).length c239_0) y240 := (by rw [hw, Ny240.out]; exact HP71.1); have hp_ : Kd.S (Kd.slice 4 Kd.bool) 39 w72 w.heap.size (fun k_ => some k_ ≠ (v232 : Value).ownBlock) (.slice (some ad239) x5_3.length co70) y242 := (by rw [Ny242.out]; exact hbk71 hg (fun k_ e_ => by injection e_ with e_; subst e_; exact ge71_0.1 _ rfl) (Kd.M_row hz_)); have hm_ := Kd.XA hz_ hok71; clear HP71 hbk71; have HL258 := Q0.mk (hm_); have HC241 := Q0.mk ((Kd.XK hm_).2.1); replace HO_5 := Q0.mk (hp_); replace HO_8 := Q0.mk (Kd.R_grown1 HO_8.out rfl hg ((HL239_0.out.1 _ rfl).1)); replace BK222 := Q0.mk (Xv (g := gb222) (o := .cells #[.int .i64 0, .int .i64 0] 24 (0, 0)) BK222.out hg (Kd.R_ne HL239_0.out BK222.out (by decide))); replace BK225 := Q0.mk (Xv (g := gb225) (o := .cells #[.int .i64 t223, .int .i64 t224] 24 (0, 0)) BK225.out hg (Kd.R_ne HL239_0.out BK225.out (by decide))); replace BK230 := Q0.mk (Xv (g := gb230) (o := .cells #[.string ((Q3 l0 x27_1).f0), .slice A229_1 ((Q3 l0 x27_1).f1).length c229_1, .slice A229_2 ((Q3 l0 x27_1).f2).length c229_2, .slice (some ad234) ((Q3 l0 x27_1).f3).length c229_3, .slice A229_4 ((Q3 l0 x27_1).f4).length c229_4, .slice A229_5 ((Q3 l0 x27_1).f5).length c229_5] 46 (0, 0)) BK230.out hg (Kd.R_ne HL239_0.out BK230.out (by decide))); replace BK235 := Q0.mk (Xv (g := gb235) (o := .cells #[.string ((Qh ((Q3 l0 x27_1).f3) x39_2).f0), .slice (some ad238) ((Qh ((Q3 l0 x27_1).f3) x39_2).f1).length c234_1] 49 (0, 0)) BK235.out hg (Kd.R_ne HL239_0.out BK235.out (by decide))); replace HB := Q0.mk ((by rw [hw]; exact Q1 (HB.out) GB57.out : Below w.heap.size w w72)); clear HL239_0; clear hg hw hp_ hz_ hm_ hok71; obtain ⟨Ao73, co73, eo73⟩ := Kd.Yn HO_8.out; subst eo73; have p243 : 0 ≤ ((rd ((Qh ((Q3 l0 x27_1).f3) x39_2).f1) x54_3) : Int) := of_decide_eq_true ‹_›; have q243 : (rd ((Qh ((Q3 l0 x27_1).f3) x39_2).f1) x54_3) < (x8_3.length : Int) := of_decide_eq_true ‹_›; obtain ⟨ad243, e243, hx243_0⟩ := Kd.Yt (Kd.XK HO_8.out).2.2 (rd ((Qh ((Q3 l0 x27_1).f3) x39_2).f1) x54_3) p243 q243; (try rw [← Nbq59.out] at hx243_0); cases e243; replace p243 := eq_true p243; replace q243 := eq_true q243; have p69 : 0 ≤ ((rd ((Qh ((Q3 l0 x27_1).f3) x39_2).f1) x54_3) : Int) := of_decide_eq_true ‹_›; have q69 : ((rd ((Qh ((Q3 l0 x27_1).f3) x39_2).f1) x54_3) : Int) < ((x8_3.length : Int) : Int) := of_decide_eq_true ‹_›; obtain ⟨go69, co69, eo69, gb69, gl69, cl69, HG69⟩ := Kd.R_form HO_8.out (by omega); (first | cases eo69 | (injection eo69 with ea_ en_ ec_; (first | subst ea_ | (injection ea_ with ea_; subst ea_)); subst ec_; clear en_)); have GB69 := Q0.mk gb69; have GG69 := Q0.mk HG69; clear gb69 gl69 HG69; (first | simp only [add_plain] at hx243_0 | skip); obtain ⟨hx69_0, hf69_0⟩ := Kd.Yg false HO_8.out ((rd ((Qh ((Q3 l0 x27_1).f3) x39_2).f1) x54_3) : Int) p69 q69; replace p69 := eq_true p69; replace q69 := eq_true q69; obtain ⟨hy74_, hz74_⟩ := Kd.Yg false HO_8.out ((rd ((Qh ((Q3 l0 x27_1).f3) x39_2).f1) x54_3) : Int) (of_decide_eq_true ‹_›) (of_decide_eq_true ‹_›); have HP74 := Kd.R_putg HO_8.out ((rd ((Qh ((Q3 l0 x27_1).f3) x39_2).f1) x54_3) : Int) (t237 == x39_2)) | ((with_reducible refine QD (t := 4) (p := 80) rfl ?_); refine Qw (t := 4) (p := 80) (v := ?vo_w75) (w1 := (w72.setCell ⟨go69, ((rd ((Qh ((Q3 l0 x27_1).f3) x39_2).f1) x54_3) : Int).toNat, none⟩ (.bool (t237 == x39_2)))) ?hg ?ho ?hn ?hr ?_; (case ho => rfl); (case hg => rfl); (case hn => rfl); (case hr => first | (go_simp; done) | (go_simp; rfl)); intro w75 hw; have hg : w72.grownBy w75 (some go69) := (by rw [hw]; exact HP74.2); have hp_ : Kd.R Kd.bool 4 w75 w.heap.size (fun _ => True) (.slice (some ⟨go69, 0, none⟩) x8_3.length co73) y245 := (by rw [hw, Ny245.out]; exact HP74.1); clear HP74; replace HO_5 := Q0.mk (Kd.S_after (v := (.slice (some ⟨go69, 0, none⟩) x8_3.length co73)) (v1 := (.slice (some ⟨go69, 0, none⟩) x8_3.length co73)) (ok := (fun _ => True)) (by (with_reducible repeat (first | apply Kd.X9 | apply Kd.X8 | apply Kd.Xl)); exact Kd.XP HO_5.out (fun _ hk => ⟨trivial, hk⟩)) hg (.inl rfl)); replace BK222 := Q0.mk (Xv (g := gb222) (o := .cells #[.int .i64 0, .int .i64 0] 24 (0, 0)) BK222.out hg (Kd.R_ne HO_8.out BK222.out (by decide))); replace BK225 := Q0.mk (Xv (g := gb225) (o := .cells #[.int .i64 t223, .int .i64 t224] 24 (0, 0)) BK225.out hg (Kd.R_ne HO_8.out BK225.out (by decide))); replace BK230 := Q0.mk (Xv (g := gb230) (o := .cells #[.string ((Q3 l0 x27_1).f0), .slice A229_1 ((Q3 l0 x27_1).f1).length c229_1, .slice A229_2 ((Q3 l0 x27_1).f2).length c229_2, .slice (some ad234) ((Q3 l0 x27_1).f3).length c229_3, .slice A229_4 ((Q3 l0 x27_1).f4).length c229_4, .slice A229_5 ((Q3 l0 x27_1).f5).length c229_5] 46 (0, 0)) BK230.out hg (Kd.R_ne HO_8.out BK230.out (by decide))); replace BK235 := Q0.mk (Xv (g := gb235) (o := .cells #[.string ((Qh ((Q3 l0 x27_1).f3) x39_2).f0), .slice (some ad238) ((Qh ((Q3 l0 x27_1).f3) x39_2).f1).length c234_1] 49 (0, 0)) BK235.out hg (Kd.R_ne HO_8.out BK235.out (by decide))); replace HO_8 := Q0.mk (hp_); replace HL258 := Q0.mk (Kd.R_after (v := (.slice (some ⟨go69, 0, none⟩) x8_3.length co73)) (v1 := (.slice (some ⟨go69, 0, none⟩) x8_3.length co73)) (ok := (fun k_ => some k_ ≠ (.slice (some ad239) x5_3.length co70 : Value).ownBlock)) (by (with_reducible repeat (first | apply Kd.XN | apply Kd.XM | apply Kd.XT)); exact Kd.XA HL258.out (fun _ hk => ⟨hk.2, hk.1⟩)) hg (.inl rfl)); replace HB := Q0.mk ((by rw [hw]; exact Q1 (HB.out) GB69.out : Below w.heap.size w w75)); clear hg hw hp_))
                          go_roundg k3
                          case measure => have := HK1.out; have := HK2.out; have := HK3.out; omega
                          case rel => exact ⟨(y242), (y245), (wrap64 (x54_3 + 1)), (by first | rfl | (simp [*]; done)), H', ⟨by have := HK1.out; have := HK2.out; have := HK3.out; omega⟩, ⟨by (with_reducible repeat (first | apply Kd.X9 | apply Kd.X8 | apply Kd.Xl)); exact Kd.XP HO_5.out (fun _ hk => hk.2)⟩, ⟨by (with_reducible repeat (first | apply Kd.XN | apply Kd.XM | apply Kd.XT)); exact HO_8.out⟩, ⟨by (with_reducible repeat (first | refine Q7 ?_ _ | refine Qa ?_ | refine Q8 ?_ _)); exact BK222.out⟩, ⟨by (with_reducible repeat (first | refine Q7 ?_ _ | refine Qa ?_ | refine Q8 ?_ _)); exact BK225.out⟩, ⟨by (with_reducible repeat (first | refine Q7 ?_ _ | refine Qa ?_ | refine Q8 ?_ _)); exact BK230.out⟩, ⟨by (with_reducible repeat (first | refine Q7 ?_ _ | refine Qa ?_ | refine Q8 ?_ _)); exact BK235.out⟩, ⟨by repeat (first | exact HB.out | apply Q4 | apply Q2 | apply Q6 | refine Q1 ?_ GE222.out | refine Q1 ?_ GE225.out | refine Q1 ?_ GE230.out | refine Q1 ?_ GE235.out)⟩⟩
                         ·rw [if_neg c68] at H
                          have c68b0 : (t236 == x27_1) = false := beq_eq_false_iff_ne.mpr c68
                          have c68b1 : (t236 != x27_1) = true := bne_iff_ne.mpr c68
                          obtain ⟨y246, hy246⟩ : ∃ y_ : List Bool, y_ = (x8_3.set ((rd ((Qh ((Q3 l0 x27_1).f3) x39_2).f1) x54_3) : Int).toNat false) := ⟨_, rfl⟩
                          replace H : (Qf.l2 k3 l0 y242 x27_1 y246 x39_2 t236 t237 l0 (l0.length : Int) x27_1 ((Q3 l0 x27_1).f3) (((Q3 l0 x27_1).f3).length : Int) x39_2 ((Qh ((Q3 l0 x27_1).f3) x39_2).f1) (((Qh ((Q3 l0 x27_1).f3) x39_2).f1).length : Int) (wrap64 (x54_3 + 1))) = some (r1, r2, r3) := by first | (rw [hy246]; with_reducible exact H) | (have H2_ := (Option.bind_some _ _).symm.trans H; rw [hy246]; with_reducible exact H2_) | (have H2_ := (Option.bind_some _ _).symm.trans H; with_reducible exact H2_) | with_reducible exact H | (rw [hy246]; exact H) | exact H
                          have Ny246 := Q0.mk hy246
                          clear hy246
                          have H' := Q0.mk H
                          clear H
                          have p238 : 0 ≤ (x54_3 : Int) := of_decide_eq_true ‹_›
                          have q238 : x54_3 < (((Qh ((Q3 l0 x27_1).f3) x39_2).f1).length : Int) := of_decide_eq_true ‹_›
                          obtain ⟨ad238, e238, hx238_0⟩ := Kd.at_int HR234_1.out x54_3 p238 q238
                          cases e238
                          replace hx238_0 := cup HB.out hx238_0
                          replace p238 := eq_true p238
                          replace q238 := eq_true q238
                          obtain ⟨Ao77, co77, eo77⟩ := Kd.S_slice HO_5.out
                          subst eo77
                          have p239 : 0 ≤ (x27_1 : Int) := of_decide_eq_true ‹_›
                          have q239 : x27_1 < (x5_3.length : Int) := of_decide_eq_true ‹_›
                          obtain ⟨ad239, A239_0, c239_0, e239, hx239_0, hl239_0, hi239_0⟩ := Yc (Kd.XC HO_5.out).2.2 x27_1 p239 q239
                          cases e239
                          obtain ⟨ce239, hce239, hMe239, hcc239⟩ := Kd.S_get HO_5.out [] x27_1 p239 (by first | exact q239 | exact of_decide_eq_true ‹_› | (have e_ := (Kd.XC HO_5.out).1; omega))
                          obtain ⟨ve239_0, rfl, ge239_0⟩ := hMe239
                          have hv239_0 := hcc239 0 _ rfl
                          rw [Nat.add_zero, show ((Kd.slice 4 Kd.bool)).sz = 1 from rfl, Nat.mul_one] at hv239_0
                          replace hv239_0 := Option.some.inj (hv239_0.symm.trans hx239_0)
                          rw [hv239_0] at ge239_0
                          have HL239_0 := Q0.mk (show Kd.R Kd.bool 4 _ _ _ _ (QM x5_3 x27_1) from ge239_0)
                          clear hv239_0 ge239_0
                          have HX239_0 := Q0.mk hx239_0
                          clear hcc239 hce239
                          have HR239_0 := Q0.mk hi239_0
                          have HC239_0 := Q0.mk hl239_0
                          clear hi239_0 hl239_0
                          replace p239 := eq_true p239
                          replace q239 := eq_true q239
                          have p57 : 0 ≤ ((rd ((Qh ((Q3 l0 x27_1).f3) x39_2).f1) x54_3) : Int) := of_decide_eq_true ‹_›
                          have q57 : ((rd ((Qh ((Q3 l0 x27_1).f3) x39_2).f1) x54_3) : Int) < (((QM x5_3 x27_1).length : Int) : Int) := of_decide_eq_true ‹_›
                          obtain ⟨go57, co57, eo57, gb57, gl57, cl57, HG57⟩ := Kd.R_form HL239_0.out (by omega)
                          (first | cases eo57 | (injection eo57 with ea_ en_ ec_; (first | subst ea_ | (injection ea_ with ea_; subst ea_)); subst ec_; clear en_))
                          have GB57 := Q0.mk gb57
                          have GG57 := Q0.mk HG57
                          clear gb57 gl57 HG57
                          obtain ⟨hx57_0, hf57_0⟩ := Kd.Yg false HL239_0.out ((rd ((Qh ((Q3 l0 x27_1).f3) x39_2).f1) x54_3) : Int) p57 q57
                          replace p57 := eq_true p57
                          replace q57 := eq_true q57
                          have hq78 : (x27_1 : Int) < (x5_3.length : Int) := (by have h_ : (x27_1 : Int) < ((x5_3.length : Int) : Int) := of_decide_eq_true ‹_›; first | exact h_ | (have e_ := (Kd.XC HO_5.out).1; omega) | simpa only [List.length_set, List.length_set] using h_)
                          obtain ⟨oki78, ce78, hcl78, hM78, hcc78, hok78, hbk78⟩ := Kd.S_borrow HO_5.out [] (x27_1 : Int) (of_decide_eq_true ‹_›) hq78
                          obtain ⟨ve78_0, rfl, ge78_0⟩ := hM78
                          have hv78 := hcc78 0 _ rfl
                          rw [Nat.add_zero, show ((Kd.slice 4 Kd.bool)).sz = 1 from rfl, Nat.mul_one] at hv78
                          replace hv78 := Option.some.inj (hv78.symm.trans HX239_0.out)
                          subst hv78
                          clear hcc78 hcl78
                          replace ge78_0 := (show Kd.R Kd.bool 4 _ _ _ _ (QM x5_3 x27_1) from ge78_0)
                          have HP78 := Kd.R_putg ge78_0 ((rd ((Qh ((Q3 l0 x27_1).f3) x39_2).f1) x54_3) : Int) false
                          go_wp2_with (first | ((with_reducible refine QD (t := 4) (p := 63) rfl ?_); refine Qw (t := 4) (p := 63) (v := ?vo_w79) (w1 := (wr.setCell ⟨go57, ((rd ((Qh ((Q3 l0 x27_1).f3) x39_2).f1) x54_3) : Int).toNat, none⟩ (.bool false))) ?hg ?ho ?hn ?hr ?_; (case ho => rfl); (case hg => rfl); (case hn => rfl); (case hr => first | (go_simp; done) | (go_simp; rfl)); intro w79 hw; have hg : wr.grownBy w79 (some go57) := (by rw [hw]; exact HP78.2); have hz_ : Kd.R Kd.bool 4 w79 w.heap.size oki78 (.slice (some ⟨go57, 0, none⟩) (QM x5_3 x27_1).length c239_0) y240 := (by rw [hw, Ny240.out]; exact HP78.1); have hp_ : Kd.S (Kd.slice 4 Kd.bool) 39 w79 w.heap.size (fun k_ => some k_ ≠ (v232 : Value).ownBlock) (.slice (some ad239) x5_3.length co77) y242 := (by rw [Ny242.out]; exact hbk78 hg (fun k_ e_ => by injection e_ with e_; subst e_; exact ge78_0.1 _ rfl) (Kd.M_row hz_)); have hm_ := Kd.XA hz_ hok78; clear HP78 hbk78; have HL259 := Q0.mk (hm_); have HC241 := Q0.mk ((Kd.XK hm_).2.1); replace HO_5 := Q0.mk (hp_); replace HO_8 := Q0.mk (Kd.R_grown1 HO_8.out rfl hg ((HL239_0.out.1 _ rfl).1)); replace BK222 := Q0.mk (Xv (g := gb222) (o := .cells #[.int .i64 0, .int .i64 0] 24 (0, 0)) BK222.out hg (Kd.R_ne HL239_0.out BK222.out (by decide))); replace BK225 := Q0.mk (Xv (g := gb225) (o := .cells #[.int .i64 t223, .int .i64 t224] 24 (0, 0)) BK225.out hg (Kd.R_ne HL239_0.out BK225.out (by decide))); replace BK230 := Q0.mk (Xv (g := gb230) (o := .cells #[.string ((Q3 l0 x27_1).f0), .slice A229_1 ((Q3 l0 x27_1).f1).length c229_1, .slice A229_2 ((Q3 l0 x27_1).f2).length c229_2, .slice (some ad234) ((Q3 l0 x27_1).f3).length c229_3, .slice A229_4 ((Q3 l0 x27_1).f4).length c229_4, .slice A229_5 ((Q3 l0 x27_1).f5).length c229_5] 46 (0, 0)) BK230.out hg (Kd.R_ne HL239_0.out BK230.out (by decide))); replace BK235 := Q0.mk (Xv (g := gb235) (o := .cells #[.string ((Qh ((Q3 l0 x27_1).f3) x39_2).f0), .slice (some ad238) ((Qh ((Q3 l0 x27_1).f3) x39_2).f1).length c234_1] 49 (0, 0)) BK235.out hg (Kd.R_ne HL239_0.out BK235.out (by decide))); replace HB := Q0.mk ((by rw [hw]; exact Q1 (HB.out) GB57.out : Below w.heap.size w w79)); clear HL239_0; clear hg hw hp_ hz_ hm_ hok78; obtain ⟨Ao80, co80, eo80⟩ := Kd.Yn HO_8.out; subst eo80; have p243 : 0 ≤ ((rd ((Qh ((Q3 l0 x27_1).f3) x39_2).f1) x54_3) : Int) := of_decide_eq_true ‹_›; have q243 : (rd ((Qh ((Q3 l0 x27_1).f3) x39_2).f1) x54_3) < (x8_3.length : Int) := of_decide_eq_true ‹_›; obtain ⟨ad243, e243, hx243_0⟩ := Kd.Yt (Kd.XK HO_8.out).2.2 (rd ((Qh ((Q3 l0 x27_1).f3) x39_2).f1) x54_3) p243 q243; (try rw [← Nbq59.out] at hx243_0); cases e243; replace p243 := eq_true p243; replace q243 := eq_true q243; have p76 : 0 ≤ ((rd ((Qh ((Q3 l0 x27_1).f3) x39_2).f1) x54_3) : Int) := of_decide_eq_true ‹_›; have q76 : ((rd ((Qh ((Q3 l0 x27_1).f3) x39_2).f1) x54_3) : Int) < ((x8_3.length : Int) : Int) := of_decide_eq_true ‹_›; obtain ⟨go76, co76, eo76, gb76, gl76, cl76, HG76⟩ := Kd.R_form HO_8.out (by omega); (first | cases eo76 | (injection eo76 with ea_ en_ ec_; (first | subst ea_ | (injection ea_ with ea_; subst ea_)); subst ec_; clear en_)); have GB76 := Q0.mk gb76; have GG76 := Q0.mk HG76; clear gb76 gl76 HG76; (first | simp only [add_plain] at hx243_0 | skip); obtain ⟨hx76_0, hf76_0⟩ := Kd.Yg false HO_8.out ((rd ((Qh ((Q3 l0 x27_1).f3) x39_2).f1) x54_3) : Int) p76 q76; replace p76 := eq_true p76; replace q76 := eq_true q76; obtain ⟨hy81_, hz81_⟩ := Kd.Yg false HO_8.out ((rd ((Qh ((Q3 l0 x27_1).f3) x39_2).f1) x54_3) : Int) (of_decide_eq_true ‹_›) (of_decide_eq_true ‹_›); have HP81 := Kd.R_putg HO_8.out ((rd ((Qh ((Q3 l0 x27_1).f3) x39_2).f1) x54_3) : Int) false) | ((with_reducible refine QD (t := 4) (p := 80) rfl ?_); refine Qw (t := 4) (p := 80) (v := ?vo_w82) (w1 := (w79.setCell ⟨go76, ((rd ((Qh ((Q3 l0 x27_1).f3) x39_2).f1) x54_3) : Int).toNat, none⟩ (.bool false))) ?hg ?ho ?hn ?hr ?_; (case ho => rfl); (case hg => rfl); (case hn => rfl); (case hr => first | (go_simp; done) | (go_simp; rfl)); intro w82 hw; have hg : w79.grownBy w82 (some go76) := (by rw [hw]; exact HP81.2); have hp_ : Kd.R Kd.bool 4 w82 w.heap.size (fun _ => True) (.slice (some ⟨go76, 0, none⟩) x8_3.length co80) y246 := (by rw [hw, Ny246.out]; exact HP81.1); clear HP81; replace HO_5 := Q0.mk (Kd.S_after (v := (.slice (some ⟨go76, 0, none⟩) x8_3.length co80)) (v1 := (.slice (some ⟨go76, 0, none⟩) x8_3.length co80)) (ok := (fun _ => True)) (by (with_reducible repeat (first | apply Kd.X9 | apply Kd.X8 | apply Kd.Xl)); exact Kd.XP HO_5.out (fun _ hk => ⟨trivial, hk⟩)) hg (.inl rfl)); replace BK222 := Q0.mk (Xv (g := gb222) (o := .cells #[.int .i64 0, .int .i64 0] 24 (0, 0)) BK222.out hg (Kd.R_ne HO_8.out BK222.out (by decide))); replace BK225 := Q0.mk (Xv (g := gb225) (o := .cells #[.int .i64 t223, .int .i64 t224] 24 (0, 0)) BK225.out hg (Kd.R_ne HO_8.out BK225.out (by decide))); replace BK230 := Q0.mk (Xv (g := gb230) (o := .cells #[.string ((Q3 l0 x27_1).f0), .slice A229_1 ((Q3 l0 x27_1).f1).length c229_1, .slice A229_2 ((Q3 l0 x27_1).f2).length c229_2, .slice (some ad234) ((Q3 l0 x27_1).f3).length c229_3, .slice A229_4 ((Q3 l0 x27_1).f4).length c229_4, .slice A229_5 ((Q3 l0 x27_1).f5).length c229_5] 46 (0, 0)) BK230.out hg (Kd.R_ne HO_8.out BK230.out (by decide))); replace BK235 := Q0.mk (Xv (g := gb235) (o := .cells #[.string ((Qh ((Q3 l0 x27_1).f3) x39_2).f0), .slice (some ad238) ((Qh ((Q3 l0 x27_1).f3) x39_2).f1).length c234_1] 49 (0, 0)) BK235.out hg (Kd.R_ne HO_8.out BK235.out (by decide))); replace HO_8 := Q0.mk (hp_); replace HL259 := Q0.mk (Kd.R_after (v := (.slice (some ⟨go76, 0, none⟩) x8_3.length co80)) (v1 := (.slice (some ⟨go76, 0, none⟩) x8_3.length co80)) (ok := (fun k_ => some k_ ≠ (.slice (some ad239) x5_3.length co77 : Value).ownBlock)) (by (with_reducible repeat (first | apply Kd.XN | apply Kd.XM | apply Kd.XT)); exact Kd.XA HL259.out (fun _ hk => ⟨hk.2, hk.1⟩)) hg (.inl rfl)); replace HB := Q0.mk ((by rw [hw]; exact Q1 (HB.out) GB76.out : Below w.heap.size w w82)); clear hg hw hp_))
                          go_roundg k3
                          case measure => have := HK1.out; have := HK2.out; have := HK3.out; omega
                          case rel => exact ⟨(y242), (y246), (wrap64 (x54_3 + 1)), (by first | rfl | (simp [*]; done)), H', ⟨by have := HK1.out; have := HK2.out; have := HK3.out; omega⟩, ⟨by (with_reducible repeat (first | apply Kd.X9 | apply Kd.X8 | apply Kd.Xl)); exact Kd.XP HO_5.out (fun _ hk => hk.2)⟩, ⟨by (with_reducible repeat (first | apply Kd.XN | apply Kd.XM | apply Kd.XT)); exact HO_8.out⟩, ⟨by (with_reducible repeat (first | refine Q7 ?_ _ | refine Qa ?_ | refine Q8 ?_ _)); exact BK222.out⟩, ⟨by (with_reducible repeat (first | refine Q7 ?_ _ | refine Qa ?_ | refine Q8 ?_ _)); exact BK225.out⟩, ⟨by (with_reducible repeat (first | refine Q7 ?_ _ | refine Qa ?_ | refine Q8 ?_ _)); exact BK230.out⟩, ⟨by (with_reducible repeat (first | refine Q7 ?_ _ | refine Qa ?_ | refine Q8 ?_ _)); exact BK235.out⟩, ⟨by repeat (first | exact HB.out | apply Q4 | apply Q2 | apply Q6 | refine Q1 ?_ GE222.out | refine Q1 ?_ GE225.out | refine Q1 ?_ GE230.out | refine Q1 ?_ GE235.out)⟩⟩
                       ·rw [if_neg c58] at H
                        exact absurd H (by simp)
                      ·rw [if_neg c56] at H
                       exact absurd H (by simp)
                     ·rw [if_neg c55] at H
                      exact absurd H (by simp)
                    ·rw [if_neg c54] at H
                     exact absurd H (by simp)
                   ·rw [if_neg c53] at H
                    exact absurd H (by simp)
                  ·rw [if_neg c52] at H
                   exact absurd H (by simp)
                 ·rw [if_neg c51] at H
                  exact absurd H (by simp)
                ·rw [if_neg c50] at H
                 have c50b0 : decide (x54_3 < (((Qh ((Q3 l0 x27_1).f3) x39_2).f1).length : Int)) = false := decide_eq_false c50
                 clear c50
                 have H' := Q0.mk H
                 clear H
                 go_wp2
                 go_roundg k3
                 case measure => have := HK1.out; have := HK2.out; have := HK3.out; omega
                 case rel => exact ⟨(x5_3), (x8_3), (wrap64 (x39_2 + 1)), (by first | rfl | (simp [*]; done)), H', ⟨by have := HK1.out; have := HK2.out; have := HK3.out; omega⟩, ⟨by (with_reducible repeat (first | apply Kd.X9 | apply Kd.X8 | apply Kd.Xl)); exact HO_5.out⟩, ⟨by (with_reducible repeat (first | apply Kd.XN | apply Kd.XM | apply Kd.XT)); exact HO_8.out⟩, ⟨by (with_reducible repeat (first | refine Q7 ?_ _ | refine Qa ?_ | refine Q8 ?_ _)); exact BK222.out⟩, ⟨by (with_reducible repeat (first | refine Q7 ?_ _ | refine Qa ?_ | refine Q8 ?_ _)); exact BK225.out⟩, ⟨by (with_reducible repeat (first | refine Q7 ?_ _ | refine Qa ?_ | refine Q8 ?_ _)); exact BK230.out⟩, ⟨by repeat (first | exact HB.out | apply Q4 | apply Q2 | apply Q6 | refine Q1 ?_ GE222.out | refine Q1 ?_ GE225.out | refine Q1 ?_ GE230.out | refine Q1 ?_ GE235.out)⟩⟩
             ·rw [if_neg c39] at H
              exact absurd H (by simp)
            ·rw [if_neg c38] at H
             exact absurd H (by simp)
           ·rw [if_neg c37] at H
            have c37b0 : decide (x39_2 < (((Q3 l0 x27_1).f3).length : Int)) = false := decide_eq_false c37
            clear c37
            have H' := Q0.mk H
            clear H
            obtain ⟨Ao83, co83, eo83⟩ := Kd.Yn HO_8.out
            subst eo83
            go_wp2
            go_loopg [85] k2 (fun kq v85 w' => ∃ (x5_3 : List (List Bool)) (x83_3 : List Bool) (x85_3 : Int), v85 = .int .i64 x85_3 ∧ Q0 (Qf.l3 kq l0 x5_3 x27_1 l0 (l0.length : Int) x27_1 x83_3 (x8_2.length : Int) x85_3 = some (r1, r2, r3)) ∧ Q0 (kq ≤ k2) ∧ Q0 (Kd.S (Kd.slice 4 Kd.bool) 39 w' w.heap.size (fun k_ => some k_ ≠ ((.slice Ao83 x8_2.length co83) : Value).ownBlock) v227 x5_3) ∧ Q0 (Kd.R Kd.bool 4 w' w.heap.size (fun _ => True) (.slice Ao83 x8_2.length co83) x83_3) ∧ Q0 (w'.heap[gb222]? = some (.cells #[.int .i64 0, .int .i64 0] 24 (0, 0))) ∧ Q0 (w'.heap[gb225]? = some (.cells #[.int .i64 t223, .int .i64 t224] 24 (0, 0))) ∧ Q0 (w'.heap[gb230]? = some (.cells #[.string ((Q3 l0 x27_1).f0), (.slice A229_1 ((Q3 l0 x27_1).f1).length c229_1), (.slice A229_2 ((Q3 l0 x27_1).f2).length c229_2), (.slice A229_3 ((Q3 l0 x27_1).f3).length c229_3), (.slice A229_4 ((Q3 l0 x27_1).f4).length c229_4), (.slice A229_5 ((Q3 l0 x27_1).f5).length c229_5)] 46 (0, 0))) ∧ Q0 (Below w.heap.size w w'))
            case atStart => exact ⟨(x5_2), (x8_2), (0), (by first | rfl | (simp [*]; done)), H', ⟨Nat.le_refl _⟩, ⟨by (with_reducible repeat (first | apply Kd.X9 | apply Kd.X8 | apply Kd.Xl)); exact HO_5.out⟩, ⟨by (with_reducible repeat (first | apply Kd.XN | apply Kd.XM | apply Kd.XT)); exact HO_8.out⟩, ⟨by (with_reducible repeat (first | refine Q7 ?_ _ | refine Qa ?_ | refine Q8 ?_ _)); exact BK222.out⟩, ⟨by (with_reducible repeat (first | refine Q7 ?_ _ | refine Qa ?_ | refine Q8 ?_ _)); exact BK225.out⟩, ⟨by (with_reducible repeat (first | refine Q7 ?_ _ | refine Qa ?_ | refine Q8 ?_ _)); exact BK230.out⟩, ⟨by repeat (first | exact HB.out | apply Q4 | apply Q2 | apply Q6 | refine Q1 ?_ GE222.out | refine Q1 ?_ GE225.out | refine Q1 ?_ GE230.out)⟩⟩
            case round =>
             clear H'
             try clear c1
             try clear c2
             try clear p2
             try clear q2
             try clear hx2
             try clear c3
             try clear c3b0
             try clear c4
             try clear c5
             try clear p5
             try clear q5
             try clear hx5
             try clear hf5
             try clear c6
             try clear p6
             try clear q6
             try clear hx6
             try clear hf6
             try clear c7
             try clear p7
             try clear q7
             try clear hx7
             try clear hf7
             try clear c11
             try clear c18
             try clear c22
             try clear p22
             try clear q22
             try clear hx22
             try clear c23
             try clear c23b0
             try clear p23
             try clear q23
             try clear hx23
             try clear c24
             try clear c24b0
             try clear p24
             try clear q24
             try clear hx24
             try clear c25
             try clear c25b0
             try clear c26
             try clear c26b0
             try clear c26b1
             try clear c27
             try clear c27b0
             try clear c27b1
             try clear c28
             try clear c29
             try clear c30
             try clear c37
             try clear c37b0
             try clear c38
             try clear c38b0
             try clear c39
             try clear c39b0
             try clear c42
             try clear c43
             try clear c44
             try clear c50
             try clear c50b0
             try clear c51
             try clear c51b0
             try clear c52
             try clear c52b0
             try clear c53
             try clear c53b0
             try clear c54
             try clear c54b0
             try clear c55
             try clear c55b0
             try clear c56
             try clear c56b0
             try clear p57
             try clear q57
             try clear hx57
             try clear hf57
             try clear c58
             try clear c58b0
             try clear q59
             try clear c60
             try clear p61
             try clear q61
             try clear hx61
             try clear hf61
             try clear c63
             try clear q63
             try clear p64
             try clear c68
             try clear c68b0
             try clear c68b1
             try clear p69
             try clear q69
             try clear hx69
             try clear hf69
             try clear c71
             try clear q71
             try clear p76
             try clear q76
             try clear hx76
             try clear hf76
             try clear c78
             try clear q78
             try clear hx229_0
             try clear hx229_1
             try clear hx229_2
             try clear hx229_3
             try clear hx229_4
             try clear hx229_5
             try clear hx234_0
             try clear hx234_1
             try clear hx238_0
             try clear hx239_0
             try clear hx243_0
             try clear hx57_0
             try clear hx61_0
             try clear hx69_0
             try clear hx76_0
             try clear p2
             try clear p22
             try clear p229
             try clear p23
             try clear p234
             try clear p238
             try clear p239
             try clear p243
             try clear p57
             try clear p61
             try clear p69
             try clear p76
             try clear q2
             try clear q22
             try clear q229
             try clear q23
             try clear q234
             try clear q238
             try clear q239
             try clear q243
             try clear q57
             try clear q61
             try clear q69
             try clear q76
             obtain ⟨x5_3, x83_3, x85_3, rfl, HA, HK3, HO_5, HO_83, BK222, BK225, BK230, HB⟩ := hrel
             have hl83_3 := (Kd.XK HO_83.out).1
             rw [hl83_3] at HO_83
             (try simp only [hl83_3])
             (try simp only [hl83_3] at BK222)
             (try simp only [hl83_3] at BK225)
             (try simp only [hl83_3] at BK230)
             (try simp only [hl83_3] at HO_5)
             cases gk with
             | zero => exact absurd HA.out (by simp [Qf.l3])
             | succ k3 =>
              have H := HA.out
              clear HA
              simp only [Qf.l3] at H
              by_cases c84 : x85_3 < (x8_2.length : Int)
              ·rw [if_pos c84] at H
               have c84b0 : decide (x85_3 < (x8_2.length : Int)) = true := decide_eq_true c84
               clear c84
               by_cases c85 : 0 ≤ x85_3
               ·rw [if_pos c85] at H
                have c85b0 : decide (0 ≤ x85_3) = true := decide_eq_true c85
                clear c85
                by_cases c86 : x85_3 < (x83_3.length : Int)
                ·rw [if_pos c86] at H
                 have c86b0 : decide (x85_3 < (x83_3.length : Int)) = true := decide_eq_true c86
                 clear c86
                 by_cases c87 : 0 ≤ x27_1
                 ·rw [if_pos c87] at H
                  have c87b0 : decide (0 ≤ x27_1) = true := decide_eq_true c87
                  clear c87
                  by_cases c88 : x27_1 < (x5_3.length : Int)
                  ·rw [if_pos c88] at H
                   have c88b0 : decide (x27_1 < (x5_3.length : Int)) = true := decide_eq_true c88
                   clear c88
                   by_cases c89 : x85_3 < ((QM x5_3 x27_1).length : Int)
                   ·rw [if_pos c89] at H
                    have c89b0 : decide (x85_3 < ((QM x5_3 x27_1).length : Int)) = true := decide_eq_true c89
                    clear c89
                    obtain ⟨bq90, hbq90⟩ : ∃ b_ : Bool, b_ = (rdOf false (QM x5_3 x27_1) x85_3) := ⟨_, rfl⟩
                    replace H : (if bq90 = true then (Qf.l3 k3 l0 (x5_3.set (x27_1 : Int).toNat ((QM x5_3 x27_1).set (x85_3 : Int).toNat true)) x27_1 l0 (l0.length : Int) x27_1 x83_3 (x8_2.length : Int) (wrap64 (x85_3 + 1))) else (Qf.l3 k3 l0 (x5_3.set (x27_1 : Int).toNat ((QM x5_3 x27_1).set (x85_3 : Int).toNat (rdOf false x83_3 x85_3))) x27_1 l0 (l0.length : Int) x27_1 x83_3 (x8_2.length : Int) (wrap64 (x85_3 + 1)))) = some (r1, r2, r3) := by rw [← hbq90] at H; exact H
                    have Nbq90 := Q0.mk hbq90
                    clear hbq90
                    by_cases c91 : bq90 = true
                    ·subst c91
                     rw [if_pos rfl] at H
                     obtain ⟨y251, hy251⟩ : ∃ y_ : List Bool, y_ = ((QM x5_3 x27_1).set (x85_3 : Int).toNat true) := ⟨_, rfl⟩
                     replace H : (Qf.l3 k3 l0 (x5_3.set (x27_1 : Int).toNat y251) x27_1 l0 (l0.length : Int) x27_1 x83_3 (x8_2.length : Int) (wrap64 (x85_3 + 1))) = some (r1, r2, r3) := by first | (rw [hy251]; with_reducible exact H) | (have H2_ := (Option.bind_some _ _).symm.trans H; rw [hy251]; with_reducible exact H2_) | (have H2_ := (Option.bind_some _ _).symm.trans H; with_reducible exact H2_) | with_reducible exact H | (rw [hy251]; exact H) | exact H
                     have Ny251 := Q0.mk hy251
                     clear hy251
                     obtain ⟨y253, hy253⟩ : ∃ y_ : List (List Bool), y_ = (x5_3.set (x27_1 : Int).toNat y251) := ⟨_, rfl⟩
                     replace H : (Qf.l3 k3 l0 y253 x27_1 l0 (l0.length : Int) x27_1 x83_3 (x8_2.length : Int) (wrap64 (x85_3 + 1))) = some (r1, r2, r3) := by first | (rw [hy253]; with_reducible exact H) | (have H2_ := (Option.bind_some _ _).symm.trans H; rw [hy253]; with_reducible exact H2_) | (have H2_ := (Option.bind_some _ _).symm.trans H; with_reducible exact H2_) | with_reducible exact H | (rw [hy253]; exact H) | exact H
                     have Ny253 := Q0.mk hy253
                     clear hy253
                     have H' := Q0.mk H
                     clear H
                     have p247 : 0 ≤ (x85_3 : Int) := of_decide_eq_true ‹_›
                     have q247 : x85_3 < (x83_3.length : Int) := of_decide_eq_true ‹_›
                     obtain ⟨ad247, e247, hx247_0⟩ := Kd.Yt (Kd.XK HO_83.out).2.2 x85_3 p247 q247
                     (try rw [← Nbq90.out] at hx247_0)
                     cases e247
                     replace p247 := eq_true p247
                     replace q247 := eq_true q247
                     try go_wp2
                     have n0_ := Q0.mk (Kd.Xl HO_5.out)
                     have n1_ := Q0.mk (Kd.XT HO_83.out)
                     have n2_ := Q0.mk (Qa BK222.out)
                     have n3_ := Q0.mk (Qa BK225.out)
                     have n4_ := Q0.mk (Qa BK230.out)
                     have n5_ := Q0.mk (Q6 HB.out)
                     clear HO_5
                     clear HO_83
                     clear BK222
                     clear BK225
                     clear BK230
                     clear HB
                     have HO_5 := n0_
                     have HO_83 := n1_
                     have BK222 := n2_
                     have BK225 := n3_
                     have BK230 := n4_
                     have HB := n5_
                     clear n0_ n1_ n2_ n3_ n4_ n5_
                     obtain ⟨Ao94, co94, eo94⟩ := Kd.S_slice HO_5.out
                     (first | subst eo94 | (injection eo94 with f1_ f2_ f3_; have f4_ := f1_.symm; have f5_ := f3_.symm; clear f1_ f2_ f3_; subst f4_; subst f5_))
                     have p248 : 0 ≤ (x27_1 : Int) := of_decide_eq_true ‹_›
                     have q248 : x27_1 < (x5_3.length : Int) := of_decide_eq_true ‹_›
                     obtain ⟨ad248, A248_0, c248_0, e248, hx248_0, hl248_0, hi248_0⟩ := Yc (Kd.XC HO_5.out).2.2 x27_1 p248 q248
                     cases e248
                     obtain ⟨ce248, hce248, hMe248, hcc248⟩ := Kd.S_get HO_5.out [] x27_1 p248 (by first | exact q248 | exact of_decide_eq_true ‹_› | (have e_ := (Kd.XC HO_5.out).1; omega))
                     obtain ⟨ve248_0, rfl, ge248_0⟩ := hMe248
                     have hv248_0 := hcc248 0 _ rfl
                     rw [Nat.add_zero, show ((Kd.slice 4 Kd.bool)).sz = 1 from rfl, Nat.mul_one] at hv248_0
                     replace hv248_0 := Option.some.inj (hv248_0.symm.trans hx248_0)
                     rw [hv248_0] at ge248_0
                     have HL248_0 := Q0.mk (show Kd.R Kd.bool 4 _ _ _ _ (QM x5_3 x27_1) from ge248_0)
                     clear hv248_0 ge248_0
                     have HX248_0 := Q0.mk hx248_0
                     clear hcc248 hce248
                     have HR248_0 := Q0.mk hi248_0
                     have HC248_0 := Q0.mk hl248_0
                     clear hi248_0 hl248_0
                     replace p248 := eq_true p248
                     replace q248 := eq_true q248
                     have p249 : 0 ≤ (x27_1 : Int) := of_decide_eq_true ‹_›
                     have q249 : x27_1 < (x5_3.length : Int) := of_decide_eq_true ‹_›
                     obtain ⟨ad249, A249_0, c249_0, e249, hx249_0, hl249_0, hi249_0⟩ := Yc (Kd.XC HO_5.out).2.2 x27_1 p249 q249
                     obtain rfl : ad248 = ad249 := (by injection e249)
                     obtain ⟨ce249, hce249, hMe249, hcc249⟩ := Kd.S_get HO_5.out [] x27_1 p249 (by first | exact q249 | exact of_decide_eq_true ‹_› | (have e_ := (Kd.XC HO_5.out).1; omega))
                     obtain ⟨ve249_0, rfl, ge249_0⟩ := hMe249
                     have hv249_0 := hcc249 0 _ rfl
                     rw [Nat.add_zero, show ((Kd.slice 4 Kd.bool)).sz = 1 from rfl, Nat.mul_one] at hv249_0
                     replace hv249_0 := Option.some.inj (hv249_0.symm.trans hx249_0)
                     rw [hv249_0] at ge249_0
                     have HL249_0 := Q0.mk (show Kd.R Kd.bool 4 _ _ _ _ (QM x5_3 x27_1) from ge249_0)
                     clear hv249_0 ge249_0
                     have HX249_0 := Q0.mk hx249_0
                     clear hcc249 hce249
                     have HR249_0 := Q0.mk hi249_0
                     have HC249_0 := Q0.mk hl249_0
                     clear hi249_0 hl249_0
                     replace p249 := eq_true p249
                     replace q249 := eq_true q249
                     have ea_ := Option.some.inj (hx248_0.symm.trans hx249_0)
                     injection ea_ with ea_ en_ ec_
                     subst ea_
                     subst ec_
                     clear en_
                     have p250 : 0 ≤ (x85_3 : Int) := of_decide_eq_true ‹_›
                     have q250 : x85_3 < ((QM x5_3 x27_1).length : Int) := of_decide_eq_true ‹_›
                     obtain ⟨ad250, e250, hx250_0⟩ := Kd.Yt (by repeat (first | (with_reducible exact HR249_0.out) | (with_reducible refine Kd.QT ?_ _) | (with_reducible refine Kd.QS ?_ _) | (with_reducible refine Kd.X6 ?_) | exact HR249_0.out)) x85_3 p250 q250
                     (try rw [← Nbq90.out] at hx250_0)
                     cases e250
                     replace p250 := eq_true p250
                     replace q250 := eq_true q250
                     have p92 : 0 ≤ (x85_3 : Int) := of_decide_eq_true ‹_›
                     have q92 : (x85_3 : Int) < (((QM x5_3 x27_1).length : Int) : Int) := of_decide_eq_true ‹_›
                     obtain ⟨go92, co92, eo92, gb92, gl92, cl92, HG92⟩ := Kd.R_form HL248_0.out (by omega)
                     (first | cases eo92 | (injection eo92 with ea_ en_ ec_; (first | subst ea_ | (injection ea_ with ea_; subst ea_)); subst ec_; clear en_))
                     have GB92 := Q0.mk gb92
                     have GG92 := Q0.mk HG92
                     clear gb92 gl92 HG92
                     (first | simp only [add_plain] at hx250_0 | skip)
                     obtain ⟨hx92_0, hf92_0⟩ := Kd.Yg false HL248_0.out (x85_3 : Int) p92 q92
                     replace p92 := eq_true p92
                     replace q92 := eq_true q92
                     have hq95 : (x27_1 : Int) < (x5_3.length : Int) := (by have h_ : (x27_1 : Int) < ((x5_3.length : Int) : Int) := of_decide_eq_true ‹_›; first | exact h_ | (have e_ := (Kd.XC HO_5.out).1; omega) | simpa only [List.length_set, List.length_set] using h_)
                     obtain ⟨oki95, ce95, hcl95, hM95, hcc95, hok95, hbk95⟩ := Kd.S_borrow HO_5.out [] (x27_1 : Int) (of_decide_eq_true ‹_›) hq95
                     obtain ⟨ve95_0, rfl, ge95_0⟩ := hM95
                     have hv95 := hcc95 0 _ rfl
                     rw [Nat.add_zero, show ((Kd.slice 4 Kd.bool)).sz = 1 from rfl, Nat.mul_one] at hv95
                     replace hv95 := Option.some.inj (hv95.symm.trans HX248_0.out)
                     subst hv95
                     clear hcc95 hcl95
                     replace ge95_0 := (show Kd.R Kd.bool 4 _ _ _ _ (QM x5_3 x27_1) from ge95_0)
                     have HP95 := Kd.R_putg ge95_0 (x85_3 : Int) true
                     rw [← Ny251.out] at HP95
                     have HS95 := hbk95 HP95.2 (fun k_ e_ => by injection e_ with e_; subst e_; exact ge95_0.1 _ rfl) (x' := y251) (Kd.M_row HP95.1)
                     rw [← Ny253.out] at HS95
                     have HQ95 := Q0.mk HS95
                     clear HP95 HS95 hbk95 hok95
                     refine start_ (n := 17) (S := fun w' => w'.cell? (ad248.add (x27_1).toNat) = some (.slice (some (⟨go92, 0, none⟩ : Addr)) (QM x5_3 x27_1).length c248_0) ∧ w'.cell? (ad248.add (x27_1).toNat) = some (.slice (some (⟨go92, 0, none⟩ : Addr)) (QM x5_3 x27_1).length c248_0) ∧ w'.cell? ⟨go92, (x85_3).toNat, none⟩ = some (.bool true)) (ds := [16]) #[false, false, false, false, false, false, false, false, false, false, false, false, false, false, false, false, false] (by kernel_rfl) rfl rfl ⟨hx248_0, hx249_0, hx250_0⟩ (fun hHeld => ?_); refine with_tabW Qf.tab23 Qf.bits23 (fun HT_ HW_ => ?_)
                     generalize wr.drew = w93 at HO_5 HO_83 BK222 BK225 BK230 HB GG92 HL248_0 HL249_0 HQ95 HR248_0 HR249_0 HX248_0 HX249_0 hf92_0 hx248_0 hx249_0 hx250_0 hx92_0 hHeld ⊢
                     refine Xf (i := 0) (N := some 90) (v := ?_) (a' := ?_) #[true, false, false, false, false, false, false, false, false, false, false, false, false, false, false, false, false] rfl rfl (QX HT_.out (by kernel_rfl)) (fun _ _ _ h => h) (Or.inl ⟨by rfl, ?_⟩) ?_ ?_
                     rotate_left
                     ·intro w'
                      go_simp
                      with_reducible rfl
                     rotate_left
                     ·simp only [Act.put, List.setIfInBounds_toArray, List.set_cons_zero, List.set_cons_succ, QO, QP]
                      rfl
                     refine Xf (i := 1) (N := some 91) (v := ?_) (a' := ?_) #[true, true, false, false, false, false, false, false, false, false, false, false, false, false, false, false, false] rfl rfl (QX HT_.out (by kernel_rfl)) (fun _ _ _ h => h) (Or.inl ⟨by rfl, ?_⟩) ?_ ?_
                     rotate_left
                     ·intro w'
                      go_simp
                      with_reducible rfl
                     rotate_left
                     ·simp only [Act.put, List.setIfInBounds_toArray, List.set_cons_zero, List.set_cons_succ, QO, QP]
                      rfl
                     refine Xf (i := 2) (N := some 92) (v := ?_) (a' := ?_) #[true, true, true, false, false, false, false, false, false, false, false, false, false, false, false, false, false] rfl rfl (QX HT_.out (by kernel_rfl)) (fun _ _ _ h => h) (Or.inl ⟨by rfl, ?_⟩) ?_ ?_
                     rotate_left
                     ·intro w'
                      go_simp
                      with_reducible rfl
                     rotate_left
                     ·simp only [Act.put, List.setIfInBounds_toArray, List.set_cons_zero, List.set_cons_succ, QO, QP]
                      rfl
                     refine Xf (i := 4) (N := some 94) (v := ?_) (a' := ?_) #[true, true, true, false, true, false, false, false, false, false, false, false, false, false, false, false, false] rfl rfl (QX HT_.out (by kernel_rfl)) (fun _ _ _ h => h) (Or.inl ⟨by rfl, ?_⟩) ?_ ?_
                     rotate_left
                     ·intro w'
                      go_simp
                      with_reducible rfl
                     rotate_left
                     ·simp only [Act.put, List.setIfInBounds_toArray, List.set_cons_zero, List.set_cons_succ, QO, QP]
                      rfl
                     refine Xf (i := 5) (N := some 95) (v := ?_) (a' := ?_) #[true, true, true, false, true, true, false, false, false, false, false, false, false, false, false, false, false] rfl rfl (QX HT_.out (by kernel_rfl)) (fun _ _ _ h => h) (Or.inl ⟨by rfl, ?_⟩) ?_ ?_
                     rotate_left
                     ·intro w'
                      go_simp
                      with_reducible rfl
                     rotate_left
                     ·simp only [Act.put, List.setIfInBounds_toArray, List.set_cons_zero, List.set_cons_succ, QO, QP]
                      rfl
                     refine Xf (i := 6) (N := some 96) (v := ?_) (a' := ?_) #[true, true, true, false, true, true, true, false, false, false, false, false, false, false, false, false, false] rfl rfl (QX HT_.out (by kernel_rfl)) (fun _ _ _ h => h) (Or.inl ⟨by rfl, ?_⟩) ?_ ?_
                     rotate_left
                     ·intro w'
                      go_simp
                      with_reducible rfl
                     rotate_left
                     ·simp only [Act.put, List.setIfInBounds_toArray, List.set_cons_zero, List.set_cons_succ, QO, QP]
                      rfl
                     refine Xf (i := 7) (N := some 97) (v := ?_) (a' := ?_) #[true, true, true, false, true, true, true, true, false, false, false, false, false, false, false, false, false] rfl rfl (QX HT_.out (by kernel_rfl)) (fun _ _ _ h => h) (Or.inl ⟨by rfl, ?_⟩) ?_ ?_
                     rotate_left
                     ·intro w'
                      go_simp
                      with_reducible rfl
                     rotate_left
                     ·simp only [Act.put, List.setIfInBounds_toArray, List.set_cons_zero, List.set_cons_succ, QO, QP]
                      rfl
                     refine Xf (i := 9) (N := some 99) (v := ?_) (a' := ?_) #[true, true, true, false, true, true, true, true, false, true, false, false, false, false, false, false, false] rfl rfl (QX HT_.out (by kernel_rfl)) (fun _ _ _ h => h) (Or.inl ⟨by rfl, ?_⟩) ?_ ?_
                     rotate_left
                     ·intro w'
                      go_simp
                      with_reducible rfl
                     rotate_left
                     ·simp only [Act.put, List.setIfInBounds_toArray, List.set_cons_zero, List.set_cons_succ, QO, QP]
                      rfl
                     refine Yk (i := 3) (N := some 93) (v := ?_) (a' := ?_) #[true, true, true, true, true, true, true, true, false, true, false, false, false, false, false, false, false] rfl rfl (XU HT_.out HW_.out (by kernel_rfl)) (fun _ _ _ h => h) (Or.inl ⟨by rfl, ?_⟩) hHeld ?_ ?_
                     rotate_left
                     ·rintro w' ⟨s0, s1, s2⟩
                      go_simp
                      with_reducible rfl
                     rotate_left
                     ·simp only [Act.put, List.setIfInBounds_toArray, List.set_cons_zero, List.set_cons_succ, QO, QP]
                      rfl
                     refine Yk (i := 8) (N := some 98) (v := ?_) (a' := ?_) #[true, true, true, true, true, true, true, true, true, true, false, false, false, false, false, false, false] rfl rfl (XU HT_.out HW_.out (by kernel_rfl)) (fun _ _ _ h => h) (Or.inl ⟨by rfl, ?_⟩) hHeld ?_ ?_
                     rotate_left
                     ·rintro w' ⟨s0, s1, s2⟩
                      go_simp
                      with_reducible rfl
                     rotate_left
                     ·simp only [Act.put, List.setIfInBounds_toArray, List.set_cons_zero, List.set_cons_succ, QO, QP]
                      rfl
                     refine Xf (i := 10) (N := some 100) (v := ?_) (a' := ?_) #[true, true, true, true, true, true, true, true, true, true, true, false, false, false, false, false, false] rfl rfl (QX HT_.out (by kernel_rfl)) (fun _ _ _ h => h) (Or.inl ⟨by rfl, ?_⟩) ?_ ?_
                     rotate_left
                     ·intro w'
                      go_simp
                      with_reducible rfl
                     rotate_left
                     ·simp only [Act.put, List.setIfInBounds_toArray, List.set_cons_zero, List.set_cons_succ, QO, QP]
                      rfl
                     refine Yk (i := 11) (N := some 101) (v := ?_) (a' := ?_) #[true, true, true, true, true, true, true, true, true, true, true, true, false, false, false, false, false] rfl rfl (XU HT_.out HW_.out (by kernel_rfl)) (fun _ _ _ h => h) (Or.inl ⟨by rfl, ?_⟩) hHeld ?_ ?_
                     rotate_left
                     ·rintro w' ⟨s0, s1, s2⟩
                      go_simp
                      with_reducible rfl
                     rotate_left
                     ·simp only [Act.put, List.setIfInBounds_toArray, List.set_cons_zero, List.set_cons_succ, QO, QP]
                      rfl
                     refine Xf (i := 12) (N := some 102) (v := ?_) (a' := ?_) #[true, true, true, true, true, true, true, true, true, true, true, true, true, false, false, false, false] rfl rfl (QX HT_.out (by kernel_rfl)) (fun _ _ _ h => h) (Or.inl ⟨by rfl, ?_⟩) ?_ ?_
                     rotate_left
                     ·intro w'
                      go_simp
                      with_reducible rfl
                     rotate_left
                     ·simp only [Act.put, List.setIfInBounds_toArray, List.set_cons_zero, List.set_cons_succ, QO, QP]
                      rfl
                     refine Xf (i := 13) (N := some 103) (v := undef) (a' := ?_) #[true, true, true, true, true, true, true, true, true, true, true, true, true, true, false, false, false] rfl rfl (QX HT_.out (by kernel_rfl)) (fun _ _ _ h => h) (Or.inr ⟨by rfl, rfl⟩) ?_ ?_
                     rotate_left
                     ·simp only [Act.put, List.setIfInBounds_toArray, List.set_cons_zero, List.set_cons_succ, QO, QP]
                      rfl
                     refine Xf (i := 14) (N := some 104) (v := ?_) (a' := ?_) #[true, true, true, true, true, true, true, true, true, true, true, true, true, true, true, false, false] rfl rfl (QX HT_.out (by kernel_rfl)) (fun _ _ _ h => h) (Or.inl ⟨by rfl, ?_⟩) ?_ ?_
                     rotate_left
                     ·intro w'
                      go_simp
                      with_reducible rfl
                     rotate_left
                     ·simp only [Act.put, List.setIfInBounds_toArray, List.set_cons_zero, List.set_cons_succ, QO, QP]
                      rfl
                     refine Xf (i := 15) (N := some 105) (v := ?_) (a' := ?_) #[true, true, true, true, true, true, true, true, true, true, true, true, true, true, true, true, false] rfl rfl (QX HT_.out (by kernel_rfl)) (fun _ _ _ h => h) (Or.inl ⟨by rfl, ?_⟩) ?_ ?_
                     rotate_left
                     ·intro w'
                      go_simp
                      with_reducible rfl
                     rotate_left
                     ·simp only [Act.put, List.setIfInBounds_toArray, List.set_cons_zero, List.set_cons_succ, QO, QP]
                      rfl
                     refine last_ (i := 16) (N := none) #[true, true, true, true, true, true, true, true, true, true, true, true, true, true, true, true, true] rfl rfl (one_of HT_.out (by kernel_rfl)) (by decide) (fun K hK => ?_)
                     refine skip_ (w1 := ?_) (by rfl) rfl ?_ ?_
                     rotate_left
                     ·go_simp
                      rfl
                     refine hK.out _ _ ?_
                     clear hK K
                     refine done_ (done_of HT_.out (by kernel_rfl)) ?_
                     try go_wp2
                     (try simp only [← hl83_3])
                     go_roundg k3
                     case measure => have := HK1.out; have := HK2.out; have := HK3.out; omega
                     case rel => exact ⟨(y253), (x83_3), (wrap64 (x85_3 + 1)), (by first | rfl | (simp [*]; done)), H', ⟨by have := HK1.out; have := HK2.out; have := HK3.out; omega⟩, ⟨by (try simp only [hl83_3]); (with_reducible repeat (first | apply Kd.X9 | apply Kd.X8 | apply Kd.Xl)); exact HQ95.out⟩, ⟨by (try simp only [hl83_3]); (with_reducible repeat (first | apply Kd.XN | apply Kd.XM | apply Kd.XT)); exact Kd.XA (Kd.R_far (p := ⟨go92, (x85_3 : Int).toNat, none⟩) (Kd.R_far1 HO_83.out rfl ((HL248_0.out.1 _ rfl).1)) (fun _ hk => hk.2) (.bool true)) (fun _ hk => trivial)⟩, ⟨by (try simp only [hl83_3]); (with_reducible repeat (first | refine Q7 ?_ _ | refine Qa ?_ | refine Q8 ?_ _)); refine Xw ?_ (by have h_ := Kd.R_ne HL248_0.out BK222.out (by decide); intro e_; exact h_ (by rw [e_]; rfl)) _; (with_reducible repeat (first | refine Q7 ?_ _ | refine Qa ?_ | refine Q8 ?_ _)); exact BK222.out⟩, ⟨by (try simp only [hl83_3]); (with_reducible repeat (first | refine Q7 ?_ _ | refine Qa ?_ | refine Q8 ?_ _)); refine Xw ?_ (by have h_ := Kd.R_ne HL248_0.out BK225.out (by decide); intro e_; exact h_ (by rw [e_]; rfl)) _; (with_reducible repeat (first | refine Q7 ?_ _ | refine Qa ?_ | refine Q8 ?_ _)); exact BK225.out⟩, ⟨by (try simp only [hl83_3]); (with_reducible repeat (first | refine Q7 ?_ _ | refine Qa ?_ | refine Q8 ?_ _)); refine Xw ?_ (by have h_ := Kd.R_ne HL248_0.out BK230.out (by decide); intro e_; exact h_ (by rw [e_]; rfl)) _; (with_reducible repeat (first | refine Q7 ?_ _ | refine Qa ?_ | refine Q8 ?_ _)); exact BK230.out⟩, ⟨by repeat (first | exact HB.out | apply Q4 | apply Q2 | apply Q6 | refine Q1 ?_ GB92.out | refine Q1 ?_ GE222.out | refine Q1 ?_ GE225.out | refine Q1 ?_ GE230.out)⟩⟩
                    ·replace c91 := Bool.eq_false_iff.mpr c91
                     subst c91
                     rw [if_neg (show ¬ (false = true) by decide)] at H
                     obtain ⟨y254, hy254⟩ : ∃ y_ : List Bool, y_ = ((QM x5_3 x27_1).set (x85_3 : Int).toNat (rdOf false x83_3 x85_3)) := ⟨_, rfl⟩
                     replace H : (Qf.l3 k3 l0 (x5_3.set (x27_1 : Int).toNat y254) x27_1 l0 (l0.length : Int) x27_1 x83_3 (x8_2.length : Int) (wrap64 (x85_3 + 1))) = some (r1, r2, r3) := by first | (rw [hy254]; with_reducible exact H) | (have H2_ := (Option.bind_some _ _).symm.trans H; rw [hy254]; with_reducible exact H2_) | (have H2_ := (Option.bind_some _ _).symm.trans H; with_reducible exact H2_) | with_reducible exact H | (rw [hy254]; exact H) | exact H
                     have Ny254 := Q0.mk hy254
                     clear hy254
                     obtain ⟨y256, hy256⟩ : ∃ y_ : List (List Bool), y_ = (x5_3.set (x27_1 : Int).toNat y254) := ⟨_, rfl⟩
                     replace H : (Qf.l3 k3 l0 y256 x27_1 l0 (l0.length : Int) x27_1 x83_3 (x8_2.length : Int) (wrap64 (x85_3 + 1))) = some (r1, r2, r3) := by first | (rw [hy256]; with_reducible exact H) | (have H2_ := (Option.bind_some _ _).symm.trans H; rw [hy256]; with_reducible exact H2_) | (have H2_ := (Option.bind_some _ _).symm.trans H; with_reducible exact H2_) | with_reducible exact H | (rw [hy256]; exact H) | exact H
                     have Ny256 := Q0.mk hy256
                     clear hy256
                     have H' := Q0.mk H
                     clear H
                     have p247 : 0 ≤ (x85_3 : Int) := of_decide_eq_true ‹_›
                     have q247 : x85_3 < (x83_3.length : Int) := of_decide_eq_true ‹_›
                     obtain ⟨ad247, e247, hx247_0⟩ := Kd.Yt (Kd.XK HO_83.out).2.2 x85_3 p247 q247
                     (try rw [← Nbq90.out] at hx247_0)
                     cases e247
                     replace p247 := eq_true p247
                     replace q247 := eq_true q247
                     try go_wp2
                     have n0_ := Q0.mk (Kd.Xl HO_5.out)
                     have n1_ := Q0.mk (Kd.XT HO_83.out)
                     have n2_ := Q0.mk (Qa BK222.out)
                     have n3_ := Q0.mk (Qa BK225.out)
                     have n4_ := Q0.mk (Qa BK230.out)
                     have n5_ := Q0.mk (Q6 HB.out)
                     clear HO_5
                     clear HO_83
                     clear BK222
                     clear BK225
                     clear BK230
                     clear HB
                     have HO_5 := n0_
                     have HO_83 := n1_
                     have BK222 := n2_
                     have BK225 := n3_
                     have BK230 := n4_
                     have HB := n5_
                     clear n0_ n1_ n2_ n3_ n4_ n5_
                     obtain ⟨Ao99, co99, eo99⟩ := Kd.S_slice HO_5.out
                     (first | subst eo99 | (injection eo99 with f1_ f2_ f3_; have f4_ := f1_.symm; have f5_ := f3_.symm; clear f1_ f2_ f3_; subst f4_; subst f5_))
                     have p248 : 0 ≤ (x27_1 : Int) := of_decide_eq_true ‹_›
                     have q248 : x27_1 < (x5_3.length : Int) := of_decide_eq_true ‹_›
                     obtain ⟨ad248, A248_0, c248_0, e248, hx248_0, hl248_0, hi248_0⟩ := Yc (Kd.XC HO_5.out).2.2 x27_1 p248 q248
                     cases e248
                     obtain ⟨ce248, hce248, hMe248, hcc248⟩ := Kd.S_get HO_5.out [] x27_1 p248 (by first | exact q248 | exact of_decide_eq_true ‹_› | (have e_ := (Kd.XC HO_5.out).1; omega))
                     obtain ⟨ve248_0, rfl, ge248_0⟩ := hMe248
                     have hv248_0 := hcc248 0 _ rfl
                     rw [Nat.add_zero, show ((Kd.slice 4 Kd.bool)).sz = 1 from rfl, Nat.mul_one] at hv248_0
                     replace hv248_0 := Option.some.inj (hv248_0.symm.trans hx248_0)
                     rw [hv248_0] at ge248_0
                     have HL248_0 := Q0.mk (show Kd.R Kd.bool 4 _ _ _ _ (QM x5_3 x27_1) from ge248_0)
                     clear hv248_0 ge248_0
                     have HX248_0 := Q0.mk hx248_0
                     clear hcc248 hce248
                     have HR248_0 := Q0.mk hi248_0
                     have HC248_0 := Q0.mk hl248_0
                     clear hi248_0 hl248_0
                     replace p248 := eq_true p248
                     replace q248 := eq_true q248
                     have p249 : 0 ≤ (x27_1 : Int) := of_decide_eq_true ‹_›
                     have q249 : x27_1 < (x5_3.length : Int) := of_decide_eq_true ‹_›
                     obtain ⟨ad249, A249_0, c249_0, e249, hx249_0, hl249_0, hi249_0⟩ := Yc (Kd.XC HO_5.out).2.2 x27_1 p249 q249
                     obtain rfl : ad248 = ad249 := (by injection e249)
                     obtain ⟨ce249, hce249, hMe249, hcc249⟩ := Kd.S_get HO_5.out [] x27_1 p249 (by first | exact q249 | exact of_decide_eq_true ‹_› | (have e_ := (Kd.XC HO_5.out).1; omega))
                     obtain ⟨ve249_0, rfl, ge249_0⟩ := hMe249
                     have hv249_0 := hcc249 0 _ rfl
                     rw [Nat.add_zero, show ((Kd.slice 4 Kd.bool)).sz = 1 from rfl, Nat.mul_one] at hv249_0
                     replace hv249_0 := Option.some.inj (hv249_0.symm.trans hx249_0)
                     rw [hv249_0] at ge249_0
                     have HL249_0 := Q0.mk (show Kd.R Kd.bool 4 _ _ _ _ (QM x5_3 x27_1) from ge249_0)
                     clear hv249_0 ge249_0
                     have HX249_0 := Q0.mk hx249_0
                     clear hcc249 hce249
                     have HR249_0 := Q0.mk hi249_0
                     have HC249_0 := Q0.mk hl249_0
                     clear hi249_0 hl249_0
                     replace p249 := eq_true p249
                     replace q249 := eq_true q249
                     have ea_ := Option.some.inj (hx248_0.symm.trans hx249_0)
                     injection ea_ with ea_ en_ ec_
                     subst ea_
                     subst ec_
                     clear en_
                     have p250 : 0 ≤ (x85_3 : Int) := of_decide_eq_true ‹_›
                     have q250 : x85_3 < ((QM x5_3 x27_1).length : Int) := of_decide_eq_true ‹_›
                     obtain ⟨ad250, e250, hx250_0⟩ := Kd.Yt (by repeat (first | (with_reducible exact HR249_0.out) | (with_reducible refine Kd.QT ?_ _) | (with_reducible refine Kd.QS ?_ _) | (with_reducible refine Kd.X6 ?_) | exact HR249_0.out)) x85_3 p250 q250
                     (try rw [← Nbq90.out] at hx250_0)
                     cases e250
                     replace p250 := eq_true p250
                     replace q250 := eq_true q250
                     have p97 : 0 ≤ (x85_3 : Int) := of_decide_eq_true ‹_›
                     have q97 : (x85_3 : Int) < (((QM x5_3 x27_1).length : Int) : Int) := of_decide_eq_true ‹_›
                     obtain ⟨go97, co97, eo97, gb97, gl97, cl97, HG97⟩ := Kd.R_form HL248_0.out (by omega)
                     (first | cases eo97 | (injection eo97 with ea_ en_ ec_; (first | subst ea_ | (injection ea_ with ea_; subst ea_)); subst ec_; clear en_))
                     have GB97 := Q0.mk gb97
                     have GG97 := Q0.mk HG97
                     clear gb97 gl97 HG97
                     (first | simp only [add_plain] at hx250_0 | skip)
                     obtain ⟨hx97_0, hf97_0⟩ := Kd.Yg false HL248_0.out (x85_3 : Int) p97 q97
                     replace p97 := eq_true p97
                     replace q97 := eq_true q97
                     have hq100 : (x27_1 : Int) < (x5_3.length : Int) := (by have h_ : (x27_1 : Int) < ((x5_3.length : Int) : Int) := of_decide_eq_true ‹_›; first | exact h_ | (have e_ := (Kd.XC HO_5.out).1; omega) | simpa only [List.length_set, List.length_set] using h_)
                     obtain ⟨oki100, ce100, hcl100, hM100, hcc100, hok100, hbk100⟩ := Kd.S_borrow HO_5.out [] (x27_1 : Int) (of_decide_eq_true ‹_›) hq100
                     obtain ⟨ve100_0, rfl, ge100_0⟩ := hM100
                     have hv100 := hcc100 0 _ rfl
                     rw [Nat.add_zero, show ((Kd.slice 4 Kd.bool)).sz = 1 from rfl, Nat.mul_one] at hv100
                     replace hv100 := Option.some.inj (hv100.symm.trans HX248_0.out)
                     subst hv100
                     clear hcc100 hcl100
                     replace ge100_0 := (show Kd.R Kd.bool 4 _ _ _ _ (QM x5_3 x27_1) from ge100_0)
                     have HP100 := Kd.R_putg ge100_0 (x85_3 : Int) (rdOf false x83_3 x85_3)
                     rw [← Ny254.out] at HP100
                     have HS100 := hbk100 HP100.2 (fun k_ e_ => by injection e_ with e_; subst e_; exact ge100_0.1 _ rfl) (x' := y254) (Kd.M_row HP100.1)
                     rw [← Ny256.out] at HS100
                     have HQ100 := Q0.mk HS100
                     clear HP100 HS100 hbk100 hok100
                     refine start_ (n := 17) (S := fun w' => w'.cell? (ad248.add (x27_1).toNat) = some (.slice (some (⟨go97, 0, none⟩ : Addr)) (QM x5_3 x27_1).length c248_0) ∧ w'.cell? (ad248.add (x27_1).toNat) = some (.slice (some (⟨go97, 0, none⟩ : Addr)) (QM x5_3 x27_1).length c248_0) ∧ w'.cell? ⟨go97, (x85_3).toNat, none⟩ = some (.bool false)) (ds := [16]) #[false, false, false, false, false, false, false, false, false, false, false, false, false, false, false, false, false] (by kernel_rfl) rfl rfl ⟨hx248_0, hx249_0, hx250_0⟩ (fun hHeld => ?_); refine with_tabW Qf.tab23 Qf.bits23 (fun HT_ HW_ => ?_)
                     generalize wr.drew = w98 at HO_5 HO_83 BK222 BK225 BK230 HB GG97 HL248_0 HL249_0 HQ100 HR248_0 HR249_0 HX248_0 HX249_0 hf97_0 hx248_0 hx249_0 hx250_0 hx97_0 hHeld ⊢
                     refine Xf (i := 0) (N := some 90) (v := ?_) (a' := ?_) #[true, false, false, false, false, false, false, false, false, false, false, false, false, false, false, false, false] rfl rfl (QX HT_.out (by kernel_rfl)) (fun _ _ _ h => h) (Or.inl ⟨by rfl, ?_⟩) ?_ ?_
                     rotate_left
                     ·intro w'
                      go_simp
                      with_reducible rfl
                     rotate_left
                     ·simp only [Act.put, List.setIfInBounds_toArray, List.set_cons_zero, List.set_cons_succ, QO, QP]
                      rfl
                     refine Xf (i := 1) (N := some 91) (v := ?_) (a' := ?_) #[true, true, false, false, false, false, false, false, false, false, false, false, false, false, false, false, false] rfl rfl (QX HT_.out (by kernel_rfl)) (fun _ _ _ h => h) (Or.inl ⟨by rfl, ?_⟩) ?_ ?_
                     rotate_left
                     ·intro w'
                      go_simp
                      with_reducible rfl
                     rotate_left
                     ·simp only [Act.put, List.setIfInBounds_toArray, List.set_cons_zero, List.set_cons_succ, QO, QP]
                      rfl
                     refine Xf (i := 2) (N := some 92) (v := ?_) (a' := ?_) #[true, true, true, false, false, false, false, false, false, false, false, false, false, false, false, false, false] rfl rfl (QX HT_.out (by kernel_rfl)) (fun _ _ _ h => h) (Or.inl ⟨by rfl, ?_⟩) ?_ ?_
                     rotate_left
                     ·intro w'
                      go_simp
                      with_reducible rfl
                     rotate_left
                     ·simp only [Act.put, List.setIfInBounds_toArray, List.set_cons_zero, List.set_cons_succ, QO, QP]
                      rfl
                     refine Xf (i := 4) (N := some 94) (v := ?_) (a' := ?_) #[true, true, true, false, true, false, false, false, false, false, false, false, false, false, false, false, false] rfl rfl (QX HT_.out (by kernel_rfl)) (fun _ _ _ h => h) (Or.inl ⟨by rfl, ?_⟩) ?_ ?_
                     rotate_left
                     ·intro w'
                      go_simp
                      with_reducible rfl
                     rotate_left
                     ·simp only [Act.put, List.setIfInBounds_toArray, List.set_cons_zero, List.set_cons_succ, QO, QP]
                      rfl
                     refine Xf (i := 5) (N := some 95) (v := ?_) (a' := ?_) #[true, true, true, false, true, true, false, false, false, false, false, false, false, false, false, false, false] rfl rfl (QX HT_.out (by kernel_rfl)) (fun _ _ _ h => h) (Or.inl ⟨by rfl, ?_⟩) ?_ ?_
                     rotate_left
                     ·intro w'
                      go_simp
                      with_reducible rfl
                     rotate_left
                     ·simp only [Act.put, List.setIfInBounds_toArray, List.set_cons_zero, List.set_cons_succ, QO, QP]
                      rfl
                     refine Xf (i := 6) (N := some 96) (v := ?_) (a' := ?_) #[true, true, true, false, true, true, true, false, false, false, false, false, false, false, false, false, false] rfl rfl (QX HT_.out (by kernel_rfl)) (fun _ _ _ h => h) (Or.inl ⟨by rfl, ?_⟩) ?_ ?_
                     rotate_left
                     ·intro w'
                      go_simp
                      with_reducible rfl
                     rotate_left
                     ·simp only [Act.put, List.setIfInBounds_toArray, List.set_cons_zero, List.set_cons_succ, QO, QP]
                      rfl
                     refine Xf (i := 7) (N := some 97) (v := ?_) (a' := ?_) #[true, true, true, false, true, true, true, true, false, false, false, false, false, false, false, false, false] rfl rfl (QX HT_.out (by kernel_rfl)) (fun _ _ _ h => h) (Or.inl ⟨by rfl, ?_⟩) ?_ ?_
                     rotate_left
                     ·intro w'
                      go_simp
                      with_reducible rfl
                     rotate_left
                     ·simp only [Act.put, List.setIfInBounds_toArray, List.set_cons_zero, List.set_cons_succ, QO, QP]
                      rfl
                     refine Xf (i := 9) (N := some 99) (v := ?_) (a' := ?_) #[true, true, true, false, true, true, true, true, false, true, false, false, false, false, false, false, false] rfl rfl (QX HT_.out (by kernel_rfl)) (fun _ _ _ h => h) (Or.inl ⟨by rfl, ?_⟩) ?_ ?_
                     rotate_left
                     ·intro w'
                      go_simp
                      with_reducible rfl
                     rotate_left
                     ·simp only [Act.put, List.setIfInBounds_toArray, List.set_cons_zero, List.set_cons_succ, QO, QP]
                      rfl
                     refine Yk (i := 3) (N := some 93) (v := ?_) (a' := ?_) #[true, true, true, true, true, true, true, true, false, true, false, false, false, false, false, false, false] rfl rfl (XU HT_.out HW_.out (by kernel_rfl)) (fun _ _ _ h => h) (Or.inl ⟨by rfl, ?_⟩) hHeld ?_ ?_
                     rotate_left
                     ·rintro w' ⟨s0, s1, s2⟩
                      go_simp
                      with_reducible rfl
                     rotate_left
                     ·simp only [Act.put, List.setIfInBounds_toArray, List.set_cons_zero, List.set_cons_succ, QO, QP]
                      rfl
                     refine Yk (i := 8) (N := some 98) (v := ?_) (a' := ?_) #[true, true, true, true, true, true, true, true, true, true, false, false, false, false, false, false, false] rfl rfl (XU HT_.out HW_.out (by kernel_rfl)) (fun _ _ _ h => h) (Or.inl ⟨by rfl, ?_⟩) hHeld ?_ ?_
                     rotate_left
                     ·rintro w' ⟨s0, s1, s2⟩
                      go_simp
                      with_reducible rfl
                     rotate_left
                     ·simp only [Act.put, List.setIfInBounds_toArray, List.set_cons_zero, List.set_cons_succ, QO, QP]
                      rfl
                     refine Xf (i := 10) (N := some 100) (v := ?_) (a' := ?_) #[true, true, true, true, true, true, true, true, true, true, true, false, false, false, false, false, false] rfl rfl (QX HT_.out (by kernel_rfl)) (fun _ _ _ h => h) (Or.inl ⟨by rfl, ?_⟩) ?_ ?_
                     rotate_left
                     ·intro w'
                      go_simp
                      with_reducible rfl
                     rotate_left
                     ·simp only [Act.put, List.setIfInBounds_toArray, List.set_cons_zero, List.set_cons_succ, QO, QP]
                      rfl
                     refine Yk (i := 11) (N := some 101) (v := ?_) (a' := ?_) #[true, true, true, true, true, true, true, true, true, true, true, true, false, false, false, false, false] rfl rfl (XU HT_.out HW_.out (by kernel_rfl)) (fun _ _ _ h => h) (Or.inl ⟨by rfl, ?_⟩) hHeld ?_ ?_
                     rotate_left
                     ·rintro w' ⟨s0, s1, s2⟩
                      go_simp
                      with_reducible rfl
                     rotate_left
                     ·simp only [Act.put, List.setIfInBounds_toArray, List.set_cons_zero, List.set_cons_succ, QO, QP]
                      rfl
                     refine Xf (i := 12) (N := some 102) (v := ?_) (a' := ?_) #[true, true, true, true, true, true, true, true, true, true, true, true, true, false, false, false, false] rfl rfl (QX HT_.out (by kernel_rfl)) (fun _ _ _ h => h) (Or.inl ⟨by rfl, ?_⟩) ?_ ?_
                     rotate_left
                     ·intro w'
                      go_simp
                      with_reducible rfl
                     rotate_left
                     ·simp only [Act.put, List.setIfInBounds_toArray, List.set_cons_zero, List.set_cons_succ, QO, QP]
                      rfl
                     refine Xf (i := 13) (N := some 103) (v := ?_) (a' := ?_) #[true, true, true, true, true, true, true, true, true, true, true, true, true, true, false, false, false] rfl rfl (QX HT_.out (by kernel_rfl)) (fun _ _ _ h => h) (Or.inl ⟨by rfl, ?_⟩) ?_ ?_
                     rotate_left
                     ·intro w'
                      go_simp
                      with_reducible rfl
                     rotate_left
                     ·simp only [Act.put, List.setIfInBounds_toArray, List.set_cons_zero, List.set_cons_succ, QO, QP]
                      rfl
                     refine Xf (i := 14) (N := some 104) (v := ?_) (a' := ?_) #[true, true, true, true, true, true, true, true, true, true, true, true, true, true, true, false, false] rfl rfl (QX HT_.out (by kernel_rfl)) (fun _ _ _ h => h) (Or.inl ⟨by rfl, ?_⟩) ?_ ?_
                     rotate_left
                     ·intro w'
                      go_simp
                      with_reducible rfl
                     rotate_left
                     ·simp only [Act.put, List.setIfInBounds_toArray, List.set_cons_zero, List.set_cons_succ, QO, QP]
                      rfl
                     refine Xf (i := 15) (N := some 105) (v := ?_) (a' := ?_) #[true, true, true, true, true, true, true, true, true, true, true, true, true, true, true, true, false] rfl rfl (QX HT_.out (by kernel_rfl)) (fun _ _ _ h => h) (Or.inl ⟨by rfl, ?_⟩) ?_ ?_
                     rotate_left
                     ·intro w'
                      go_simp
                      with_reducible rfl
                     rotate_left
                     ·simp only [Act.put, List.setIfInBounds_toArray, List.set_cons_zero, List.set_cons_succ, QO, QP]
                      rfl
                     refine last_ (i := 16) (N := none) #[true, true, true, true, true, true, true, true, true, true, true, true, true, true, true, true, true] rfl rfl (one_of HT_.out (by kernel_rfl)) (by decide) (fun K hK => ?_)
                     refine skip_ (w1 := ?_) (by rfl) rfl ?_ ?_
                     rotate_left
                     ·go_simp
                      rfl
                     refine hK.out _ _ ?_
                     clear hK K
                     refine done_ (done_of HT_.out (by kernel_rfl)) ?_
                     try go_wp2
                     (try simp only [← hl83_3])
                     go_roundg k3
                     case measure => have := HK1.out; have := HK2.out; have := HK3.out; omega
                     case rel => exact ⟨(y256), (x83_3), (wrap64 (x85_3 + 1)), (by first | rfl | (simp [*]; done)), H', ⟨by have := HK1.out; have := HK2.out; have := HK3.out; omega⟩, ⟨by (try simp only [hl83_3]); (with_reducible repeat (first | apply Kd.X9 | apply Kd.X8 | apply Kd.Xl)); exact HQ100.out⟩, ⟨by (try simp only [hl83_3]); (with_reducible repeat (first | apply Kd.XN | apply Kd.XM | apply Kd.XT)); exact Kd.XA (Kd.R_far (p := ⟨go97, (x85_3 : Int).toNat, none⟩) (Kd.R_far1 HO_83.out rfl ((HL248_0.out.1 _ rfl).1)) (fun _ hk => hk.2) (.bool (rdOf false x83_3 x85_3))) (fun _ hk => trivial)⟩, ⟨by (try simp only [hl83_3]); (with_reducible repeat (first | refine Q7 ?_ _ | refine Qa ?_ | refine Q8 ?_ _)); refine Xw ?_ (by have h_ := Kd.R_ne HL248_0.out BK222.out (by decide); intro e_; exact h_ (by rw [e_]; rfl)) _; (with_reducible repeat (first | refine Q7 ?_ _ | refine Qa ?_ | refine Q8 ?_ _)); exact BK222.out⟩, ⟨by (try simp only [hl83_3]); (with_reducible repeat (first | refine Q7 ?_ _ | refine Qa ?_ | refine Q8 ?_ _)); refine Xw ?_ (by have h_ := Kd.R_ne HL248_0.out BK225.out (by decide); intro e_; exact h_ (by rw [e_]; rfl)) _; (with_reducible repeat (first | refine Q7 ?_ _ | refine Qa ?_ | refine Q8 ?_ _)); exact BK225.out⟩, ⟨by (try simp only [hl83_3]); (with_reducible repeat (first | refine Q7 ?_ _ | refine Qa ?_ | refine Q8 ?_ _)); refine Xw ?_ (by have h_ := Kd.R_ne HL248_0.out BK230.out (by decide); intro e_; exact h_ (by rw [e_]; rfl)) _; (with_reducible repeat (first | refine Q7 ?_ _ | refine Qa ?_ | refine Q8 ?_ _)); exact BK230.out⟩, ⟨by repeat (first | exact HB.out | apply Q4 | apply Q2 | apply Q6 | refine Q1 ?_ GB97.out | refine Q1 ?_ GE222.out | refine Q1 ?_ GE225.out | refine Q1 ?_ GE230.out)⟩⟩
                   ·rw [if_neg c89] at H
                    exact absurd H (by simp)
                  ·rw [if_neg c88] at H
                   exact absurd H (by simp)
                 ·rw [if_neg c87] at H
                  exact absurd H (by simp)
                ·rw [if_neg c86] at H
                 exact absurd H (by simp)
               ·rw [if_neg c85] at H
                exact absurd H (by simp)
              ·rw [if_neg c84] at H
               have c84b0 : decide (x85_3 < (x8_2.length : Int)) = false := decide_eq_false c84
               clear c84
               (try rw [hl83_3] at c84b0)
               have H' := Q0.mk H
               clear H
               go_wp2
               (try simp only [← hl83_3])
               go_roundg k3
               case measure => have := HK1.out; have := HK2.out; have := HK3.out; omega
               case rel => exact ⟨(x5_3), (wrap64 (x27_1 + 1)), (by first | rfl | (simp [*]; done)), H', ⟨by have := HK1.out; have := HK2.out; have := HK3.out; omega⟩, ⟨by (try simp only [hl83_3]); (with_reducible repeat (first | apply Kd.X9 | apply Kd.X8 | apply Kd.Xl)); exact Kd.XP HO_5.out (fun _ hk => trivial)⟩, ⟨by (try simp only [hl83_3]); (with_reducible repeat (first | refine Q7 ?_ _ | refine Qa ?_ | refine Q8 ?_ _)); exact BK222.out⟩, ⟨by (try simp only [hl83_3]); (with_reducible repeat (first | refine Q7 ?_ _ | refine Qa ?_ | refine Q8 ?_ _)); exact BK225.out⟩, ⟨by repeat (first | exact HB.out | apply Q4 | apply Q2 | apply Q6 | refine Q1 ?_ GE222.out | refine Q1 ?_ GE225.out | refine Q1 ?_ GE230.out)⟩⟩
        ·rw [if_neg c27] at H
         exact absurd H (by simp)
       ·rw [if_neg c26] at H
        exact absurd H (by simp)
      ·rw [if_neg c25] at H
       exact absurd H (by simp)
     ·rw [if_neg c24] at H
      exact absurd H (by simp)
    ·rw [if_neg c23] at H
     have c23b0 : decide (x27_1 < (l0.length : Int)) = false := decide_eq_false c23
     clear c23
     simp only [Option.some.injEq, Prod.mk.injEq] at H
     obtain ⟨rfl, rfl, rfl⟩ := H
     have hnb102 := NB222_225.out
     have hnc102 := NB225_222.out
     obtain ⟨hcz103_0, hcz103_1⟩ := QB BK222.out
     obtain ⟨hfz103_0, hfz103_1⟩ := Qt BK222.out
     go_wp2_with (first | ((with_reducible refine QD (t := 24) (p := 3) rfl ?_); refine Qw (t := 24) (p := 3) (v := ?vo_w104) (w1 := ((wr.setCell ⟨gb222, 0, none⟩ (.int .i64 0)).setCell ⟨gb222, 1, none⟩ (.int .i64 0))) ?hg ?ho ?hn ?hr ?_; (case ho => rfl); (case hg => rfl); (case hn => rfl); (case hr => first | (go_simp; done) | (go_simp; rfl)); intro w104 hw; replace HO_5 : Q0 (Kd.S (Kd.slice 4 Kd.bool) 39 w104 w.heap.size (fun _ => True) v227 x5_1) := ⟨(by rw [hw]; exact (by (with_reducible repeat (first | apply Kd.X9 | apply Kd.X8 | apply Kd.Xl)); exact Kd.XP (Kd.Y1 (p := ⟨gb222, 1, none⟩) (Kd.Y1 (p := ⟨gb222, 0, none⟩) (Kd.Yv HO_5.out BK222.out (by decide)) (fun _ hk => hk.2) (.int .i64 0)) (fun _ hk => hk.2) (.int .i64 0)) (fun _ hk => trivial)))⟩; replace BK222 := Q0.mk (put2 hw BK222.out); replace BK225 := Q0.mk (far2 hw BK225.out NB225_222.out); replace HB := Q0.mk (bel2 hw HB.out GE222.out); clear hw))
     refine bodyPost_ret (results_tc rfl _ _ gb222 24 #[.int .i64 0, .int .i64 0] (0, 0) _ rfl BK222.out Try.underlying24 rfl (by kernel_rfl)) rfl ?_
     exact ⟨_, by first | rfl | (simp [*]; done), by (with_reducible repeat (first | apply Kd.X9 | apply Kd.X8 | apply Kd.Xl)); exact HO_5.out, by repeat (first | exact HB.out | apply Q4 | apply Q2 | apply Q6 | refine Q1 ?_ GE222.out | refine Q1 ?_ GE225.out)⟩
end Go.Proofs.Ytakabkjhnncbhaa.PX
