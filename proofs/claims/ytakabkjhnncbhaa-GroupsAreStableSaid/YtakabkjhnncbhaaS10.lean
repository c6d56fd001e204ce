/- A part of the proof of a law: its words, walks of functions, or plain lemmas. -/
-- Written by this session's own programs (wip/printx.py, gen_*.py, assemble.py) and by hand.
import Derived.Test.YtakabkjhnncbhaaS01
import Derived.Test.YtakabkjhnncbhaaS07
import Derived.Test.YtakabkjhnncbhaaS08
namespace Go.Proofs.Ytakabkjhnncbhaa.PX
open Go.RowKit Go.Proofs.YtakabkjhnncbhaaW.PrintWords Go.Proofs.YtakabkjhnncbhaaW.PrintLast Go.Proofs.YtakabkjhnncbhaaW.PrintMore
attribute [local go_sem] Xk Xi Xs Xr X5 X4 Xj Xh   -- for this text's walks alone
set_option linter.unusedVariables false
set_option linter.unusedSimpArgs false
attribute [local go_sem high] eqA24
def Xz.f (k : Nat) (l0 : List (S46)) (a1 : ByteArray) : Option (Int × Int × Int × Int) := (QI.f k l0).bind fun bt261 => (if (!(bt261.1 == 0) || (!(bt261.2 == 0))) = true then (some (0, 0, bt261.1, bt261.2)) else ((QU.f k l0 a1).bind fun bt264 => (if bt264.1 < 0 then (some (0, 0, 6, (-2))) else (some (bt264.1, bt264.2, 0, 0)))))
theorem Xz.mono : ∀ a0 a1 k, LeO (Xz.f k a0 a1) (Xz.f (k + 1) a0 a1) := by
 intro a0 a1 k
 unfold Xz.f
 repeat' first
   | (with_reducible exact QU.mono _ _ _)
   | (with_reducible exact QI.mono _ _)
   | (with_reducible exact LeO.refl _)
   | (with_reducible exact LeO.none _)
   | (with_reducible refine LeO.ite ?_ ?_)
   | (with_reducible refine LeO.bind ?_ (fun _ => ?_))
set_option maxHeartbeats 8000000 in
set_option maxRecDepth 100000 in
theorem Xz.calls (k : Nat) (A0 : Option Addr) (c0 : Nat) (l0 : List (S46)) (a1 : ByteArray) (r1 : Int) (r2 : Int) (r3 : Int) (r4 : Int) (w : World) (hr0 : Kd.C k46 w A0 l0.length l0) (hc0 : l0.length ≤ c0) (h : Xz.f k l0 a1 = some (r1, r2, r3, r4)) :
  Calls Try.prog 12 #[.slice A0 l0.length c0, .string a1] w fun e w' => e = .returned (.tuple #[.int .i64 r1, .int .i64 r2, .agg #[.int .i64 r3, .int .i64 r4]]) ∧ Below w.heap.size w w' := by
 have hu24 := Try.underlying24
 have HR0 := Q0.mk hr0
 have HC0 := Q0.mk hc0
 clear hr0 hc0
 have HB := Q0.mk (Below.refl w.heap.size w)
 have H := h
 clear h
 unfold Xz.f at H
 try dsimp only at H
 replace H := Option.bind_eq_some_iff.mp H
 obtain ⟨⟨t261, t262⟩, A30, H⟩ := H
 try dsimp only at H
 have A3 := Q0.mk A30
 clear A30
 by_cases c4 : (!(t261 == 0) || (!(t262 == 0))) = true
 ·rw [if_pos c4] at H
  have c4b0 : (!(t261 == 0) || (!(t262 == 0))) = true := c4
  clear c4
  simp only [Option.some.injEq, Prod.mk.injEq] at H
  obtain ⟨rfl, rfl, rfl, rfl⟩ := H
  go_enter Try.func12, Try.ntmps12
  try go_wp2_with (first | ((with_reducible refine QN (N := 6) rfl ?_); refine QK ?hg (N := 6) ?hd (cs := #[.int .i64 0, .int .i64 0]) (t := 24) ?hr ?_; (case hd => rfl); (case hg => rfl); (case hr => first | (go_simp; done) | (go_simp; rfl)); intro gb260 hg w5 hbox hb; have BK260 := Q0.mk (hbox); have GW260 := Q0.mk ((by rw [hg]; exact (Qg HB.out) : w.heap.size ≤ gb260)); have GE260 := Q0.mk ((by rw [hg]; exact (Qg HB.out) : w.heap.size ≤ gb260)); replace HB := Q0.mk (Qj HB.out hb); clear hb hbox hg) | ((with_reducible refine Qs (f := 27) rfl ?_); refine X2 (some 9) rfl rfl Try.func27 (by kernel_rfl) rfl #[.slice A0 l0.length c0] rfl (by (try simp only [List.map_toArray, List.map_cons, List.map_nil]); first | done | rfl | (simp only [List.length_drop, List.length_take]; rfl)) ?_; (with_reducible refine (QI.calls k _ _ l0 t261 t262 _ ?side1 ?side2 A3.out).mono ?_); (case side1 => repeat (first | exact (Kd.Qx HR0.out HB.out) | (with_reducible refine Kd.QT ?_ _) | (with_reducible refine Kd.QS ?_ _) | (with_reducible refine Kd.X6 ?_))); (case side2 => exact HC0.out); rintro e w6 ⟨rfl, hb⟩; refine ⟨_, rfl, ?_⟩; replace BK260 := Q0.mk (Q9 BK260.out hb); replace HB := Q0.mk (Qj HB.out hb)) | ((with_reducible refine QN (N := 7) rfl ?_); refine QK ?hg (N := 7) ?hd (cs := #[.int .i64 0, .int .i64 0]) (t := 24) ?hr ?_; (case hd => rfl); (case hg => rfl); (case hr => first | (go_simp; done) | (go_simp; rfl)); intro gb263 hg w7 hbox hb; have BK263 := Q0.mk (hbox); have GW263 := Q0.mk ((by rw [hg]; exact (Qg HB.out) : w.heap.size ≤ gb263)); have GE263 := Q0.mk ((by rw [hg]; exact (Qg HB.out) : w.heap.size ≤ gb263)); have NB260_263 := Q0.mk ((by rw [hg]; exact Nat.ne_of_lt (Qy BK260.out) : gb260 ≠ gb263)); have NB263_260 := Q0.mk ((by rw [hg]; exact Nat.ne_of_gt (Qy BK260.out) : gb263 ≠ gb260)); replace BK260 := Q0.mk (Q9 BK260.out hb); replace HB := Q0.mk (Qj HB.out hb); clear hb hbox hg; have hnb8 := NB263_260.out; have hnc8 := NB260_263.out; obtain ⟨hcz9_0, hcz9_1⟩ := QB BK263.out; obtain ⟨hfz9_0, hfz9_1⟩ := Qt BK263.out) | ((with_reducible refine QD (t := 24) (p := 7) rfl ?_); refine Qw (t := 24) (p := 7) (v := ?vo_w10) (w1 := ((w7.setCell ⟨gb263, 0, none⟩ (.int .i64 t261)).setCell ⟨gb263, 1, none⟩ (.int .i64 t262))) ?hg ?ho ?hn ?hr ?_; (case ho => rfl); (case hg => rfl); (case hn => rfl); (case hr => first | (go_simp; done) | (go_simp; rfl)); intro w10 hw; replace BK260 := Q0.mk (far2 hw BK260.out NB260_263.out); replace BK263 := Q0.mk (put2 hw BK263.out); replace HB := Q0.mk (bel2 hw HB.out GE263.out); clear hw; obtain ⟨hcz11_0, hcz11_1⟩ := QB BK263.out; obtain ⟨hfz11_0, hfz11_1⟩ := Qt BK263.out))
  have n0_ := Q0.mk (Qa BK260.out)
  have n1_ := Q0.mk (Qa BK263.out)
  have n2_ := Q0.mk (Q6 HB.out)
  clear BK260
  clear BK263
  clear HB
  have BK260 := n0_
  have BK263 := n1_
  have HB := n2_
  clear n0_ n1_ n2_
  refine start_ (n := 4) (S := fun w' => w'.cell? ⟨gb263, 0, none⟩ = some (.int .i64 t261) ∧ w'.cell? ⟨gb263, 1, none⟩ = some (.int .i64 t262)) (ds := []) #[false, false, false, false] (by kernel_rfl) rfl rfl ⟨(Qz BK263.out 0).trans rfl, (Qz BK263.out 1).trans rfl⟩ (fun hHeld => ?_)
  generalize w10.drew = w12 at BK260 BK263 HB hHeld ⊢
  refine Xf (i := 1) (N := some 4) (v := ?_) (a' := ?_) #[false, true, false, false] rfl rfl (by kernel_rfl) (fun _ _ _ h => h) (Or.inl ⟨by rfl, ?_⟩) ?_ ?_
  rotate_left
  ·intro w'
   go_simp
   with_reducible rfl
  rotate_left
  ·simp only [Act.put, List.setIfInBounds_toArray, List.set_cons_zero, List.set_cons_succ, QO, QP]
   rfl
  refine Xf (i := 2) (N := some 5) (v := ?_) (a' := ?_) #[false, true, true, false] rfl rfl (by kernel_rfl) (fun _ _ _ h => h) (Or.inl ⟨by rfl, ?_⟩) ?_ ?_
  rotate_left
  ·intro w'
   go_simp
   with_reducible rfl
  rotate_left
  ·simp only [Act.put, List.setIfInBounds_toArray, List.set_cons_zero, List.set_cons_succ, QO, QP]
   rfl
  refine Yk (i := 0) (N := some 13) (v := ?_) (a' := ?_) #[true, true, true, false] rfl rfl (by kernel_rfl) (fun _ _ _ h => h) (Or.inl ⟨by rfl, ?_⟩) hHeld ?_ ?_
  rotate_left
  ·rintro w' ⟨s0, s1⟩
   go_simp
   with_reducible rfl
  rotate_left
  ·simp only [Act.put, List.setIfInBounds_toArray, List.set_cons_zero, List.set_cons_succ, QO, QP]
   rfl
  refine one_ (i := 3) (N := none) #[true, true, true, true] rfl rfl (by kernel_rfl) (by decide) (fun K hK => ?_)
  have hs13 : w12.cell? ⟨gb260, 0, none⟩ = some (.int .i64 0) := (Qz BK260.out 0).trans rfl
  have hfs13 := QZ BK260.out 0
  have hns13_1 := NB263_260.out
  have hms13_1 := NB260_263.out
  have hs14 : w12.cell? ⟨gb260, 1, none⟩ = some (.int .i64 0) := (Qz BK260.out 1).trans rfl
  have hfs14 := QZ BK260.out 1
  have hns14_1 := NB263_260.out
  have hms14_1 := NB260_263.out
  refine skip_ (w1 := ?_) (by rfl) rfl ?_ ?_
  rotate_left
  ·go_simp
   rfl
  refine hK.out _ _ ⟨((cell_far (p := ⟨gb260, _, none⟩) NB263_260.out _).trans (((cell_far (p := ⟨gb260, _, none⟩) NB263_260.out _).trans (hHeld.1)))), ((cell_far (p := ⟨gb260, _, none⟩) NB263_260.out _).trans (((cell_far (p := ⟨gb260, _, none⟩) NB263_260.out _).trans (hHeld.2))))⟩ (fun hHeld => ?_)
  clear hK K
  refine done_ (by kernel_rfl) ?_
  try go_wp2
  refine bodyPost_ret (results_list (rs := [.tmp 4, .tmp 5, .cell 6 24]) rfl (by simp) (.tmp (.tmp (.cell gb260 24 #[.int .i64 t261, .int .i64 t262] (0, 0) _ rfl (by (with_reducible repeat (first | refine Q7 ?_ _ | refine Qa ?_ | refine Q8 ?_ _)); refine Xd (cs := #[.int .i64 t261, .int .i64 0]) ?_ 1 _ rfl; (with_reducible repeat (first | refine Q7 ?_ _ | refine Qa ?_ | refine Q8 ?_ _)); refine Xd (cs := #[.int .i64 0, .int .i64 0]) ?_ 0 _ rfl; (with_reducible repeat (first | refine Q7 ?_ _ | refine Qa ?_ | refine Q8 ?_ _)); exact BK260.out) Try.underlying24 rfl (by kernel_rfl) .nil)))) rfl ?_
  exact ⟨by first | rfl | (simp [*]; done), by repeat (first | exact HB.out | apply Q4 | apply Q2 | apply Q6 | refine Q1 ?_ GE260.out | refine Q1 ?_ GE263.out)⟩
 ·rw [if_neg c4] at H
  have c4b0 : (!(t261 == 0) || (!(t262 == 0))) = false := by simpa using c4
  clear c4
  replace H := Option.bind_eq_some_iff.mp H
  obtain ⟨⟨t264, t265⟩, A150, H⟩ := H
  try dsimp only at H
  have A15 := Q0.mk A150
  clear A150
  by_cases c16 : t264 < 0
  ·rw [if_pos c16] at H
   have c16b0 : decide (t264 < 0) = true := decide_eq_true c16
   clear c16
   simp only [Option.some.injEq, Prod.mk.injEq] at H
   obtain ⟨rfl, rfl, rfl, rfl⟩ := H
   go_enter Try.func12, Try.ntmps12
   go_wp2_with (first | ((with_reducible refine QN (N := 6) rfl ?_); refine QK ?hg (N := 6) ?hd (cs := #[.int .i64 0, .int .i64 0]) (t := 24) ?hr ?_; (case hd => rfl); (case hg => rfl); (case hr => first | (go_simp; done) | (go_simp; rfl)); intro gb260 hg w17 hbox hb; have BK260 := Q0.mk (hbox); have GW260 := Q0.mk ((by rw [hg]; exact (Qg HB.out) : w.heap.size ≤ gb260)); have GE260 := Q0.mk ((by rw [hg]; exact (Qg HB.out) : w.heap.size ≤ gb260)); replace HB := Q0.mk (Qj HB.out hb); clear hb hbox hg) | ((with_reducible refine Qs (f := 27) rfl ?_); refine X2 (some 9) rfl rfl Try.func27 (by kernel_rfl) rfl #[.slice A0 l0.length c0] rfl (by (try simp only [List.map_toArray, List.map_cons, List.map_nil]); first | done | rfl | (simp only [List.length_drop, List.length_take]; rfl)) ?_; (with_reducible refine (QI.calls k _ _ l0 t261 t262 _ ?side1 ?side2 A3.out).mono ?_); (case side1 => repeat (first | exact (Kd.Qx HR0.out HB.out) | (with_reducible refine Kd.QT ?_ _) | (with_reducible refine Kd.QS ?_ _) | (with_reducible refine Kd.X6 ?_))); (case side2 => exact HC0.out); rintro e w18 ⟨rfl, hb⟩; refine ⟨_, rfl, ?_⟩; replace BK260 := Q0.mk (Q9 BK260.out hb); replace HB := Q0.mk (Qj HB.out hb)) | ((with_reducible refine QN (N := 7) rfl ?_); refine QK ?hg (N := 7) ?hd (cs := #[.int .i64 0, .int .i64 0]) (t := 24) ?hr ?_; (case hd => rfl); (case hg => rfl); (case hr => first | (go_simp; done) | (go_simp; rfl)); intro gb263 hg w19 hbox hb; have BK263 := Q0.mk (hbox); have GW263 := Q0.mk ((by rw [hg]; exact (Qg HB.out) : w.heap.size ≤ gb263)); have GE263 := Q0.mk ((by rw [hg]; exact (Qg HB.out) : w.heap.size ≤ gb263)); have NB260_263 := Q0.mk ((by rw [hg]; exact Nat.ne_of_lt (Qy BK260.out) : gb260 ≠ gb263)); have NB263_260 := Q0.mk ((by rw [hg]; exact Nat.ne_of_gt (Qy BK260.out) : gb263 ≠ gb260)); replace BK260 := Q0.mk (Q9 BK260.out hb); replace HB := Q0.mk (Qj HB.out hb); clear hb hbox hg; have hnb20 := NB263_260.out; have hnc20 := NB260_263.out; obtain ⟨hcz21_0, hcz21_1⟩ := QB BK263.out; obtain ⟨hfz21_0, hfz21_1⟩ := Qt BK263.out) | ((with_reducible refine QD (t := 24) (p := 7) rfl ?_); refine Qw (t := 24) (p := 7) (v := ?vo_w22) (w1 := ((w19.setCell ⟨gb263, 0, none⟩ (.int .i64 t261)).setCell ⟨gb263, 1, none⟩ (.int .i64 t262))) ?hg ?ho ?hn ?hr ?_; (case ho => rfl); (case hg => rfl); (case hn => rfl); (case hr => first | (go_simp; done) | (go_simp; rfl)); intro w22 hw; replace BK260 := Q0.mk (far2 hw BK260.out NB260_263.out); replace BK263 := Q0.mk (put2 hw BK263.out); replace HB := Q0.mk (bel2 hw HB.out GE263.out); clear hw; obtain ⟨hcz23_0, hcz23_1⟩ := QB BK263.out; obtain ⟨hfz23_0, hfz23_1⟩ := Qt BK263.out) | ((with_reducible refine Qs (f := 29) rfl ?_); refine X2 (some 17) rfl rfl Try.func29 (by kernel_rfl) rfl #[.slice A0 l0.length c0, .string a1] rfl (by (try simp only [List.map_toArray, List.map_cons, List.map_nil]); first | done | rfl | (simp only [List.length_drop, List.length_take]; rfl)) ?_; (with_reducible refine (QU.calls k _ _ l0 a1 t264 t265 _ ?side1 ?side2 A15.out).mono ?_); (case side1 => repeat (first | exact (Kd.Qx HR0.out HB.out) | (with_reducible refine Kd.QT ?_ _) | (with_reducible refine Kd.QS ?_ _) | (with_reducible refine Kd.X6 ?_))); (case side2 => exact HC0.out); rintro e w24 ⟨rfl, hb⟩; refine ⟨_, rfl, ?_⟩; replace BK260 := Q0.mk (Q9 BK260.out hb); replace BK263 := Q0.mk (Q9 BK263.out hb); replace HB := Q0.mk (Qj HB.out hb); obtain ⟨hcz25_0, hcz25_1⟩ := QB BK260.out; obtain ⟨hfz25_0, hfz25_1⟩ := Qt BK260.out) | ((with_reducible refine QD (t := 24) (p := 6) rfl ?_); refine Qw (t := 24) (p := 6) (v := ?vo_w26) (w1 := ((w24.setCell ⟨gb260, 0, none⟩ (.int .i64 6)).setCell ⟨gb260, 1, none⟩ (.int .i64 (-2)))) ?hg ?ho ?hn ?hr ?_; (case ho => rfl); (case hg => rfl); (case hn => rfl); (case hr => first | (go_simp; done) | (go_simp; rfl)); intro w26 hw; replace BK260 := Q0.mk (put2 hw BK260.out); replace BK263 := Q0.mk (far2 hw BK263.out NB263_260.out); replace HB := Q0.mk (bel2 hw HB.out GE260.out); clear hw))
   refine bodyPost_ret (results_list (rs := [.tmp 4, .tmp 5, .cell 6 24]) rfl (by simp) (.tmp (.tmp (.cell gb260 24 #[.int .i64 6, .int .i64 (-2)] (0, 0) _ rfl BK260.out Try.underlying24 rfl (by kernel_rfl) .nil)))) rfl ?_
   exact ⟨by first | rfl | (simp [*]; done), by repeat (first | exact HB.out | apply Q4 | apply Q2 | apply Q6 | refine Q1 ?_ GE260.out | refine Q1 ?_ GE263.out)⟩
  ·rw [if_neg c16] at H
   have c16b0 : decide (t264 < 0) = false := decide_eq_false c16
   clear c16
   simp only [Option.some.injEq, Prod.mk.injEq] at H
   obtain ⟨rfl, rfl, rfl, rfl⟩ := H
   go_enter Try.func12, Try.ntmps12
   go_wp2_with (first | ((with_reducible refine QN (N := 6) rfl ?_); refine QK ?hg (N := 6) ?hd (cs := #[.int .i64 0, .int .i64 0]) (t := 24) ?hr ?_; (case hd => rfl); (case hg => rfl); (case hr => first | (go_simp; done) | (go_simp; rfl)); intro gb260 hg w27 hbox hb; have BK260 := Q0.mk (hbox); have GW260 := Q0.mk ((by rw [hg]; exact (Qg HB.out) : w.heap.size ≤ gb260)); have GE260 := Q0.mk ((by rw [hg]; exact (Qg HB.out) : w.heap.size ≤ gb260)); replace HB := Q0.mk (Qj HB.out hb); clear hb hbox hg) | ((with_reducible refine Qs (f := 27) rfl ?_); refine X2 (some 9) rfl rfl Try.func27 (by kernel_rfl) rfl #[.slice A0 l0.length c0] rfl (by (try simp only [List.map_toArray, List.map_cons, List.map_nil]); first | done | rfl | (simp only [List.length_drop, List.length_take]; rfl)) ?_; (with_reducible refine (QI.calls k _ _ l0 t261 t262 _ ?side1 ?side2 A3.out).mono ?_); (case side1 => repeat (first | exact (Kd.Qx HR0.out HB.out) | (with_reducible refine Kd.QT ?_ _) | (with_reducible refine Kd.QS ?_ _) | (with_reducible refine Kd.X6 ?_))); (case side2 => exact HC0.out); rintro e w28 ⟨rfl, hb⟩; refine ⟨_, rfl, ?_⟩; replace BK260 := Q0.mk (Q9 BK260.out hb); replace HB := Q0.mk (Qj HB.out hb)) | ((with_reducible refine QN (N := 7) rfl ?_); refine QK ?hg (N := 7) ?hd (cs := #[.int .i64 0, .int .i64 0]) (t := 24) ?hr ?_; (case hd => rfl); (case hg => rfl); (case hr => first | (go_simp; done) | (go_simp; rfl)); intro gb263 hg w29 hbox hb; have BK263 := Q0.mk (hbox); have GW263 := Q0.mk ((by rw [hg]; exact (Qg HB.out) : w.heap.size ≤ gb263)); have GE263 := Q0.mk ((by rw [hg]; exact (Qg HB.out) : w.heap.size ≤ gb263)); have NB260_263 := Q0.mk ((by rw [hg]; exact Nat.ne_of_lt (Qy BK260.out) : gb260 ≠ gb263)); have NB263_260 := Q0.mk ((by rw [hg]; exact Nat.ne_of_gt (Qy BK260.out) : gb263 ≠ gb260)); replace BK260 := Q0.mk (Q9 BK260.out hb); replace HB := Q0.mk (Qj HB.out hb); clear hb hbox hg; have hnb30 := NB263_260.out; have hnc30 := NB260_263.out; obtain ⟨hcz31_0, hcz31_1⟩ := QB BK263.out; obtain ⟨hfz31_0, hfz31_1⟩ := Qt BK263.out) | ((with_reducible refine QD (t := 24) (p := 7) rfl ?_); refine Qw (t := 24) (p := 7) (v := ?vo_w32) (w1 := ((w29.setCell ⟨gb263, 0, none⟩ (.int .i64 t261)).setCell ⟨gb263, 1, none⟩ (.int .i64 t262))) ?hg ?ho ?hn ?hr ?_; (case ho => rfl); (case hg => rfl); (case hn => rfl); (case hr => first | (go_simp; done) | (go_simp; rfl)); intro w32 hw; replace BK260 := Q0.mk (far2 hw BK260.out NB260_263.out); replace BK263 := Q0.mk (put2 hw BK263.out); replace HB := Q0.mk (bel2 hw HB.out GE263.out); clear hw; obtain ⟨hcz33_0, hcz33_1⟩ := QB BK263.out; obtain ⟨hfz33_0, hfz33_1⟩ := Qt BK263.out) | ((with_reducible refine Qs (f := 29) rfl ?_); refine X2 (some 17) rfl rfl Try.func29 (by kernel_rfl) rfl #[.slice A0 l0.length c0, .string a1] rfl (by (try simp only [List.map_toArray, List.map_cons, List.map_nil]); first | done | rfl | (simp only [List.length_drop, List.length_take]; rfl)) ?_; (with_reducible refine (QU.calls k _ _ l0 a1 t264 t265 _ ?side1 ?side2 A15.out).mono ?_); (case side1 => repeat (first | exact (Kd.Qx HR0.out HB.out) | (with_reducible refine Kd.QT ?_ _) | (with_reducible refine Kd.QS ?_ _) | (with_reducible refine Kd.X6 ?_))); (case side2 => exact HC0.out); rintro e w34 ⟨rfl, hb⟩; refine ⟨_, rfl, ?_⟩; replace BK260 := Q0.mk (Q9 BK260.out hb); replace BK263 := Q0.mk (Q9 BK263.out hb); replace HB := Q0.mk (Qj HB.out hb); obtain ⟨hcz35_0, hcz35_1⟩ := QB BK260.out; obtain ⟨hfz35_0, hfz35_1⟩ := Qt BK260.out) | ((with_reducible refine QD (t := 24) (p := 6) rfl ?_); refine Qw (t := 24) (p := 6) (v := ?vo_w36) (w1 := ((w34.setCell ⟨gb260, 0, none⟩ (.int .i64 0)).setCell ⟨gb260, 1, none⟩ (.int .i64 0))) ?hg ?ho ?hn ?hr ?_; (case ho => rfl); (case hg => rfl); (case hn => rfl); (case hr => first | (go_simp; done) | (go_simp; rfl)); intro w36 hw; replace BK260 := Q0.mk (put2 hw BK260.out); replace BK263 := Q0.mk (far2 hw BK263.out NB263_260.out); replace HB := Q0.mk (bel2 hw HB.out GE260.out); clear hw))
   refine bodyPost_ret (results_list (rs := [.tmp 4, .tmp 5, .cell 6 24]) rfl (by simp) (.tmp (.tmp (.cell gb260 24 #[.int .i64 0, .int .i64 0] (0, 0) _ rfl BK260.out Try.underlying24 rfl (by kernel_rfl) .nil)))) rfl ?_
   exact ⟨by first | rfl | (simp [*]; done), by repeat (first | exact HB.out | apply Q4 | apply Q2 | apply Q6 | refine Q1 ?_ GE260.out | refine Q1 ?_ GE263.out)⟩
end Go.Proofs.Ytakabkjhnncbhaa.PX
namespace Go.Proofs.Ytakabkjhnncbhaa.PX
open Go.RowKit Go.Proofs.YtakabkjhnncbhaaW.PrintWords Go.Proofs.YtakabkjhnncbhaaW.PrintLast Go.Proofs.YtakabkjhnncbhaaW.PrintMore
attribute [local go_sem] Xk Xi Xs Xr X5 X4 Xj Xh   -- for this text's walks alone
set_option linter.unusedVariables false
set_option linter.unusedSimpArgs false
mutual
def Qk.l0 : Nat → List (List Bool) → List (List Bool) → Int → Option (Bool)
 | 0, _, _, _ => none
 | k + 1, x0, x1, x5 => if x5 < (x0.length : Int) then (if 0 ≤ x5 then (if x5 < (x1.length : Int) then (if ((QM x0 x5).length : Int) = ((QM x1 x5).length : Int) then (Qk.l1 k x0 x1 x5 0) else (some false)) else (none)) else (none)) else (some true)
def Qk.l1 : Nat → List (List Bool) → List (List Bool) → Int → Int → Option (Bool)
 | 0, _, _, _, _ => none
 | k + 1, x0, x1, x5, x6 => if 0 ≤ x5 then (if x5 < (x0.length : Int) then (if x6 < ((QM x0 x5).length : Int) then (if 0 ≤ x6 then (if x5 < (x1.length : Int) then (if x6 < ((QM x1 x5).length : Int) then (if ((rdOf false (QM x0 x5) x6) != (rdOf false (QM x1 x5) x6)) = true then (some false) else (Qk.l1 k x0 x1 x5 (wrap64 (x6 + 1)))) else (none)) else (none)) else (none)) else (Qk.l0 k x0 x1 (wrap64 (x5 + 1)))) else (none)) else (none)
end
def Qk.f (k : Nat) (l0 : List (List Bool)) (l1 : List (List Bool)) : Option (Bool) := if (l0.length : Int) = (l1.length : Int) then (Qk.l0 k l0 l1 0) else (some false)
theorem Qk.Xn : ∀ k, (∀ y0 y1 y2, LeO (Qk.l0 k y0 y1 y2) (Qk.l0 (k + 1) y0 y1 y2)) ∧ (∀ y0 y1 y2 y3, LeO (Qk.l1 k y0 y1 y2 y3) (Qk.l1 (k + 1) y0 y1 y2 y3))
 | 0 => ⟨fun _ _ _ r h => by simp [Qk.l0] at h, fun _ _ _ _ r h => by simp [Qk.l1] at h⟩
 | k + 1 => by
  obtain ⟨ih0, ih1⟩ := Qk.Xn k
  refine ⟨?_, ?_⟩
  ·intro y0 y1 y2
   unfold Qk.l0
   repeat' first
   | (with_reducible exact ih0 _ _ _)
   | (with_reducible exact ih1 _ _ _ _)
   | (with_reducible exact LeO.refl _)
   | (with_reducible exact LeO.none _)
   | (with_reducible refine LeO.ite ?_ ?_)
   | (with_reducible refine LeO.bind ?_ (fun _ => ?_))
  ·intro y0 y1 y2 y3
   unfold Qk.l1
   repeat' first
   | (with_reducible exact ih0 _ _ _)
   | (with_reducible exact ih1 _ _ _ _)
   | (with_reducible exact LeO.refl _)
   | (with_reducible exact LeO.none _)
   | (with_reducible refine LeO.ite ?_ ?_)
   | (with_reducible refine LeO.bind ?_ (fun _ => ?_))
theorem Qk.mono : ∀ a0 a1 k, LeO (Qk.f k a0 a1) (Qk.f (k + 1) a0 a1) := by
 intro a0 a1 k
 obtain ⟨ih0, ih1⟩ := Qk.Xn k
 unfold Qk.f
 repeat' first
   | (with_reducible exact ih0 _ _ _)
   | (with_reducible exact ih1 _ _ _ _)
   | (with_reducible exact LeO.refl _)
   | (with_reducible exact LeO.none _)
   | (with_reducible refine LeO.ite ?_ ?_)
   | (with_reducible refine LeO.bind ?_ (fun _ => ?_))
set_option maxHeartbeats 8000000 in
set_option maxRecDepth 100000 in
theorem Qk.calls (k : Nat) (A0 : Option Addr) (c0 : Nat) (l0 : List (List Bool)) (A1 : Option Addr) (c1 : Nat) (l1 : List (List Bool)) (r : Bool) (w : World) (hr0 : Kd.C (Kd.slice 4 Kd.bool) w A0 l0.length l0) (hc0 : l0.length ≤ c0) (hr1 : Kd.C (Kd.slice 4 Kd.bool) w A1 l1.length l1) (hc1 : l1.length ≤ c1) (h : Qk.f k l0 l1 = some r) :
  Calls Try.prog 15 #[.slice A0 l0.length c0, .slice A1 l1.length c1] w fun e w' => e = .returned (.bool r) ∧ QJ w w' := by
 have HR0 := Q0.mk hr0
 have HC0 := Q0.mk hc0
 clear hr0 hc0
 have HR1 := Q0.mk hr1
 have HC1 := Q0.mk hc1
 clear hr1 hc1
 have H := h
 clear h
 unfold Qk.f at H
 try dsimp only at H
 by_cases c3 : (l0.length : Int) = (l1.length : Int)
 ·rw [if_pos c3] at H
  have c3b0 : ((l0.length : Int) == (l1.length : Int)) = true := beq_iff_eq.mpr c3
  have c3b1 : ((l0.length : Int) != (l1.length : Int)) = false := bne_eq_false_iff_eq.mpr c3
  have c3b2 : (l0.length == l1.length) = true := by first | simpa using c3 | (simp at c3 ⊢; omega)
  clear c3
  have H' := Q0.mk H
  clear H
  go_enter Try.func15, Try.ntmps15
  go_wp2
  repeat (go_quiet (fail); try go_wp2)
  go_loopg [5] k (fun kq v5 w' => ∃ (x5_1 : Int), v5 = .int .i64 x5_1 ∧ Q0 (Qk.l0 kq l0 l1 x5_1 = some r) ∧ Q0 (kq ≤ k) ∧ QJ w w')
  case atStart => exact ⟨(0), (by first | rfl | (simp [*]; done)), H', ⟨Nat.le_refl _⟩, by repeat (first | exact QJ.refl _ | apply QJ.step)⟩
  case round =>
   clear H'
   try clear c1
   try clear p2
   try clear c3
   try clear c3b0
   try clear c3b1
   try clear c3b2
   obtain ⟨x5_1, rfl, HA, HK1, ⟨m1, rfl⟩⟩ := hrel
   cases gk with
   | zero => exact absurd HA.out (by simp [Qk.l0])
   | succ k1 =>
    have H := HA.out
    clear HA
    simp only [Qk.l0] at H
    by_cases c4 : x5_1 < (l0.length : Int)
    ·rw [if_pos c4] at H
     have c4b0 : decide (x5_1 < (l0.length : Int)) = true := decide_eq_true c4
     clear c4
     by_cases c5 : 0 ≤ x5_1
     ·rw [if_pos c5] at H
      have c5b0 : decide (0 ≤ x5_1) = true := decide_eq_true c5
      clear c5
      by_cases c6 : x5_1 < (l1.length : Int)
      ·rw [if_pos c6] at H
       have c6b0 : decide (x5_1 < (l1.length : Int)) = true := decide_eq_true c6
       clear c6
       by_cases c7 : ((QM l0 x5_1).length : Int) = ((QM l1 x5_1).length : Int)
       ·rw [if_pos c7] at H
        have c7b0 : (((QM l0 x5_1).length : Int) == ((QM l1 x5_1).length : Int)) = true := beq_iff_eq.mpr c7
        have c7b1 : (((QM l0 x5_1).length : Int) != ((QM l1 x5_1).length : Int)) = false := bne_eq_false_iff_eq.mpr c7
        have c7b2 : ((QM l0 x5_1).length == (QM l1 x5_1).length) = true := by first | simpa using c7 | (simp at c7 ⊢; omega)
        clear c7
        have H' := Q0.mk H
        clear H
        have p266 : 0 ≤ (x5_1 : Int) := of_decide_eq_true ‹_›
        have q266 : x5_1 < (l0.length : Int) := of_decide_eq_true ‹_›
        obtain ⟨ad266, A266_0, c266_0, e266, hx266_0, hl266_0, hi266_0⟩ := Yc HR0.out x5_1 p266 q266
        cases e266
        have HR266_0 := Q0.mk hi266_0
        have HC266_0 := Q0.mk hl266_0
        clear hi266_0 hl266_0
        replace p266 := eq_true p266
        replace q266 := eq_true q266
        have p267 : 0 ≤ (x5_1 : Int) := of_decide_eq_true ‹_›
        have q267 : x5_1 < (l1.length : Int) := of_decide_eq_true ‹_›
        obtain ⟨ad267, A267_0, c267_0, e267, hx267_0, hl267_0, hi267_0⟩ := Yc HR1.out x5_1 p267 q267
        cases e267
        have HR267_0 := Q0.mk hi267_0
        have HC267_0 := Q0.mk hl267_0
        clear hi267_0 hl267_0
        replace p267 := eq_true p267
        replace q267 := eq_true q267
        go_wp2
        repeat (go_quiet (fail); try go_wp2)
        go_loopg [6] k1 (fun kq v6 w' => ∃ (x6_2 : Int), v6 = .int .i64 x6_2 ∧ Q0 (Qk.l1 kq l0 l1 x5_1 x6_2 = some r) ∧ Q0 (kq ≤ k1) ∧ QJ w w')
        case atStart => exact ⟨(0), (by first | rfl | (simp [*]; done)), H', ⟨Nat.le_refl _⟩, by repeat (first | exact QJ.refl _ | apply QJ.step)⟩
        case round =>
         clear H'
         try clear c1
         try clear c2
         try clear p2
         try clear q2
         try clear hx2
         try clear c3
         try clear c3b0
         try clear c3b1
         try clear c3b2
         try clear c4
         try clear c4b0
         try clear c5
         try clear c5b0
         try clear c6
         try clear c6b0
         try clear c7
         try clear c7b0
         try clear c7b1
         try clear c7b2
         try clear hx266_0
         try clear hx267_0
         try clear p2
         try clear p266
         try clear p267
         try clear q266
         try clear q267
         obtain ⟨x6_2, rfl, HA, HK2, ⟨m2, rfl⟩⟩ := hrel
         cases gk with
         | zero => exact absurd HA.out (by simp [Qk.l1])
         | succ k2 =>
          have H := HA.out
          clear HA
          simp only [Qk.l1] at H
          by_cases c8 : 0 ≤ x5_1
          ·rw [if_pos c8] at H
           have c8b0 : decide (0 ≤ x5_1) = true := decide_eq_true c8
           clear c8
           by_cases c9 : x5_1 < (l0.length : Int)
           ·rw [if_pos c9] at H
            have c9b0 : decide (x5_1 < (l0.length : Int)) = true := decide_eq_true c9
            clear c9
            by_cases c10 : x6_2 < ((QM l0 x5_1).length : Int)
            ·rw [if_pos c10] at H
             have c10b0 : decide (x6_2 < ((QM l0 x5_1).length : Int)) = true := decide_eq_true c10
             clear c10
             by_cases c11 : 0 ≤ x6_2
             ·rw [if_pos c11] at H
              have c11b0 : decide (0 ≤ x6_2) = true := decide_eq_true c11
              clear c11
              by_cases c12 : x5_1 < (l1.length : Int)
              ·rw [if_pos c12] at H
               have c12b0 : decide (x5_1 < (l1.length : Int)) = true := decide_eq_true c12
               clear c12
               by_cases c13 : x6_2 < ((QM l1 x5_1).length : Int)
               ·rw [if_pos c13] at H
                have c13b0 : decide (x6_2 < ((QM l1 x5_1).length : Int)) = true := decide_eq_true c13
                clear c13
                by_cases c14 : ((rdOf false (QM l0 x5_1) x6_2) != (rdOf false (QM l1 x5_1) x6_2)) = true
                ·rw [if_pos c14] at H
                 have c14b0 : ((rdOf false (QM l0 x5_1) x6_2) != (rdOf false (QM l1 x5_1) x6_2)) = true := c14
                 (try (have c14b1 : decide ((rdOf false (QM l0 x5_1) x6_2) = (rdOf false (QM l1 x5_1) x6_2)) = false := by simpa using c14))
                 (try (have c14b2 : ((rdOf false (QM l0 x5_1) x6_2) == (rdOf false (QM l1 x5_1) x6_2)) = false := by simpa using c14))
                 (try (have c14b3 : ¬ ((rdOf false (QM l0 x5_1) x6_2) = (rdOf false (QM l1 x5_1) x6_2)) := by simpa using c14))
                 clear c14
                 obtain rfl := Option.some.inj H
                 have p268 : 0 ≤ (x5_1 : Int) := of_decide_eq_true ‹_›
                 have q268 : x5_1 < (l0.length : Int) := of_decide_eq_true ‹_›
                 obtain ⟨ad268, A268_0, c268_0, e268, hx268_0, hl268_0, hi268_0⟩ := Yc HR0.out x5_1 p268 q268
                 obtain rfl : ad266 = ad268 := (by injection e268)
                 have HR268_0 := Q0.mk hi268_0
                 have HC268_0 := Q0.mk hl268_0
                 clear hi268_0 hl268_0
                 replace p268 := eq_true p268
                 replace q268 := eq_true q268
                 have p269 : 0 ≤ (x5_1 : Int) := of_decide_eq_true ‹_›
                 have q269 : x5_1 < (l0.length : Int) := of_decide_eq_true ‹_›
                 obtain ⟨ad269, A269_0, c269_0, e269, hx269_0, hl269_0, hi269_0⟩ := Yc HR0.out x5_1 p269 q269
                 obtain rfl : ad266 = ad269 := (by injection e269)
                 have HR269_0 := Q0.mk hi269_0
                 have HC269_0 := Q0.mk hl269_0
                 clear hi269_0 hl269_0
                 replace p269 := eq_true p269
                 replace q269 := eq_true q269
                 have ea_ := Option.some.inj (hx268_0.symm.trans hx269_0)
                 injection ea_ with ea_ en_ ec_
                 subst ea_
                 subst ec_
                 clear en_
                 have p270 : 0 ≤ (x6_2 : Int) := of_decide_eq_true ‹_›
                 have q270 : x6_2 < ((QM l0 x5_1).length : Int) := of_decide_eq_true ‹_›
                 obtain ⟨ad270, e270, hx270_0⟩ := Kd.Yt HR269_0.out x6_2 p270 q270
                 cases e270
                 replace p270 := eq_true p270
                 replace q270 := eq_true q270
                 have p271 : 0 ≤ (x5_1 : Int) := of_decide_eq_true ‹_›
                 have q271 : x5_1 < (l1.length : Int) := of_decide_eq_true ‹_›
                 obtain ⟨ad271, A271_0, c271_0, e271, hx271_0, hl271_0, hi271_0⟩ := Yc HR1.out x5_1 p271 q271
                 obtain rfl : ad267 = ad271 := (by injection e271)
                 have HR271_0 := Q0.mk hi271_0
                 have HC271_0 := Q0.mk hl271_0
                 clear hi271_0 hl271_0
                 replace p271 := eq_true p271
                 replace q271 := eq_true q271
                 have p272 : 0 ≤ (x6_2 : Int) := of_decide_eq_true ‹_›
                 have q272 : x6_2 < ((QM l1 x5_1).length : Int) := of_decide_eq_true ‹_›
                 obtain ⟨ad272, e272, hx272_0⟩ := Kd.Yt HR271_0.out x6_2 p272 q272
                 cases e272
                 replace p272 := eq_true p272
                 replace q272 := eq_true q272
                 go_wp2
                 repeat (go_quiet (fail); try go_wp2)
                 go_ret
                 exact ⟨by first | rfl | (simp; done) | (simp [*]; done), by repeat (first | exact QJ.refl _ | apply QJ.step)⟩
                ·rw [if_neg c14] at H
                 have c14b0 : ((rdOf false (QM l0 x5_1) x6_2) != (rdOf false (QM l1 x5_1) x6_2)) = false := by simpa using c14
                 (try (have c14b1 : decide ((rdOf false (QM l0 x5_1) x6_2) = (rdOf false (QM l1 x5_1) x6_2)) = true := by simpa using c14))
                 (try (have c14b2 : ((rdOf false (QM l0 x5_1) x6_2) == (rdOf false (QM l1 x5_1) x6_2)) = true := by simpa using c14))
                 clear c14
                 have H' := Q0.mk H
                 clear H
                 have p268 : 0 ≤ (x5_1 : Int) := of_decide_eq_true ‹_›
                 have q268 : x5_1 < (l0.length : Int) := of_decide_eq_true ‹_›
                 obtain ⟨ad268, A268_0, c268_0, e268, hx268_0, hl268_0, hi268_0⟩ := Yc HR0.out x5_1 p268 q268
                 obtain rfl : ad266 = ad268 := (by injection e268)
                 have HR268_0 := Q0.mk hi268_0
                 have HC268_0 := Q0.mk hl268_0
                 clear hi268_0 hl268_0
                 replace p268 := eq_true p268
                 replace q268 := eq_true q268
                 have p269 : 0 ≤ (x5_1 : Int) := of_decide_eq_true ‹_›
                 have q269 : x5_1 < (l0.length : Int) := of_decide_eq_true ‹_›
                 obtain ⟨ad269, A269_0, c269_0, e269, hx269_0, hl269_0, hi269_0⟩ := Yc HR0.out x5_1 p269 q269
                 obtain rfl : ad266 = ad269 := (by injection e269)
                 have HR269_0 := Q0.mk hi269_0
                 have HC269_0 := Q0.mk hl269_0
                 clear hi269_0 hl269_0
                 replace p269 := eq_true p269
                 replace q269 := eq_true q269
                 have ea_ := Option.some.inj (hx268_0.symm.trans hx269_0)
                 injection ea_ with ea_ en_ ec_
                 subst ea_
                 subst ec_
                 clear en_
                 have p270 : 0 ≤ (x6_2 : Int) := of_decide_eq_true ‹_›
                 have q270 : x6_2 < ((QM l0 x5_1).length : Int) := of_decide_eq_true ‹_›
                 obtain ⟨ad270, e270, hx270_0⟩ := Kd.Yt HR269_0.out x6_2 p270 q270
                 cases e270
                 replace p270 := eq_true p270
                 replace q270 := eq_true q270
                 have p271 : 0 ≤ (x5_1 : Int) := of_decide_eq_true ‹_›
                 have q271 : x5_1 < (l1.length : Int) := of_decide_eq_true ‹_›
                 obtain ⟨ad271, A271_0, c271_0, e271, hx271_0, hl271_0, hi271_0⟩ := Yc HR1.out x5_1 p271 q271
                 obtain rfl : ad267 = ad271 := (by injection e271)
                 have HR271_0 := Q0.mk hi271_0
                 have HC271_0 := Q0.mk hl271_0
                 clear hi271_0 hl271_0
                 replace p271 := eq_true p271
                 replace q271 := eq_true q271
                 have p272 : 0 ≤ (x6_2 : Int) := of_decide_eq_true ‹_›
                 have q272 : x6_2 < ((QM l1 x5_1).length : Int) := of_decide_eq_true ‹_›
                 obtain ⟨ad272, e272, hx272_0⟩ := Kd.Yt HR271_0.out x6_2 p272 q272
                 cases e272
                 replace p272 := eq_true p272
                 replace q272 := eq_true q272
                 go_wp2
                 repeat (go_quiet (fail); try go_wp2)
                 go_roundg k2
                 case measure => have := HK1.out; have := HK2.out; omega
                 case rel => exact ⟨(wrap64 (x6_2 + 1)), (by first | rfl | (simp [*]; done)), H', ⟨by have := HK1.out; have := HK2.out; omega⟩, by repeat (first | exact QJ.refl _ | apply QJ.step)⟩
               ·rw [if_neg c13] at H
                exact absurd H (by simp)
              ·rw [if_neg c12] at H
               exact absurd H (by simp)
             ·rw [if_neg c11] at H
              exact absurd H (by simp)
            ·rw [if_neg c10] at H
             have c10b0 : decide (x6_2 < ((QM l0 x5_1).length : Int)) = false := decide_eq_false c10
             clear c10
             have H' := Q0.mk H
             clear H
             have p268 : 0 ≤ (x5_1 : Int) := of_decide_eq_true ‹_›
             have q268 : x5_1 < (l0.length : Int) := of_decide_eq_true ‹_›
             obtain ⟨ad268, A268_0, c268_0, e268, hx268_0, hl268_0, hi268_0⟩ := Yc HR0.out x5_1 p268 q268
             obtain rfl : ad266 = ad268 := (by injection e268)
             have HR268_0 := Q0.mk hi268_0
             have HC268_0 := Q0.mk hl268_0
             clear hi268_0 hl268_0
             replace p268 := eq_true p268
             replace q268 := eq_true q268
             go_wp2
             repeat (go_quiet (fail); try go_wp2)
             go_roundg k2
             case measure => have := HK1.out; have := HK2.out; omega
             case rel => exact ⟨(wrap64 (x5_1 + 1)), (by first | rfl | (simp [*]; done)), H', ⟨by have := HK1.out; have := HK2.out; omega⟩, by repeat (first | exact QJ.refl _ | apply QJ.step)⟩
           ·rw [if_neg c9] at H
            exact absurd H (by simp)
          ·rw [if_neg c8] at H
           exact absurd H (by simp)
       ·rw [if_neg c7] at H
        have c7b0 : (((QM l0 x5_1).length : Int) == ((QM l1 x5_1).length : Int)) = false := beq_eq_false_iff_ne.mpr c7
        have c7b1 : (((QM l0 x5_1).length : Int) != ((QM l1 x5_1).length : Int)) = true := bne_iff_ne.mpr c7
        have c7b2 : ((QM l0 x5_1).length == (QM l1 x5_1).length) = false := by first | simpa using c7 | (simp at c7 ⊢; omega)
        obtain rfl := Option.some.inj H
        have p266 : 0 ≤ (x5_1 : Int) := of_decide_eq_true ‹_›
        have q266 : x5_1 < (l0.length : Int) := of_decide_eq_true ‹_›
        obtain ⟨ad266, A266_0, c266_0, e266, hx266_0, hl266_0, hi266_0⟩ := Yc HR0.out x5_1 p266 q266
        cases e266
        have HR266_0 := Q0.mk hi266_0
        have HC266_0 := Q0.mk hl266_0
        clear hi266_0 hl266_0
        replace p266 := eq_true p266
        replace q266 := eq_true q266
        have p267 : 0 ≤ (x5_1 : Int) := of_decide_eq_true ‹_›
        have q267 : x5_1 < (l1.length : Int) := of_decide_eq_true ‹_›
        obtain ⟨ad267, A267_0, c267_0, e267, hx267_0, hl267_0, hi267_0⟩ := Yc HR1.out x5_1 p267 q267
        cases e267
        have HR267_0 := Q0.mk hi267_0
        have HC267_0 := Q0.mk hl267_0
        clear hi267_0 hl267_0
        replace p267 := eq_true p267
        replace q267 := eq_true q267
        go_wp2
        repeat (go_quiet (fail); try go_wp2)
        go_ret
        exact ⟨by first | rfl | (simp; done) | (simp [*]; done), by repeat (first | exact QJ.refl _ | apply QJ.step)⟩
      ·rw [if_neg c6] at H
       exact absurd H (by simp)
     ·rw [if_neg c5] at H
      exact absurd H (by simp)
    ·rw [if_neg c4] at H
     have c4b0 : decide (x5_1 < (l0.length : Int)) = false := decide_eq_false c4
     clear c4
     obtain rfl := Option.some.inj H
     go_wp2
     repeat (go_quiet (fail); try go_wp2)
     go_ret
     exact ⟨by first | rfl | (simp; done) | (simp [*]; done), by repeat (first | exact QJ.refl _ | apply QJ.step)⟩
 ·rw [if_neg c3] at H
  have c3b0 : ((l0.length : Int) == (l1.length : Int)) = false := beq_eq_false_iff_ne.mpr c3
  have c3b1 : ((l0.length : Int) != (l1.length : Int)) = true := bne_iff_ne.mpr c3
  have c3b2 : (l0.length == l1.length) = false := by first | simpa using c3 | (simp at c3 ⊢; omega)
  obtain rfl := Option.some.inj H
  go_enter Try.func15, Try.ntmps15
  go_wp2
  repeat (go_quiet (fail); try go_wp2)
  go_ret
  exact ⟨by first | rfl | (simp; done) | (simp [*]; done), by repeat (first | exact QJ.refl _ | apply QJ.step)⟩
end Go.Proofs.Ytakabkjhnncbhaa.PX
namespace Go.Proofs.Ytakabkjhnncbhaa.PX
open Go.RowKit Go.Proofs.YtakabkjhnncbhaaW.PrintWords Go.Proofs.YtakabkjhnncbhaaW.PrintLast Go.Proofs.YtakabkjhnncbhaaW.PrintMore
attribute [local go_sem] Xk Xi Xs Xr X5 X4 Xj Xh   -- for this text's walks alone
set_option linter.unusedVariables false
set_option linter.unusedSimpArgs false
def Xy.f (a0 : Int) (a1 : Int) : Option (Int × Int) := some (a0, a1)
set_option maxHeartbeats 8000000 in
set_option maxRecDepth 100000 in
theorem Xy.calls (a0 : Int) (a1 : Int) (r1 : Int) (r2 : Int) (w : World) (h : Xy.f a0 a1 = some (r1, r2)) :
  Calls Try.prog 17 #[.int .i64 a0, .int .i64 a1] w fun e w' => e = .returned (.agg #[.int .i64 r1, .int .i64 r2]) ∧ Below w.heap.size w w' := by
 have hu24 := Try.underlying24
 have HB := Q0.mk (Below.refl w.heap.size w)
 have H := h
 clear h
 unfold Xy.f at H
 try dsimp only at H
 simp only [Option.some.injEq, Prod.mk.injEq] at H
 obtain ⟨rfl, rfl⟩ := H
 go_enter Try.func17, Try.ntmps17
 go_wp2_with (first | ((with_reducible refine QN (N := 4) rfl ?_); refine QK ?hg (N := 4) ?hd (cs := #[.int .i64 0, .int .i64 0]) (t := 24) ?hr ?_; (case hd => rfl); (case hg => rfl); (case hr => first | (go_simp; done) | (go_simp; rfl)); intro gb101 hg w3 hbox hb; have BK101 := Q0.mk (hbox); have GW101 := Q0.mk ((by rw [hg]; exact (Qg HB.out) : w.heap.size ≤ gb101)); have GE101 := Q0.mk ((by rw [hg]; exact (Qg HB.out) : w.heap.size ≤ gb101)); replace HB := Q0.mk (Qj HB.out hb); clear hb hbox hg; obtain ⟨hcz4_0, hcz4_1⟩ := QB BK101.out; obtain ⟨hfz4_0, hfz4_1⟩ := Qt BK101.out) | ((with_reducible refine QD (t := 24) (p := 4) rfl ?_); refine Qw (t := 24) (p := 4) (v := ?vo_w5) (w1 := ((w3.setCell ⟨gb101, 0, none⟩ (.int .i64 a0)).setCell ⟨gb101, 1, none⟩ (.int .i64 a1))) ?hg ?ho ?hn ?hr ?_; (case ho => rfl); (case hg => rfl); (case hn => rfl); (case hr => first | (go_simp; done) | (go_simp; rfl)); intro w5 hw; replace BK101 := Q0.mk (put2 hw BK101.out); replace HB := Q0.mk (bel2 hw HB.out GE101.out); clear hw))
 refine bodyPost_ret (results_cell_row rfl _ _ gb101 24 #[.int .i64 a0, .int .i64 a1] (0, 0) _ rfl BK101.out Try.underlying24 rfl (by kernel_rfl)) rfl ?_
 exact ⟨by first | rfl | (simp [*]; done), by repeat (first | exact HB.out | apply Q4 | apply Q2 | apply Q6 | refine Q1 ?_ GE101.out)⟩
end Go.Proofs.Ytakabkjhnncbhaa.PX
namespace Go.Proofs.Ytakabkjhnncbhaa.PX
open Go.RowKit Go.Proofs.YtakabkjhnncbhaaW.PrintWords Go.Proofs.YtakabkjhnncbhaaW.PrintLast Go.Proofs.YtakabkjhnncbhaaW.PrintMore
attribute [local go_sem] Xk Xi Xs Xr X5 X4 Xj Xh   -- for this text's walks alone
set_option linter.unusedVariables false
set_option linter.unusedSimpArgs false
def QC.l0 : Nat → List (S46) → Int → Option ((List (S46)))
 | 0, _, _ => none
 | k + 1, x1, x2 => if x2 < 2 then (if x1.length < 1034834473200 then (QC.l0 k (x1 ++ [(⟨(⟨#[109]⟩ : ByteArray), (([(⟨(⟨#[103]⟩ : ByteArray), 3, 1, (([1] : List Int)), 1, false, ([] : List (S97)), ([] : List (S126)), ([] : List (S128))⟩ : S89)] : List (S89))), ([] : List (S61)), (([(⟨(⟨#[103]⟩ : ByteArray), (([0] : List Int))⟩ : S49)] : List (S49))), ([] : List ByteArray), ([] : List (S122))⟩ : S46)]) (wrap64 (x2 + 1))) else (none)) else (some x1)
def QC.f (k : Nat)  : Option ((List (S46))) := QC.l0 k ([] : List (S46)) 0
theorem QC.Xn : ∀ k, (∀ y0 y1, LeO (QC.l0 k y0 y1) (QC.l0 (k + 1) y0 y1))
 | 0 => fun _ _ r h => by simp [QC.l0] at h
 | k + 1 => by
  have ih0 := QC.Xn k
  ·intro y0 y1
   unfold QC.l0
   repeat' first
   | (with_reducible exact ih0 _ _)
   | (with_reducible exact LeO.refl _)
   | (with_reducible exact LeO.none _)
   | (with_reducible refine LeO.ite ?_ ?_)
   | (with_reducible refine LeO.bind ?_ (fun _ => ?_))
theorem QC.mono : ∀ k, LeO (QC.f k ) (QC.f (k + 1) ) := by
 intro  k
 have ih0 := QC.Xn k
 unfold QC.f
 repeat' first
   | (with_reducible exact ih0 _ _)
   | (with_reducible exact LeO.refl _)
   | (with_reducible exact LeO.none _)
   | (with_reducible refine LeO.ite ?_ ?_)
   | (with_reducible refine LeO.bind ?_ (fun _ => ?_))
set_option maxHeartbeats 8000000 in
set_option maxRecDepth 100000 in
theorem QC.calls (k : Nat)  (r : List (S46)) (w : World) (h : QC.f k  = some r) :
  Calls Try.prog 30 #[] w fun e w' => ∃ v0_ : Value, e = .returned (v0_) ∧ Kd.N k46 46 w' w.heap.size (fun k_ => (w.heap.size ≤ k_)) v0_ r ∧ Below w.heap.size w w' := by
 have hu89 := Try.underlying89
 have hu49 := Try.underlying49
 have hu46 := Try.underlying46
 have HB := Q0.mk (Below.refl w.heap.size w)
 have H := h
 clear h
 unfold QC.f at H
 try dsimp only at H
 have H' := Q0.mk H
 clear H
 go_enter Try.func30, Try.ntmps30
 go_wp2
 go_loopg [1, 2] k (fun kq v1 v2 w' => ∃ (x1_1 : List (S46)) (x2_1 : Int), v2 = .int .i64 x2_1 ∧ Q0 (QC.l0 kq x1_1 x2_1 = some r) ∧ Q0 (kq ≤ k) ∧ Q0 (Kd.N k46 46 w' w.heap.size (fun k_ => (w.heap.size ≤ k_)) v1 x1_1) ∧ Q0 (Below w.heap.size w w'))
 case atStart => exact ⟨(([] : List (S46))), (0), (by first | rfl | (simp [*]; done)), H', ⟨Nat.le_refl _⟩, ⟨by first | exact Kd.R_nil _ _ _ _ _ | exact Kd.N_nil _ _ _ _ _ | exact Kd.V_nil _ _ _ _ _ | exact Kd.Q_nil _ _ _ _ _ | exact Kd.S_nil _ _ _ _ _⟩, ⟨by repeat (first | exact HB.out | apply Q4 | apply Q2 | apply Q6)⟩⟩
 case round =>
  clear H'
  obtain ⟨x1_1, x2_1, rfl, HA, HK1, HO_1, HB⟩ := hrel
  cases gk with
  | zero => exact absurd HA.out (by simp [QC.l0])
  | succ k1 =>
   have H := HA.out
   clear HA
   simp only [QC.l0] at H
   by_cases c1 : x2_1 < 2
   ·rw [if_pos c1] at H
    have c1b0 : decide (x2_1 < 2) = true := decide_eq_true c1
    clear c1
    obtain ⟨y273, hy273⟩ : ∃ y_ : List Int, y_ = (([1] : List Int)) := ⟨_, rfl⟩
    replace H : (if x1_1.length < 1034834473200 then (QC.l0 k1 (x1_1 ++ [(⟨(⟨#[109]⟩ : ByteArray), (([(⟨(⟨#[103]⟩ : ByteArray), 3, 1, y273, 1, false, ([] : List (S97)), ([] : List (S126)), ([] : List (S128))⟩ : S89)] : List (S89))), ([] : List (S61)), (([(⟨(⟨#[103]⟩ : ByteArray), (([0] : List Int))⟩ : S49)] : List (S49))), ([] : List ByteArray), ([] : List (S122))⟩ : S46)]) (wrap64 (x2_1 + 1))) else (none)) = some r := by first | (rw [hy273]; with_reducible exact H) | (have H2_ := (Option.bind_some _ _).symm.trans H; rw [hy273]; with_reducible exact H2_) | (have H2_ := (Option.bind_some _ _).symm.trans H; with_reducible exact H2_) | with_reducible exact H | (rw [hy273]; exact H) | exact H
    have Ny273 := Q0.mk hy273
    clear hy273
    obtain ⟨y277, hy277⟩ : ∃ y_ : List (S89), y_ = (([(⟨(⟨#[103]⟩ : ByteArray), 3, 1, y273, 1, false, ([] : List (S97)), ([] : List (S126)), ([] : List (S128))⟩ : S89)] : List (S89))) := ⟨_, rfl⟩
    replace H : (if x1_1.length < 1034834473200 then (QC.l0 k1 (x1_1 ++ [(⟨(⟨#[109]⟩ : ByteArray), y277, ([] : List (S61)), (([(⟨(⟨#[103]⟩ : ByteArray), (([0] : List Int))⟩ : S49)] : List (S49))), ([] : List ByteArray), ([] : List (S122))⟩ : S46)]) (wrap64 (x2_1 + 1))) else (none)) = some r := by first | (rw [hy277]; with_reducible exact H) | (have H2_ := (Option.bind_some _ _).symm.trans H; rw [hy277]; with_reducible exact H2_) | (have H2_ := (Option.bind_some _ _).symm.trans H; with_reducible exact H2_) | with_reducible exact H | (rw [hy277]; exact H) | exact H
    have Ny277 := Q0.mk hy277
    clear hy277
    obtain ⟨y280, hy280⟩ : ∃ y_ : List Int, y_ = (([0] : List Int)) := ⟨_, rfl⟩
    replace H : (if x1_1.length < 1034834473200 then (QC.l0 k1 (x1_1 ++ [(⟨(⟨#[109]⟩ : ByteArray), y277, ([] : List (S61)), (([(⟨(⟨#[103]⟩ : ByteArray), y280⟩ : S49)] : List (S49))), ([] : List ByteArray), ([] : List (S122))⟩ : S46)]) (wrap64 (x2_1 + 1))) else (none)) = some r := by first | (rw [hy280]; with_reducible exact H) | (have H2_ := (Option.bind_some _ _).symm.trans H; rw [hy280]; with_reducible exact H2_) | (have H2_ := (Option.bind_some _ _).symm.trans H; with_reducible exact H2_) | with_reducible exact H | (rw [hy280]; exact H) | exact H
    have Ny280 := Q0.mk hy280
    clear hy280
    obtain ⟨y283, hy283⟩ : ∃ y_ : List (S49), y_ = (([(⟨(⟨#[103]⟩ : ByteArray), y280⟩ : S49)] : List (S49))) := ⟨_, rfl⟩
    replace H : (if x1_1.length < 1034834473200 then (QC.l0 k1 (x1_1 ++ [(⟨(⟨#[109]⟩ : ByteArray), y277, ([] : List (S61)), y283, ([] : List ByteArray), ([] : List (S122))⟩ : S46)]) (wrap64 (x2_1 + 1))) else (none)) = some r := by first | (rw [hy283]; with_reducible exact H) | (have H2_ := (Option.bind_some _ _).symm.trans H; rw [hy283]; with_reducible exact H2_) | (have H2_ := (Option.bind_some _ _).symm.trans H; with_reducible exact H2_) | with_reducible exact H | (rw [hy283]; exact H) | exact H
    have Ny283 := Q0.mk hy283
    clear hy283
    by_cases c2 : x1_1.length < 1034834473200
    ·rw [if_pos c2] at H
     have LMc2 := Q0.mk c2
     clear c2
     obtain ⟨y286, hy286⟩ : ∃ y_ : List (S46), y_ = (x1_1 ++ [(⟨(⟨#[109]⟩ : ByteArray), y277, ([] : List (S61)), y283, ([] : List ByteArray), ([] : List (S122))⟩ : S46)]) := ⟨_, rfl⟩
     replace H : (QC.l0 k1 y286 (wrap64 (x2_1 + 1))) = some r := by first | (rw [hy286]; with_reducible exact H) | (have H2_ := (Option.bind_some _ _).symm.trans H; rw [hy286]; with_reducible exact H2_) | (have H2_ := (Option.bind_some _ _).symm.trans H; with_reducible exact H2_) | with_reducible exact H | (rw [hy286]; exact H) | exact H
     have Ny286 := Q0.mk hy286
     clear hy286
     have H' := Q0.mk H
     clear H
     go_wp2_with (first | ((with_reducible refine QN (N := 8) rfl ?_); refine Kd.R_lit (Kd.int .u8) _ 5 ?hg (N := 8) ?hd (xs := ([1] : List Int)) (inner := [.int .u8 1]) (ok := fun _ => True) (okp := fun _ => True) ?hr ?hp (fun _ hk => hk) trivial (Below.refl _ _) (Nat.le_refl _) (by simp) ?_; (case hd => rfl); (case hg => rfl); (case hr => first | (go_simp; done) | (go_simp; rfl)); (case hp => exact (Reps.one (show Kd.M (Kd.int .u8) _ _ _ 1 [.int .u8 1] from rfl) (Reps.none _ _))); intro v274 w3 ho4 hb hg_ hnew_; clear hg_ hnew_; (first | rw [← Ny273.out] at ho4 | (simp only [Int.reduceToNat] at ho4; rw [← Ny273.out] at ho4)); have HO275 := Q0.mk (Kd.Yw (Kd.R_newM (M := fun k_ => (w.heap.size ≤ k_)) ho4 (Qg HB.out) (fun k_ h_ => h_)) (Qg HB.out)); replace HO_1 := Q0.mk (Kd.Xu HO_1.out (Kd.XV ho4) hb); replace HB := Q0.mk (Qj HB.out hb); clear hb ho4; obtain ⟨Ao5, co5, eo5⟩ := Kd.Yn HO275.out; subst eo5) | ((with_reducible refine QN (N := 3) rfl ?_); refine QK ?hg (N := 3) ?hd (cs := #[.string (⟨#[]⟩ : ByteArray), .int .i64 0, .int .i64 0, .slice none 0 0, .int .i64 0, .bool false, .slice none 0 0, .slice none 0 0, .slice none 0 0]) (t := 89) ?hr ?_; (case hd => rfl); (case hg => rfl); (case hr => first | (go_simp; done) | (go_simp; rfl)); intro gb276 hg w6 hbox hb; have BK276 := Q0.mk (hbox); have GW276 := Q0.mk ((by rw [hg]; exact (Qg HB.out) : w.heap.size ≤ gb276)); have GE276 := Q0.mk ((by rw [hg]; exact (Qg HB.out) : w.heap.size ≤ gb276)); replace HO_1 := Q0.mk (Kd.XH (Kd.Ym HO_1.out gb276 (Nat.le_of_eq hg.symm)) hb); replace HO275 := Q0.mk (Kd.R_below HO275.out hb); replace HB := Q0.mk (Qj HB.out hb); clear hb hbox hg; obtain ⟨hcz7_0, hcz7_1, hcz7_2, hcz7_3, hcz7_4, hcz7_5, hcz7_6, hcz7_7, hcz7_8⟩ := Xg BK276.out; obtain ⟨hfz7_0, hfz7_1, hfz7_2, hfz7_3, hfz7_4, hfz7_5, hfz7_6, hfz7_7, hfz7_8⟩ := Ys BK276.out) | ((with_reducible refine QD (t := 89) (p := 3) rfl ?_); refine Qw (t := 89) (p := 3) (v := ?vo_w8) (w1 := (((((((((w6.setCell ⟨gb276, 0, none⟩ (.string (⟨#[103]⟩ : ByteArray))).setCell ⟨gb276, 1, none⟩ (.int .i64 3)).setCell ⟨gb276, 2, none⟩ (.int .i64 1)).setCell ⟨gb276, 3, none⟩ (.slice Ao5 y273.length co5)).setCell ⟨gb276, 4, none⟩ (.int .i64 1)).setCell ⟨gb276, 5, none⟩ (.bool false)).setCell ⟨gb276, 6, none⟩ (.slice none 0 0)).setCell ⟨gb276, 7, none⟩ (.slice none 0 0)).setCell ⟨gb276, 8, none⟩ (.slice none 0 0))) ?hg ?ho ?hn ?hr ?_; (case ho => rfl); (case hg => rfl); (case hn => rfl); (case hr => first | (go_simp; done) | (go_simp; rfl)); intro w8 hw; replace HO_1 : Q0 (Kd.N k46 46 w8 w.heap.size (fun k_ => (w.heap.size ≤ k_) ∧ some k_ ≠ (.slice Ao5 y273.length co5 : Value).ownBlock ∧ k_ ≠ gb276) u1 x1_1) := ⟨(by rw [hw]; exact (by (with_reducible repeat (first | apply Kd.Xp | apply Kd.Xo | apply Kd.Xt)); exact Kd.XB (Kd.Ya (p := ⟨gb276, 8, none⟩) (Kd.Ya (p := ⟨gb276, 7, none⟩) (Kd.Ya (p := ⟨gb276, 6, none⟩) (Kd.Ya (p := ⟨gb276, 5, none⟩) (Kd.Ya (p := ⟨gb276, 4, none⟩) (Kd.Ya (p := ⟨gb276, 3, none⟩) (Kd.Ya (p := ⟨gb276, 2, none⟩) (Kd.Ya (p := ⟨gb276, 1, none⟩) (Kd.Ya (p := ⟨gb276, 0, none⟩) (Kd.XB HO_1.out (fun k_ hk => (⟨hk, hk.2⟩ : _ ∧ k_ ≠ gb276))) (fun _ hk => hk.2) (.string (⟨#[103]⟩ : ByteArray))) (fun _ hk => hk.2) (.int .i64 3)) (fun _ hk => hk.2) (.int .i64 1)) (fun _ hk => hk.2) (.slice Ao5 y273.length co5)) (fun _ hk => hk.2) (.int .i64 1)) (fun _ hk => hk.2) (.bool false)) (fun _ hk => hk.2) (.slice none 0 0)) (fun _ hk => hk.2) (.slice none 0 0)) (fun _ hk => hk.2) (.slice none 0 0)) (fun _ hk => ⟨hk.1.1.1, ⟨hk.1.1.2, hk.1.2⟩⟩)))⟩; replace HO275 : Q0 (Kd.R (Kd.int .u8) 5 w8 w.heap.size (fun k_ => (w.heap.size ≤ k_)) (.slice Ao5 y273.length co5) y273) := ⟨(by rw [hw]; exact (by (with_reducible repeat (first | apply Kd.XN | apply Kd.XM | apply Kd.XT)); exact Kd.XA (Kd.R_far (p := ⟨gb276, 8, none⟩) (Kd.R_far (p := ⟨gb276, 7, none⟩) (Kd.R_far (p := ⟨gb276, 6, none⟩) (Kd.R_far (p := ⟨gb276, 5, none⟩) (Kd.R_far (p := ⟨gb276, 4, none⟩) (Kd.R_far (p := ⟨gb276, 3, none⟩) (Kd.R_far (p := ⟨gb276, 2, none⟩) (Kd.R_far (p := ⟨gb276, 1, none⟩) (Kd.R_far (p := ⟨gb276, 0, none⟩) (Kd.XX HO275.out BK276.out (by decide)) (fun _ hk => hk.2) (.string (⟨#[103]⟩ : ByteArray))) (fun _ hk => hk.2) (.int .i64 3)) (fun _ hk => hk.2) (.int .i64 1)) (fun _ hk => hk.2) (.slice Ao5 y273.length co5)) (fun _ hk => hk.2) (.int .i64 1)) (fun _ hk => hk.2) (.bool false)) (fun _ hk => hk.2) (.slice none 0 0)) (fun _ hk => hk.2) (.slice none 0 0)) (fun _ hk => hk.2) (.slice none 0 0)) (fun _ hk => hk.1.1)))⟩; replace BK276 := Q0.mk (put9 hw BK276.out); replace HB := Q0.mk (bel9 hw HB.out GE276.out); clear hw; obtain ⟨hcz9_0, hcz9_1, hcz9_2, hcz9_3, hcz9_4, hcz9_5, hcz9_6, hcz9_7, hcz9_8⟩ := Xg BK276.out; obtain ⟨hfz9_0, hfz9_1, hfz9_2, hfz9_3, hfz9_4, hfz9_5, hfz9_6, hfz9_7, hfz9_8⟩ := Ys BK276.out) | ((with_reducible refine QN (N := 12) rfl ?_); refine Kd.N_lit k89 _ 89 ?hg (N' := 12) ?hd (xs := ([(⟨(⟨#[103]⟩ : ByteArray), 3, 1, y273, 1, false, ([] : List (S97)), ([] : List (S126)), ([] : List (S128))⟩ : S89)] : List (S89))) (inner := [.string (⟨#[103]⟩ : ByteArray), .int .i64 3, .int .i64 1, .slice Ao5 y273.length co5, .int .i64 1, .bool false, .slice none 0 0, .slice none 0 0, .slice none 0 0]) (ok := (fun k_ => (w.heap.size ≤ k_) ∧ some k_ ≠ (u1 : Value).ownBlock ∧ k_ ≠ gb276)) (okp := (fun k_ => (w.heap.size ≤ k_) ∧ some k_ ≠ (u1 : Value).ownBlock ∧ k_ ≠ gb276)) ?hr ?hp (fun _ hk => hk) ((show ∀ k_, w8.heap.size ≤ k_ → (fun k_ => (w.heap.size ≤ k_) ∧ some k_ ≠ (u1 : Value).ownBlock ∧ k_ ≠ gb276) k_ from fun k_ hk => ⟨(Nat.le_trans (Qg HB.out) hk), Kd.fresh' (Kd.N_lt HO_1.out) k_ hk, Kd.freshB (g := gb276) (o := .cells #[.string (⟨#[103]⟩ : ByteArray), .int .i64 3, .int .i64 1, .slice Ao5 y273.length co5, .int .i64 1, .bool false, .slice none 0 0, .slice none 0 0, .slice none 0 0] 89 (0, 0)) BK276.out k_ hk⟩) _ (Nat.le_refl _)) (Below.refl _ _) (Nat.le_refl _) (by simp) ?_; (case hd => rfl); (case hg => rfl); (case hr => first | (go_simp; done) | (go_simp; rfl)); (case hp => exact (Reps.c9 (show Kd.FK k89 _ _ (⟨(⟨#[103]⟩ : ByteArray), 3, 1, y273, 1, false, ([] : List (S97)), ([] : List (S126)), ([] : List (S128))⟩ : S89) [.string (⟨#[103]⟩ : ByteArray), .int .i64 3, .int .i64 1, .slice Ao5 y273.length co5, .int .i64 1, .bool false, .slice none 0 0, .slice none 0 0, .slice none 0 0] from (k89_mkF _ _ (⟨(⟨#[103]⟩ : ByteArray), 3, 1, y273, 1, false, ([] : List (S97)), ([] : List (S126)), ([] : List (S128))⟩ : S89) (Kd.XK (Kd.XA (ok' := (fun k_ => (w.heap.size ≤ k_) ∧ some k_ ≠ (u1 : Value).ownBlock ∧ k_ ≠ gb276)) (Kd.XX (Kd.XD (HO275.out) (Kd.XR HO_1.out) (by decide)) BK276.out (by decide)) (fun k_ hk => ⟨hk.1.1, ⟨hk.1.2, hk.2⟩⟩))).2.1 (Kd.R_F (Kd.XA (ok' := (fun k_ => (w.heap.size ≤ k_) ∧ some k_ ≠ (u1 : Value).ownBlock ∧ k_ ≠ gb276)) (Kd.XX (Kd.XD (HO275.out) (Kd.XR HO_1.out) (by decide)) BK276.out (by decide)) (fun k_ hk => ⟨hk.1.1, ⟨hk.1.2, hk.2⟩⟩))) (Nat.le_refl _) (Kd.F_nil _ _ _) (Nat.le_refl _) (Kd.F_nil _ _ _) (Nat.le_refl _) (Kd.F_nil _ _ _))) (Reps.none _ _))); intro v278 w10 ho11 hb hg_ hnew_; clear hg_ hnew_; (first | rw [← Ny277.out] at ho11 | (simp only [Int.reduceToNat] at ho11; rw [← Ny277.out] at ho11)); have HO279 := Q0.mk (Kd.N_lower ho11 (Qg HB.out)); replace HO_1 := Q0.mk (Kd.Xu HO_1.out (by first | exact Kd.N_base ho11 | exact Kd.Yi ho11) hb); replace BK276 := Q0.mk (Q9 BK276.out hb); replace HB := Q0.mk (Qj HB.out hb); clear HO275; clear hb ho11) | ((with_reducible refine QN (N := 13) rfl ?_); refine Kd.R_lit (Kd.int .i64) _ 3 ?hg (N := 13) ?hd (xs := ([0] : List Int)) (inner := [.int .i64 0]) (ok := fun _ => True) (okp := fun _ => True) ?hr ?hp (fun _ hk => hk) trivial (Below.refl _ _) (Nat.le_refl _) (by simp) ?_; (case hd => rfl); (case hg => rfl); (case hr => first | (go_simp; done) | (go_simp; rfl)); (case hp => exact (Reps.one (show Kd.M (Kd.int .i64) _ _ _ 0 [.int .i64 0] from rfl) (Reps.none _ _))); intro v281 w12 ho13 hb hg_ hnew_; clear hg_ hnew_; (first | rw [← Ny280.out] at ho13 | (simp only [Int.reduceToNat] at ho13; rw [← Ny280.out] at ho13)); have HO282 := Q0.mk (Kd.Yw (Kd.R_newM (M := fun k_ => (w.heap.size ≤ k_)) ho13 (Qg HB.out) (fun k_ h_ => h_)) (Qg HB.out)); replace HO_1 := Q0.mk (Kd.Xu HO_1.out (Kd.XV ho13) hb); replace HO279 := Q0.mk (Kd.Xu HO279.out (Kd.XV ho13) hb); replace BK276 := Q0.mk (Q9 BK276.out hb); replace HB := Q0.mk (Qj HB.out hb); clear hb ho13; obtain ⟨Ao14, co14, eo14⟩ := Kd.Yn HO282.out; subst eo14) | ((with_reducible refine QN (N := 15) rfl ?_); refine Kd.N_lit k49 _ 49 ?hg (N' := 15) ?hd (xs := ([(⟨(⟨#[103]⟩ : ByteArray), y280⟩ : S49)] : List (S49))) (inner := [.string (⟨#[103]⟩ : ByteArray), .slice Ao14 y280.length co14]) (ok := (fun k_ => (w.heap.size ≤ k_) ∧ some k_ ≠ (u1 : Value).ownBlock ∧ some k_ ≠ (v278 : Value).ownBlock ∧ k_ ≠ gb276)) (okp := (fun k_ => (w.heap.size ≤ k_) ∧ some k_ ≠ (u1 : Value).ownBlock ∧ some k_ ≠ (v278 : Value).ownBlock ∧ k_ ≠ gb276)) ?hr ?hp (fun _ hk => hk) ((show ∀ k_, w12.heap.size ≤ k_ → (fun k_ => (w.heap.size ≤ k_) ∧ some k_ ≠ (u1 : Value).ownBlock ∧ some k_ ≠ (v278 : Value).ownBlock ∧ k_ ≠ gb276) k_ from fun k_ hk => ⟨(Nat.le_trans (Qg HB.out) hk), Kd.fresh' (Kd.N_lt HO_1.out) k_ hk, Kd.fresh' (Kd.N_lt HO279.out) k_ hk, Kd.freshB (g := gb276) (o := .cells #[.string (⟨#[103]⟩ : ByteArray), .int .i64 3, .int .i64 1, .slice Ao5 y273.length co5, .int .i64 1, .bool false, .slice none 0 0, .slice none 0 0, .slice none 0 0] 89 (0, 0)) BK276.out k_ hk⟩) _ (Nat.le_refl _)) (Below.refl _ _) (Nat.le_refl _) (by simp) ?_; (case hd => rfl); (case hg => rfl); (case hr => first | (go_simp; done) | (go_simp; rfl)); (case hp => exact (Reps.c2 (show Kd.FK k49 _ _ (⟨(⟨#[103]⟩ : ByteArray), y280⟩ : S49) [.string (⟨#[103]⟩ : ByteArray), .slice Ao14 y280.length co14] from (k49_mkF _ _ (⟨(⟨#[103]⟩ : ByteArray), y280⟩ : S49) (Kd.XK (Kd.XA (ok' := (fun k_ => (w.heap.size ≤ k_) ∧ some k_ ≠ (u1 : Value).ownBlock ∧ some k_ ≠ (v278 : Value).ownBlock ∧ k_ ≠ gb276)) (Kd.XX (Kd.XD (Kd.XD (HO282.out) (Kd.XR HO_1.out) (by decide)) (Kd.XR HO279.out) (by decide)) BK276.out (by decide)) (fun k_ hk => ⟨hk.1.1.1.1, ⟨hk.1.1.2, ⟨hk.1.2, hk.2⟩⟩⟩))).2.1 (Kd.R_F (Kd.XA (ok' := (fun k_ => (w.heap.size ≤ k_) ∧ some k_ ≠ (u1 : Value).ownBlock ∧ some k_ ≠ (v278 : Value).ownBlock ∧ k_ ≠ gb276)) (Kd.XX (Kd.XD (Kd.XD (HO282.out) (Kd.XR HO_1.out) (by decide)) (Kd.XR HO279.out) (by decide)) BK276.out (by decide)) (fun k_ hk => ⟨hk.1.1.1.1, ⟨hk.1.1.2, ⟨hk.1.2, hk.2⟩⟩⟩))))) (Reps.none _ _))); intro v284 w15 ho16 hb hg_ hnew_; clear hg_ hnew_; (first | rw [← Ny283.out] at ho16 | (simp only [Int.reduceToNat] at ho16; rw [← Ny283.out] at ho16)); have HO285 := Q0.mk (Kd.N_lower ho16 (Qg HB.out)); replace HO_1 := Q0.mk (Kd.Xu HO_1.out (by first | exact Kd.N_base ho16 | exact Kd.Yi ho16) hb); replace HO279 := Q0.mk (Kd.Xu HO279.out (by first | exact Kd.N_base ho16 | exact Kd.Yi ho16) hb); replace BK276 := Q0.mk (Q9 BK276.out hb); replace HB := Q0.mk (Qj HB.out hb); clear HO282; clear hb ho16; obtain ⟨Ao17, co17, eo17⟩ := Kd.N_slice HO285.out; subst eo17; obtain ⟨Ao18, co18, eo18⟩ := Kd.N_slice HO279.out; subst eo18) | ((with_reducible refine gate_builtin (b := .append) (xs := #[.tmp 10, .tmp 17]) rfl ?_); at_builtin; refine Kd.N_append k46 (w0 := w) w.heap.size rfl (.tmp 10) (.tmp 17) 22 46 (.agg #[(.string ⟨#[]⟩), (.slice none 0 0), (.slice none 0 0), (.slice none 0 0), (.slice none 0 0), (.slice none 0 0)]) 136 rfl Try.underlying22 info46 rfl (by decide) (by omega) u1 x1_1 (⟨(⟨#[109]⟩ : ByteArray), y277, ([] : List (S61)), y283, ([] : List ByteArray), ([] : List (S122))⟩ : S46) [.string (⟨#[109]⟩ : ByteArray), .slice Ao18 y277.length co18, .slice none 0 0, .slice Ao17 y283.length co17, .slice none 0 0, .slice none 0 0] (fun k_ => (w.heap.size ≤ k_) ∧ k_ ≠ gb276) (fun k_ => ((fun k_ => (w.heap.size ≤ k_) ∧ k_ ≠ gb276)) k_ ∧ some k_ ≠ (u1 : Value).ownBlock) rfl rfl ?aP (fun _ hk => hk) ?aF ?aO ?aB ?aS ?aL ?_; (case aP => exact (k46_mkF _ _ (⟨(⟨#[109]⟩ : ByteArray), y277, ([] : List (S61)), y283, ([] : List ByteArray), ([] : List (S122))⟩ : S46) (Kd.Y9 (Kd.XB (ok' := (fun k_ => ((fun k_ => (w.heap.size ≤ k_) ∧ k_ ≠ gb276)) k_ ∧ some k_ ≠ (u1 : Value).ownBlock)) (HO279.out) (fun k_ hk => ⟨⟨hk.1.1.1, hk.1.1.2.2⟩, hk.1.1.2.1⟩))).2.1 (Kd.N_F (Kd.XB (ok' := (fun k_ => ((fun k_ => (w.heap.size ≤ k_) ∧ k_ ≠ gb276)) k_ ∧ some k_ ≠ (u1 : Value).ownBlock)) (HO279.out) (fun k_ hk => ⟨⟨hk.1.1.1, hk.1.1.2.2⟩, hk.1.1.2.1⟩))) (Nat.le_refl _) (Kd.F_nil _ _ _) (Kd.Y9 (Kd.XB (ok' := (fun k_ => ((fun k_ => (w.heap.size ≤ k_) ∧ k_ ≠ gb276)) k_ ∧ some k_ ≠ (u1 : Value).ownBlock)) (HO285.out) (fun k_ hk => ⟨⟨hk.1, hk.2.2.2⟩, hk.2.1⟩))).2.1 (Kd.N_F (Kd.XB (ok' := (fun k_ => ((fun k_ => (w.heap.size ≤ k_) ∧ k_ ≠ gb276)) k_ ∧ some k_ ≠ (u1 : Value).ownBlock)) (HO285.out) (fun k_ hk => ⟨⟨hk.1, hk.2.2.2⟩, hk.2.1⟩))) (Nat.le_refl _) (Kd.F_nil _ _ _) (Nat.le_refl _) (Kd.F_nil _ _ _))); (case aB => exact HB.out); (case aF => exact (fun k_ hk => ⟨(Nat.le_trans (Qg HB.out) hk), Kd.freshB (g := gb276) (o := .cells #[.string (⟨#[103]⟩ : ByteArray), .int .i64 3, .int .i64 1, .slice Ao5 y273.length co5, .int .i64 1, .bool false, .slice none 0 0, .slice none 0 0, .slice none 0 0] 89 (0, 0)) BK276.out k_ hk⟩)); (case aO => exact (by (with_reducible repeat (first | apply Kd.Xp | apply Kd.Xo | apply Kd.Xt)); exact Kd.XB HO_1.out (fun _ hk => ⟨hk.1.1.1.1, hk.1.1.1.2.2⟩))); (case aS => exact (Qg HB.out)); (case aL => have := LMc2.out; omega); intro v287 w19 ho hb hg hat; rw [← Ny286.out] at ho; have HO288 := Q0.mk (ho); replace BK276 := Q0.mk (Xv (g := gb276) (o := .cells #[.string (⟨#[103]⟩ : ByteArray), .int .i64 3, .int .i64 1, .slice Ao5 y273.length co5, .int .i64 1, .bool false, .slice none 0 0, .slice none 0 0, .slice none 0 0] 89 (0, 0)) BK276.out hg (Kd.N_ne HO_1.out BK276.out (by decide))); replace HB := Q0.mk (hb); clear HO_1 HO279 HO285; clear ho hb hg hat))
     go_roundg k1
     case measure => have := HK1.out; omega
     case rel => exact ⟨(y286), (wrap64 (x2_1 + 1)), (by first | rfl | (simp [*]; done)), H', ⟨by have := HK1.out; omega⟩, ⟨by (with_reducible repeat (first | apply Kd.Xp | apply Kd.Xo | apply Kd.Xt)); exact Kd.XB HO288.out (fun _ hk => hk.1)⟩, ⟨by repeat (first | exact HB.out | apply Q4 | apply Q2 | apply Q6 | refine Q1 ?_ GE276.out)⟩⟩
    ·rw [if_neg c2] at H
     exact absurd H (by simp)
   ·rw [if_neg c1] at H
    have c1b0 : decide (x2_1 < 2) = false := decide_eq_false c1
    clear c1
    obtain rfl := Option.some.inj H
    go_wp2
    go_ret
    exact ⟨_, by first | rfl | (simp [*]; done), by (with_reducible repeat (first | apply Kd.Xp | apply Kd.Xo | apply Kd.Xt)); exact HO_1.out, by repeat (first | exact HB.out | apply Q4 | apply Q2 | apply Q6)⟩
end Go.Proofs.Ytakabkjhnncbhaa.PX
