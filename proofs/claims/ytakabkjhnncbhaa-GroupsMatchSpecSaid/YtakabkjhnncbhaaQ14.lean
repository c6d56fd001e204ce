-- Written by this session's own programs (wip/printx.py, gen_*.py, assemble.py) and by hand.
import Derived.Test.YtakabkjhnncbhaaQ01
import Derived.Test.YtakabkjhnncbhaaQ07
import Derived.Test.YtakabkjhnncbhaaQ09
import Derived.Test.YtakabkjhnncbhaaQ10
import Derived.Test.YtakabkjhnncbhaaQ11
import Derived.Test.YtakabkjhnncbhaaQ12
import Derived.Test.YtakabkjhnncbhaaQ13
import Derived.Test.YtakabkjhnncbhaaQ03
import Derived.Test.YtakabkjhnncbhaaQ04
import Derived.Test.YtakabkjhnncbhaaQ06
import Derived.Test.YtakabkjhnncbhaaQ02
import Derived.Test.YtakabkjhnncbhaaQ08
namespace Go.Proofs.Ytakabkjhnncbhaa.PX
open Go.RowKit Go.Proofs.YtakabkjhnncbhaaW.PrintWords Go.Proofs.YtakabkjhnncbhaaW.PrintLast Go.Proofs.YtakabkjhnncbhaaW.PrintMore
attribute [local go_sem] Xk Xi Xs Xr X7 X6 Xj Xh   -- for this text's walks alone
set_option linter.unusedVariables false
set_option linter.unusedSimpArgs false
attribute [local go_sem high] eqA24
def Qm.j0 : Nat → List (S46) → ByteArray → List (List Bool) → Int → Int → Bool → Int → Int → Int → Int → Int → Int → Option (Bool)
 | 0, _, _, _, _, _, _, _, _, _, _, _, _ => none
 | k + 1, x0, x1, x6, x8, x9, x37, x364000, x364001, x370000, x370001, x375000, x375001 => if x37 = true then ((Qt.f k).bind fun t376 => (if t376 = true then (if (x370000 == x364000 && (x370001 == x364001)) = true then (if (x375000 == x364000 && (x375001 == x364001)) = true then (if (x6.length : Int) = 0 then (if x8 = 0 then (some (x9 == 0)) else (some false)) else (some false)) else (some false)) else (some false)) else (some false))) else ((Qn.f k x0 x1).bind fun bt377 => (if bt377.1 < 0 then ((Qb.f k x0).bind fun t380 => ((Qk.f k x6 t380).bind fun t383 => (if t383 = true then ((Xt.f 6 (-2)).bind fun bt384 => (if (x375000 == bt384.1 && (x375001 == bt384.2)) = true then (if x8 = 0 then (some (x9 == 0)) else (some false)) else (some false))) else (some false)))) else ((Qb.f k x0).bind fun t386 => ((Qk.f k x6 t386).bind fun t389 => (if t389 = true then (if x375000 = 0 then (if x8 = bt377.1 then (some (x9 == bt377.2)) else (some false)) else (some false)) else (some false))))))
def Qm.f (k : Nat) (l0 : List (S46)) (a1 : ByteArray) : Option (Bool) := (Qu.f k l0).bind fun bt361 => ((Qf.f k l0).bind fun bt364 => ((Xu.f k l0 a1).bind fun bt370 => ((Qt.f k).bind fun t375 => (if t375 = true then (if (!(bt364.2.1 == bt361.1) || (!(bt364.2.2 == bt361.2))) = true then (Qm.j0 k l0 a1 bt364.1 bt370.1 bt370.2.1 true bt361.1 bt361.2 bt364.2.1 bt364.2.2 bt370.2.2.1 bt370.2.2.2) else (Qm.j0 k l0 a1 bt364.1 bt370.1 bt370.2.1 (bt361.1 != 0) bt361.1 bt361.2 bt364.2.1 bt364.2.2 bt370.2.2.1 bt370.2.2.2)) else (Qm.j0 k l0 a1 bt364.1 bt370.1 bt370.2.1 true bt361.1 bt361.2 bt364.2.1 bt364.2.2 bt370.2.2.1 bt370.2.2.2)))))
theorem Qm.Xn : ∀ k, (∀ y0 y1 y2 y3 y4 y5 y6 y7 y8 y9 y10 y11, LeO (Qm.j0 k y0 y1 y2 y3 y4 y5 y6 y7 y8 y9 y10 y11) (Qm.j0 (k + 1) y0 y1 y2 y3 y4 y5 y6 y7 y8 y9 y10 y11))
 | 0 => fun _ _ _ _ _ _ _ _ _ _ _ _ r h => by simp [Qm.j0] at h
 | k + 1 => by
  have ih0 := Qm.Xn k
  ·intro y0 y1 y2 y3 y4 y5 y6 y7 y8 y9 y10 y11
   unfold Qm.j0
   repeat' first
   | (with_reducible exact ih0 _ _ _ _ _ _ _ _ _ _ _ _)
   | (with_reducible exact Qf.mono _ _)
   | (with_reducible exact Xu.mono _ _ _)
   | (with_reducible exact Qu.mono _ _)
   | (with_reducible exact Qt.mono _)
   | (with_reducible exact Qk.mono _ _ _)
   | (with_reducible exact Qn.mono _ _ _)
   | (with_reducible exact Qb.mono _ _)
   | (with_reducible exact LeO.refl _)
   | (with_reducible exact LeO.none _)
   | (with_reducible refine LeO.ite ?_ ?_)
   | (with_reducible refine LeO.bind ?_ (fun _ => ?_))
theorem Qm.mono : ∀ a0 a1 k, LeO (Qm.f k a0 a1) (Qm.f (k + 1) a0 a1) := by
 intro a0 a1 k
 have ih0 := Qm.Xn k
 unfold Qm.f
 repeat' first
   | (with_reducible exact ih0 _ _ _ _ _ _ _ _ _ _ _ _)
   | (with_reducible exact Qf.mono _ _)
   | (with_reducible exact Xu.mono _ _ _)
   | (with_reducible exact Qu.mono _ _)
   | (with_reducible exact Qt.mono _)
   | (with_reducible exact Qk.mono _ _ _)
   | (with_reducible exact Qn.mono _ _ _)
   | (with_reducible exact Qb.mono _ _)
   | (with_reducible exact LeO.refl _)
   | (with_reducible exact LeO.none _)
   | (with_reducible refine LeO.ite ?_ ?_)
   | (with_reducible refine LeO.bind ?_ (fun _ => ?_))
def Qm.T8 : Bool × List (List Nat × List Nat) := (true, [([], []), ([], []), ([1], [1]), ([0, 2, 2], [0, 2]), ([3, 3], [3]), ([4], [4]), ([4, 4], [4]), ([5, 6, 4], [4, 5, 6]), ([4, 7], [4, 7]), ([8, 6], [8]), ([9], [9]), ([10, 9], [9, 10]), ([9, 11], [9, 11]), ([12, 9], [12]), ([13], [13]), ([14, 13], [13, 14]), ([13, 15], [13, 15]), ([16, 13, 0, 1, 2, 3, 4, 5, 6, 7, 8, 9, 10, 11, 12, 13, 14, 15, 16], [16])])
def Qm.B8 : List Nat := [0, 0, 2, 7, 15, 31, 31, 127, 255, 511, 1023, 2047, 4095, 8191, 16383, 32767, 65535, 131071]
theorem Qm.tab8 : rtab .any (opsOf Try.f3 8) = Qm.T8 := by kernel_rfl
theorem Qm.bits8 : waitsOk Qm.T8.2 Qm.B8 = true := by kernel_rfl
set_option maxHeartbeats 8000000 in
set_option maxRecDepth 100000 in
theorem Qm.calls (k : Nat) (A0 : Option Addr) (c0 : Nat) (l0 : List (S46)) (a1 : ByteArray) (r : Bool) (w : World) (hr0 : Kd.C k46 w A0 l0.length l0) (hc0 : l0.length ≤ c0) (h : Qm.f k l0 a1 = some r) (ht : r = true) :
  Calls Try.prog 3 #[.slice A0 l0.length c0, .string a1] w fun e w' => e = .returned (.bool r) ∧ Below w.heap.size w w' := by
 have HT := Q0.mk ht
 clear ht
 have hu24 := Try.underlying24
 have hu33 := Try.underlying33
 have HR0 := Q0.mk hr0
 have HC0 := Q0.mk hc0
 clear hr0 hc0
 have HB := Q0.mk (Below.refl w.heap.size w)
 have H := h
 clear h
 unfold Qm.f at H
 try dsimp only at H
 replace H := Option.bind_eq_some_iff.mp H
 obtain ⟨⟨t361, t362⟩, A30, H⟩ := H
 try dsimp only at H
 have A3 := Q0.mk A30
 clear A30
 replace H := Option.bind_eq_some_iff.mp H
 obtain ⟨⟨t364, t367, t368⟩, A40, H⟩ := H
 try dsimp only at H
 have A4 := Q0.mk A40
 clear A40
 replace H := Option.bind_eq_some_iff.mp H
 obtain ⟨⟨t370, t371, t372, t373⟩, A50, H⟩ := H
 try dsimp only at H
 have A5 := Q0.mk A50
 clear A50
 have HC6 := Q0.mk H
 clear H
 go_enter Try.func3, Try.ntmps3
 go_upto_region 4 with (first | ((with_reducible refine Qs (f := 10) rfl ?_); refine QZ (some 13) rfl rfl Try.func10 (by kernel_rfl) rfl #[.slice A0 l0.length c0] rfl (by (try simp only [List.map_toArray, List.map_cons, List.map_nil]); first | done | rfl | (simp only [List.length_drop, List.length_take]; rfl)) ?_; (with_reducible refine (Qu.calls k _ _ l0 t361 t362 _ ?side1 ?side2 A3.out).mono ?_); (case side1 => repeat (first | exact HR0.out | (with_reducible refine Kd.QT ?_ _) | (with_reducible refine Kd.QS ?_ _) | (with_reducible refine Kd.X3 ?_))); (case side2 => exact HC0.out); rintro e w7 ⟨rfl, hb⟩; refine ⟨_, rfl, ?_⟩; replace HB := Q0.mk (Qi HB.out hb)) | ((with_reducible refine QP (N := 5) rfl ?_); (try (refine Xy (by rfl) ?_; dsimp only)); refine QL ?hg (N := 5) ?hd (cs := #[.int .i64 0, .int .i64 0]) (t := 24) ?hr ?_; (case hd => rfl); (case hg => rfl); (case hr => first | (go_simp; done) | (go_simp; rfl)); intro gb363 hg w8 hbox hb; have BK363 := Q0.mk (hbox); have GW363 := Q0.mk ((by rw [hg]; exact (Qg HB.out) : w.heap.size ≤ gb363)); have GE363 := Q0.mk ((by rw [hg]; exact (Qg HB.out) : w.heap.size ≤ gb363)); replace HB := Q0.mk (Qi HB.out hb); clear hb hbox hg; obtain ⟨hcz9_0, hcz9_1⟩ := QB BK363.out; obtain ⟨hfz9_0, hfz9_1⟩ := Qr BK363.out) | ((with_reducible refine QC (t := 24) (p := 5) rfl ?_); refine Qw (t := 24) (p := 5) (v := ?vo_w10) (w1 := ((w8.setCell ⟨gb363, 0, none⟩ (.int .i64 t361)).setCell ⟨gb363, 1, none⟩ (.int .i64 t362))) ?hg ?ho ?hn ?hr ?_; (case ho => rfl); (case hg => rfl); (case hn => rfl); (case hr => first | (go_simp; done) | (go_simp; rfl)); intro w10 hw; replace BK363 := Q0.mk (put2 hw BK363.out); replace HB := Q0.mk (bel2 hw HB.out GE363.out); clear hw) | ((with_reducible refine Qs (f := 11) rfl ?_); refine QZ (some 16) rfl rfl Try.func11 (by kernel_rfl) rfl #[.slice A0 l0.length c0] rfl (by (try simp only [List.map_toArray, List.map_cons, List.map_nil]); first | done | rfl | (simp only [List.length_drop, List.length_take]; rfl)) ?_; (with_reducible refine (Qf.calls k _ _ l0 t364 t367 t368 _ ?side1 ?side2 A4.out).mono ?_); (case side1 => repeat (first | exact (Kd.Qz HR0.out HB.out) | (with_reducible refine Kd.QT ?_ _) | (with_reducible refine Kd.QS ?_ _) | (with_reducible refine Kd.X3 ?_))); (case side2 => exact HC0.out); rintro e w11 ⟨v365, rfl, ho0, hb⟩; refine ⟨_, rfl, ?_⟩; have HO366 := Q0.mk (Kd.S_lower ho0 (Qg HB.out)); replace BK363 := Q0.mk (Q9 BK363.out hb); replace HB := Q0.mk (Qi HB.out hb); (try clear ho0)) | ((with_reducible refine QP (N := 7) rfl ?_); (try (refine Xy (by rfl) ?_; dsimp only)); refine QL ?hg (N := 7) ?hd (cs := #[.int .i64 0, .int .i64 0]) (t := 24) ?hr ?_; (case hd => rfl); (case hg => rfl); (case hr => first | (go_simp; done) | (go_simp; rfl)); intro gb369 hg w12 hbox hb; have BK369 := Q0.mk (hbox); have GW369 := Q0.mk ((by rw [hg]; exact (Qg HB.out) : w.heap.size ≤ gb369)); have GE369 := Q0.mk ((by rw [hg]; exact (Qg HB.out) : w.heap.size ≤ gb369)); have NB363_369 := Q0.mk ((by rw [hg]; exact Nat.ne_of_lt (Qy BK363.out) : gb363 ≠ gb369)); have NB369_363 := Q0.mk ((by rw [hg]; exact Nat.ne_of_gt (Qy BK363.out) : gb369 ≠ gb363)); replace HO366 := Q0.mk (Kd.XO HO366.out hb); replace BK363 := Q0.mk (Q9 BK363.out hb); replace HB := Q0.mk (Qi HB.out hb); clear hb hbox hg; have hnb13 := NB369_363.out; have hnc13 := NB363_369.out; obtain ⟨hcz14_0, hcz14_1⟩ := QB BK369.out; obtain ⟨hfz14_0, hfz14_1⟩ := Qr BK369.out) | ((with_reducible refine QC (t := 24) (p := 7) rfl ?_); refine Qw (t := 24) (p := 7) (v := ?vo_w15) (w1 := ((w12.setCell ⟨gb369, 0, none⟩ (.int .i64 t367)).setCell ⟨gb369, 1, none⟩ (.int .i64 t368))) ?hg ?ho ?hn ?hr ?_; (case ho => rfl); (case hg => rfl); (case hn => rfl); (case hr => first | (go_simp; done) | (go_simp; rfl)); intro w15 hw; replace HO366 : Q0 (Kd.S (Kd.slice 4 Kd.bool) 39 w15 w.heap.size (fun _ => True) v365 t364) := ⟨(by rw [hw]; exact (by (with_reducible repeat (first | apply Kd.Xa | apply Kd.X9 | apply Kd.Xl)); exact Kd.XU (Kd.Yd (p := ⟨gb369, 1, none⟩) (Kd.Yd (p := ⟨gb369, 0, none⟩) (Kd.S_types HO366.out BK369.out (by decide)) (fun _ hk => hk.2) (.int .i64 t367)) (fun _ hk => hk.2) (.int .i64 t368)) (fun _ hk => trivial)))⟩; replace BK363 := Q0.mk (far2 hw BK363.out NB363_369.out); replace BK369 := Q0.mk (put2 hw BK369.out); replace HB := Q0.mk (bel2 hw HB.out GE369.out); clear hw) | ((with_reducible refine Qs (f := 12) rfl ?_); refine QZ (some 22) rfl rfl Try.func12 (by kernel_rfl) rfl #[.slice A0 l0.length c0, .string a1] rfl (by (try simp only [List.map_toArray, List.map_cons, List.map_nil]); first | done | rfl | (simp only [List.length_drop, List.length_take]; rfl)) ?_; (with_reducible refine (Xu.calls k _ _ l0 a1 t370 t371 t372 t373 _ ?side1 ?side2 A5.out).mono ?_); (case side1 => repeat (first | exact (Kd.Qz HR0.out HB.out) | (with_reducible refine Kd.QT ?_ _) | (with_reducible refine Kd.QS ?_ _) | (with_reducible refine Kd.X3 ?_))); (case side2 => exact HC0.out); rintro e w16 ⟨rfl, hb⟩; refine ⟨_, rfl, ?_⟩; replace HO366 := Q0.mk (Kd.XO HO366.out hb); replace BK363 := Q0.mk (Q9 BK363.out hb); replace BK369 := Q0.mk (Q9 BK369.out hb); replace HB := Q0.mk (Qi HB.out hb)) | ((with_reducible refine QP (N := 10) rfl ?_); (try (refine Xy (by rfl) ?_; dsimp only)); refine QL ?hg (N := 10) ?hd (cs := #[.int .i64 0, .int .i64 0]) (t := 24) ?hr ?_; (case hd => rfl); (case hg => rfl); (case hr => first | (go_simp; done) | (go_simp; rfl)); intro gb374 hg w17 hbox hb; have BK374 := Q0.mk (hbox); have GW374 := Q0.mk ((by rw [hg]; exact (Qg HB.out) : w.heap.size ≤ gb374)); have GE374 := Q0.mk ((by rw [hg]; exact (Qg HB.out) : w.heap.size ≤ gb374)); have NB363_374 := Q0.mk ((by rw [hg]; exact Nat.ne_of_lt (Qy BK363.out) : gb363 ≠ gb374)); have NB374_363 := Q0.mk ((by rw [hg]; exact Nat.ne_of_gt (Qy BK363.out) : gb374 ≠ gb363)); have NB369_374 := Q0.mk ((by rw [hg]; exact Nat.ne_of_lt (Qy BK369.out) : gb369 ≠ gb374)); have NB374_369 := Q0.mk ((by rw [hg]; exact Nat.ne_of_gt (Qy BK369.out) : gb374 ≠ gb369)); replace HO366 := Q0.mk (Kd.XO HO366.out hb); replace BK363 := Q0.mk (Q9 BK363.out hb); replace BK369 := Q0.mk (Q9 BK369.out hb); replace HB := Q0.mk (Qi HB.out hb); clear hb hbox hg; have hnb18 := NB374_363.out; have hnc18 := NB363_374.out; have hnb19 := NB374_369.out; have hnc19 := NB369_374.out; obtain ⟨hcz20_0, hcz20_1⟩ := QB BK374.out; obtain ⟨hfz20_0, hfz20_1⟩ := Qr BK374.out) | ((with_reducible refine QC (t := 24) (p := 10) rfl ?_); refine Qw (t := 24) (p := 10) (v := ?vo_w21) (w1 := ((w17.setCell ⟨gb374, 0, none⟩ (.int .i64 t372)).setCell ⟨gb374, 1, none⟩ (.int .i64 t373))) ?hg ?ho ?hn ?hr ?_; (case ho => rfl); (case hg => rfl); (case hn => rfl); (case hr => first | (go_simp; done) | (go_simp; rfl)); intro w21 hw; replace HO366 : Q0 (Kd.S (Kd.slice 4 Kd.bool) 39 w21 w.heap.size (fun _ => True) v365 t364) := ⟨(by rw [hw]; exact (by (with_reducible repeat (first | apply Kd.Xa | apply Kd.X9 | apply Kd.Xl)); exact Kd.XU (Kd.Yd (p := ⟨gb374, 1, none⟩) (Kd.Yd (p := ⟨gb374, 0, none⟩) (Kd.S_types HO366.out BK374.out (by decide)) (fun _ hk => hk.2) (.int .i64 t372)) (fun _ hk => hk.2) (.int .i64 t373)) (fun _ hk => trivial)))⟩; replace BK363 := Q0.mk (far2 hw BK363.out NB363_374.out); replace BK369 := Q0.mk (far2 hw BK369.out NB369_374.out); replace BK374 := Q0.mk (put2 hw BK374.out); replace HB := Q0.mk (bel2 hw HB.out GE374.out); clear hw))
 (try simp only [Act.put, List.setIfInBounds_toArray, List.set_cons_zero, List.set_cons_succ])
 go_cut [37] (fun v37 wc => ∃ (kq : Nat) (x37_5 : Bool), v37 = .bool x37_5 ∧ Q0 (Qm.j0 kq l0 a1 t364 t370 t371 x37_5 t361 t362 t367 t368 t372 t373 = some r) ∧ Q0 (kq ≤ k) ∧ Q0 (Kd.S (Kd.slice 4 Kd.bool) 39 wc w.heap.size (fun _ => True) v365 t364) ∧ Q0 (wc.heap[gb363]? = some (.cells #[.int .i64 t361, .int .i64 t362] 24 (0, 0))) ∧ Q0 (wc.heap[gb369]? = some (.cells #[.int .i64 t367, .int .i64 t368] 24 (0, 0))) ∧ Q0 (wc.heap[gb374]? = some (.cells #[.int .i64 t372, .int .i64 t373] 24 (0, 0))) ∧ Q0 (Below w.heap.size w wc))
 case first =>
  have H := HC6.out
  clear HC6
  replace H := Option.bind_eq_some_iff.mp H
  obtain ⟨t375, A220, H⟩ := H
  try dsimp only at H
  have A22 := Q0.mk A220
  clear A220
  by_cases c23 : t375 = true
  ·subst c23
   rw [if_pos rfl] at H
   by_cases c24 : (!(t367 == t361) || (!(t368 == t362))) = true
   ·rw [if_pos c24] at H
    have c24b0 : (!(t367 == t361) || (!(t368 == t362))) = true := c24
    clear c24
    (first | rw [c24b0] | (simp only [QH, QK]; rw [c24b0]) | skip)
    have H' := Q0.mk H
    clear H
    go_wp2_with (first | ((with_reducible refine Qs (f := 13) rfl ?_); refine QZ (some 26) rfl rfl Try.func13 (by kernel_rfl) rfl #[] rfl (by (try simp only [List.map_toArray, List.map_cons, List.map_nil]); first | done | rfl | (simp only [List.length_drop, List.length_take]; rfl)) ?_; (with_reducible refine (Qt.calls k  true _ A22.out).mono ?_); rintro e w25 ⟨rfl, hb⟩; refine ⟨_, rfl, ?_⟩; replace HO366 := Q0.mk (Kd.XO HO366.out hb); replace BK363 := Q0.mk (Q9 BK363.out hb); replace BK369 := Q0.mk (Q9 BK369.out hb); replace BK374 := Q0.mk (Q9 BK374.out hb); replace HB := Q0.mk (Qi HB.out hb); have hnb26 := NB369_363.out; have hnc26 := NB363_369.out; have hnb27 := NB369_374.out; have hnc27 := NB374_369.out; obtain ⟨hcz28_0, hcz28_1⟩ := QB BK369.out; obtain ⟨hfz28_0, hfz28_1⟩ := Qr BK369.out; have hnb29 := NB363_374.out; have hnc29 := NB374_363.out; obtain ⟨hcz30_0, hcz30_1⟩ := QB BK363.out; obtain ⟨hfz30_0, hfz30_1⟩ := Qr BK363.out))
    go_meet
    case rel => exact ⟨_, (true), (by first | rfl | (simp [*]; done)), H', ⟨by first | omega | exact Nat.le_refl _⟩, ⟨by (with_reducible repeat (first | apply Kd.Xa | apply Kd.X9 | apply Kd.Xl)); exact HO366.out⟩, ⟨by (with_reducible repeat (first | refine Q7 ?_ _ | refine Qa ?_ | refine Q8 ?_ _)); exact BK363.out⟩, ⟨by (with_reducible repeat (first | refine Q7 ?_ _ | refine Qa ?_ | refine Q8 ?_ _)); exact BK369.out⟩, ⟨by (with_reducible repeat (first | refine Q7 ?_ _ | refine Qa ?_ | refine Q8 ?_ _)); exact BK374.out⟩, ⟨by repeat (first | exact HB.out | apply Q4 | apply Q2 | apply Q6 | refine Q1 ?_ GE363.out | refine Q1 ?_ GE369.out | refine Q1 ?_ GE374.out)⟩⟩
   ·rw [if_neg c24] at H
    have c24b0 : (!(t367 == t361) || (!(t368 == t362))) = false := by simpa using c24
    clear c24
    (first | rw [c24b0] | (simp only [QH, QK]; rw [c24b0]) | skip)
    have H' := Q0.mk H
    clear H
    go_wp2_with (first | ((with_reducible refine Qs (f := 13) rfl ?_); refine QZ (some 26) rfl rfl Try.func13 (by kernel_rfl) rfl #[] rfl (by (try simp only [List.map_toArray, List.map_cons, List.map_nil]); first | done | rfl | (simp only [List.length_drop, List.length_take]; rfl)) ?_; (with_reducible refine (Qt.calls k  true _ A22.out).mono ?_); rintro e w31 ⟨rfl, hb⟩; refine ⟨_, rfl, ?_⟩; replace HO366 := Q0.mk (Kd.XO HO366.out hb); replace BK363 := Q0.mk (Q9 BK363.out hb); replace BK369 := Q0.mk (Q9 BK369.out hb); replace BK374 := Q0.mk (Q9 BK374.out hb); replace HB := Q0.mk (Qi HB.out hb); have hnb32 := NB369_363.out; have hnc32 := NB363_369.out; have hnb33 := NB369_374.out; have hnc33 := NB374_369.out; obtain ⟨hcz34_0, hcz34_1⟩ := QB BK369.out; obtain ⟨hfz34_0, hfz34_1⟩ := Qr BK369.out; have hnb35 := NB363_374.out; have hnc35 := NB374_363.out; obtain ⟨hcz36_0, hcz36_1⟩ := QB BK363.out; obtain ⟨hfz36_0, hfz36_1⟩ := Qr BK363.out))
    go_meet
    case rel => exact ⟨_, ((t361 != 0)), (by first | rfl | (simp [*]; done)), H', ⟨by first | omega | exact Nat.le_refl _⟩, ⟨by (with_reducible repeat (first | apply Kd.Xa | apply Kd.X9 | apply Kd.Xl)); exact HO366.out⟩, ⟨by (with_reducible repeat (first | refine Q7 ?_ _ | refine Qa ?_ | refine Q8 ?_ _)); exact BK363.out⟩, ⟨by (with_reducible repeat (first | refine Q7 ?_ _ | refine Qa ?_ | refine Q8 ?_ _)); exact BK369.out⟩, ⟨by (with_reducible repeat (first | refine Q7 ?_ _ | refine Qa ?_ | refine Q8 ?_ _)); exact BK374.out⟩, ⟨by repeat (first | exact HB.out | apply Q4 | apply Q2 | apply Q6 | refine Q1 ?_ GE363.out | refine Q1 ?_ GE369.out | refine Q1 ?_ GE374.out)⟩⟩
  ·replace c23 := Bool.eq_false_iff.mpr c23
   subst c23
   rw [if_neg (show ¬ (false = true) by decide)] at H
   have H' := Q0.mk H
   clear H
   go_wp2_with (first | ((with_reducible refine Qs (f := 13) rfl ?_); refine QZ (some 26) rfl rfl Try.func13 (by kernel_rfl) rfl #[] rfl (by (try simp only [List.map_toArray, List.map_cons, List.map_nil]); first | done | rfl | (simp only [List.length_drop, List.length_take]; rfl)) ?_; (with_reducible refine (Qt.calls k  false _ A22.out).mono ?_); rintro e w37 ⟨rfl, hb⟩; refine ⟨_, rfl, ?_⟩; replace HO366 := Q0.mk (Kd.XO HO366.out hb); replace BK363 := Q0.mk (Q9 BK363.out hb); replace BK369 := Q0.mk (Q9 BK369.out hb); replace BK374 := Q0.mk (Q9 BK374.out hb); replace HB := Q0.mk (Qi HB.out hb)))
   go_meet
   case rel => exact ⟨_, (true), (by first | rfl | (simp [*]; done)), H', ⟨by first | omega | exact Nat.le_refl _⟩, ⟨by (with_reducible repeat (first | apply Kd.Xa | apply Kd.X9 | apply Kd.Xl)); exact HO366.out⟩, ⟨by (with_reducible repeat (first | refine Q7 ?_ _ | refine Qa ?_ | refine Q8 ?_ _)); exact BK363.out⟩, ⟨by (with_reducible repeat (first | refine Q7 ?_ _ | refine Qa ?_ | refine Q8 ?_ _)); exact BK369.out⟩, ⟨by (with_reducible repeat (first | refine Q7 ?_ _ | refine Qa ?_ | refine Q8 ?_ _)); exact BK374.out⟩, ⟨by repeat (first | exact HB.out | apply Q4 | apply Q2 | apply Q6 | refine Q1 ?_ GE363.out | refine Q1 ?_ GE369.out | refine Q1 ?_ GE374.out)⟩⟩
 case rest =>
  clear HC6
  try clear c1
  try clear c2
  try clear p2
  try clear c3
  try clear c10
  try clear c11
  try clear c12
  try clear c13
  try clear c18
  try clear c19
  try clear c23
  try clear c24
  try clear c24b0
  try clear c26
  try clear c27
  try clear c29
  try clear c32
  try clear c33
  try clear c35
  obtain ⟨kq, x37_5, rfl, HA, HJ5, HO_6, BK363, BK369, BK374, HB⟩ := hcut
  cases kq with
  | zero => exact absurd HA.out (by simp [Qm.j0])
  | succ kj5 =>
   have H := HA.out
   clear HA
   simp only [Qm.j0] at H
   by_cases c38 : x37_5 = true
   ·subst c38
    rw [if_pos rfl] at H
    replace H := Option.bind_eq_some_iff.mp H
    obtain ⟨t376, A390, H⟩ := H
    try dsimp only at H
    have A39 := Q0.mk A390
    clear A390
    by_cases c40 : t376 = true
    ·subst c40
     rw [if_pos rfl] at H
     by_cases c41 : (t367 == t361 && (t368 == t362)) = true
     ·rw [if_pos c41] at H
      have c41b0 : (t367 == t361 && (t368 == t362)) = true := c41
      (try (have c41b1 : decide (t367 = t361 && (t368 == t362)) = true := by simpa using c41))
      (try (have c41b2 : (t367 == t361 && (t368 == t362)) = true := by simpa using c41))
      clear c41
      by_cases c42 : (t372 == t361 && (t373 == t362)) = true
      ·rw [if_pos c42] at H
       have c42b0 : (t372 == t361 && (t373 == t362)) = true := c42
       (try (have c42b1 : decide (t372 = t361 && (t373 == t362)) = true := by simpa using c42))
       (try (have c42b2 : (t372 == t361 && (t373 == t362)) = true := by simpa using c42))
       clear c42
       by_cases c43 : (t364.length : Int) = 0
       ·rw [if_pos c43] at H
        have c43b0 : ((t364.length : Int) == 0) = true := beq_iff_eq.mpr c43
        have c43b1 : ((t364.length : Int) != 0) = false := bne_eq_false_iff_eq.mpr c43
        clear c43
        by_cases c44 : t370 = 0
        ·rw [if_pos c44] at H
         have c44b0 : (t370 == 0) = true := beq_iff_eq.mpr c44
         have c44b1 : (t370 != 0) = false := bne_eq_false_iff_eq.mpr c44
         clear c44
         obtain rfl := Option.some.inj H
         go_wp2_with (first | ((with_reducible refine Qs (f := 13) rfl ?_); refine QZ (some 38) rfl rfl Try.func13 (by kernel_rfl) rfl #[] rfl (by (try simp only [List.map_toArray, List.map_cons, List.map_nil]); first | done | rfl | (simp only [List.length_drop, List.length_take]; rfl)) ?_; (with_reducible refine (Qt.calls kj5  true _ A39.out).mono ?_); rintro e w45 ⟨rfl, hb⟩; refine ⟨_, rfl, ?_⟩; replace HO_6 := Q0.mk (Kd.XO HO_6.out hb); replace BK363 := Q0.mk (Q9 BK363.out hb); replace BK369 := Q0.mk (Q9 BK369.out hb); replace BK374 := Q0.mk (Q9 BK374.out hb); replace HB := Q0.mk (Qi HB.out hb); have hnb46 := NB369_363.out; have hnc46 := NB363_369.out; have hnb47 := NB369_374.out; have hnc47 := NB374_369.out; obtain ⟨hcz48_0, hcz48_1⟩ := QB BK369.out; obtain ⟨hfz48_0, hfz48_1⟩ := Qr BK369.out; have hnb49 := NB363_374.out; have hnc49 := NB374_363.out; obtain ⟨hcz50_0, hcz50_1⟩ := QB BK363.out; obtain ⟨hfz50_0, hfz50_1⟩ := Qr BK363.out; obtain ⟨hcz51_0, hcz51_1⟩ := QB BK374.out; obtain ⟨hfz51_0, hfz51_1⟩ := Qr BK374.out; obtain ⟨Ao52, co52, eo52⟩ := Kd.Yr HO_6.out; subst eo52))
         go_ret
         exact ⟨by first | rfl | (simp [*]; done), by repeat (first | exact HB.out | apply Q4 | apply Q2 | apply Q6 | refine Q1 ?_ GE363.out | refine Q1 ?_ GE369.out | refine Q1 ?_ GE374.out)⟩
        ·rw [if_neg c44] at H
         have c44b0 : (t370 == 0) = false := beq_eq_false_iff_ne.mpr c44
         have c44b1 : (t370 != 0) = true := bne_iff_ne.mpr c44
         exact absurd (Option.some.inj H) (by rw [HT.out]; decide)
       ·rw [if_neg c43] at H
        have c43b0 : ((t364.length : Int) == 0) = false := beq_eq_false_iff_ne.mpr c43
        have c43b1 : ((t364.length : Int) != 0) = true := bne_iff_ne.mpr c43
        have c43b2 : ¬ (t364 = []) := fun h_ => c43 (by rw [h_]; rfl)
        exact absurd (Option.some.inj H) (by rw [HT.out]; decide)
      ·rw [if_neg c42] at H
       have c42b0 : (t372 == t361 && (t373 == t362)) = false := by simpa using c42
       (try (have c42b1 : decide (t372 = t361 && (t373 == t362)) = false := by simpa using c42))
       (try (have c42b2 : (t372 == t361 && (t373 == t362)) = false := by simpa using c42))
       (try (have c42b3 : ¬ (t372 = t361 && (t373 == t362)) := by simpa using c42))
       clear c42
       exact absurd (Option.some.inj H) (by rw [HT.out]; decide)
     ·rw [if_neg c41] at H
      have c41b0 : (t367 == t361 && (t368 == t362)) = false := by simpa using c41
      (try (have c41b1 : decide (t367 = t361 && (t368 == t362)) = false := by simpa using c41))
      (try (have c41b2 : (t367 == t361 && (t368 == t362)) = false := by simpa using c41))
      (try (have c41b3 : ¬ (t367 = t361 && (t368 == t362)) := by simpa using c41))
      clear c41
      exact absurd (Option.some.inj H) (by rw [HT.out]; decide)
    ·replace c40 := Bool.eq_false_iff.mpr c40
     subst c40
     rw [if_neg (show ¬ (false = true) by decide)] at H
     exact absurd (Option.some.inj H) (by rw [HT.out]; decide)
   ·replace c38 := Bool.eq_false_iff.mpr c38
    subst c38
    rw [if_neg (show ¬ (false = true) by decide)] at H
    replace H := Option.bind_eq_some_iff.mp H
    obtain ⟨⟨t377, t378⟩, A830, H⟩ := H
    try dsimp only at H
    have A83 := Q0.mk A830
    clear A830
    by_cases c84 : t377 < 0
    ·rw [if_pos c84] at H
     have c84b0 : decide (t377 < 0) = true := decide_eq_true c84
     clear c84
     replace H := Option.bind_eq_some_iff.mp H
     obtain ⟨t380, A850, H⟩ := H
     try dsimp only at H
     have A85 := Q0.mk A850
     clear A850
     replace H := Option.bind_eq_some_iff.mp H
     obtain ⟨t383, A860, H⟩ := H
     try dsimp only at H
     have A86 := Q0.mk A860
     clear A860
     by_cases c87 : t383 = true
     ·subst c87
      rw [if_pos rfl] at H
      replace H := Option.bind_eq_some_iff.mp H
      obtain ⟨⟨t384, t385⟩, A880, H⟩ := H
      try dsimp only at H
      have A88 := Q0.mk A880
      clear A880
      by_cases c89 : (t372 == t384 && (t373 == t385)) = true
      ·rw [if_pos c89] at H
       have c89b0 : (t372 == t384 && (t373 == t385)) = true := c89
       (try (have c89b1 : decide (t372 = t384 && (t373 == t385)) = true := by simpa using c89))
       (try (have c89b2 : (t372 == t384 && (t373 == t385)) = true := by simpa using c89))
       clear c89
       by_cases c90 : t370 = 0
       ·rw [if_pos c90] at H
        have c90b0 : (t370 == 0) = true := beq_iff_eq.mpr c90
        have c90b1 : (t370 != 0) = false := bne_eq_false_iff_eq.mpr c90
        clear c90
        obtain rfl := Option.some.inj H
        try go_wp2_with (first | ((with_reducible refine Qs (f := 14) rfl ?_); refine QZ (some 64) rfl rfl Try.func14 (by kernel_rfl) rfl #[.slice A0 l0.length c0, .string a1] rfl (by (try simp only [List.map_toArray, List.map_cons, List.map_nil]); first | done | rfl | (simp only [List.length_drop, List.length_take]; rfl)) ?_; (with_reducible refine (Qn.calls kj5 _ _ l0 a1 t377 t378 _ ?side1 ?side2 A83.out).mono ?_); (case side1 => repeat (first | exact (Kd.Qz HR0.out HB.out) | (with_reducible refine Kd.QT ?_ _) | (with_reducible refine Kd.QS ?_ _) | (with_reducible refine Kd.X3 ?_))); (case side2 => exact HC0.out); rintro e w91 ⟨rfl, hb⟩; refine ⟨_, rfl, ?_⟩; replace HO_6 := Q0.mk (Kd.XO HO_6.out hb); replace BK363 := Q0.mk (Q9 BK363.out hb); replace BK369 := Q0.mk (Q9 BK369.out hb); replace BK374 := Q0.mk (Q9 BK374.out hb); replace HB := Q0.mk (Qi HB.out hb)) | ((with_reducible refine QP (N := 11) rfl ?_); (try (refine Xy (by rfl) ?_; dsimp only)); refine QL ?hg (N := 11) ?hd (cs := #[.int .i64 0, .int .i64 0]) (t := 33) ?hr ?_; (case hd => rfl); (case hg => rfl); (case hr => first | (go_simp; done) | (go_simp; rfl)); intro gb379 hg w92 hbox hb; have BK379 := Q0.mk (hbox); have GW379 := Q0.mk ((by rw [hg]; exact (Qg HB.out) : w.heap.size ≤ gb379)); have GE379 := Q0.mk ((by rw [hg]; exact (Qg HB.out) : w.heap.size ≤ gb379)); have NB363_379 := Q0.mk ((by rw [hg]; exact Nat.ne_of_lt (Qy BK363.out) : gb363 ≠ gb379)); have NB379_363 := Q0.mk ((by rw [hg]; exact Nat.ne_of_gt (Qy BK363.out) : gb379 ≠ gb363)); have NB369_379 := Q0.mk ((by rw [hg]; exact Nat.ne_of_lt (Qy BK369.out) : gb369 ≠ gb379)); have NB379_369 := Q0.mk ((by rw [hg]; exact Nat.ne_of_gt (Qy BK369.out) : gb379 ≠ gb369)); have NB374_379 := Q0.mk ((by rw [hg]; exact Nat.ne_of_lt (Qy BK374.out) : gb374 ≠ gb379)); have NB379_374 := Q0.mk ((by rw [hg]; exact Nat.ne_of_gt (Qy BK374.out) : gb379 ≠ gb374)); replace HO_6 := Q0.mk (Kd.XO HO_6.out hb); replace BK363 := Q0.mk (Q9 BK363.out hb); replace BK369 := Q0.mk (Q9 BK369.out hb); replace BK374 := Q0.mk (Q9 BK374.out hb); replace HB := Q0.mk (Qi HB.out hb); clear hb hbox hg; have hnb93 := NB379_363.out; have hnc93 := NB363_379.out; have hnb94 := NB379_369.out; have hnc94 := NB369_379.out; have hnb95 := NB379_374.out; have hnc95 := NB374_379.out; obtain ⟨hcz96_0, hcz96_1⟩ := QB BK379.out; obtain ⟨hfz96_0, hfz96_1⟩ := Qr BK379.out) | ((with_reducible refine QC (t := 33) (p := 11) rfl ?_); refine Qw (t := 33) (p := 11) (v := ?vo_w97) (w1 := ((w92.setCell ⟨gb379, 0, none⟩ (.int .i64 t377)).setCell ⟨gb379, 1, none⟩ (.int .i64 t378))) ?hg ?ho ?hn ?hr ?_; (case ho => rfl); (case hg => rfl); (case hn => rfl); (case hr => first | (go_simp; done) | (go_simp; rfl)); intro w97 hw; replace HO_6 : Q0 (Kd.S (Kd.slice 4 Kd.bool) 39 w97 w.heap.size (fun _ => True) v365 t364) := ⟨(by rw [hw]; exact (by (with_reducible repeat (first | apply Kd.Xa | apply Kd.X9 | apply Kd.Xl)); exact Kd.XU (Kd.Yd (p := ⟨gb379, 1, none⟩) (Kd.Yd (p := ⟨gb379, 0, none⟩) (Kd.S_types HO_6.out BK379.out (by decide)) (fun _ hk => hk.2) (.int .i64 t377)) (fun _ hk => hk.2) (.int .i64 t378)) (fun _ hk => trivial)))⟩; replace BK363 := Q0.mk (far2 hw BK363.out NB363_379.out); replace BK369 := Q0.mk (far2 hw BK369.out NB369_379.out); replace BK374 := Q0.mk (far2 hw BK374.out NB374_379.out); replace BK379 := Q0.mk (put2 hw BK379.out); replace HB := Q0.mk (bel2 hw HB.out GE379.out); clear hw; obtain ⟨hcz98_0, hcz98_1⟩ := QB BK379.out; obtain ⟨hfz98_0, hfz98_1⟩ := Qr BK379.out))
        have n0_ := Q0.mk (Kd.Xl HO_6.out)
        have n1_ := Q0.mk (Qa BK363.out)
        have n2_ := Q0.mk (Qa BK369.out)
        have n3_ := Q0.mk (Qa BK374.out)
        have n4_ := Q0.mk (Qa BK379.out)
        have n5_ := Q0.mk (Q6 HB.out)
        clear HO_6
        clear BK363
        clear BK369
        clear BK374
        clear BK379
        clear HB
        have HO_6 := n0_
        have BK363 := n1_
        have BK369 := n2_
        have BK374 := n3_
        have BK379 := n4_
        have HB := n5_
        clear n0_ n1_ n2_ n3_ n4_ n5_
        refine start_ (n := 18) (S := fun w' => w'.cell? ⟨gb374, 0, none⟩ = some (.int .i64 t372) ∧ w'.cell? ⟨gb374, 1, none⟩ = some (.int .i64 t373)) (ds := []) #[false, false, false, false, false, false, false, false, false, false, false, false, false, false, false, false, false, false] (by kernel_rfl) rfl rfl ⟨(QA BK374.out 0).trans rfl, (QA BK374.out 1).trans rfl⟩ (fun hHeld => ?_); refine with_tabW Qm.tab8 Qm.bits8 (fun HT_ HW_ => ?_)
        generalize w97.drew = w99 at HO_6 BK363 BK369 BK374 BK379 HB hHeld ⊢
        refine X4 (i := 0) (N := some 68) (v := ?_) (a' := ?_) #[true, false, false, false, false, false, false, false, false, false, false, false, false, false, false, false, false, false] rfl rfl (QR HT_.out (by kernel_rfl)) (fun _ _ _ h => h) (Or.inl ⟨by rfl, ?_⟩) ?_ ?_
        rotate_left
        ·intro w'
         go_simp
         with_reducible rfl
        rotate_left
        ·simp only [Act.put, List.setIfInBounds_toArray, List.set_cons_zero, List.set_cons_succ, QH, QK]
         rfl
        refine X4 (i := 1) (N := some 69) (v := ?_) (a' := ?_) #[true, true, false, false, false, false, false, false, false, false, false, false, false, false, false, false, false, false] rfl rfl (QR HT_.out (by kernel_rfl)) (fun _ _ _ h => h) (Or.inl ⟨by rfl, ?_⟩) ?_ ?_
        rotate_left
        ·intro w'
         go_simp
         with_reducible rfl
        rotate_left
        ·simp only [Act.put, List.setIfInBounds_toArray, List.set_cons_zero, List.set_cons_succ, QH, QK]
         rfl
        refine one_ (i := 2) (N := some 70) #[true, true, true, false, false, false, false, false, false, false, false, false, false, false, false, false, false, false] rfl rfl (one_of HT_.out (by kernel_rfl)) (by decide) (fun K hK => ?_)
        refine goes_ Try.func16 (by kernel_rfl) rfl #[.slice A0 l0.length c0] (by rfl) rfl rfl (by (try simp only [List.map_toArray, List.map_cons, List.map_nil]); first | done | rfl | (simp only [List.length_drop, List.length_take]; rfl)) ?_
        with_reducible refine (Qb.calls kj5 _ _ l0 t380 _ ?side1 ?side2 A85.out).mono ?_
        (case side1 => repeat (first | exact (Kd.Qz HR0.out HB.out) | (with_reducible refine Kd.QT ?_ _) | (with_reducible refine Kd.QS ?_ _) | (with_reducible refine Kd.X3 ?_)))
        (case side2 => exact HC0.out)
        rintro e w100 ⟨v381, rfl, ho0, hb⟩
        refine ⟨_, rfl, ?_⟩
        have n0_ := Q0.mk (Kd.S_elder' (by (with_reducible repeat (first | apply Kd.Xa | apply Kd.X9 | apply Kd.Xl)); exact HO_6.out) (Kd.Yl ho0) hb)
        have n1_ := Q0.mk (Kd.S_lower (Kd.S_new' ho0 (Kd.S_lt (by (with_reducible repeat (first | apply Kd.Xa | apply Kd.X9 | apply Kd.Xl)); exact HO_6.out))) (Qg (by repeat (first | exact HB.out | apply Q4 | apply Q2 | apply Q6 | refine Q1 ?_ GE363.out | refine Q1 ?_ GE369.out | refine Q1 ?_ GE374.out | refine Q1 ?_ GE379.out))))
        have n2_ := Q0.mk (Q9 (g := gb363) (o := .cells #[.int .i64 t361, .int .i64 t362] 24 (0, 0)) (by (with_reducible repeat (first | refine Q7 ?_ _ | refine Qa ?_ | refine Q8 ?_ _)); exact BK363.out) hb)
        have n3_ := Q0.mk (Q9 (g := gb369) (o := .cells #[.int .i64 t367, .int .i64 t368] 24 (0, 0)) (by (with_reducible repeat (first | refine Q7 ?_ _ | refine Qa ?_ | refine Q8 ?_ _)); exact BK369.out) hb)
        have n4_ := Q0.mk (Q9 (g := gb374) (o := .cells #[.int .i64 t372, .int .i64 t373] 24 (0, 0)) (by (with_reducible repeat (first | refine Q7 ?_ _ | refine Qa ?_ | refine Q8 ?_ _)); exact BK374.out) hb)
        have n5_ := Q0.mk (Q9 (g := gb379) (o := .cells #[.int .i64 t377, .int .i64 t378] 33 (0, 0)) (by (with_reducible repeat (first | refine Q7 ?_ _ | refine Qa ?_ | refine Q8 ?_ _)); exact BK379.out) hb)
        have n6_ := Q0.mk (Qi (by repeat (first | exact HB.out | apply Q4 | apply Q2 | apply Q6 | refine Q1 ?_ GE363.out | refine Q1 ?_ GE369.out | refine Q1 ?_ GE374.out | refine Q1 ?_ GE379.out)) hb)
        clear HO_6
        clear BK363
        clear BK369
        clear BK374
        clear BK379
        clear HB
        have HO_6 := n0_
        have HO382 := n1_
        have BK363 := n2_
        have BK369 := n3_
        have BK374 := n4_
        have BK379 := n5_
        have HB := n6_
        clear n0_ n1_ n2_ n3_ n4_ n5_ n6_
        (try clear hb)
        (try clear hb2)
        (try clear hk)
        (try clear hi)
        (try clear ho0)
        obtain ⟨Ao101, co101, eo101⟩ := Kd.Yr HO_6.out
        (first | subst eo101 | (injection eo101 with f1_ f2_ f3_; have f4_ := f1_.symm; have f5_ := f3_.symm; clear f1_ f2_ f3_; subst f4_; subst f5_))
        obtain ⟨Ao102, co102, eo102⟩ := Kd.Yr HO382.out
        (first | subst eo102 | (injection eo102 with f1_ f2_ f3_; have f4_ := f1_.symm; have f5_ := f3_.symm; clear f1_ f2_ f3_; subst f4_; subst f5_))
        refine hK.out _ _ ⟨(QA BK374.out 0).trans rfl, (QA BK374.out 1).trans rfl⟩ (fun hHeld => ?_)
        clear hK K
        refine norm_ (a' := ?_) ?_ ?_
        rotate_left
        ·show Act.put _ (some 70) _ = _
         simp only [Act.put, List.setIfInBounds_toArray, List.set_cons_zero, List.set_cons_succ, QH, QK]
         rfl
        refine one_ (i := 3) (N := some 71) #[true, true, true, true, false, false, false, false, false, false, false, false, false, false, false, false, false, false] rfl rfl (one_of HT_.out (by kernel_rfl)) (by decide) (fun K hK => ?_)
        refine goes_ Try.func15 (by kernel_rfl) rfl #[.slice Ao101 t364.length co101, .slice Ao102 t380.length co102] (by rfl) rfl rfl (by (try simp only [List.map_toArray, List.map_cons, List.map_nil]); first | done | rfl | (simp only [List.length_drop, List.length_take]; rfl)) ?_
        with_reducible refine (Qk.calls kj5 _ _ t364 _ _ t380 true _ ?side1 ?side2 ?side3 ?side4 A86.out).mono ?_
        (case side1 => repeat (first | exact (Kd.Xz HO_6.out).2.2 | (with_reducible refine Kd.QT ?_ _) | (with_reducible refine Kd.QS ?_ _) | (with_reducible refine Kd.X3 ?_)))
        (case side2 => exact (Kd.Xz HO_6.out).2.1)
        (case side3 => repeat (first | exact (Kd.Xz HO382.out).2.2 | (with_reducible refine Kd.QT ?_ _) | (with_reducible refine Kd.QS ?_ _) | (with_reducible refine Kd.X3 ?_)))
        (case side4 => exact (Kd.Xz HO382.out).2.1)
        rintro e w' ⟨rfl, ⟨nd, rfl⟩⟩
        refine ⟨_, rfl, ?_⟩
        refine hK.out _ _ ⟨(QA BK374.out 0).trans rfl, (QA BK374.out 1).trans rfl⟩ (fun hHeld => ?_)
        clear hK K
        refine norm_ (a' := ?_) ?_ ?_
        rotate_left
        ·show Act.put _ (some 71) _ = _
         simp only [Act.put, List.setIfInBounds_toArray, List.set_cons_zero, List.set_cons_succ, QH, QK]
         rfl
        refine X4 (i := 4) (N := some 72) (v := ?_) (a' := ?_) #[true, true, true, true, true, false, false, false, false, false, false, false, false, false, false, false, false, false] rfl rfl (QR HT_.out (by kernel_rfl)) (fun _ _ _ h => h) (Or.inl ⟨by rfl, ?_⟩) ?_ ?_
        rotate_left
        ·intro w'
         go_simp
         with_reducible rfl
        rotate_left
        ·simp only [Act.put, List.setIfInBounds_toArray, List.set_cons_zero, List.set_cons_succ, QH, QK]
         rfl
        refine Yg (i := 5) (N := some 73) (v := ?_) (a' := ?_) #[true, true, true, true, true, true, false, false, false, false, false, false, false, false, false, false, false, false] rfl rfl (XQ HT_.out HW_.out (by kernel_rfl)) (fun _ _ _ h => h) (Or.inl ⟨by rfl, ?_⟩) hHeld ?_ ?_
        rotate_left
        ·rintro w' ⟨s0, s1⟩
         go_simp
         with_reducible rfl
        rotate_left
        ·simp only [Act.put, List.setIfInBounds_toArray, List.set_cons_zero, List.set_cons_succ, QH, QK]
         rfl
        refine one_ (i := 6) (N := some 74) #[true, true, true, true, true, true, true, false, false, false, false, false, false, false, false, false, false, false] rfl rfl (one_of HT_.out (by kernel_rfl)) (by decide) (fun K hK => ?_)
        refine goes_ Try.func17 (by kernel_rfl) rfl #[.int .i64 6, .int .i64 (-2)] (by rfl) rfl rfl (by (try simp only [List.map_toArray, List.map_cons, List.map_nil]); first | done | rfl | (simp only [List.length_drop, List.length_take]; rfl)) ?_
        with_reducible refine (Xt.calls 6 (-2) t384 t385 _ A88.out).mono ?_
        rintro e w103 ⟨rfl, hb⟩
        refine ⟨_, rfl, ?_⟩
        have n0_ := Q0.mk (Kd.XO (by (with_reducible repeat (first | apply Kd.Xa | apply Kd.X9 | apply Kd.Xl)); exact HO_6.out) hb)
        have n1_ := Q0.mk (Kd.XO (by (with_reducible repeat (first | apply Kd.Xa | apply Kd.X9 | apply Kd.Xl)); exact HO382.out) hb)
        have n2_ := Q0.mk (Q9 (g := gb363) (o := .cells #[.int .i64 t361, .int .i64 t362] 24 (0, 0)) (by (with_reducible repeat (first | refine Q7 ?_ _ | refine Qa ?_ | refine Q8 ?_ _)); exact BK363.out) hb)
        have n3_ := Q0.mk (Q9 (g := gb369) (o := .cells #[.int .i64 t367, .int .i64 t368] 24 (0, 0)) (by (with_reducible repeat (first | refine Q7 ?_ _ | refine Qa ?_ | refine Q8 ?_ _)); exact BK369.out) hb)
        have n4_ := Q0.mk (Q9 (g := gb374) (o := .cells #[.int .i64 t372, .int .i64 t373] 24 (0, 0)) (by (with_reducible repeat (first | refine Q7 ?_ _ | refine Qa ?_ | refine Q8 ?_ _)); exact BK374.out) hb)
        have n5_ := Q0.mk (Q9 (g := gb379) (o := .cells #[.int .i64 t377, .int .i64 t378] 33 (0, 0)) (by (with_reducible repeat (first | refine Q7 ?_ _ | refine Qa ?_ | refine Q8 ?_ _)); exact BK379.out) hb)
        have n6_ := Q0.mk (Qi (by repeat (first | exact HB.out | apply Q4 | apply Q2 | apply Q6 | refine Q1 ?_ GE363.out | refine Q1 ?_ GE369.out | refine Q1 ?_ GE374.out | refine Q1 ?_ GE379.out)) hb)
        clear HO_6
        clear HO382
        clear BK363
        clear BK369
        clear BK374
        clear BK379
        clear HB
        have HO_6 := n0_
        have HO382 := n1_
        have BK363 := n2_
        have BK369 := n3_
        have BK374 := n4_
        have BK379 := n5_
        have HB := n6_
        clear n0_ n1_ n2_ n3_ n4_ n5_ n6_
        (try clear hb)
        (try clear hb2)
        (try clear hk)
        (try clear hi)
        refine hK.out _ _ ⟨(QA BK374.out 0).trans rfl, (QA BK374.out 1).trans rfl⟩ (fun hHeld => ?_)
        clear hK K
        refine norm_ (a' := ?_) ?_ ?_
        rotate_left
        ·show Act.put _ (some 74) _ = _
         simp only [Act.put, List.setIfInBounds_toArray, List.set_cons_zero, List.set_cons_succ, QH, QK]
         rfl
        refine X4 (i := 7) (N := some 75) (v := ?_) (a' := ?_) #[true, true, true, true, true, true, true, true, false, false, false, false, false, false, false, false, false, false] rfl rfl (QR HT_.out (by kernel_rfl)) (fun _ _ _ h => h) (Or.inl ⟨by rfl, ?_⟩) ?_ ?_
        rotate_left
        ·intro w'
         go_simp
         with_reducible rfl
        rotate_left
        ·simp only [Act.put, List.setIfInBounds_toArray, List.set_cons_zero, List.set_cons_succ, QH, QK]
         rfl
        refine X4 (i := 8) (N := some 76) (v := ?_) (a' := ?_) #[true, true, true, true, true, true, true, true, true, false, false, false, false, false, false, false, false, false] rfl rfl (QR HT_.out (by kernel_rfl)) (fun _ _ _ h => h) (Or.inl ⟨by rfl, ?_⟩) ?_ ?_
        rotate_left
        ·intro w'
         go_simp
         with_reducible rfl
        rotate_left
        ·simp only [Act.put, List.setIfInBounds_toArray, List.set_cons_zero, List.set_cons_succ, QH, QK]
         rfl
        refine X4 (i := 9) (N := some 77) (v := ?_) (a' := ?_) #[true, true, true, true, true, true, true, true, true, true, false, false, false, false, false, false, false, false] rfl rfl (QR HT_.out (by kernel_rfl)) (fun _ _ _ h => h) (Or.inl ⟨by rfl, ?_⟩) ?_ ?_
        rotate_left
        ·intro w'
         go_simp
         with_reducible rfl
        rotate_left
        ·simp only [Act.put, List.setIfInBounds_toArray, List.set_cons_zero, List.set_cons_succ, QH, QK]
         rfl
        refine X4 (i := 10) (N := some 78) (v := ?_) (a' := ?_) #[true, true, true, true, true, true, true, true, true, true, true, false, false, false, false, false, false, false] rfl rfl (QR HT_.out (by kernel_rfl)) (fun _ _ _ h => h) (Or.inl ⟨by rfl, ?_⟩) ?_ ?_
        rotate_left
        ·intro w'
         go_simp
         with_reducible rfl
        rotate_left
        ·simp only [Act.put, List.setIfInBounds_toArray, List.set_cons_zero, List.set_cons_succ, QH, QK]
         rfl
        refine X4 (i := 11) (N := some 79) (v := ?_) (a' := ?_) #[true, true, true, true, true, true, true, true, true, true, true, true, false, false, false, false, false, false] rfl rfl (QR HT_.out (by kernel_rfl)) (fun _ _ _ h => h) (Or.inl ⟨by rfl, ?_⟩) ?_ ?_
        rotate_left
        ·intro w'
         go_simp
         with_reducible rfl
        rotate_left
        ·simp only [Act.put, List.setIfInBounds_toArray, List.set_cons_zero, List.set_cons_succ, QH, QK]
         rfl
        refine X4 (i := 12) (N := some 80) (v := ?_) (a' := ?_) #[true, true, true, true, true, true, true, true, true, true, true, true, true, false, false, false, false, false] rfl rfl (QR HT_.out (by kernel_rfl)) (fun _ _ _ h => h) (Or.inl ⟨by rfl, ?_⟩) ?_ ?_
        rotate_left
        ·intro w'
         go_simp
         with_reducible rfl
        rotate_left
        ·simp only [Act.put, List.setIfInBounds_toArray, List.set_cons_zero, List.set_cons_succ, QH, QK]
         rfl
        refine X4 (i := 13) (N := some 81) (v := ?_) (a' := ?_) #[true, true, true, true, true, true, true, true, true, true, true, true, true, true, false, false, false, false] rfl rfl (QR HT_.out (by kernel_rfl)) (fun _ _ _ h => h) (Or.inl ⟨by rfl, ?_⟩) ?_ ?_
        rotate_left
        ·intro w'
         go_simp
         with_reducible rfl
        rotate_left
        ·simp only [Act.put, List.setIfInBounds_toArray, List.set_cons_zero, List.set_cons_succ, QH, QK]
         rfl
        refine X4 (i := 14) (N := some 82) (v := ?_) (a' := ?_) #[true, true, true, true, true, true, true, true, true, true, true, true, true, true, true, false, false, false] rfl rfl (QR HT_.out (by kernel_rfl)) (fun _ _ _ h => h) (Or.inl ⟨by rfl, ?_⟩) ?_ ?_
        rotate_left
        ·intro w'
         go_simp
         with_reducible rfl
        rotate_left
        ·simp only [Act.put, List.setIfInBounds_toArray, List.set_cons_zero, List.set_cons_succ, QH, QK]
         rfl
        refine X4 (i := 15) (N := some 83) (v := ?_) (a' := ?_) #[true, true, true, true, true, true, true, true, true, true, true, true, true, true, true, true, false, false] rfl rfl (QR HT_.out (by kernel_rfl)) (fun _ _ _ h => h) (Or.inl ⟨by rfl, ?_⟩) ?_ ?_
        rotate_left
        ·intro w'
         go_simp
         with_reducible rfl
        rotate_left
        ·simp only [Act.put, List.setIfInBounds_toArray, List.set_cons_zero, List.set_cons_succ, QH, QK]
         rfl
        refine X4 (i := 16) (N := some 84) (v := ?_) (a' := ?_) #[true, true, true, true, true, true, true, true, true, true, true, true, true, true, true, true, true, false] rfl rfl (QR HT_.out (by kernel_rfl)) (fun _ _ _ h => h) (Or.inl ⟨by rfl, ?_⟩) ?_ ?_
        rotate_left
        ·intro w'
         go_simp
         with_reducible rfl
        rotate_left
        ·simp only [Act.put, List.setIfInBounds_toArray, List.set_cons_zero, List.set_cons_succ, QH, QK]
         rfl
        refine X4 (i := 17) (N := some 4) (v := ?_) (a' := ?_) #[true, true, true, true, true, true, true, true, true, true, true, true, true, true, true, true, true, true] rfl rfl (QR HT_.out (by kernel_rfl)) (fun _ _ _ h => h) (Or.inl ⟨by rfl, ?_⟩) ?_ ?_
        rotate_left
        ·intro w'
         go_simp
         with_reducible rfl
        rotate_left
        ·simp only [Act.put, List.setIfInBounds_toArray, List.set_cons_zero, List.set_cons_succ, QH, QK]
         rfl
        refine done_ (done_of HT_.out (by kernel_rfl)) ?_
        try go_wp2
        go_ret
        exact ⟨by first | rfl | (simp [*]; done), by repeat (first | exact HB.out | apply Q4 | apply Q2 | apply Q6 | refine Q1 ?_ GE363.out | refine Q1 ?_ GE369.out | refine Q1 ?_ GE374.out | refine Q1 ?_ GE379.out)⟩
       ·rw [if_neg c90] at H
        have c90b0 : (t370 == 0) = false := beq_eq_false_iff_ne.mpr c90
        have c90b1 : (t370 != 0) = true := bne_iff_ne.mpr c90
        exact absurd (Option.some.inj H) (by rw [HT.out]; decide)
      ·rw [if_neg c89] at H
       have c89b0 : (t372 == t384 && (t373 == t385)) = false := by simpa using c89
       (try (have c89b1 : decide (t372 = t384 && (t373 == t385)) = false := by simpa using c89))
       (try (have c89b2 : (t372 == t384 && (t373 == t385)) = false := by simpa using c89))
       (try (have c89b3 : ¬ (t372 = t384 && (t373 == t385)) := by simpa using c89))
       clear c89
       exact absurd (Option.some.inj H) (by rw [HT.out]; decide)
     ·replace c87 := Bool.eq_false_iff.mpr c87
      subst c87
      rw [if_neg (show ¬ (false = true) by decide)] at H
      exact absurd (Option.some.inj H) (by rw [HT.out]; decide)
    ·rw [if_neg c84] at H
     have c84b0 : decide (t377 < 0) = false := decide_eq_false c84
     clear c84
     replace H := Option.bind_eq_some_iff.mp H
     obtain ⟨t386, A1420, H⟩ := H
     try dsimp only at H
     have A142 := Q0.mk A1420
     clear A1420
     replace H := Option.bind_eq_some_iff.mp H
     obtain ⟨t389, A1430, H⟩ := H
     try dsimp only at H
     have A143 := Q0.mk A1430
     clear A1430
     by_cases c144 : t389 = true
     ·subst c144
      rw [if_pos rfl] at H
      by_cases c145 : t372 = 0
      ·rw [if_pos c145] at H
       have c145b0 : (t372 == 0) = true := beq_iff_eq.mpr c145
       have c145b1 : (t372 != 0) = false := bne_eq_false_iff_eq.mpr c145
       clear c145
       by_cases c146 : t370 = t377
       ·rw [if_pos c146] at H
        have c146b0 : (t370 == t377) = true := beq_iff_eq.mpr c146
        have c146b1 : (t370 != t377) = false := bne_eq_false_iff_eq.mpr c146
        clear c146
        obtain rfl := Option.some.inj H
        go_wp2_with (first | ((with_reducible refine Qs (f := 14) rfl ?_); refine QZ (some 64) rfl rfl Try.func14 (by kernel_rfl) rfl #[.slice A0 l0.length c0, .string a1] rfl (by (try simp only [List.map_toArray, List.map_cons, List.map_nil]); first | done | rfl | (simp only [List.length_drop, List.length_take]; rfl)) ?_; (with_reducible refine (Qn.calls kj5 _ _ l0 a1 t377 t378 _ ?side1 ?side2 A83.out).mono ?_); (case side1 => repeat (first | exact (Kd.Qz HR0.out HB.out) | (with_reducible refine Kd.QT ?_ _) | (with_reducible refine Kd.QS ?_ _) | (with_reducible refine Kd.X3 ?_))); (case side2 => exact HC0.out); rintro e w147 ⟨rfl, hb⟩; refine ⟨_, rfl, ?_⟩; replace HO_6 := Q0.mk (Kd.XO (by (with_reducible repeat (first | apply Kd.Xa | apply Kd.X9 | apply Kd.Xl)); exact HO_6.out) hb); replace BK363 := Q0.mk (Q9 (g := gb363) (o := .cells #[.int .i64 t361, .int .i64 t362] 24 (0, 0)) (by (with_reducible repeat (first | refine Q7 ?_ _ | refine Qa ?_ | refine Q8 ?_ _)); exact BK363.out) hb); replace BK369 := Q0.mk (Q9 (g := gb369) (o := .cells #[.int .i64 t367, .int .i64 t368] 24 (0, 0)) (by (with_reducible repeat (first | refine Q7 ?_ _ | refine Qa ?_ | refine Q8 ?_ _)); exact BK369.out) hb); replace BK374 := Q0.mk (Q9 (g := gb374) (o := .cells #[.int .i64 t372, .int .i64 t373] 24 (0, 0)) (by (with_reducible repeat (first | refine Q7 ?_ _ | refine Qa ?_ | refine Q8 ?_ _)); exact BK374.out) hb); replace HB := Q0.mk (Qi (by repeat (first | exact HB.out | apply Q4 | apply Q2 | apply Q6 | refine Q1 ?_ GE363.out | refine Q1 ?_ GE369.out | refine Q1 ?_ GE374.out)) hb)) | ((with_reducible refine QP (N := 11) rfl ?_); (try (refine Xy (by rfl) ?_; dsimp only)); refine QL ?hg (N := 11) ?hd (cs := #[.int .i64 0, .int .i64 0]) (t := 33) ?hr ?_; (case hd => rfl); (case hg => rfl); (case hr => first | (go_simp; done) | (go_simp; rfl)); intro gb379 hg w148 hbox hb; have BK379 := Q0.mk (hbox); have GW379 := Q0.mk ((by rw [hg]; exact (Qg (by repeat (first | exact HB.out | apply Q4 | apply Q2 | apply Q6 | refine Q1 ?_ GE363.out | refine Q1 ?_ GE369.out | refine Q1 ?_ GE374.out))) : w.heap.size ≤ gb379)); have GE379 := Q0.mk ((by rw [hg]; exact (Qg (by repeat (first | exact HB.out | apply Q4 | apply Q2 | apply Q6 | refine Q1 ?_ GE363.out | refine Q1 ?_ GE369.out | refine Q1 ?_ GE374.out))) : w.heap.size ≤ gb379)); have NB363_379 := Q0.mk ((by rw [hg]; exact Nat.ne_of_lt (Qy (g := gb363) (o := .cells #[.int .i64 t361, .int .i64 t362] 24 (0, 0)) (by (with_reducible repeat (first | refine Q7 ?_ _ | refine Qa ?_ | refine Q8 ?_ _)); exact BK363.out)) : gb363 ≠ gb379)); have NB379_363 := Q0.mk ((by rw [hg]; exact Nat.ne_of_gt (Qy (g := gb363) (o := .cells #[.int .i64 t361, .int .i64 t362] 24 (0, 0)) (by (with_reducible repeat (first | refine Q7 ?_ _ | refine Qa ?_ | refine Q8 ?_ _)); exact BK363.out)) : gb379 ≠ gb363)); have NB369_379 := Q0.mk ((by rw [hg]; exact Nat.ne_of_lt (Qy (g := gb369) (o := .cells #[.int .i64 t367, .int .i64 t368] 24 (0, 0)) (by (with_reducible repeat (first | refine Q7 ?_ _ | refine Qa ?_ | refine Q8 ?_ _)); exact BK369.out)) : gb369 ≠ gb379)); have NB379_369 := Q0.mk ((by rw [hg]; exact Nat.ne_of_gt (Qy (g := gb369) (o := .cells #[.int .i64 t367, .int .i64 t368] 24 (0, 0)) (by (with_reducible repeat (first | refine Q7 ?_ _ | refine Qa ?_ | refine Q8 ?_ _)); exact BK369.out)) : gb379 ≠ gb369)); have NB374_379 := Q0.mk ((by rw [hg]; exact Nat.ne_of_lt (Qy (g := gb374) (o := .cells #[.int .i64 t372, .int .i64 t373] 24 (0, 0)) (by (with_reducible repeat (first | refine Q7 ?_ _ | refine Qa ?_ | refine Q8 ?_ _)); exact BK374.out)) : gb374 ≠ gb379)); have NB379_374 := Q0.mk ((by rw [hg]; exact Nat.ne_of_gt (Qy (g := gb374) (o := .cells #[.int .i64 t372, .int .i64 t373] 24 (0, 0)) (by (with_reducible repeat (first | refine Q7 ?_ _ | refine Qa ?_ | refine Q8 ?_ _)); exact BK374.out)) : gb379 ≠ gb374)); replace HO_6 := Q0.mk (Kd.XO (by (with_reducible repeat (first | apply Kd.Xa | apply Kd.X9 | apply Kd.Xl)); exact HO_6.out) hb); replace BK363 := Q0.mk (Q9 (g := gb363) (o := .cells #[.int .i64 t361, .int .i64 t362] 24 (0, 0)) (by (with_reducible repeat (first | refine Q7 ?_ _ | refine Qa ?_ | refine Q8 ?_ _)); exact BK363.out) hb); replace BK369 := Q0.mk (Q9 (g := gb369) (o := .cells #[.int .i64 t367, .int .i64 t368] 24 (0, 0)) (by (with_reducible repeat (first | refine Q7 ?_ _ | refine Qa ?_ | refine Q8 ?_ _)); exact BK369.out) hb); replace BK374 := Q0.mk (Q9 (g := gb374) (o := .cells #[.int .i64 t372, .int .i64 t373] 24 (0, 0)) (by (with_reducible repeat (first | refine Q7 ?_ _ | refine Qa ?_ | refine Q8 ?_ _)); exact BK374.out) hb); replace HB := Q0.mk (Qi (by repeat (first | exact HB.out | apply Q4 | apply Q2 | apply Q6 | refine Q1 ?_ GE363.out | refine Q1 ?_ GE369.out | refine Q1 ?_ GE374.out)) hb); clear hb hbox hg; have hnb149 := NB379_363.out; have hnc149 := NB363_379.out; have hnb150 := NB379_369.out; have hnc150 := NB369_379.out; have hnb151 := NB379_374.out; have hnc151 := NB374_379.out; obtain ⟨hcz152_0, hcz152_1⟩ := QB BK379.out; obtain ⟨hfz152_0, hfz152_1⟩ := Qr BK379.out) | ((with_reducible refine QC (t := 33) (p := 11) rfl ?_); refine Qw (t := 33) (p := 11) (v := ?vo_w153) (w1 := ((w148.setCell ⟨gb379, 0, none⟩ (.int .i64 t377)).setCell ⟨gb379, 1, none⟩ (.int .i64 t378))) ?hg ?ho ?hn ?hr ?_; (case ho => rfl); (case hg => rfl); (case hn => rfl); (case hr => first | (go_simp; done) | (go_simp; rfl)); intro w153 hw; replace HO_6 : Q0 (Kd.S (Kd.slice 4 Kd.bool) 39 w153 w.heap.size (fun _ => True) v365 t364) := ⟨(by rw [hw]; exact (by (with_reducible repeat (first | apply Kd.Xa | apply Kd.X9 | apply Kd.Xl)); exact Kd.XU (Kd.Yd (p := ⟨gb379, 1, none⟩) (Kd.Yd (p := ⟨gb379, 0, none⟩) (Kd.S_types HO_6.out BK379.out (by decide)) (fun _ hk => hk.2) (.int .i64 t377)) (fun _ hk => hk.2) (.int .i64 t378)) (fun _ hk => trivial)))⟩; replace BK363 := Q0.mk (far2 hw BK363.out NB363_379.out); replace BK369 := Q0.mk (far2 hw BK369.out NB369_379.out); replace BK374 := Q0.mk (far2 hw BK374.out NB374_379.out); replace BK379 := Q0.mk (put2 hw BK379.out); replace HB := Q0.mk (bel2 hw HB.out GE379.out); clear hw; obtain ⟨hcz154_0, hcz154_1⟩ := QB BK379.out; obtain ⟨hfz154_0, hfz154_1⟩ := Qr BK379.out) | ((with_reducible refine Qs (f := 16) rfl ?_); refine QZ (some 87) rfl rfl Try.func16 (by kernel_rfl) rfl #[.slice A0 l0.length c0] rfl (by (try simp only [List.map_toArray, List.map_cons, List.map_nil]); first | done | rfl | (simp only [List.length_drop, List.length_take]; rfl)) ?_; (with_reducible refine (Qb.calls kj5 _ _ l0 t386 _ ?side1 ?side2 A142.out).mono ?_); (case side1 => repeat (first | exact (Kd.Qz HR0.out HB.out) | (with_reducible refine Kd.QT ?_ _) | (with_reducible refine Kd.QS ?_ _) | (with_reducible refine Kd.X3 ?_))); (case side2 => exact HC0.out); rintro e w155 ⟨v387, rfl, ho0, hb⟩; refine ⟨_, rfl, ?_⟩; have HO388 := Q0.mk (Kd.S_lower (Kd.S_new' ho0 (Kd.S_lt (by (with_reducible repeat (first | apply Kd.Xa | apply Kd.X9 | apply Kd.Xl)); exact HO_6.out))) (Qg (by repeat (first | exact HB.out | apply Q4 | apply Q2 | apply Q6 | refine Q1 ?_ GE363.out | refine Q1 ?_ GE369.out | refine Q1 ?_ GE374.out | refine Q1 ?_ GE379.out)))); replace HO_6 := Q0.mk (Kd.S_elder' (by (with_reducible repeat (first | apply Kd.Xa | apply Kd.X9 | apply Kd.Xl)); exact HO_6.out) (Kd.Yl ho0) hb); replace BK363 := Q0.mk (Q9 (g := gb363) (o := .cells #[.int .i64 t361, .int .i64 t362] 24 (0, 0)) (by (with_reducible repeat (first | refine Q7 ?_ _ | refine Qa ?_ | refine Q8 ?_ _)); exact BK363.out) hb); replace BK369 := Q0.mk (Q9 (g := gb369) (o := .cells #[.int .i64 t367, .int .i64 t368] 24 (0, 0)) (by (with_reducible repeat (first | refine Q7 ?_ _ | refine Qa ?_ | refine Q8 ?_ _)); exact BK369.out) hb); replace BK374 := Q0.mk (Q9 (g := gb374) (o := .cells #[.int .i64 t372, .int .i64 t373] 24 (0, 0)) (by (with_reducible repeat (first | refine Q7 ?_ _ | refine Qa ?_ | refine Q8 ?_ _)); exact BK374.out) hb); replace BK379 := Q0.mk (Q9 (g := gb379) (o := .cells #[.int .i64 t377, .int .i64 t378] 33 (0, 0)) (by (with_reducible repeat (first | refine Q7 ?_ _ | refine Qa ?_ | refine Q8 ?_ _)); exact BK379.out) hb); replace HB := Q0.mk (Qi (by repeat (first | exact HB.out | apply Q4 | apply Q2 | apply Q6 | refine Q1 ?_ GE363.out | refine Q1 ?_ GE369.out | refine Q1 ?_ GE374.out | refine Q1 ?_ GE379.out)) hb); (try clear ho0); obtain ⟨Ao156, co156, eo156⟩ := Kd.Yr HO_6.out; subst eo156; obtain ⟨Ao157, co157, eo157⟩ := Kd.Yr HO388.out; subst eo157) | ((with_reducible refine Qs (f := 15) rfl ?_); refine QZ (some 88) rfl rfl Try.func15 (by kernel_rfl) rfl #[.slice Ao156 t364.length co156, .slice Ao157 t386.length co157] rfl (by (try simp only [List.map_toArray, List.map_cons, List.map_nil]); first | done | rfl | (simp only [List.length_drop, List.length_take]; rfl)) ?_; (with_reducible refine (Qk.calls kj5 _ _ t364 _ _ t386 true _ ?side1 ?side2 ?side3 ?side4 A143.out).mono ?_); (case side1 => repeat (first | exact (Kd.Xz HO_6.out).2.2 | (with_reducible refine Kd.QT ?_ _) | (with_reducible refine Kd.QS ?_ _) | (with_reducible refine Kd.X3 ?_))); (case side2 => exact (Kd.Xz HO_6.out).2.1); (case side3 => repeat (first | exact (Kd.Xz HO388.out).2.2 | (with_reducible refine Kd.QT ?_ _) | (with_reducible refine Kd.QS ?_ _) | (with_reducible refine Kd.X3 ?_))); (case side4 => exact (Kd.Xz HO388.out).2.1); rintro e w' ⟨rfl, ⟨nd, rfl⟩⟩; refine ⟨_, rfl, ?_⟩; have hnb158 := NB374_363.out; have hnc158 := NB363_374.out; have hnb159 := NB374_369.out; have hnc159 := NB369_374.out; obtain ⟨hcz160_0, hcz160_1⟩ := QB BK374.out; obtain ⟨hfz160_0, hfz160_1⟩ := Qr BK374.out; obtain ⟨hcz161_0, hcz161_1⟩ := QB BK379.out; obtain ⟨hfz161_0, hfz161_1⟩ := Qr BK379.out))
        go_ret
        exact ⟨by first | rfl | (simp [*]; done), by repeat (first | exact HB.out | apply Q4 | apply Q2 | apply Q6 | refine Q1 ?_ GE363.out | refine Q1 ?_ GE369.out | refine Q1 ?_ GE374.out | refine Q1 ?_ GE379.out)⟩
       ·rw [if_neg c146] at H
        have c146b0 : (t370 == t377) = false := beq_eq_false_iff_ne.mpr c146
        have c146b1 : (t370 != t377) = true := bne_iff_ne.mpr c146
        exact absurd (Option.some.inj H) (by rw [HT.out]; decide)
      ·rw [if_neg c145] at H
       have c145b0 : (t372 == 0) = false := beq_eq_false_iff_ne.mpr c145
       have c145b1 : (t372 != 0) = true := bne_iff_ne.mpr c145
       exact absurd (Option.some.inj H) (by rw [HT.out]; decide)
     ·replace c144 := Bool.eq_false_iff.mpr c144
      subst c144
      rw [if_neg (show ¬ (false = true) by decide)] at H
      exact absurd (Option.some.inj H) (by rw [HT.out]; decide)
end Go.Proofs.Ytakabkjhnncbhaa.PX
namespace Go.Proofs.Ytakabkjhnncbhaa.PX
open Go.RowKit Go.Proofs.YtakabkjhnncbhaaW.PrintWords Go.Proofs.YtakabkjhnncbhaaW.PrintLast Go.Proofs.YtakabkjhnncbhaaW.PrintMore
set_option linter.unusedVariables false
set_option linter.unusedSimpArgs false
def TotP {α : Type} (P : α → Prop) (g : Nat → Option α) : Prop := ∃ r, P r ∧ Ev g r
def T1 {α : Type} (_ : α) : Prop := True
theorem TotP.now {α : Type} {P : α → Prop} {r : α} (h : P r) : TotP P (fun _ => some r) := ⟨r, h, Ev.now r⟩
theorem TotP.nowT {α : Type} {r : α} : TotP T1 (fun _ => some r) := ⟨r, trivial, Ev.now r⟩
theorem TotP.bind {α β : Type} {P : α → Prop} {Q : β → Prop} {g : Nat → Option α} {f : Nat → α → Option β} (h : TotP P g) (k : ∀ a, P a → TotP Q (fun n => f n a)) : TotP Q (fun n => (g n).bind (f n)) := by
  obtain ⟨a, ha, h⟩ := h
  obtain ⟨r, hr, k⟩ := k a ha
  exact ⟨r, hr, Ev.bind h k⟩
theorem TotP.step {α : Type} {P : α → Prop} {g f : Nat → Option α} (h : ∀ k, g (k + 1) = f k) (k : TotP P f) : TotP P g := by
  obtain ⟨r, hr, k⟩ := k
  exact ⟨r, hr, Ev.step h k⟩
theorem TotP.ite {α : Type} {P : α → Prop} {c : Prop} [Decidable c] {a b : Nat → Option α} (h : c → TotP P a) (k : ¬ c → TotP P b) : TotP P (fun n => if c then a n else b n) := by
  by_cases e : c
  · obtain ⟨r, hr, h⟩ := h e
    exact ⟨r, hr, Ev.congr (fun n => if_pos e) h⟩
  · obtain ⟨r, hr, h⟩ := k e
    exact ⟨r, hr, Ev.congr (fun n => if_neg e) h⟩
theorem TotP.mono {α : Type} {P Q : α → Prop} {g : Nat → Option α} (h : TotP P g) (k : ∀ r, P r → Q r) : TotP Q g := by
  obtain ⟨r, hr, h⟩ := h
  exact ⟨r, k r hr, h⟩
theorem TotP.free {α : Type} {P : α → Prop} {o : Option α} {r : α} (h : o = some r) (hp : P r) : TotP P (fun _ => o) := ⟨r, hp, 0, fun _ _ => h⟩
theorem tot_within (a b c : Int) : TotP (fun r => r = decide (b ≤ a ∧ a ≤ c)) (fun _ => Qj.f a b c) := by
  unfold Qj.f
  refine TotP.ite (fun h => TotP.now ?_) (fun h => TotP.now ?_)
  · by_cases h2 : a ≤ c
    · rw [decide_eq_true h2, decide_eq_true ⟨h, h2⟩]
    · rw [decide_eq_false h2, decide_eq_false (fun hh => h2 hh.2)]
  · rw [decide_eq_false (fun hh => h hh.1)]
theorem tot_Field (a : Int) : TotP (fun r => 0 ≤ r ∧ r ≤ 4) (fun _ => Y1.f a) := by
  unfold Y1.f
  repeat' first
    | exact TotP.now (by omega)
    | refine TotP.ite (fun _ => ?_) (fun _ => ?_)
theorem tot_isDigit (a : Int) : TotP T1 (fun _ => QY.f a) := by
  unfold QY.f
  refine TotP.ite (fun _ => TotP.nowT) (fun _ => TotP.nowT)
theorem tot_isNameByte (a : Int) : TotP T1 (fun _ => XE.f a) := by
  unfold XE.f
  repeat' first
    | exact TotP.nowT
    | refine TotP.ite (fun _ => ?_) (fun _ => ?_)
    | refine TotP.bind (tot_isDigit _) (fun _ _ => ?_)
theorem tot_IsName (a : ByteArray) (hs : a.size ≤ 9223372036854775807) : TotP T1 (fun k => Qo.f k a) := by
  have hl : ∀ (n : Nat) (x : Int), 0 ≤ x → x + n = a.size → TotP T1 (fun k => Qo.l0 k a (a.size : Int) x) := by
    intro n
    induction n with
    | zero =>
      intro x h0 h
      refine TotP.step (fun k => by rw [Qo.l0]) ?_
      refine TotP.ite (fun _ => ?_) (fun _ => ?_)
      · exfalso; omega
      · exact TotP.ite (fun _ => TotP.nowT) (fun _ => TotP.nowT)
    | succ n ih =>
      intro x h0 h
      have e : wrap64 (x + 1) = x + 1 := IntWalk.wrap64_in _ (by omega)
      have hn := ih (x + 1) (by omega) (by omega)
      refine TotP.step (fun k => by rw [Qo.l0]) ?_
      rw [e]
      repeat' first
        | exact hn
        | exact TotP.nowT
        | (exfalso; omega)
        | refine TotP.ite (fun _ => ?_) (fun _ => ?_)
        | refine TotP.bind (tot_isNameByte _) (fun _ _ => ?_)
        | refine TotP.bind (tot_isDigit _) (fun _ _ => ?_)
  exact hl a.size 0 (by omega) (by omega)
theorem tot_Contains (l : List ByteArray) (a : ByteArray) (hs : l.length ≤ 9223372036854775807) : TotP T1 (fun k => QX.f k l a) := by
  have hl : ∀ (n : Nat) (x : Int), 0 ≤ x → x + n = l.length → TotP T1 (fun k => Qv.l0 k l a (l.length : Int) x) := by
    intro n
    induction n with
    | zero =>
      intro x h0 h
      refine TotP.step (fun k => by rw [Qv.l0]) ?_
      refine TotP.ite (fun _ => ?_) (fun _ => TotP.nowT)
      exfalso; omega
    | succ n ih =>
      intro x h0 h
      have e : wrap64 (x + 1) = x + 1 := IntWalk.wrap64_in _ (by omega)
      have hn := ih (x + 1) (by omega) (by omega)
      refine TotP.step (fun k => by rw [Qv.l0]) ?_
      rw [e]
      repeat' first
        | exact hn
        | exact TotP.nowT
        | (exfalso; omega)
        | refine TotP.ite (fun _ => ?_) (fun _ => ?_)
  exact TotP.bind (hl l.length 0 (by omega) (by omega)) (fun _ _ => TotP.nowT)
theorem tot_relocs (a : ByteArray) (b c : Int) (d : List Int) (e : Int) (f : Bool) (l6 : List (S97)) (l7 : List (S126)) (l8 : List (S128)) (x1 : Int) (hs : l6.length ≤ 100) : TotP T1 (fun k => QM.f k a b c d e f l6 l7 l8 x1) := by
  have hl : ∀ (n : Nat) (x x5 : Int), 0 ≤ x → x + n = l6.length → TotP T1 (fun k => QM.l0 k x1 x5 l6 (l6.length : Int) x a b c d e f l6 l7 l8) := by
    intro n
    induction n with
    | zero =>
      intro x x5 h0 h
      refine TotP.step (fun k => by rw [QM.l0]) ?_
      refine TotP.ite (fun _ => ?_) (fun _ => TotP.nowT)
      exfalso; omega
    | succ n ih =>
      intro x x5 h0 h
      have e : wrap64 (x + 1) = x + 1 := IntWalk.wrap64_in _ (by omega)
      have hn := fun y => ih (x + 1) y (by omega) (by omega)
      refine TotP.step (fun k => by rw [QM.l0]) ?_
      repeat' first
        | (rw [e]; exact hn _)
        | exact TotP.nowT
        | (exfalso; omega)
        | refine TotP.ite (fun _ => ?_) (fun _ => ?_)
        | refine TotP.bind (tot_Field _) (fun _ _ => ?_)
        | refine TotP.bind (tot_within _ _ _) (fun _ _ => ?_)
        | refine TotP.step (fun k => by rw [QM.j1]) ?_
  exact hl l6.length 0 0 (by omega) (by omega)
theorem tot_rows (a : ByteArray) (b c : Int) (d : List Int) (e : Int) (f : Bool) (l6 : List (S97)) (l7 : List (S126)) (l8 : List (S128)) (x1 : Int) (hs7 : l7.length ≤ 100) (hs8 : l8.length ≤ 100) : TotP T1 (fun k => Qx.f k a b c d e f l6 l7 l8 x1) := by
  have hl2 : ∀ (n : Nat) (x x5 : Int), 0 ≤ x → x + n = l8.length → TotP T1 (fun k => Qx.l1 k x5 l8 (l8.length : Int) x a b c d e f l6 l7 l8) := by
    intro n
    induction n with
    | zero =>
      intro x x5 h0 h
      refine TotP.step (fun k => by rw [Qx.l1]) ?_
      refine TotP.ite (fun _ => ?_) (fun _ => TotP.nowT)
      exfalso; omega
    | succ n ih =>
      intro x x5 h0 h
      have e : wrap64 (x + 1) = x + 1 := IntWalk.wrap64_in _ (by omega)
      have hn := fun y => ih (x + 1) y (by omega) (by omega)
      refine TotP.step (fun k => by rw [Qx.l1]) ?_
      repeat' first
        | (rw [e]; exact hn _)
        | exact TotP.nowT
        | (exfalso; omega)
        | refine TotP.ite (fun _ => ?_) (fun _ => ?_)
        | refine TotP.bind (tot_within _ _ _) (fun _ _ => ?_)
        | refine TotP.step (fun k => by rw [Qx.j3]) ?_
  have hl : ∀ (n : Nat) (x x5 : Int), 0 ≤ x → x + n = l7.length → TotP T1 (fun k => Qx.l0 k x1 x5 l7 (l7.length : Int) x a b c d e f l6 l7 l8) := by
    intro n
    induction n with
    | zero =>
      intro x x5 h0 h
      refine TotP.step (fun k => by rw [Qx.l0]) ?_
      refine TotP.ite (fun _ => ?_) (fun _ => hl2 l8.length 0 _ (by omega) (by omega))
      exfalso; omega
    | succ n ih =>
      intro x x5 h0 h
      have e : wrap64 (x + 1) = x + 1 := IntWalk.wrap64_in _ (by omega)
      have hn := fun y => ih (x + 1) y (by omega) (by omega)
      refine TotP.step (fun k => by rw [Qx.l0]) ?_
      repeat' first
        | (rw [e]; exact hn _)
        | exact TotP.nowT
        | (exfalso; omega)
        | refine TotP.ite (fun _ => ?_) (fun _ => ?_)
        | refine TotP.bind (tot_within _ _ _) (fun _ _ => ?_)
        | refine TotP.step (fun k => by rw [Qx.j1]) ?_
  exact hl l7.length 0 (-1) (by omega) (by omega)
end Go.Proofs.Ytakabkjhnncbhaa.PX
namespace Go.Proofs.Ytakabkjhnncbhaa.PX
open Go.RowKit Go.Proofs.YtakabkjhnncbhaaW.PrintWords Go.Proofs.YtakabkjhnncbhaaW.PrintLast Go.Proofs.YtakabkjhnncbhaaW.PrintMore
set_option linter.unusedVariables false
set_option linter.unusedSimpArgs false
theorem TotP.const {α : Type} {P : α → Prop} {o : Option α} (h : TotP P (fun _ => o)) : ∃ r, P r ∧ o = some r := by
  obtain ⟨r, hr, K, h⟩ := h
  exact ⟨r, hr, h K (Nat.le_refl _)⟩
def OkS (a : ByteArray) : Prop := a.size ≤ 9223372036854775807
theorem name_some (a : ByteArray) (hs : OkS a) : ∃ b, Qo.f (a.size + 2) a = some b := by
  unfold OkS at hs
  have hl : ∀ (n k : Nat) (x : Int), 0 ≤ x → x + n = a.size → n < k → TotP T1 (fun _ : Nat => Qo.l0 k a (a.size : Int) x) := by
    intro n
    induction n with
    | zero =>
      intro k x h0 h hk
      obtain ⟨k, rfl⟩ : ∃ m, k = m + 1 := ⟨k - 1, by omega⟩
      rw [Qo.l0]
      refine TotP.ite (fun _ => ?_) (fun _ => ?_)
      · exfalso; omega
      · exact TotP.ite (fun _ => TotP.nowT) (fun _ => TotP.nowT)
    | succ n ih =>
      intro k x h0 h hk
      obtain ⟨k, rfl⟩ : ∃ m, k = m + 1 := ⟨k - 1, by omega⟩
      have e : wrap64 (x + 1) = x + 1 := IntWalk.wrap64_in _ (by omega)
      have hn := ih k (x + 1) (by omega) (by omega) (by omega)
      rw [Qo.l0, e]
      repeat' first
        | exact hn
        | exact TotP.nowT
        | (exfalso; omega)
        | refine TotP.ite (fun _ => ?_) (fun _ => ?_)
        | refine TotP.bind (tot_isNameByte _) (fun _ _ => ?_)
        | refine TotP.bind (tot_isDigit _) (fun _ _ => ?_)
  obtain ⟨b, _, h⟩ := (hl a.size (a.size + 2) 0 (by omega) (by omega) (by omega)).const
  exact ⟨b, h⟩
theorem tot_Name (a : ByteArray) (hs : OkS a) : TotP (fun b => Qo.f (a.size + 2) a = some b) (fun k => Qo.f k a) := by
  obtain ⟨b, hb⟩ := name_some a hs
  exact ⟨b, hb, Ev.of (fun k => Qo.mono a k) hb⟩
theorem tot_section (a0 : ByteArray) (l1 : List (S89)) (l2 : List (S61)) (l3 : List (S49)) (l4 : List ByteArray) (l5 : List (S122)) (i : Int) (h0 : 0 ≤ i) (h1 : i < l1.length) (hn : OkS (Qe l1 i).f0) : TotP T1 (fun k => Qp.f k a0 l1 l2 l3 l4 l5 i) := by
  unfold Qp.f
  repeat' first
    | exact TotP.nowT
    | (exfalso; omega)
    | exact tot_relocs _ _ _ _ _ _ _ _ _ _ (by omega)
    | refine TotP.ite (fun h => ?_) (fun h => absurd rfl h)
    | refine TotP.ite (fun h => absurd h (by decide)) (fun h => ?_)
    | refine TotP.ite (fun _ => ?_) (fun _ => ?_)
    | refine TotP.bind (tot_Name _ hn) (fun _ _ => ?_)
    | refine TotP.bind (tot_within _ _ _) (fun _ _ => ?_)
    | refine TotP.bind (TotP.free (r := _) rfl (trivial : T1 _)) (fun _ _ => ?_)
    | refine TotP.bind (tot_relocs _ _ _ _ _ _ _ _ _ _ (by omega)) (fun _ _ => ?_)
    | refine TotP.bind (tot_rows _ _ _ _ _ _ _ _ _ _ (by omega) (by (try simp only [decide_eq_true_eq] at *); omega)) (fun _ _ => ?_)
    | refine TotP.step (fun k => by rw [Qp.j0]) ?_
    | refine TotP.step (fun k => by rw [Qp.j1]) ?_
    | refine TotP.step (fun k => by rw [Qp.j2]) ?_
    | refine TotP.step (fun k => by rw [Qp.j3]) ?_
def SymOk (l1 : List (S89)) (s : S61) : Prop := 1 ≤ s.f4 ∧ s.f4 ≤ 3 ∧ -2 ≤ s.f5 ∧ s.f5 < l1.length
theorem tot_symbol (a0 : ByteArray) (l1 : List (S89)) (l2 : List (S61)) (l3 : List (S49)) (l4 : List ByteArray) (l5 : List (S122)) (i : Int) (h0 : 0 ≤ i) (h1 : i < l2.length) (hl1 : l1.length ≤ 9223372036854775807) (hn : OkS (Qc l2 i).f0) (hv : OkS (Qc l2 i).f1) :
    TotP (fun r => r = 0 → SymOk l1 (Qc l2 i)) (fun k => Qq.f k a0 l1 l2 l3 l4 l5 i) := by
  have hw : wrap64 ((l1.length : Int) - 1) = l1.length - 1 := IntWalk.wrap64_in _ (by omega)
  unfold Qq.f SymOk
  repeat' first
    | exact TotP.now (fun h => absurd h (by decide))
    | exact TotP.now (fun _ => by (try simp only [decide_eq_true_eq] at *); omega)
    | (exfalso; (try simp only [decide_eq_true_eq] at *); omega)
    | refine TotP.ite (fun h => ?_) (fun h => absurd rfl h)
    | refine TotP.ite (fun h => absurd h (by decide)) (fun h => ?_)
    | refine TotP.ite (fun _ => ?_) (fun _ => ?_)
    | refine TotP.bind (tot_Name _ hn) (fun _ _ => ?_)
    | refine TotP.bind (tot_Name _ hv) (fun _ _ => ?_)
    | refine TotP.bind (tot_within _ _ _) (fun t ht => ?_); subst ht
    | refine TotP.bind (TotP.free (r := _) rfl (trivial : T1 _)) (fun _ _ => ?_)
    | refine TotP.step (fun k => by rw [Qq.j0]) ?_
    | refine TotP.step (fun k => by rw [Qq.j1]) ?_
    | refine TotP.step (fun k => by rw [Qq.j2]) ?_
    | refine TotP.step (fun k => by rw [Qq.j3]) ?_
end Go.Proofs.Ytakabkjhnncbhaa.PX
namespace Go.Proofs.Ytakabkjhnncbhaa.PX
open Go.RowKit Go.Proofs.YtakabkjhnncbhaaW.PrintWords Go.Proofs.YtakabkjhnncbhaaW.PrintLast Go.Proofs.YtakabkjhnncbhaaW.PrintMore
set_option linter.unusedVariables false
set_option linter.unusedSimpArgs false
theorem tot_field (l : List (S122)) (i k : Int) (hi0 : 0 ≤ i) (hi1 : i < l.length) (hk0 : 0 ≤ k) (hk1 : k < (Q5 l i).f5.length) (hb : k > 0 → 0 ≤ (QG (Q5 l i).f5 (k - 1)).f1 ∧ (QG (Q5 l i).f5 (k - 1)).f1 < l.length)
    (hbig : (Q5 l i).f5.length ≤ 1000) (hn : OkS (QG (Q5 l i).f5 k).f0) : TotP (fun r => r = 0 → 0 ≤ (QG (Q5 l i).f5 k).f1 ∧ (QG (Q5 l i).f5 k).f1 < i) (fun n => QF.f n l i k) := by
  have hw : wrap64 (k - 1) = k - 1 := IntWalk.wrap64_in _ (by omega)
  unfold QF.f
  simp only [hw]
  repeat' first
    | exact TotP.now (fun h => absurd h (by decide))
    | exact TotP.now (fun _ => by (try simp only [decide_eq_true_eq] at *); omega)
    | (exfalso; (try simp only [decide_eq_true_eq] at *); omega)
    | refine TotP.ite (fun h => ?_) (fun h => absurd rfl h)
    | refine TotP.ite (fun h => absurd h (by decide)) (fun h => ?_)
    | refine TotP.ite (fun _ => ?_) (fun _ => ?_)
    | refine TotP.bind (tot_Name _ hn) (fun _ _ => ?_)
    | refine TotP.bind (TotP.free (r := _) rfl (trivial : T1 _)) (fun _ _ => ?_)
    | refine TotP.step (fun k => by rw [QF.j0]) ?_
    | refine TotP.step (fun k => by rw [QF.j1]) ?_
section
variable (l : List (S122)) (i : Int) (hi0 : 0 ≤ i) (hi1 : i < l.length) (hf : ∀ k, OkS (QG (Q5 l i).f5 k).f0)
include hi0 hi1 hf
theorem tot_fields (h8 : (Q5 l i).f5.length ≤ 8) : ∀ (n : Nat) (x : Int), 0 ≤ x → x + n = (Q5 l i).f5.length → (x > 0 → 0 ≤ (QG (Q5 l i).f5 (x - 1)).f1 ∧ (QG (Q5 l i).f5 (x - 1)).f1 < l.length) → TotP T1 (fun k => Qd.l0 k l i ((Q5 l i).f5.length : Int) x) := by
  intro n
  induction n with
  | zero =>
    intro x h0 h _
    refine TotP.step (fun k => by rw [Qd.l0]) ?_
    refine TotP.ite (fun _ => ?_) (fun _ => TotP.nowT)
    exfalso; omega
  | succ n ih =>
    intro x h0 h hp
    have e : wrap64 (x + 1) = x + 1 := IntWalk.wrap64_in _ (by omega)
    refine TotP.step (fun k => by rw [Qd.l0]) ?_
    rw [e]
    refine TotP.ite (fun hlt => ?_) (fun _ => TotP.nowT)
    refine TotP.bind (tot_field l i x hi0 hi1 h0 hlt hp (by omega) (hf x)) (fun r hr => ?_)
    refine TotP.ite (fun hz => ?_) (fun _ => TotP.nowT)
    have hq := hr hz
    refine ih (x + 1) (by omega) (by omega) (fun _ => ?_)
    rw [show x + 1 - 1 = x from by omega]
    omega
theorem tot_j6 (b : Bool) (x0 : Int) (x1 : ByteArray) (x2 x3 x4 : Int) : TotP T1 (fun k => Qd.j6 k l i b x0 x1 x2 x3 x4 (Q5 l i).f5) := by
  refine TotP.step (fun k => by rw [Qd.j6]) ?_
  refine TotP.ite (fun _ => TotP.nowT) (fun _ => ?_)
  refine TotP.ite (fun _ => TotP.nowT) (fun _ => ?_)
  exact tot_fields l i hi0 hi1 hf (by omega) (Q5 l i).f5.length 0 (by omega) (by omega) (fun h => absurd h (by decide))
theorem tot_j5 (b : Bool) (x0 : Int) (x1 : ByteArray) (x2 x3 x4 : Int) (h3 : 0 ≤ x3 ∧ x3 < l.length) : TotP T1 (fun k => Qd.j5 k l i b x0 x1 x2 x3 x4 (Q5 l i).f5) := by
  refine TotP.step (fun k => by rw [Qd.j5]) ?_
  repeat' first
    | exact TotP.nowT
    | (exfalso; omega)
    | exact tot_j6 l i hi0 hi1 hf _ _ _ _ _ _
    | refine TotP.ite (fun _ => ?_) (fun _ => ?_)
theorem tot_j4 (b : Bool) (x0 : Int) (x1 : ByteArray) (x2 x3 x4 : Int) (h3 : 0 ≤ x3 ∧ x3 < l.length) : TotP T1 (fun k => Qd.j4 k l i b x0 x1 x2 x3 x4 (Q5 l i).f5) := by
  refine TotP.step (fun k => by rw [Qd.j4]) ?_
  repeat' first
    | exact TotP.nowT
    | exact tot_j5 l i hi0 hi1 hf _ _ _ _ _ _ h3
    | refine TotP.ite (fun _ => ?_) (fun _ => ?_)
theorem tot_j3 (b : Bool) (x0 : Int) (x1 : ByteArray) (x2 x3 x4 : Int) (h3 : 0 ≤ x3 ∧ x3 < l.length) : TotP T1 (fun k => Qd.j3 k l i b x0 x1 x2 x3 x4 (Q5 l i).f5) := by
  refine TotP.step (fun k => by rw [Qd.j3]) ?_
  repeat' first
    | exact TotP.nowT
    | exact tot_j4 l i hi0 hi1 hf _ _ _ _ _ _ h3
    | refine TotP.ite (fun _ => ?_) (fun _ => ?_)
theorem tot_j2 (b : Bool) (x0 : Int) (x1 : ByteArray) (x2 x3 x4 : Int) (h3 : b = false → 0 ≤ x3 ∧ x3 < l.length) : TotP T1 (fun k => Qd.j2 k l i b x0 x1 x2 x3 x4 (Q5 l i).f5) := by
  refine TotP.step (fun k => by rw [Qd.j2]) ?_
  refine TotP.ite (fun _ => TotP.nowT) (fun hb => ?_)
  have h3 := h3 (Bool.eq_false_iff.2 hb)
  repeat' first
    | exact TotP.nowT
    | exact tot_j3 l i hi0 hi1 hf _ _ _ _ _ _ h3
    | refine TotP.ite (fun _ => ?_) (fun _ => ?_)
theorem tot_j1 (b : Bool) (x0 : Int) (x1 : ByteArray) (x2 x3 x4 : Int) : TotP T1 (fun k => Qd.j1 k l i b x0 x1 x2 x3 x4 (Q5 l i).f5) := by
  refine TotP.step (fun k => by rw [Qd.j1]) ?_
  repeat' first
    | exact TotP.nowT
    | exact tot_j2 l i hi0 hi1 hf _ _ _ _ _ _ (fun h => by (try simp only [decide_eq_false_iff_not] at h); first | omega | exact absurd h (by decide))
    | refine TotP.ite (fun _ => ?_) (fun _ => ?_)
theorem tot_check (hn : OkS (Q5 l i).f1) : TotP T1 (fun k => Qd.f k l i) := by
  unfold Qd.f
  repeat' first
    | exact TotP.nowT
    | (exfalso; omega)
    | exact tot_j1 l i hi0 hi1 hf _ _ _ _ _ _
    | refine TotP.ite (fun _ => ?_) (fun _ => ?_)
    | refine TotP.bind (tot_Name _ hn) (fun _ _ => ?_)
    | refine TotP.step (fun k => by rw [Qd.j0]) ?_
end
theorem tot_records (l : List (S122)) (hn : ∀ i, OkS (Q5 l i).f1) (hf : ∀ i k, OkS (QG (Q5 l i).f5 k).f0) : TotP (fun r => r.1 = 0 → r.2 = 0) (fun k => QI.f k l) := by
  have hl : l.length ≤ 30 → ∀ (n : Nat) (x : Int), 0 ≤ x → x + n = l.length → TotP (fun r => r.1 = 0 → r.2 = 0) (fun k => QI.l0 k l (l.length : Int) x) := by
    intro h30 n
    induction n with
    | zero =>
      intro x h0 h
      refine TotP.step (fun k => by rw [QI.l0]) ?_
      refine TotP.ite (fun _ => ?_) (fun _ => TotP.now (fun _ => rfl))
      exfalso; omega
    | succ n ih =>
      intro x h0 h
      have e : wrap64 (x + 1) = x + 1 := IntWalk.wrap64_in _ (by omega)
      refine TotP.step (fun k => by rw [QI.l0]) ?_
      rw [e]
      refine TotP.ite (fun hlt => ?_) (fun _ => TotP.now (fun _ => rfl))
      refine TotP.bind (tot_check l x h0 hlt (hf x) (hn x)) (fun r _ => ?_)
      refine TotP.ite (fun _ => ih (x + 1) (by omega) (by omega)) (fun hz => TotP.now (fun h => absurd h hz))
  unfold QI.f
  refine TotP.ite (fun _ => TotP.now (fun h => absurd h (by decide))) (fun h => hl (by omega) l.length 0 (by omega) (by omega))
end Go.Proofs.Ytakabkjhnncbhaa.PX
namespace Go.Proofs.Ytakabkjhnncbhaa.PX
open Go.RowKit Go.Proofs.YtakabkjhnncbhaaW.PrintWords Go.Proofs.YtakabkjhnncbhaaW.PrintLast Go.Proofs.YtakabkjhnncbhaaW.PrintMore
set_option linter.unusedVariables false
set_option linter.unusedSimpArgs false
structure SzM (m : S46) : Prop where
  name : OkS m.f0
  sec : ∀ i, OkS (Qe m.f1 i).f0
  sym : ∀ i, OkS (Qc m.f2 i).f0 ∧ OkS (Qc m.f2 i).f1
  grp : ∀ i, OkS (Qh m.f3 i).f0
  file : ∀ i, OkS (m.f4.getD i ByteArray.empty)
  typ : ∀ i, OkS (Q5 m.f5 i).f1
  fld : ∀ i k, OkS (QG (Q5 m.f5 i).f5 k).f0
  nsec : m.f1.length ≤ 9223372036854775807
  nsym : m.f2.length ≤ 9223372036854775807
  ngrp : m.f3.length ≤ 9223372036854775807
  nfile : m.f4.length ≤ 9223372036854775807
  glen : ∀ i, (Qh m.f3 i).f1.length ≤ 9223372036854775807
theorem tot_each {σ : Type} (step : Nat → σ → Int → Option (Int × σ)) (base : Int) (n : Nat) (Inv : Int → σ → Prop) (h : ∀ (i : Int) st, 0 ≤ i → i < n → Inv i st → TotP (fun p => p.1 = 0 → Inv (i + 1) p.2) (fun k => step k st i)) (st : σ) (h0 : Inv 0 st) :
    TotP (fun r => r.1 = 0 → Inv n r.2.2) (fun k => Yn (step k) base n 0 st) := by
  have hl : ∀ (m : Nat) (i : Int) st, 0 ≤ i → i + m = n → Inv i st → TotP (fun r => r.1 = 0 → Inv n r.2.2) (fun k => Yn (step k) base m i st) := by
    intro m
    induction m with
    | zero =>
      intro i st h0 hi hI
      have : i = n := by omega
      subst this
      exact TotP.now (fun _ => hI)
    | succ m ih =>
      intro i st h0 hi hI
      simp only [Yn]
      refine TotP.bind (h i st h0 (by omega) hI) (fun p hp => ?_)
      exact TotP.ite (fun hz => ih (i + 1) p.2 (by omega) (by omega) (hp hz)) (fun hz => TotP.now (fun hh => absurd hh hz))
  exact hl n 0 st (Int.le_refl _) (by omega) h0
theorem tot_vfiles (fs : List ByteArray) (hs : ∀ i, OkS (fs.getD i ByteArray.empty)) (hl : fs.length ≤ 9223372036854775807) : ∀ (n i : Nat), TotP (fun v => v < 0 ∨ (i : Int) ≤ v ∧ v < i + n) (fun k => vfiles k fs n i)
  | 0, _ => TotP.now (Or.inl (by decide))
  | n + 1, i => by
    simp only [vfiles]
    refine TotP.bind (tot_Name _ (hs i)) (fun b _ => TotP.ite (fun _ => ?_) (fun _ => TotP.now (by omega)))
    refine TotP.bind (tot_Contains _ _ (by rw [List.length_take]; omega)) (fun c _ => TotP.ite (fun _ => TotP.now (by omega)) (fun _ => ?_))
    exact (tot_vfiles fs hs hl n (i + 1)).mono (fun v hv => by omega)
structure GInv (ns : Nat) (gs : List (S49)) (i : Int) (us : List Bool) : Prop where
  len : us.length = ns
  used : ∀ s : Int, us.getD s.toNat false = true → 0 ≤ s → s < ns → ∃ j : Int, 0 ≤ j ∧ j < i ∧ s ∈ (Qh gs j).f1
  mem : ∀ j : Int, 0 ≤ j → j < i → ∀ s ∈ (Qh gs j).f1, 0 ≤ s ∧ s < ns ∧ us.getD s.toNat false = true
  apart : ∀ j j' : Int, 0 ≤ j → j < i → 0 ≤ j' → j' < i → ∀ s, s ∈ (Qh gs j).f1 → s ∈ (Qh gs j').f1 → j = j'
  names : ∀ j j' : Int, 0 ≤ j → j < j' → j' < i → (Qh gs j).f0.toList ≠ (Qh gs j').f0.toList
theorem tot_grpLoop (ns : Nat) : ∀ (r : List Int) (last : Int) (us : List Bool), us.length = ns → -1 ≤ last →
    ∃ e us', grpLoop ns r last us = some (e, us') ∧ (e = 0 → us'.length = ns ∧ (∀ s ∈ r, last < s ∧ s < ns ∧ us.getD s.toNat false = false ∧ us'.getD s.toNat false = true) ∧ (∀ j : Nat, us.getD j false = true → us'.getD j false = true) ∧ (∀ j : Nat, us'.getD j false = true → us.getD j false = true ∨ (j : Int) ∈ r))
  | [], last, us, hl, _ => ⟨0, us, rfl, fun _ => ⟨hl, fun s hs => absurd hs (List.not_mem_nil), fun _ h => h, fun _ h => Or.inl h⟩⟩
  | s :: r, last, us, hl, h1 => by
    simp only [grpLoop]
    by_cases c1 : s ≤ last
    · rw [if_pos c1]; exact ⟨5, us, rfl, fun h => absurd h (by decide)⟩
    rw [if_neg c1]
    by_cases c2 : (ns : Int) ≤ s
    · rw [if_pos c2]; exact ⟨5, us, rfl, fun h => absurd h (by decide)⟩
    rw [if_neg c2, if_pos (by omega)]
    by_cases c3 : us.getD s.toNat false = true
    · rw [if_pos c3]; exact ⟨13, us, rfl, fun h => absurd h (by decide)⟩
    rw [if_neg c3]
    obtain ⟨e, us', he, hp⟩ := tot_grpLoop ns r s (us.set s.toNat true) (by rw [List.length_set]; exact hl) (by omega)
    refine ⟨e, us', he, fun h0 => ?_⟩
    obtain ⟨p1, p2, p3, p4⟩ := hp h0
    have hget : ∀ j : Nat, (us.set s.toNat true).getD j false = if j = s.toNat then true else us.getD j false := by
      intro j
      rw [List.getD_eq_getElem?_getD, List.getD_eq_getElem?_getD, List.getElem?_set]
      by_cases hj : s.toNat = j
      · rw [if_pos hj, if_pos hj.symm, if_pos (by omega)]; rfl
      · rw [if_neg hj, if_neg (fun e => hj e.symm)]
    refine ⟨p1, ?_, ?_, ?_⟩
    · intro q hq
      rcases List.mem_cons.1 hq with rfl | hq
      · refine ⟨by omega, by omega, Bool.eq_false_iff.2 c3, p3 _ ?_⟩
        rw [hget, if_pos rfl]
      · obtain ⟨a1, a2, a3, a4⟩ := p2 q hq
        refine ⟨by omega, a2, ?_, a4⟩
        rw [hget, if_neg (by omega)] at a3
        exact a3
    · intro j hj
      refine p3 j ?_
      rw [hget]
      split
      · rfl
      · exact hj
    · intro j hj
      rcases p4 j hj with hh | hh
      · rw [hget] at hh
        split at hh
        · rename_i e; right; rw [e]; exact List.mem_cons.2 (Or.inl (by omega))
        · exact Or.inl hh
      · exact Or.inr (List.mem_cons_of_mem _ hh)
theorem tot_group (ns : Nat) (gs : List (S49)) (hg : ∀ i, OkS (Qh gs i).f0) (i : Int) (us : List Bool) (h0 : 0 ≤ i) (h1 : i < gs.length) (hI : GInv ns gs i us) : TotP (fun p => p.1 = 0 → GInv ns gs (i + 1) p.2) (fun _ => XK.f ns gs i us) := by
  unfold XK.f
  rw [if_pos ⟨h0, h1⟩]
  obtain ⟨b, hb⟩ := name_some _ (hg i)
  refine TotP.bind (TotP.free (P := T1) hb trivial) (fun b _ => ?_)
  refine TotP.ite (fun _ => ?_) (fun _ => TotP.now (fun h => absurd (show (12 : Int) = 0 from h) (by decide)))
  refine TotP.ite (fun _ => TotP.now (fun h => absurd (show (7 : Int) = 0 from h) (by decide))) (fun hd => ?_)
  obtain ⟨e, us', he, hp⟩ := tot_grpLoop ns (Qh gs i).f1 (-1) us hI.len (Int.le_refl _)
  refine TotP.free he (fun hz => ?_)
  obtain ⟨p1, p2, p3, p4⟩ := hp hz
  have hd : ∀ j : Int, 0 ≤ j → j < i → (Qh gs j).f0.toList ≠ (Qh gs i).f0.toList := by
    intro j hj0 hj1 e
    apply hd
    rw [List.any_eq_true]
    refine ⟨Qh gs j, ?_, beq_iff_eq.2 e⟩
    unfold Qh
    rw [List.getD_eq_getElem?_getD, List.getElem?_eq_getElem (by omega : j.toNat < gs.length)]
    exact List.mem_take_iff_getElem.2 ⟨j.toNat, by omega, rfl⟩
  refine ⟨p1, ?_, ?_, ?_, ?_⟩
  · intro s hs hs0 hs1
    rcases p4 _ hs with hh | hh
    · obtain ⟨j, a, b, c⟩ := hI.used s hh hs0 hs1
      exact ⟨j, a, by omega, c⟩
    · exact ⟨i, h0, by omega, by rwa [Int.toNat_of_nonneg hs0] at hh⟩
  · intro j hj0 hj1 s hs
    by_cases hji : j = i
    · subst hji
      obtain ⟨a1, a2, _, a4⟩ := p2 s hs
      exact ⟨by omega, a2, a4⟩
    · obtain ⟨a1, a2, a3⟩ := hI.mem j hj0 (by omega) s hs
      exact ⟨a1, a2, p3 _ a3⟩
  · intro j j' hj0 hj1 hj0' hj1' s hs hs'
    by_cases hji : j = i
    · by_cases hji' : j' = i
      · omega
      · subst hji
        have := (hI.mem j' hj0' (by omega) s hs').2.2
        rw [(p2 s hs).2.2.1] at this
        exact absurd this (by decide)
    · by_cases hji' : j' = i
      · subst hji'
        have := (hI.mem j hj0 (by omega) s hs).2.2
        rw [(p2 s hs').2.2.1] at this
        exact absurd this (by decide)
      · exact hI.apart j j' hj0 (by omega) hj0' (by omega) s hs hs'
  · intro j j' hj0 hjj hj1
    by_cases hji' : j' = i
    · subst hji'
      exact hd j hj0 hjj
    · exact hI.names j j' hj0 hjj (by omega)
structure GoodM (m : S46) : Prop where
  many : m.f1.length ≤ 16 ∧ m.f2.length ≤ 60 ∧ m.f3.length ≤ 8 ∧ m.f4.length ≤ 8
  sym : ∀ i : Int, 0 ≤ i → i < m.f2.length → SymOk m.f1 (Qc m.f2 i)
  mem : ∀ j : Int, 0 ≤ j → j < m.f3.length → ∀ s ∈ (Qh m.f3 j).f1, 0 ≤ s ∧ s < m.f1.length
  apart : ∀ j j' : Int, 0 ≤ j → j < m.f3.length → 0 ≤ j' → j' < m.f3.length → ∀ s, s ∈ (Qh m.f3 j).f1 → s ∈ (Qh m.f3 j').f1 → j = j'
  names : ∀ j j' : Int, 0 ≤ j → j < j' → j' < m.f3.length → (Qh m.f3 j).f0.toList ≠ (Qh m.f3 j').f0.toList
theorem tot_Many (a0 : ByteArray) (l1 : List (S89)) (l2 : List (S61)) (l3 : List (S49)) (l4 : List ByteArray) (l5 : List (S122)) : TotP (fun r => r = false → l1.length ≤ 16 ∧ l2.length ≤ 60 ∧ l3.length ≤ 8 ∧ l4.length ≤ 8) (fun _ => XH.f a0 l1 l2 l3 l4 l5) := by
  unfold XH.f
  repeat' first
    | exact TotP.now (fun h => absurd h (by decide))
    | exact TotP.now (fun h => by (try simp only [decide_eq_false_iff_not] at h); omega)
    | refine TotP.ite (fun _ => ?_) (fun _ => ?_)
theorem tot_Validate (m : S46) (hz : SzM m) : TotP (fun r => r.1 = 0 → r.2 = 0 ∧ GoodM m) (fun k => X8.f k m.f0 m.f1 m.f2 m.f3 m.f4 m.f5) := by
  unfold X8.f
  refine TotP.bind (tot_Name _ hz.name) (fun _ _ => ?_)
  refine TotP.ite (fun _ => ?_) (fun _ => TotP.now (fun h => absurd (show (12 : Int) = 0 from h) (by decide)))
  refine TotP.bind (tot_Many _ _ _ _ _ _) (fun t ht => ?_)
  refine TotP.ite (fun _ => TotP.now (fun h => absurd h (by decide))) (fun hf => ?_)
  have hmany := ht (Bool.eq_false_iff.2 hf)
  refine TotP.bind (tot_vfiles m.f4 hz.file hz.nfile _ _) (fun v hv => ?_)
  refine TotP.ite (fun _ => ?_) (fun _ => TotP.now (fun h => absurd (show (12 : Int) = 0 from h) (by decide)))
  refine TotP.bind (tot_records m.f5 hz.typ hz.fld) (fun q hq => ?_)
  refine TotP.ite (fun _ => ?_) (fun hn => TotP.now (fun h => absurd h hn))
  refine TotP.bind (tot_each (fun k (_ : Unit) i => (Qp.f k m.f0 m.f1 m.f2 m.f3 m.f4 m.f5 i).bind fun r => some (r, ())) 0 m.f1.length (fun _ _ => True) (fun i st h0 h1 _ => TotP.bind (tot_section _ _ _ _ _ _ i h0 h1 (hz.sec i)) (fun _ _ => TotP.now (fun _ => trivial))) () trivial) (fun x _ => ?_)
  refine TotP.ite (fun _ => ?_) (fun hn => TotP.now (fun h => absurd h hn))
  refine TotP.bind (tot_each (fun k (_ : Unit) i => (Qq.f k m.f0 m.f1 m.f2 m.f3 m.f4 m.f5 i).bind fun r => some (r, ())) 1000 m.f2.length (fun i _ => ∀ j : Int, 0 ≤ j → j < i → SymOk m.f1 (Qc m.f2 j)) (fun i st h0 h1 hI => TotP.bind (tot_symbol _ _ _ _ _ _ i h0 h1 hz.nsec (hz.sym i).1 (hz.sym i).2) (fun r hr => TotP.now (fun h => fun j hj0 hj1 => by
    by_cases hji : j = i
    · subst hji; exact hr h
    · exact hI j hj0 (by omega)))) () (fun j h0 h1 => absurd h1 (by omega))) (fun y hy => ?_)
  refine TotP.ite (fun hy0 => ?_) (fun hn => TotP.now (fun h => absurd h hn))
  have hg := tot_each (fun _ (us : List Bool) i => XK.f m.f1.length m.f3 i us) 2000 m.f3.length (fun i us => GInv m.f1.length m.f3 i us) (fun i us h0 h1 hI => tot_group _ _ hz.grp i us h0 h1 hI) (List.replicate m.f1.length false) ⟨List.length_replicate, fun s h _ _ => by
      rw [List.getD_eq_getElem?_getD, List.getElem?_replicate] at h; split at h <;> exact absurd h (by decide), fun j h0 h1 => absurd h1 (by omega), fun j j' h0 h1 => absurd h1 (by omega), fun j j' h0 h1 h2 => absurd h2 (by omega)⟩
  obtain ⟨⟨z1, z2, us⟩, hzz, hev⟩ := hg
  have hz2 : z1 = 0 → z2 = 0 := by
    intro h0
    obtain ⟨k, hk⟩ := hev.rounds
    exact each_zero _ _ _ _ _ _ _ _ hk h0
  refine TotP.bind (P := fun z => z.1 = 0 → z.2.1 = 0 ∧ GInv m.f1.length m.f3 m.f3.length z.2.2) ⟨(z1, z2, us), fun h => ⟨hz2 h, hzz h⟩, hev⟩ (fun z hz' => TotP.now (fun h => ⟨(hz' h).1, ?_⟩))
  have g := (hz' h).2
  exact ⟨hmany, hy hy0, fun j h0 h1 s hs => ⟨(g.mem j h0 h1 s hs).1, (g.mem j h0 h1 s hs).2.1⟩, g.apart, g.names⟩
end Go.Proofs.Ytakabkjhnncbhaa.PX
namespace Go.Proofs.Ytakabkjhnncbhaa.PX
open Go.RowKit Go.Proofs.YtakabkjhnncbhaaW.PrintWords Go.Proofs.YtakabkjhnncbhaaW.PrintLast Go.Proofs.YtakabkjhnncbhaaW.PrintMore
set_option linter.unusedVariables false
set_option linter.unusedSimpArgs false
def hasG (m : S46) (nm : ByteArray) : Bool := m.f3.any fun g => g.f0.toList == nm.toList
def Y8 (l : List (S46)) (i : Nat) (nm : ByteArray) : Bool := !((l.take i).any fun m => hasG m nm)
def bitL (l : List (S46)) (i s : Nat) : Bool := !((Q3 l i).f3.any fun g => decide ((s : Int) ∈ g.f1) && !Y8 l i g.f0)
def tab (n : Nat) (f : Nat → Bool) : List Bool := (List.range n).map f
theorem tab_len (n : Nat) (f : Nat → Bool) : (tab n f).length = n := by simp [tab]
theorem tab_get (n : Nat) (f : Nat → Bool) (s : Nat) (h : s < n) : (tab n f).getD s false = f s := by
  simp [tab, List.getD_eq_getElem?_getD, h]
theorem tab_set (n : Nat) (f : Nat → Bool) (s : Nat) (v : Bool) : (tab n f).set s v = tab n (fun b => if b = s then v else f b) := by
  apply List.ext_getElem
  · simp [tab]
  · intro i h1 h2
    simp only [tab, List.getElem_set, List.getElem_map, List.getElem_range]
    by_cases e : s = i
    · rw [if_pos e, if_pos e.symm]
    · rw [if_neg e, if_neg (fun h => e h.symm)]
theorem tab_congr (n : Nat) {f g : Nat → Bool} (h : ∀ s, s < n → f s = g s) : tab n f = tab n g := by
  unfold tab
  exact List.map_congr_left (fun s hs => h s (List.mem_range.1 hs))
theorem tab_rep (n : Nat) (v : Bool) : List.replicate n v = tab n (fun _ => v) := by
  apply List.ext_getElem
  · simp [tab]
  · intro i h1 h2
    simp [tab]
def T2 (l : List (S46)) (F : Nat → Nat → Bool) : List (List Bool) := (List.range l.length).map fun (i : Nat) => tab (Q3 l (i : Int)).f1.length (F i)
theorem T2_len (l : List (S46)) (F : Nat → Nat → Bool) : (T2 l F).length = l.length := by simp [T2]
theorem T2_row (l : List (S46)) (F : Nat → Nat → Bool) (i : Nat) (h : i < l.length) : (T2 l F).getD i [] = tab (Q3 l i).f1.length (F i) := by
  simp [T2, List.getD_eq_getElem?_getD, h]
theorem T2_set (l : List (S46)) (F : Nat → Nat → Bool) (i s : Nat) (v : Bool) (h : i < l.length) : (T2 l F).set i (((T2 l F).getD i []).set s v) = T2 l (fun a b => if a = i ∧ b = s then v else F a b) := by
  rw [T2_row l F i h, tab_set]
  apply List.ext_getElem
  · simp [T2]
  · intro j h1 h2
    simp only [T2, List.getElem_set, List.getElem_map, List.getElem_range]
    by_cases e : i = j
    · subst e
      rw [if_pos rfl]
      exact tab_congr _ (fun s' _ => by simp)
    · rw [if_neg e]
      exact tab_congr _ (fun s' _ => by rw [if_neg (fun hh => e hh.1.symm)])
theorem Y4 (l : List (S46)) {F G : Nat → Nat → Bool} (h : ∀ i, i < l.length → ∀ s, s < (Q3 l i).f1.length → F i s = G i s) : T2 l F = T2 l G := by
  unfold T2
  exact List.map_congr_left (fun i hi => tab_congr _ (h i (List.mem_range.1 hi)))
structure GoodL (l : List (S46)) : Prop where
  few : l.length ≤ 8
  good : ∀ i : Int, 0 ≤ i → i < l.length → GoodM (Q3 l i)
  sz : ∀ i : Int, SzM (Q3 l i)
  val : ∀ i : Int, 0 ≤ i → i < l.length → Ev (fun k => X8.f k (Q3 l i).f0 (Q3 l i).f1 (Q3 l i).f2 (Q3 l i).f3 (Q3 l i).f4 (Q3 l i).f5) (0, 0)
theorem rd46_nat (l : List (S46)) (i : Int) (h : 0 ≤ i) : Q3 l i = Q3 l (i.toNat : Int) := by rw [Int.toNat_of_nonneg h]
theorem any_rd {l : List (S49)} {p : S49 → Bool} : l.any p = true ↔ ∃ j : Nat, j < l.length ∧ p (Qh l j) = true := by
  rw [List.any_eq_true]
  constructor
  · rintro ⟨x, hx, hp⟩
    obtain ⟨j, hj, rfl⟩ := List.mem_iff_getElem.1 hx
    refine ⟨j, hj, ?_⟩
    unfold Qh
    rw [Int.toNat_natCast, List.getD_eq_getElem?_getD, List.getElem?_eq_getElem hj]
    exact hp
  · rintro ⟨j, hj, hp⟩
    refine ⟨Qh l j, ?_, hp⟩
    unfold Qh
    rw [Int.toNat_natCast, List.getD_eq_getElem?_getD, List.getElem?_eq_getElem hj]
    exact List.getElem_mem hj
def XT (l : List (S46)) (nm : ByteArray) : Nat → Nat → Int × Int
  | 0, _ => (-1, -1)
  | n + 1, i => if fidx (fun x => x.f0.toList == nm.toList) (Q3 l i).f3 ≥ 0 then (i, fidx (fun x => x.f0.toList == nm.toList) (Q3 l i).f3) else XT l nm n (i + 1)
theorem firstG_fresh (l : List (S46)) (nm : ByteArray) : ∀ (n i : Nat), ((XT l nm n i).1 < 0 ↔ ∀ j, i ≤ j → j < i + n → hasG (Q3 l j) nm = false) ∧ (∀ j : Nat, (XT l nm n i).1 = j → i ≤ j ∧ j < i + n ∧ hasG (Q3 l j) nm = true ∧ (XT l nm n i).2 = fidx (fun x => x.f0.toList == nm.toList) (Q3 l j).f3 ∧ ∀ j', i ≤ j' → j' < j → hasG (Q3 l j') nm = false) ∧ ((XT l nm n i).1 = -1 ∧ (XT l nm n i).2 = -1 ∨ 0 ≤ (XT l nm n i).1)
  | 0, i => ⟨⟨fun _ j h1 h2 => absurd h2 (by omega), fun _ => (show (-1 : Int) < 0 from by decide)⟩, fun j h => absurd h (by show ¬ ((-1 : Int) = j); omega), Or.inl ⟨rfl, rfl⟩⟩
  | n + 1, i => by
    have hfa := fidx_any (fun x : S49 => x.f0.toList == nm.toList) (Q3 l i).f3
    have hh : hasG (Q3 l i) nm = decide (fidx (fun x : S49 => x.f0.toList == nm.toList) (Q3 l i).f3 ≥ 0) := hfa.symm
    obtain ⟨ih1, ih2, ih3⟩ := firstG_fresh l nm n (i + 1)
    simp only [XT]
    by_cases c : fidx (fun x : S49 => x.f0.toList == nm.toList) (Q3 l i).f3 ≥ 0
    · rw [if_pos c]
      rw [decide_eq_true c] at hh
      refine ⟨⟨fun h => absurd h (by show ¬ ((i : Int) < 0); omega), fun h => ?_⟩, fun j hj => ?_, Or.inr (by show 0 ≤ (i : Int); omega)⟩
      · rw [h i (Nat.le_refl _) (by omega)] at hh; exact absurd hh (by decide)
      · have : i = j := by have : (i : Int) = j := hj; omega
        subst this
        exact ⟨Nat.le_refl _, by omega, hh, rfl, fun j' a b => absurd b (by omega)⟩
    · rw [if_neg c]
      rw [decide_eq_false c] at hh
      refine ⟨⟨fun h j h1 h2 => ?_, fun h => ih1.2 (fun j h1 h2 => h j (by omega) (by omega))⟩, fun j hj => ?_, ih3⟩
      · by_cases e : j = i
        · subst e; exact hh
        · exact ih1.1 h j (by omega) (by omega)
      · obtain ⟨a1, a2, a3, a4, a5⟩ := ih2 j hj
        refine ⟨by omega, by omega, a3, a4, fun j' b1 b2 => ?_⟩
        by_cases e : j' = i
        · subst e; exact hh
        · exact a5 j' (by omega) b2
theorem tot_first (l : List (S46)) (nm : ByteArray) (hl : l.length ≤ 9223372036854775807) : TotP (fun r => r = XT l nm l.length 0) (fun k => QV.f k l nm) := by
  have hh : ∀ (n i : Nat), i + n = l.length → TotP (fun r => r = XT l nm n i) (fun k => QV.l0 k l (l.length : Int) (i : Int) nm) := by
    intro n
    induction n with
    | zero =>
      intro i h
      refine TotP.step (fun k => by rw [QV.l0]) ?_
      refine TotP.ite (fun _ => ?_) (fun _ => TotP.now rfl)
      exfalso; omega
    | succ n ih =>
      intro i h
      have e : wrap64 ((i : Int) + 1) = ((i + 1 : Nat) : Int) := IntWalk.wrap64_in _ (by omega)
      refine TotP.step (fun k => by rw [QV.l0]) ?_
      rw [e]
      refine TotP.ite (fun _ => ?_) (fun _ => by exfalso; omega)
      refine TotP.ite (fun _ => ?_) (fun _ => by exfalso; omega)
      refine TotP.ite (fun _ => ?_) (fun _ => by exfalso; omega)
      simp only [XT, cl_first.f, Option.bind_some]
      by_cases c : fidx (fun x : S49 => x.f0.toList == nm.toList) (Q3 l i).f3 ≥ 0
      · simp only [if_pos c]; exact TotP.now rfl
      · simp only [if_neg c]; exact ih (i + 1) (by omega)
  exact hh l.length 0 (by omega)
theorem tot_GroupOf (l : List (S46)) (nm : ByteArray) (hl : l.length ≤ 9223372036854775807) (hg : ∀ i : Int, (Q3 l i).f3.length ≤ 9223372036854775807) : TotP (fun r => r = XT l nm l.length 0) (fun k => Qn.f k l nm) := by
  have hh : ∀ (n i : Nat), i + n = l.length → TotP (fun r => r = XT l nm n i) (fun k => Qn.l0 k l nm (i : Int)) := by
    intro n
    induction n with
    | zero =>
      intro i h
      refine TotP.step (fun k => by rw [Qn.l0]) ?_
      refine TotP.ite (fun _ => ?_) (fun _ => TotP.free (r := (-1, -1)) rfl rfl)
      exfalso; omega
    | succ n ih =>
      intro i h
      have e : wrap64 ((i : Int) + 1) = ((i + 1 : Nat) : Int) := IntWalk.wrap64_in _ (by omega)
      have hin : ∀ (m j : Nat), j + m = (Q3 l i).f3.length → (∀ j', j' < j → ((Qh (Q3 l i).f3 (j' : Int)).f0.toList == nm.toList) = false) → TotP (fun r => r = XT l nm (n + 1) i) (fun k => Qn.l1 k l nm (i : Int) (j : Int)) := by
        intro m
        induction m with
        | zero =>
          intro j hj hb
          refine TotP.step (fun k => by rw [Qn.l1]) ?_
          rw [e]
          refine TotP.ite (fun _ => ?_) (fun _ => by exfalso; omega)
          refine TotP.ite (fun _ => ?_) (fun _ => by exfalso; omega)
          refine TotP.ite (fun _ => by exfalso; omega) (fun _ => ?_)
          have hm : fidx (fun x : S49 => x.f0.toList == nm.toList) (Q3 l i).f3 = -1 := fidx_miss (d := z49) (fun j' hj' => by
            have := hb j' (by omega)
            unfold Qh at this
            rw [Int.toNat_natCast] at this
            exact this)
          simp only [XT, hm]
          rw [if_neg (by decide)]
          exact ih (i + 1) (by omega)
        | succ m ihm =>
          intro j hj hb
          have e' : wrap64 ((j : Int) + 1) = ((j + 1 : Nat) : Int) := IntWalk.wrap64_in _ (by have := hg i; omega)
          refine TotP.step (fun k => by rw [Qn.l1]) ?_
          rw [e', e]
          refine TotP.ite (fun _ => ?_) (fun _ => by exfalso; omega)
          refine TotP.ite (fun _ => ?_) (fun _ => by exfalso; omega)
          refine TotP.ite (fun _ => ?_) (fun _ => by exfalso; omega)
          refine TotP.ite (fun _ => ?_) (fun _ => by exfalso; omega)
          refine TotP.ite (fun hq => TotP.now ?_) (fun hq => ihm (j + 1) (by omega) (fun j' hj' => ?_))
          · have hm : fidx (fun x : S49 => x.f0.toList == nm.toList) (Q3 l i).f3 = j := fidx_hit (d := z49) (by omega) (by
              unfold Qh at hq
              rw [Int.toNat_natCast] at hq
              exact beq_iff_eq.2 hq) (fun j' hj' => by
              have := hb j' hj'
              unfold Qh at this
              rw [Int.toNat_natCast] at this
              exact this)
            simp only [XT, hm]
            rw [if_pos (by omega)]
          · by_cases ej : j' = j
            · subst ej; exact beq_eq_false_iff_ne.2 hq
            · exact hb j' (by omega)
      refine TotP.step (fun k => by rw [Qn.l0]) ?_
      refine TotP.ite (fun _ => ?_) (fun _ => by exfalso; omega)
      exact hin (Q3 l i).f3.length 0 (by omega) (fun j' hj' => absurd hj' (Nat.not_lt_zero _))
  exact hh l.length 0 (by omega)
end Go.Proofs.Ytakabkjhnncbhaa.PX
namespace Go.Proofs.Ytakabkjhnncbhaa.PX
open Go.RowKit Go.Proofs.YtakabkjhnncbhaaW.PrintWords Go.Proofs.YtakabkjhnncbhaaW.PrintLast Go.Proofs.YtakabkjhnncbhaaW.PrintMore
set_option linter.unusedVariables false
set_option linter.unusedSimpArgs false
theorem Ev.yes {α : Type} {c : Prop} [Decidable c] {a b : Nat → Option α} {r : α} (h : c) (k : Ev a r) : Ev (fun n => if c then a n else b n) r := Ev.congr (fun n => if_pos h) k
theorem Ev.no {α : Type} {c : Prop} [Decidable c] {a b : Nat → Option α} {r : α} (h : ¬ c) (k : Ev b r) : Ev (fun n => if c then a n else b n) r := Ev.congr (fun n => if_neg h) k
def allA (l : List (S46)) (i : Nat) : List (List Bool) := (List.range i).map fun (j : Nat) => tab (Q3 l (j : Int)).f1.length (fun _ => true)
theorem allA_succ (l : List (S46)) (i : Nat) : allA l i ++ [tab (Q3 l (i : Int)).f1.length (fun _ => true)] = allA l (i + 1) := by
  unfold allA
  rw [List.range_succ, List.map_append]
  rfl
theorem allA_len (l : List (S46)) (i : Nat) : (allA l i).length = i := by simp [allA]
theorem tab_append (n : Nat) : tab n (fun _ => true) ++ [true] = tab (n + 1) (fun _ => true) := by
  unfold tab
  rw [List.range_succ, List.map_append]
  rfl
section
variable (l : List (S46)) (h8 : l.length ≤ 8) (h16 : ∀ i : Int, 0 ≤ i → i < l.length → (Q3 l i).f1.length ≤ 16)
include h8 h16
theorem tot_All : TotP (fun r => r = T2 l (fun _ _ => true)) (fun k => QQ.f k l) := by
  have hh : ∀ (n i : Nat), i + n = l.length → TotP (fun r => r = T2 l (fun _ _ => true)) (fun k => QQ.l0 k (allA l i) l (l.length : Int) (i : Int)) := by
    intro n
    induction n with
    | zero =>
      intro i h
      refine TotP.step (fun k => by rw [QQ.l0]) ?_
      refine TotP.ite (fun _ => by exfalso; omega) (fun _ => TotP.now ?_)
      have : i = l.length := by omega
      subst this
      rfl
    | succ n ih =>
      intro i h
      have hi : (i : Int) < l.length := by omega
      have hns := h16 i (by omega) hi
      have e : wrap64 ((i : Int) + 1) = ((i + 1 : Nat) : Int) := IntWalk.wrap64_in _ (by omega)
      have hin : ∀ (m q : Nat) (f : Nat → Bool), q + m = (Q3 l i).f1.length → (∀ s, s < q → f s = true) → TotP (fun r => r = T2 l (fun _ _ => true)) (fun k => QQ.l1 k (allA l i) (tab (Q3 l i).f1.length f) l (l.length : Int) (i : Int) ((Q3 l i).f1.length : Int) (q : Int)) := by
        intro m
        induction m with
        | zero =>
          intro q f hq hf
          refine TotP.step (fun k => by rw [QQ.l1]) ?_
          rw [e]
          refine TotP.ite (fun _ => by exfalso; omega) (fun _ => ?_)
          refine TotP.ite (fun _ => ?_) (fun hc => by exfalso; rw [allA_len] at hc; omega)
          rw [tab_congr _ (g := fun _ => true) (fun s hs => hf s (by omega)), allA_succ]
          exact ih (i + 1) (by omega)
        | succ m ihm =>
          intro q f hq hf
          have e' : wrap64 ((q : Int) + 1) = ((q + 1 : Nat) : Int) := IntWalk.wrap64_in _ (by omega)
          refine TotP.step (fun k => by rw [QQ.l1]) ?_
          rw [e', e]
          refine TotP.ite (fun _ => ?_) (fun _ => by exfalso; omega)
          refine TotP.ite (fun _ => ?_) (fun _ => by exfalso; omega)
          refine TotP.ite (fun _ => ?_) (fun hc => by exfalso; rw [tab_len] at hc; omega)
          rw [Int.toNat_natCast, tab_set]
          refine ihm (q + 1) _ (by omega) (fun s hs => ?_)
          by_cases es : s = q
          · rw [if_pos es]
          · rw [if_neg es]; exact hf s (by omega)
      refine TotP.step (fun k => by rw [QQ.l0]) ?_
      refine TotP.ite (fun _ => ?_) (fun _ => by exfalso; omega)
      refine TotP.ite (fun _ => ?_) (fun _ => by exfalso; omega)
      refine TotP.ite (fun _ => ?_) (fun _ => by exfalso; omega)
      refine TotP.ite (fun _ => ?_) (fun _ => by exfalso; omega)
      refine TotP.ite (fun _ => ?_) (fun _ => by exfalso; omega)
      simp only [Option.bind_some, Int.toNat_natCast, List.length_replicate]
      rw [tab_rep]
      exact hin (Q3 l i).f1.length 0 _ (by omega) (fun s hs => absurd hs (Nat.not_lt_zero _))
  exact hh l.length 0 (by omega)
theorem tot_Everything : TotP (fun r => r = T2 l (fun _ _ => true)) (fun k => Ql.f k l) := by
  have hh : ∀ (n i : Nat), i + n = l.length → TotP (fun r => r = T2 l (fun _ _ => true)) (fun k => Ql.l0 k l (allA l i) (i : Int)) := by
    intro n
    induction n with
    | zero =>
      intro i h
      refine TotP.step (fun k => by rw [Ql.l0]) ?_
      refine TotP.ite (fun _ => by exfalso; omega) (fun _ => TotP.now ?_)
      have : i = l.length := by omega
      subst this
      rfl
    | succ n ih =>
      intro i h
      have hi : (i : Int) < l.length := by omega
      have hns := h16 i (by omega) hi
      have e : wrap64 ((i : Int) + 1) = ((i + 1 : Nat) : Int) := IntWalk.wrap64_in _ (by omega)
      have hin : ∀ (m q : Nat), q + m = (Q3 l i).f1.length → TotP (fun r => r = T2 l (fun _ _ => true)) (fun k => Ql.l1 k l (allA l i) (i : Int) (tab q (fun _ => true)) (q : Int)) := by
        intro m
        induction m with
        | zero =>
          intro q hq
          refine TotP.step (fun k => by rw [Ql.l1]) ?_
          rw [e]
          refine TotP.ite (fun _ => ?_) (fun _ => by exfalso; omega)
          refine TotP.ite (fun _ => ?_) (fun _ => by exfalso; omega)
          refine TotP.ite (fun _ => by exfalso; omega) (fun _ => ?_)
          refine TotP.ite (fun _ => ?_) (fun hc => by exfalso; rw [allA_len] at hc; omega)
          rw [show q = (Q3 l (i : Int)).f1.length from by omega, allA_succ]
          exact ih (i + 1) (by omega)
        | succ m ihm =>
          intro q hq
          have e' : wrap64 ((q : Int) + 1) = ((q + 1 : Nat) : Int) := IntWalk.wrap64_in _ (by omega)
          refine TotP.step (fun k => by rw [Ql.l1]) ?_
          rw [e', e]
          refine TotP.ite (fun _ => ?_) (fun _ => by exfalso; omega)
          refine TotP.ite (fun _ => ?_) (fun _ => by exfalso; omega)
          refine TotP.ite (fun _ => ?_) (fun _ => by exfalso; omega)
          refine TotP.ite (fun _ => ?_) (fun hc => by exfalso; rw [tab_len] at hc; omega)
          rw [tab_append]
          exact ihm (q + 1) (by omega)
      refine TotP.step (fun k => by rw [Ql.l0]) ?_
      refine TotP.ite (fun _ => ?_) (fun _ => by exfalso; omega)
      exact hin (Q3 l i).f1.length 0 (by omega)
  exact hh l.length 0 (by omega)
end
theorem tot_lists (l : List (S46)) (hz : ∀ i : Int, SzM (Q3 l i)) (hl : l.length ≤ 9223372036854775807) : ∃ w : Int × Int, Ev (fun k => QJ.f k l) w ∧ Ev (fun k => Qu.f k l) w ∧ (w.1 = 0 → w.2 = 0 ∧ GoodL l) := by
  unfold QJ.f Qu.f
  by_cases c : (l.length : Int) > 8
  · exact ⟨(2, -1), ⟨0, fun k _ => by simp only [if_pos c]⟩, ⟨0, fun k _ => by simp only [if_pos c]; rfl⟩, fun h => absurd (show (2 : Int) = 0 from h) (by decide)⟩
  have hh : ∀ (n i : Nat), i + n = l.length → (∀ j : Int, 0 ≤ j → j < i → GoodM (Q3 l j) ∧ Ev (fun k => X8.f k (Q3 l j).f0 (Q3 l j).f1 (Q3 l j).f2 (Q3 l j).f3 (Q3 l j).f4 (Q3 l j).f5) (0, 0)) → ∃ w : Int × Int, Ev (fun k => QJ.l0 k l (l.length : Int) (i : Int)) w ∧ Ev (fun k => Qu.l0 k l (i : Int)) w ∧ (w.1 = 0 → w.2 = 0 ∧ GoodL l) := by
    intro n
    induction n with
    | zero =>
      intro i h hg
      refine ⟨(0, 0), Ev.step (fun k => by rw [QJ.l0]) ?_, Ev.step (fun k => by rw [Qu.l0]) ?_, fun _ => ⟨rfl, by omega, fun j h0 h1 => (hg j h0 (by omega)).1, hz, fun j h0 h1 => (hg j h0 (by omega)).2⟩⟩
      · exact Ev.no (by omega) (Ev.now _)
      · exact Ev.no (by omega) (Ev.now _)
    | succ n ih =>
      intro i h hg
      have e : wrap64 ((i : Int) + 1) = ((i + 1 : Nat) : Int) := IntWalk.wrap64_in _ (by omega)
      obtain ⟨⟨v1, v2⟩, hv, hev⟩ := tot_Validate (Q3 l i) (hz i)
      by_cases c1 : v1 = 0
      · obtain ⟨c2, hgood⟩ := hv c1
        have c2 : v2 = 0 := c2
        subst c1 c2
        obtain ⟨w, w1, w2, w3⟩ := ih (i + 1) (by omega) (fun j h0 h1 => by
          by_cases ej : j = i
          · subst ej; exact ⟨hgood, hev⟩
          · exact hg j h0 (by omega))
        refine ⟨w, Ev.step (fun k => by rw [QJ.l0]) ?_, Ev.step (fun k => by rw [Qu.l0]) ?_, w3⟩
        · rw [e]
          refine Ev.yes (by omega) (Ev.yes (by omega) (Ev.yes (by omega) ?_))
          refine Ev.bind hev ?_
          exact w1
        · rw [e]
          refine Ev.yes (by omega) (Ev.yes (by omega) ?_)
          refine Ev.bind hev ?_
          exact w2
      · refine ⟨(v1, (i : Int)), Ev.step (fun k => by rw [QJ.l0]) ?_, Ev.step (fun k => by rw [Qu.l0]) ?_, fun hw => absurd hw c1⟩
        · rw [e]
          refine Ev.yes (by omega) (Ev.yes (by omega) (Ev.yes (by omega) ?_))
          refine Ev.bind hev ?_
          have hb : (!(v1 == 0) || !(v2 == 0)) = true := by rw [beq_eq_false_iff_ne.2 c1]; rfl
          simp only [hb, if_true]
          exact Ev.now _
        · rw [e]
          refine Ev.yes (by omega) (Ev.yes (by omega) ?_)
          refine Ev.bind hev ?_
          simp only [if_neg c1]
          exact Ev.now _
  obtain ⟨w, w1, w2, w3⟩ := hh l.length 0 (by omega) (fun j h0 h1 => absurd h1 (by omega))
  exact ⟨w, by simp only [if_neg c]; exact w1, by simp only [if_neg c]; exact w2, w3⟩
theorem tot_same (x : List (List Bool)) (hx : x.length ≤ 9223372036854775807) (hr : ∀ i : Int, (QO x i).length ≤ 9223372036854775807) : TotP (fun r => r = true) (fun k => Qk.f k x x) := by
  have hh : ∀ (n i : Nat), i + n = x.length → TotP (fun r => r = true) (fun k => Qk.l0 k x x (i : Int)) := by
    intro n
    induction n with
    | zero =>
      intro i h
      refine TotP.step (fun k => by rw [Qk.l0]) ?_
      refine TotP.ite (fun _ => by exfalso; omega) (fun _ => TotP.now rfl)
    | succ n ih =>
      intro i h
      have e : wrap64 ((i : Int) + 1) = ((i + 1 : Nat) : Int) := IntWalk.wrap64_in _ (by omega)
      have hin : ∀ (m q : Nat), q + m = (QO x i).length → TotP (fun r => r = true) (fun k => Qk.l1 k x x (i : Int) (q : Int)) := by
        intro m
        induction m with
        | zero =>
          intro q hq
          refine TotP.step (fun k => by rw [Qk.l1]) ?_
          rw [e]
          repeat' first
            | exact ih (i + 1) (by omega)
            | (exfalso; omega)
            | refine TotP.ite (fun _ => ?_) (fun _ => ?_)
        | succ m ihm =>
          intro q hq
          have e' : wrap64 ((q : Int) + 1) = ((q + 1 : Nat) : Int) := IntWalk.wrap64_in _ (by have := hr i; omega)
          refine TotP.step (fun k => by rw [Qk.l1]) ?_
          rw [e', e, bne_self_eq_false]
          repeat' first
            | exact ihm (q + 1) (by omega)
            | (exfalso; omega)
            | refine TotP.ite (fun h => absurd h (by decide)) (fun h => ?_)
            | refine TotP.ite (fun _ => ?_) (fun _ => ?_)
      refine TotP.step (fun k => by rw [Qk.l0]) ?_
      repeat' first
        | exact hin (QO x i).length 0 (by omega)
        | (exfalso; omega)
        | refine TotP.ite (fun _ => ?_) (fun h => absurd rfl h)
        | refine TotP.ite (fun _ => ?_) (fun _ => ?_)
  unfold Qk.f
  exact TotP.ite (fun _ => hh x.length 0 (by omega)) (fun h => absurd rfl h)
theorem chooses_true : Ev (fun k => Qt.f k) true := Ev.of (fun k => Qt.mono k) (k := 60) (by kernel_rfl)
end Go.Proofs.Ytakabkjhnncbhaa.PX
namespace Go.Proofs.Ytakabkjhnncbhaa.PX
open Go.RowKit Go.Proofs.YtakabkjhnncbhaaW.PrintWords Go.Proofs.YtakabkjhnncbhaaW.PrintLast Go.Proofs.YtakabkjhnncbhaaW.PrintMore
set_option linter.unusedVariables false
set_option linter.unusedSimpArgs false
theorem fresh_iff (l : List (S46)) (i : Nat) (nm : ByteArray) (hi : i ≤ l.length) : Y8 l i nm = true ↔ ∀ j : Nat, j < i → hasG (Q3 l j) nm = false := by
  unfold Y8
  rw [Bool.not_eq_true', List.any_eq_false]
  constructor
  · intro h j hj
    refine Bool.eq_false_iff.2 (h _ ?_)
    unfold Q3
    rw [Int.toNat_natCast, List.getD_eq_getElem?_getD, List.getElem?_eq_getElem (by omega : j < l.length)]
    exact List.mem_take_iff_getElem.2 ⟨j, by omega, rfl⟩
  · intro h x hx
    obtain ⟨j, hj, rfl⟩ := List.mem_take_iff_getElem.1 hx
    have := h j (by omega)
    unfold Q3 at this
    rw [Int.toNat_natCast, List.getD_eq_getElem?_getD, List.getElem?_eq_getElem (by omega : j < l.length)] at this
    exact Bool.eq_false_iff.1 this
theorem rd_take46 (l : List (S46)) (i j : Nat) (h : j < i) : Q3 (l.take i) (j : Int) = Q3 l j := by
  unfold Q3
  rw [Int.toNat_natCast, List.getD_eq_getElem?_getD, List.getD_eq_getElem?_getD, List.getElem?_take_of_lt h]
theorem hasG_at (l : List (S46)) (i j : Nat) (hj : j < (Q3 l i).f3.length) : hasG (Q3 l i) (Qh (Q3 l i).f3 j).f0 = true := any_rd.2 ⟨j, hj, beq_iff_eq.2 rfl⟩
theorem first_is (l : List (S46)) (hG : GoodL l) (i j : Nat) (hi : i < l.length) (hj : j < (Q3 l i).f3.length) :
    (if (XT l (Qh (Q3 l i).f3 j).f0 l.length 0).1 = i then (XT l (Qh (Q3 l i).f3 j).f0 l.length 0).2 == (j : Int) else false) = Y8 l i (Qh (Q3 l i).f3 j).f0 := by
  obtain ⟨h1, h2, h3⟩ := firstG_fresh l (Qh (Q3 l i).f3 j).f0 l.length 0
  have hat := hasG_at l i j hj
  have hgd := hG.good i (by omega) (by omega)
  generalize hr : XT l (Qh (Q3 l i).f3 j).f0 l.length 0 = r at h1 h2 h3 ⊢
  have hpos : 0 ≤ r.1 := by
    rcases h3 with ⟨a, _⟩ | a
    · exfalso
      have := h1.1 (by omega) i (by omega) (by omega)
      rw [hat] at this
      exact absurd this (by decide)
    · exact a
  obtain ⟨q, hq⟩ : ∃ q : Nat, r.1 = q := ⟨r.1.toNat, by omega⟩
  obtain ⟨a1, a2, a3, a4, a5⟩ := h2 q hq
  have hqi : q ≤ i := by
    by_cases e : q ≤ i
    · exact e
    · have := a5 i (by omega) (by omega)
      rw [hat] at this
      exact absurd this (by decide)
  by_cases e : q = i
  · subst e
    rw [if_pos hq]
    have hf : fidx (fun x : S49 => x.f0.toList == (Qh (Q3 l q).f3 j).f0.toList) (Q3 l q).f3 = j := fidx_hit (d := z49) hj (by
        show _ = true
        unfold Qh
        rw [Int.toNat_natCast]
        exact beq_iff_eq.2 rfl) (fun j' hj' => by
        have := hgd.names j' j (by omega) (by omega) (by omega)
        unfold Qh at this ⊢
        rw [Int.toNat_natCast, Int.toNat_natCast] at this
        rw [Int.toNat_natCast]
        exact beq_eq_false_iff_ne.2 this)
    rw [a4, hf, beq_self_eq_true]
    exact ((fresh_iff l q _ (by omega)).2 (fun j' hj' => a5 j' (by omega) hj')).symm
  · rw [if_neg (by omega)]
    symm
    refine Bool.eq_false_iff.2 (fun hh => ?_)
    have := (fresh_iff l i _ (by omega)).1 hh q (by omega)
    rw [a3] at this
    exact absurd this (by decide)
theorem mem_drop_rd {secs : List Int} {p : Nat} (h : p < secs.length) (b : Int) : b ∈ secs.drop p ↔ b = rd secs p ∨ b ∈ secs.drop (p + 1) := by
  rw [List.drop_eq_getElem_cons h, List.mem_cons]
  have : rd secs (p : Int) = secs[p] := by unfold rd; rw [Int.toNat_natCast, List.getD_eq_getElem?_getD, List.getElem?_eq_getElem h]; rfl
  rw [this]
theorem rd_mem {secs : List Int} {p : Nat} (h : p < secs.length) : rd secs (p : Int) ∈ secs := by
  have : rd secs (p : Int) = secs[p] := by unfold rd; rw [Int.toNat_natCast, List.getD_eq_getElem?_getD, List.getElem?_eq_getElem h]; rfl
  rw [this]
  exact List.getElem_mem h
theorem any_drop49 {gs : List (S49)} {j : Nat} (h : j < gs.length) (p : S49 → Bool) : (gs.drop j).any p = (p (Qh gs j) || (gs.drop (j + 1)).any p) := by
  rw [List.drop_eq_getElem_cons h, List.any_cons]
  have : Qh gs (j : Int) = gs[j] := by unfold Qh; rw [Int.toNat_natCast, List.getD_eq_getElem?_getD, List.getElem?_eq_getElem h]; rfl
  rw [this]
section
variable {Q : List (List Bool) × Int × Int → Prop} (l : List (S46)) (hG : GoodL l) (hz : ∀ i j : Int, (Qh (Q3 l i).f3 j).f1.length ≤ 9223372036854775807) (i : Nat) (hi : i < l.length)
include hG hz hi
theorem choose_l3 (c : Nat → Bool) : ∀ (n q : Nat) (F : Nat → Nat → Bool), q + n = (Q3 l i).f1.length →
    TotP Q (fun k => Qf.l0 k l (T2 l (fun a b => if a = i ∧ q ≤ b then F a b || c b else F a b)) l (l.length : Int) ((i + 1 : Nat) : Int)) →
    TotP Q (fun k => Qf.l3 k l (T2 l F) (i : Int) l (l.length : Int) (i : Int) (tab (Q3 l i).f1.length c) ((Q3 l i).f1.length : Int) (q : Int)) := by
  have hz' := hz
  clear hz'
  have h8 := hG.few
  have hns := (hG.good i (by omega) (by omega)).many.1
  have e : wrap64 ((i : Int) + 1) = ((i + 1 : Nat) : Int) := IntWalk.wrap64_in _ (by omega)
  intro n
  induction n with
  | zero =>
    intro q F hq hn
    refine TotP.step (fun k => by rw [Qf.l3]) ?_
    rw [e]
    refine TotP.ite (fun _ => by exfalso; omega) (fun _ => ?_)
    rwa [Y4 l (G := F) (fun a ha b hb => by
      by_cases ea : a = i
      · subst ea; rw [if_neg (by omega)]
      · rw [if_neg (fun h => ea h.1)])] at hn
  | succ n ih =>
    intro q F hq hn
    have e' : wrap64 ((q : Int) + 1) = ((q + 1 : Nat) : Int) := IntWalk.wrap64_in _ (by omega)
    refine TotP.step (fun k => by rw [Qf.l3]) ?_
    rw [e', e]
    have hrow : QO (T2 l F) (i : Int) = tab (Q3 l i).f1.length (F i) := by unfold QO; rw [Int.toNat_natCast]; exact T2_row l F i hi
    have hset : ∀ v, (T2 l F).set (i : Int).toNat ((QO (T2 l F) (i : Int)).set (q : Int).toNat v) = T2 l (fun a b => if a = i ∧ b = q then v else F a b) := by
      intro v
      rw [Int.toNat_natCast, Int.toNat_natCast]
      unfold QO
      rw [Int.toNat_natCast]
      exact T2_set l F i q v hi
    have hfin : ∀ v, v = (F i q || c q) → TotP Q (fun k => Qf.l3 k l (T2 l (fun a b => if a = i ∧ b = q then v else F a b)) (i : Int) l (l.length : Int) (i : Int) (tab (Q3 l i).f1.length c) ((Q3 l i).f1.length : Int) ((q + 1 : Nat) : Int)) := by
      intro v hv
      refine ih (q + 1) _ (by omega) ?_
      rwa [Y4 l (G := fun a b => if a = i ∧ q ≤ b then F a b || c b else F a b) (fun a ha b hb => by
        by_cases ea : a = i
        · subst ea
          by_cases eb : b = q
          · subst eb
            rw [if_neg (by omega), if_pos ⟨rfl, rfl⟩, if_pos ⟨rfl, Nat.le_refl _⟩, hv]
          · by_cases eq : q ≤ b
            · rw [if_pos ⟨rfl, by omega⟩, if_neg (fun h => eb h.2), if_pos ⟨rfl, eq⟩]
            · rw [if_neg (fun h => eq (by omega)), if_neg (fun h => eb h.2), if_neg (fun h => eq h.2)]
        · rw [if_neg (fun h => ea h.1), if_neg (fun h => ea h.1), if_neg (fun h => ea h.1)])]
    refine TotP.ite (fun _ => ?_) (fun _ => by exfalso; omega)
    refine TotP.ite (fun _ => ?_) (fun _ => by exfalso; omega)
    refine TotP.ite (fun _ => ?_) (fun hc => by exfalso; rw [tab_len] at hc; omega)
    refine TotP.ite (fun _ => ?_) (fun _ => by exfalso; omega)
    refine TotP.ite (fun _ => ?_) (fun hc => by exfalso; rw [T2_len] at hc; omega)
    refine TotP.ite (fun _ => ?_) (fun hc => by exfalso; rw [hrow, tab_len] at hc; omega)
    have hF : rdOf false (QO (T2 l F) (i : Int)) (q : Int) = F i q := by rw [hrow]; unfold rdOf; rw [Int.toNat_natCast]; exact tab_get _ _ _ (by omega)
    have hc : rdOf false (tab (Q3 l i).f1.length c) (q : Int) = c q := by unfold rdOf; rw [Int.toNat_natCast]; exact tab_get _ _ _ (by omega)
    rw [hF, hc]
    refine TotP.ite (fun ht => ?_) (fun ht => ?_)
    · rw [hset]; exact hfin _ (by rw [ht]; rfl)
    · rw [hset]; exact hfin _ (by rw [Bool.eq_false_iff.2 ht]; rfl)
theorem choose_l2 (j : Nat) (hj : j < (Q3 l i).f3.length) (fa fb : Int) (e : Bool) (he : (if fa = i then fb == (j : Int) else false) = e) : ∀ (n p : Nat) (F : Nat → Nat → Bool) (c : Nat → Bool), p + n = (Qh (Q3 l i).f3 j).f1.length →
    TotP Q (fun k => Qf.l1 k l (T2 l (fun a b => if a = i ∧ (b : Int) ∈ (Qh (Q3 l i).f3 j).f1.drop p then false else F a b)) (i : Int) (tab (Q3 l i).f1.length (fun b => if (b : Int) ∈ (Qh (Q3 l i).f3 j).f1.drop p then c b || e else c b)) l (l.length : Int) (i : Int) (Q3 l i).f3 ((Q3 l i).f3.length : Int) ((j + 1 : Nat) : Int)) →
    TotP Q (fun k => Qf.l2 k l (T2 l F) (i : Int) (tab (Q3 l i).f1.length c) (j : Int) fa fb l (l.length : Int) (i : Int) (Q3 l i).f3 ((Q3 l i).f3.length : Int) (j : Int) (Qh (Q3 l i).f3 j).f1 ((Qh (Q3 l i).f3 j).f1.length : Int) (p : Int)) := by
  have h8 := hG.few
  have hgd := hG.good i (by omega) (by omega)
  have hns := hgd.many
  have hsl := hz i j
  have e1 : wrap64 ((j : Int) + 1) = ((j + 1 : Nat) : Int) := IntWalk.wrap64_in _ (by omega)
  intro n
  induction n with
  | zero =>
    intro p F c hp hn
    refine TotP.step (fun k => by rw [Qf.l2]) ?_
    rw [e1]
    refine TotP.ite (fun _ => by exfalso; omega) (fun _ => ?_)
    have hd : (Qh (Q3 l i).f3 j).f1.drop p = [] := List.drop_eq_nil_of_le (by omega)
    simp only [hd, List.not_mem_nil, and_false, if_false] at hn
    exact hn
  | succ n ih =>
    intro p F c hp hn
    have hpl : p < (Qh (Q3 l i).f3 j).f1.length := by omega
    obtain ⟨hs0, hs1⟩ := hgd.mem j (by omega) (by omega) _ (rd_mem hpl)
    have e2 : wrap64 ((p : Int) + 1) = ((p + 1 : Nat) : Int) := IntWalk.wrap64_in _ (by omega)
    refine TotP.step (fun k => by rw [Qf.l2]) ?_
    rw [e2, e1]
    have hmem := mem_drop_rd hpl
    generalize rd (Qh (Q3 l i).f3 j).f1 (p : Int) = s at hs0 hs1 hmem ⊢
    obtain ⟨s, rfl⟩ : ∃ m : Nat, s = m := ⟨s.toNat, by omega⟩
    have hrow : QO (T2 l F) (i : Int) = tab (Q3 l i).f1.length (F i) := by unfold QO; rw [Int.toNat_natCast]; exact T2_row l F i hi
    have hset : ∀ v, (T2 l F).set (i : Int).toNat ((QO (T2 l F) (i : Int)).set (s : Int).toNat v) = T2 l (fun a b => if a = i ∧ b = s then v else F a b) := by
      intro v
      rw [Int.toNat_natCast, Int.toNat_natCast]
      unfold QO
      rw [Int.toNat_natCast]
      exact T2_set l F i s v hi
    have hc : rdOf false (tab (Q3 l i).f1.length c) (s : Int) = c s := by unfold rdOf; rw [Int.toNat_natCast]; exact tab_get _ _ _ (by omega)
    have hfin : ∀ v, v = (c s || e) → TotP Q (fun k => Qf.l2 k l (T2 l (fun a b => if a = i ∧ b = s then false else F a b)) (i : Int) ((tab (Q3 l i).f1.length c).set (s : Int).toNat v) (j : Int) fa fb l (l.length : Int) (i : Int) (Q3 l i).f3 ((Q3 l i).f3.length : Int) (j : Int) (Qh (Q3 l i).f3 j).f1 ((Qh (Q3 l i).f3 j).f1.length : Int) ((p + 1 : Nat) : Int)) := by
      intro v hv
      rw [Int.toNat_natCast, tab_set]
      refine ih (p + 1) _ _ (by omega) ?_
      rwa [Y4 l (G := fun a b => if a = i ∧ (b : Int) ∈ (Qh (Q3 l i).f3 j).f1.drop p then false else F a b) (fun a ha b hb => by
        by_cases ea : a = i
        · subst ea
          by_cases eb : b = s
          · subst eb
            rw [if_pos (⟨rfl, (hmem _).2 (Or.inl rfl)⟩ : _ ∧ _), if_pos (⟨rfl, rfl⟩ : _ ∧ _)]; split <;> rfl
          · have : ((b : Int) ∈ (Qh (Q3 l a).f3 j).f1.drop (p + 1)) ↔ ((b : Int) ∈ (Qh (Q3 l a).f3 j).f1.drop p) := ⟨fun h => (hmem _).2 (Or.inr h), fun h => ((hmem _).1 h).resolve_left (by omega)⟩
            by_cases em : (b : Int) ∈ (Qh (Q3 l a).f3 j).f1.drop p
            · rw [if_pos ⟨rfl, this.2 em⟩, if_pos ⟨rfl, em⟩]
            · rw [if_neg (fun h => em (this.1 h.2)), if_neg (fun h => eb h.2), if_neg (fun h => em h.2)]
        · rw [if_neg (fun h => ea h.1), if_neg (fun h => ea h.1), if_neg (fun h => ea h.1)]),
        tab_congr _ (g := fun b => if (b : Int) ∈ (Qh (Q3 l i).f3 j).f1.drop p then c b || e else c b) (fun b hb => by
          by_cases eb : b = s
          · subst eb
            rw [if_pos ((hmem _).2 (Or.inl rfl)), if_pos rfl, hv]; cases c b <;> cases e <;> simp
          · have : ((b : Int) ∈ (Qh (Q3 l i).f3 j).f1.drop (p + 1)) ↔ ((b : Int) ∈ (Qh (Q3 l i).f3 j).f1.drop p) := ⟨fun h => (hmem _).2 (Or.inr h), fun h => ((hmem _).1 h).resolve_left (by omega)⟩
            by_cases em : (b : Int) ∈ (Qh (Q3 l i).f3 j).f1.drop p
            · rw [if_pos (this.2 em), if_neg eb, if_pos em]
            · rw [if_neg (fun h => em (this.1 h)), if_neg eb, if_neg em])]
    refine TotP.ite (fun _ => ?_) (fun hh => absurd (show (p : Int) < _ from by omega) hh)
    refine TotP.ite (fun _ => ?_) (fun hh => absurd (Int.natCast_nonneg p) hh)
    refine TotP.ite (fun _ => ?_) (fun hh => absurd (show (p : Int) < _ from by omega) hh)
    refine TotP.ite (fun _ => ?_) (fun hh => absurd (Int.natCast_nonneg i) hh)
    refine TotP.ite (fun _ => ?_) (fun hh => by exfalso; rw [T2_len] at hh; omega)
    refine TotP.ite (fun _ => ?_) (fun hh => absurd (Int.natCast_nonneg s) hh)
    refine TotP.ite (fun _ => ?_) (fun hh => by exfalso; rw [hrow, tab_len] at hh; omega)
    simp only [Option.bind_some]
    refine TotP.ite (fun _ => ?_) (fun hh => by exfalso; rw [tab_len] at hh; omega)
    rw [hc, hset]
    refine TotP.ite (fun ht => ?_) (fun ht => TotP.ite (fun ha => ?_) (fun ha => ?_))
    · exact hfin _ (by rw [ht]; rfl)
    · exact hfin _ (by rw [if_pos ha] at he; rw [Bool.eq_false_iff.2 ht, ← he]; rfl)
    · exact hfin _ (by rw [if_neg ha] at he; rw [Bool.eq_false_iff.2 ht, ← he]; rfl)
theorem choose_l1 : ∀ (n j : Nat) (F : Nat → Nat → Bool) (c : Nat → Bool), j + n = (Q3 l i).f3.length →
    TotP Q (fun k => Qf.l3 k l (T2 l (fun a b => if a = i ∧ ((Q3 l i).f3.drop j).any (fun g => decide ((b : Int) ∈ g.f1)) = true then false else F a b)) (i : Int) l (l.length : Int) (i : Int) (tab (Q3 l i).f1.length (fun b => c b || ((Q3 l i).f3.drop j).any (fun g => decide ((b : Int) ∈ g.f1) && Y8 l i g.f0))) ((Q3 l i).f1.length : Int) 0) →
    TotP Q (fun k => Qf.l1 k l (T2 l F) (i : Int) (tab (Q3 l i).f1.length c) l (l.length : Int) (i : Int) (Q3 l i).f3 ((Q3 l i).f3.length : Int) (j : Int)) := by
  have h8 := hG.few
  have hgd := hG.good i (by omega) (by omega)
  have hns := hgd.many
  intro n
  induction n with
  | zero =>
    intro j F c hj hn
    refine TotP.step (fun k => by rw [Qf.l1]) ?_
    refine TotP.ite (fun _ => by exfalso; omega) (fun _ => ?_)
    have hd : (Q3 l i).f3.drop j = [] := List.drop_eq_nil_of_le (by omega)
    simp only [hd, List.any_nil, Bool.false_eq_true, and_false, if_false, Bool.or_false] at hn
    rw [tab_len]
    exact hn
  | succ n ih =>
    intro j F c hj hn
    refine TotP.step (fun k => by rw [Qf.l1]) ?_
    refine TotP.ite (fun _ => ?_) (fun _ => by exfalso; omega)
    refine TotP.ite (fun _ => ?_) (fun _ => by exfalso; omega)
    refine TotP.ite (fun _ => ?_) (fun _ => by exfalso; omega)
    refine TotP.bind (tot_first l _ (by omega)) (fun r hr => ?_)
    subst hr
    refine choose_l2 l hG hz i hi j (by omega) _ _ _ (first_is l hG i j hi (by omega)) _ 0 F c (Nat.zero_add _) ?_
    refine ih (j + 1) _ _ (by omega) ?_
    rw [List.drop_zero]
    rwa [Y4 l (G := fun a b => if a = i ∧ ((Q3 l i).f3.drop j).any (fun g => decide ((b : Int) ∈ g.f1)) = true then false else F a b) (fun a ha b hb => by
        rw [any_drop49 (by omega : j < (Q3 l i).f3.length)]
        by_cases ea : a = i
        · subst ea
          by_cases e1 : ((Q3 l a).f3.drop (j + 1)).any (fun g => decide ((b : Int) ∈ g.f1)) = true
          · rw [if_pos ⟨rfl, e1⟩, if_pos ⟨rfl, by rw [e1, Bool.or_true]⟩]
          · rw [if_neg (fun h => e1 h.2), Bool.eq_false_iff.2 e1, Bool.or_false]
            simp only [decide_eq_true_eq]
        · rw [if_neg (fun h => ea h.1), if_neg (fun h => ea h.1), if_neg (fun h => ea h.1)]),
      tab_congr _ (g := fun b => c b || ((Q3 l i).f3.drop j).any (fun g => decide ((b : Int) ∈ g.f1) && Y8 l i g.f0)) (fun b hb => by
        rw [any_drop49 (by omega : j < (Q3 l i).f3.length)]
        by_cases em : (b : Int) ∈ (Qh (Q3 l i).f3 j).f1
        · rw [if_pos em, decide_eq_true em, Bool.true_and, Bool.or_assoc]
        · rw [if_neg em, decide_eq_false em, Bool.false_and, Bool.false_or])]
end
end Go.Proofs.Ytakabkjhnncbhaa.PX
namespace Go.Proofs.Ytakabkjhnncbhaa.PX
open Go.RowKit Go.Proofs.YtakabkjhnncbhaaW.PrintWords Go.Proofs.YtakabkjhnncbhaaW.PrintLast Go.Proofs.YtakabkjhnncbhaaW.PrintMore
set_option linter.unusedVariables false
set_option linter.unusedSimpArgs false
theorem bit_mem (l : List (S46)) (hG : GoodL l) (i j s : Nat) (hi : i < l.length) (hj : j < (Q3 l i).f3.length) (hs : (s : Int) ∈ (Qh (Q3 l i).f3 j).f1) : bitL l i s = Y8 l i (Qh (Q3 l i).f3 j).f0 := by
  have hgd := hG.good i (by omega) (by omega)
  unfold bitL
  cases hf : Y8 l i (Qh (Q3 l i).f3 j).f0 with
  | true =>
    rw [Bool.not_eq_true', ← Bool.not_eq_true, any_rd]
    rintro ⟨j', hj', hp⟩
    rw [Bool.and_eq_true, decide_eq_true_eq] at hp
    have := hgd.apart j' j (by omega) (by omega) (by omega) (by omega) _ hp.1 hs
    have : j' = j := by omega
    subst this
    rw [hf] at hp
    exact absurd hp.2 (by decide)
  | false =>
    rw [Bool.not_eq_false', any_rd]
    exact ⟨j, hj, by rw [hf, decide_eq_true hs]; rfl⟩
theorem bit_free (l : List (S46)) (i s : Nat) (h : ∀ j : Nat, j < (Q3 l i).f3.length → (s : Int) ∉ (Qh (Q3 l i).f3 j).f1) : bitL l i s = true := by
  unfold bitL
  rw [Bool.not_eq_true', ← Bool.not_eq_true, any_rd]
  rintro ⟨j, hj, hp⟩
  rw [Bool.and_eq_true, decide_eq_true_eq] at hp
  exact h j hj hp.1
theorem choose_bit (l : List (S46)) (hG : GoodL l) (i s : Nat) (hi : i < l.length) :
    ((if (Q3 l i).f3.any (fun g => decide ((s : Int) ∈ g.f1)) = true then false else true) || (false || (Q3 l i).f3.any (fun g => decide ((s : Int) ∈ g.f1) && Y8 l i g.f0))) = bitL l i s := by
  by_cases h : (Q3 l i).f3.any (fun g => decide ((s : Int) ∈ g.f1)) = true
  · rw [if_pos h]
    obtain ⟨j, hj, hp⟩ := any_rd.1 h
    have hp := of_decide_eq_true hp
    rw [bit_mem l hG i j s hi hj hp, Bool.false_or, Bool.false_or]
    cases hf : Y8 l i (Qh (Q3 l i).f3 j).f0 with
    | true => exact any_rd.2 ⟨j, hj, by rw [hf, decide_eq_true hp]; rfl⟩
    | false =>
      rw [← Bool.not_eq_true, any_rd]
      rintro ⟨j', hj', hq⟩
      rw [Bool.and_eq_true, decide_eq_true_eq] at hq
      have := (hG.good i (by omega) (by omega)).apart j' j (by omega) (by omega) (by omega) (by omega) _ hq.1 hp
      have : j' = j := by omega
      subst this
      rw [hf] at hq
      exact absurd hq.2 (by decide)
  · rw [if_neg h, bit_free l i s (fun j hj hs => h (any_rd.2 ⟨j, hj, decide_eq_true hs⟩))]
    rfl
theorem glenOf {l : List (S46)} (hG : GoodL l) (i j : Int) : (Qh (Q3 l i).f3 j).f1.length ≤ 9223372036854775807 := (hG.sz i).glen j
theorem choose_l0 (l : List (S46)) (hG : GoodL l) : ∀ (n i : Nat), i + n = l.length → TotP (fun r => r = (T2 l (bitL l), (0 : Int), (0 : Int))) (fun k => Qf.l0 k l (T2 l (fun a b => if a < i then bitL l a b else true)) l (l.length : Int) (i : Int)) := by
  have h8 := hG.few
  intro n
  induction n with
  | zero =>
    intro i h
    refine TotP.step (fun k => by rw [Qf.l0]) ?_
    refine TotP.ite (fun hc => absurd hc (by omega)) (fun _ => TotP.now ?_)
    rw [Y4 l (F := fun a b => if a < i then bitL l a b else true) (G := bitL l) (fun a ha b hb => if_pos (by omega))]
  | succ n ih =>
    intro i h
    have hi : i < l.length := by omega
    have hns := (hG.good i (by omega) (by omega)).many
    refine TotP.step (fun k => by rw [Qf.l0]) ?_
    refine TotP.ite (fun _ => ?_) (fun hc => absurd (show (i : Int) < _ from by omega) hc)
    refine TotP.ite (fun _ => ?_) (fun hc => absurd (Int.natCast_nonneg i) hc)
    refine TotP.ite (fun _ => ?_) (fun hc => absurd (show (i : Int) < _ from by omega) hc)
    refine TotP.ite (fun _ => ?_) (fun hc => absurd (Int.natCast_nonneg _) hc)
    refine TotP.ite (fun _ => ?_) (fun hc => absurd (show Int.toNat _ ≤ _ from by rw [Int.toNat_natCast]; omega) hc)
    rw [Int.toNat_natCast, tab_rep]
    refine choose_l1 l hG (glenOf hG) i hi (Q3 l i).f3.length 0 _ _ (Nat.zero_add _) ?_
    refine choose_l3 l hG (glenOf hG) i hi _ (Q3 l i).f1.length 0 _ (Nat.zero_add _) ?_
    have := ih (i + 1) (by omega)
    rwa [Y4 l (F := fun a b => if a < i + 1 then bitL l a b else true) (G := fun a b => if a = i ∧ 0 ≤ b then (if a = i ∧ ((Q3 l i).f3.drop 0).any (fun g => decide ((b : Int) ∈ g.f1)) = true then false else if a < i then bitL l a b else true) || (false || ((Q3 l i).f3.drop 0).any (fun g => decide ((b : Int) ∈ g.f1) && Y8 l i g.f0)) else if a = i ∧ ((Q3 l i).f3.drop 0).any (fun g => decide ((b : Int) ∈ g.f1)) = true then false else if a < i then bitL l a b else true) (fun a ha b hb => by
      rw [List.drop_zero]
      by_cases ea : a = i
      · subst ea
        simp only [Nat.lt_succ_self, Nat.lt_irrefl, if_true, if_false, Nat.zero_le, true_and, and_self]
        exact (choose_bit l hG a b ha).symm
      · simp only [ea, false_and, if_false]
        by_cases e2 : a < i
        · rw [if_pos e2, if_pos (show a < i + 1 from by omega)]
        · rw [if_neg e2, if_neg (show ¬ a < i + 1 from by omega)])] at this
theorem check_good (l : List (S46)) (hG : GoodL l) : Ev (fun k => QJ.f k l) (0, 0) := by
  have h8 := hG.few
  have hh : ∀ (n i : Nat), i + n = l.length → Ev (fun k => QJ.l0 k l (l.length : Int) (i : Int)) (0, 0) := by
    intro n
    induction n with
    | zero =>
      intro i h
      refine Ev.step (fun k => by rw [QJ.l0]) ?_
      exact Ev.no (by omega) (Ev.now _)
    | succ n ih =>
      intro i h
      have e : wrap64 ((i : Int) + 1) = ((i + 1 : Nat) : Int) := IntWalk.wrap64_in _ (by omega)
      refine Ev.step (fun k => by rw [QJ.l0]) ?_
      rw [e]
      refine Ev.yes (by omega) (Ev.yes (by omega) (Ev.yes (by omega) ?_))
      refine Ev.bind (hG.val i (by omega) (by omega)) ?_
      exact ih (i + 1) (by omega)
  unfold QJ.f
  exact Ev.no (by omega) (hh l.length 0 (by omega))
theorem goodH16 {l : List (S46)} (hG : GoodL l) : ∀ i : Int, 0 ≤ i → i < l.length → (Q3 l i).f1.length ≤ 16 := fun i h0 h1 => (hG.good i h0 h1).many.1
theorem choose_good (l : List (S46)) (hG : GoodL l) : Ev (fun k => Qf.f k l) (T2 l (bitL l), (0 : Int), (0 : Int)) := by
  unfold Qf.f
  refine Ev.bind (check_good l hG) ?_
  obtain ⟨r, hr, hev⟩ := tot_All l hG.few (goodH16 hG)
  subst hr
  refine Ev.bind hev ?_
  obtain ⟨r, hr, hev⟩ := choose_l0 l hG l.length 0 (Nat.zero_add _)
  subst hr
  rwa [Y4 l (F := fun a b => if a < 0 then bitL l a b else true) (G := fun _ _ => true) (fun a ha b hb => if_neg (Nat.not_lt_zero _))] at hev
theorem choose_bad (l : List (S46)) (w : Int × Int) (hw : Ev (fun k => QJ.f k l) w) (h : w.1 ≠ 0) : Ev (fun k => Qf.f k l) (([] : List (List Bool)), w.1, w.2) := by
  unfold Qf.f
  refine Ev.bind hw ?_
  refine Ev.yes ?_ (Ev.now _)
  rw [beq_eq_false_iff_ne.2 h]; rfl
theorem owner_good (l : List (S46)) (nm : ByteArray) (hG : GoodL l) : Ev (fun k => Xu.f k l nm) (if (XT l nm l.length 0).1 < 0 then (0, 0, 6, -2) else ((XT l nm l.length 0).1, (XT l nm l.length 0).2, 0, 0)) := by
  unfold Xu.f
  have h8 := hG.few
  refine Ev.bind (check_good l hG) ?_
  obtain ⟨r, hr, hev⟩ := tot_first l nm (by omega)
  subst hr
  refine Ev.bind hev ?_
  by_cases c : (XT l nm l.length 0).1 < 0
  · simp only [if_pos c]; exact Ev.now _
  · simp only [if_neg c]; exact Ev.now _
theorem owner_bad (l : List (S46)) (nm : ByteArray) (w : Int × Int) (hw : Ev (fun k => QJ.f k l) w) (h : w.1 ≠ 0) : Ev (fun k => Xu.f k l nm) (0, 0, w.1, w.2) := by
  unfold Xu.f
  refine Ev.bind hw ?_
  refine Ev.yes ?_ (Ev.now _)
  rw [beq_eq_false_iff_ne.2 h]; rfl
section
variable {Q : List (List Bool) → Prop} (l : List (S46)) (hG : GoodL l) (i : Nat) (hi : i < l.length)
include hG hi
theorem linked_l2 (j : Nat) (hj : j < (Q3 l i).f3.length) : ∀ (n p : Nat) (F : Nat → Nat → Bool), p + n = (Qh (Q3 l i).f3 j).f1.length →
    TotP Q (fun k => Qb.l1 k l (T2 l (fun a b => if a = i ∧ (b : Int) ∈ (Qh (Q3 l i).f3 j).f1.drop p then false else F a b)) (i : Int) ((j + 1 : Nat) : Int)) →
    TotP Q (fun k => Qb.l2 k l (T2 l F) (i : Int) (j : Int) (p : Int)) := by
  have h8 := hG.few
  have hgd := hG.good i (by omega) (by omega)
  have hns := hgd.many
  have hsl := glenOf hG i j
  have e1 : wrap64 ((j : Int) + 1) = ((j + 1 : Nat) : Int) := IntWalk.wrap64_in _ (by omega)
  intro n
  induction n with
  | zero =>
    intro p F hp hn
    refine TotP.step (fun k => by rw [Qb.l2]) ?_
    rw [e1]
    refine TotP.ite (fun _ => ?_) (fun hh => absurd (Int.natCast_nonneg i) hh)
    refine TotP.ite (fun _ => ?_) (fun hh => absurd (show (i : Int) < _ from by omega) hh)
    refine TotP.ite (fun _ => ?_) (fun hh => absurd (Int.natCast_nonneg j) hh)
    refine TotP.ite (fun _ => ?_) (fun hh => absurd (show (j : Int) < _ from by omega) hh)
    refine TotP.ite (fun hh => absurd hh (by omega)) (fun _ => ?_)
    have hd : (Qh (Q3 l i).f3 j).f1.drop p = [] := List.drop_eq_nil_of_le (by omega)
    simp only [hd, List.not_mem_nil, and_false, if_false] at hn
    exact hn
  | succ n ih =>
    intro p F hp hn
    have hpl : p < (Qh (Q3 l i).f3 j).f1.length := by omega
    obtain ⟨hs0, hs1⟩ := hgd.mem j (by omega) (by omega) _ (rd_mem hpl)
    have e2 : wrap64 ((p : Int) + 1) = ((p + 1 : Nat) : Int) := IntWalk.wrap64_in _ (by omega)
    refine TotP.step (fun k => by rw [Qb.l2]) ?_
    rw [e2, e1]
    have hmem := mem_drop_rd hpl
    generalize rd (Qh (Q3 l i).f3 j).f1 (p : Int) = s at hs0 hs1 hmem ⊢
    obtain ⟨s, rfl⟩ : ∃ m : Nat, s = m := ⟨s.toNat, by omega⟩
    have hrow : QO (T2 l F) (i : Int) = tab (Q3 l i).f1.length (F i) := by unfold QO; rw [Int.toNat_natCast]; exact T2_row l F i hi
    have hset : ∀ v, (T2 l F).set (i : Int).toNat ((QO (T2 l F) (i : Int)).set (s : Int).toNat v) = T2 l (fun a b => if a = i ∧ b = s then v else F a b) := by
      intro v
      rw [Int.toNat_natCast, Int.toNat_natCast]
      unfold QO
      rw [Int.toNat_natCast]
      exact T2_set l F i s v hi
    refine TotP.ite (fun _ => ?_) (fun hh => absurd (Int.natCast_nonneg i) hh)
    refine TotP.ite (fun _ => ?_) (fun hh => absurd (show (i : Int) < _ from by omega) hh)
    refine TotP.ite (fun _ => ?_) (fun hh => absurd (Int.natCast_nonneg j) hh)
    refine TotP.ite (fun _ => ?_) (fun hh => absurd (show (j : Int) < _ from by omega) hh)
    refine TotP.ite (fun _ => ?_) (fun hh => absurd (show (p : Int) < _ from by omega) hh)
    refine TotP.ite (fun _ => ?_) (fun hh => by exfalso; rw [T2_len] at hh; omega)
    refine TotP.ite (fun _ => ?_) (fun hh => absurd (Int.natCast_nonneg p) hh)
    refine TotP.ite (fun _ => ?_) (fun hh => absurd (Int.natCast_nonneg s) hh)
    refine TotP.ite (fun _ => ?_) (fun hh => by exfalso; rw [hrow, tab_len] at hh; omega)
    rw [hset]
    refine ih (p + 1) _ (by omega) ?_
    rwa [Y4 l (G := fun a b => if a = i ∧ (b : Int) ∈ (Qh (Q3 l i).f3 j).f1.drop p then false else F a b) (fun a ha b hb => by
        by_cases ea : a = i
        · subst ea
          by_cases eb : b = s
          · subst eb
            rw [if_pos (⟨rfl, (hmem _).2 (Or.inl rfl)⟩ : _ ∧ _), if_pos (⟨rfl, rfl⟩ : _ ∧ _)]; split <;> rfl
          · have : ((b : Int) ∈ (Qh (Q3 l a).f3 j).f1.drop (p + 1)) ↔ ((b : Int) ∈ (Qh (Q3 l a).f3 j).f1.drop p) := ⟨fun h => (hmem _).2 (Or.inr h), fun h => ((hmem _).1 h).resolve_left (by omega)⟩
            by_cases em : (b : Int) ∈ (Qh (Q3 l a).f3 j).f1.drop p
            · rw [if_pos ⟨rfl, this.2 em⟩, if_pos ⟨rfl, em⟩]
            · rw [if_neg (fun h => em (this.1 h.2)), if_neg (fun h => eb h.2), if_neg (fun h => em h.2)]
        · rw [if_neg (fun h => ea h.1), if_neg (fun h => ea h.1), if_neg (fun h => ea h.1)])]
theorem linked_l1 : ∀ (n j : Nat) (F : Nat → Nat → Bool), j + n = (Q3 l i).f3.length →
    TotP Q (fun k => Qb.l0 k l (T2 l (fun a b => if a = i ∧ ((Q3 l i).f3.drop j).any (fun g => decide ((b : Int) ∈ g.f1) && !Y8 l i g.f0) = true then false else F a b)) ((i + 1 : Nat) : Int)) →
    TotP Q (fun k => Qb.l1 k l (T2 l F) (i : Int) (j : Int)) := by
  have h8 := hG.few
  have hgd := hG.good i (by omega) (by omega)
  have hns := hgd.many
  have e : wrap64 ((i : Int) + 1) = ((i + 1 : Nat) : Int) := IntWalk.wrap64_in _ (by omega)
  intro n
  induction n with
  | zero =>
    intro j F hj hn
    refine TotP.step (fun k => by rw [Qb.l1]) ?_
    rw [e]
    refine TotP.ite (fun _ => ?_) (fun hh => absurd (Int.natCast_nonneg i) hh)
    refine TotP.ite (fun _ => ?_) (fun hh => absurd (show (i : Int) < _ from by omega) hh)
    refine TotP.ite (fun hh => absurd hh (by omega)) (fun _ => ?_)
    have hd : (Q3 l i).f3.drop j = [] := List.drop_eq_nil_of_le (by omega)
    simp only [hd, List.any_nil, Bool.false_eq_true, and_false, if_false] at hn
    exact hn
  | succ n ih =>
    intro j F hj hn
    have hjl : j < (Q3 l i).f3.length := by omega
    have e1 : wrap64 ((j : Int) + 1) = ((j + 1 : Nat) : Int) := IntWalk.wrap64_in _ (by omega)
    refine TotP.step (fun k => by rw [Qb.l1]) ?_
    rw [e1, e]
    refine TotP.ite (fun _ => ?_) (fun hh => absurd (Int.natCast_nonneg i) hh)
    refine TotP.ite (fun _ => ?_) (fun hh => absurd (show (i : Int) < _ from by omega) hh)
    refine TotP.ite (fun _ => ?_) (fun hh => absurd (show (j : Int) < _ from by omega) hh)
    refine TotP.ite (fun _ => ?_) (fun hh => absurd (show (i : Int) ≤ _ from by omega) hh)
    refine TotP.ite (fun _ => ?_) (fun hh => absurd (Int.natCast_nonneg j) hh)
    rw [Int.toNat_natCast]
    refine TotP.bind (tot_GroupOf (l.take i) _ (by rw [List.length_take]; omega) (fun q => by
      by_cases hq : 0 ≤ q ∧ q < i
      · obtain ⟨m, rfl⟩ : ∃ m : Nat, q = m := ⟨q.toNat, by omega⟩
        rw [rd_take46 l i m (by omega)]
        exact (hG.sz m).ngrp
      · have : Q3 (l.take i) q = z46 ∨ ∃ m : Nat, Q3 (l.take i) q = Q3 l m := by
          by_cases h0 : q.toNat < i
          · right
            refine ⟨q.toNat, ?_⟩
            have := rd_take46 l i q.toNat h0
            unfold Q3 at this ⊢
            rw [Int.toNat_natCast] at this
            rw [Int.toNat_natCast]
            exact this
          · left
            unfold Q3
            rw [List.getD_eq_getElem?_getD, List.getElem?_eq_none (by rw [List.length_take]; omega)]
            rfl
        rcases this with h | ⟨m, h⟩
        · rw [h]; exact Nat.zero_le _
        · rw [h]; exact (hG.sz m).ngrp)) (fun r hr => ?_)
    subst hr
    have hfr : (XT (l.take i) (Qh (Q3 l i).f3 j).f0 (l.take i).length 0).1 < 0 ↔ Y8 l i (Qh (Q3 l i).f3 j).f0 = true := by
      rw [fresh_iff l i _ (by omega), (firstG_fresh (l.take i) _ (l.take i).length 0).1]
      constructor
      · intro h q hq
        have := h q (Nat.zero_le _) (by rw [List.length_take]; omega)
        rwa [rd_take46 l i q hq] at this
      · intro h q _ hq
        rw [List.length_take] at hq
        rw [rd_take46 l i q (by omega)]
        exact h q (by omega)
    refine TotP.ite (fun hc => ?_) (fun hc => ?_)
    · refine ih (j + 1) F (by omega) ?_
      rwa [Y4 l (G := fun a b => if a = i ∧ ((Q3 l i).f3.drop (j + 1)).any (fun g => decide ((b : Int) ∈ g.f1) && !Y8 l i g.f0) = true then false else F a b) (fun a ha b hb => by
        rw [any_drop49 hjl, hfr.1 hc, Bool.not_true, Bool.and_false, Bool.false_or])] at hn
    · refine linked_l2 l hG i hi j hjl _ 0 F (Nat.zero_add _) ?_
      refine ih (j + 1) _ (by omega) ?_
      rw [List.drop_zero]
      have hff : Y8 l i (Qh (Q3 l i).f3 j).f0 = false := Bool.eq_false_iff.2 (fun h => hc (hfr.2 h))
      rwa [Y4 l (G := fun a b => if a = i ∧ ((Q3 l i).f3.drop j).any (fun g => decide ((b : Int) ∈ g.f1) && !Y8 l i g.f0) = true then false else F a b) (fun a ha b hb => by
        rw [any_drop49 hjl, hff, Bool.not_false, Bool.and_true]
        by_cases ea : a = i
        · subst ea
          by_cases e1 : ((Q3 l a).f3.drop (j + 1)).any (fun g => decide ((b : Int) ∈ g.f1) && !Y8 l a g.f0) = true
          · rw [if_pos ⟨rfl, e1⟩, if_pos ⟨rfl, by rw [e1, Bool.or_true]⟩]
          · rw [if_neg (fun h => e1 h.2), Bool.eq_false_iff.2 e1, Bool.or_false]
            simp only [decide_eq_true_eq]
        · rw [if_neg (fun h => ea h.1), if_neg (fun h => ea h.1), if_neg (fun h => ea h.1)])]
end
theorem linked_good (l : List (S46)) (hG : GoodL l) : Ev (fun k => Qb.f k l) (T2 l (bitL l)) := by
  have h8 := hG.few
  have hh : ∀ (n i : Nat), i + n = l.length → TotP (fun r => r = T2 l (bitL l)) (fun k => Qb.l0 k l (T2 l (fun a b => if a < i then bitL l a b else true)) (i : Int)) := by
    intro n
    induction n with
    | zero =>
      intro i h
      refine TotP.step (fun k => by rw [Qb.l0]) ?_
      refine TotP.ite (fun hc => absurd hc (by omega)) (fun _ => TotP.now ?_)
      rw [Y4 l (F := fun a b => if a < i then bitL l a b else true) (G := bitL l) (fun a ha b hb => if_pos (by omega))]
    | succ n ih =>
      intro i h
      refine TotP.step (fun k => by rw [Qb.l0]) ?_
      refine TotP.ite (fun _ => ?_) (fun hc => absurd (show (i : Int) < _ from by omega) hc)
      refine linked_l1 l hG i (by omega) (Q3 l i).f3.length 0 _ (Nat.zero_add _) ?_
      have := ih (i + 1) (by omega)
      rwa [Y4 l (F := fun a b => if a < i + 1 then bitL l a b else true) (G := fun a b => if a = i ∧ ((Q3 l i).f3.drop 0).any (fun g => decide ((b : Int) ∈ g.f1) && !Y8 l i g.f0) = true then false else if a < i then bitL l a b else true) (fun a ha b hb => by
        rw [List.drop_zero]
        by_cases ea : a = i
        · subst ea
          simp only [Nat.lt_succ_self, Nat.lt_irrefl, if_true, if_false, true_and]
          unfold bitL
          cases (Q3 l a).f3.any (fun g => decide ((b : Int) ∈ g.f1) && !Y8 l a g.f0) <;> simp
        · simp only [ea, false_and, if_false]
          by_cases e2 : a < i
          · rw [if_pos e2, if_pos (show a < i + 1 from by omega)]
          · rw [if_neg e2, if_neg (show ¬ a < i + 1 from by omega)])] at this
  unfold Qb.f
  obtain ⟨r, hr, hev⟩ := tot_Everything l hG.few (goodH16 hG)
  subst hr
  refine Ev.bind hev ?_
  obtain ⟨r, hr, hev⟩ := hh l.length 0 (Nat.zero_add _)
  subst hr
  rwa [Y4 l (F := fun a b => if a < 0 then bitL l a b else true) (G := fun _ _ => true) (fun a ha b hb => if_neg (Nat.not_lt_zero _))] at hev
end Go.Proofs.Ytakabkjhnncbhaa.PX
namespace Go.Proofs.Ytakabkjhnncbhaa.PX
open Go.RowKit Go.Proofs.YtakabkjhnncbhaaW.PrintWords Go.Proofs.YtakabkjhnncbhaaW.PrintLast Go.Proofs.YtakabkjhnncbhaaW.PrintMore
set_option linter.unusedVariables false
set_option linter.unusedSimpArgs false
theorem len_T2 {l : List (S46)} (hG : GoodL l) (F : Nat → Nat → Bool) : (T2 l F).length ≤ 9223372036854775807 ∧ ∀ i : Int, (QO (T2 l F) i).length ≤ 9223372036854775807 := by
  have h8 := hG.few
  refine ⟨by rw [T2_len]; omega, fun i => ?_⟩
  unfold QO
  by_cases h : i.toNat < l.length
  · rw [T2_row l F _ h, tab_len]
    exact (hG.sz _).nsec
  · rw [List.getD_eq_getElem?_getD, List.getElem?_eq_none (by rw [T2_len]; omega)]
    exact Nat.zero_le _
theorem same_T2 {l : List (S46)} (hG : GoodL l) (F : Nat → Nat → Bool) : Ev (fun k => Qk.f k (T2 l F) (T2 l F)) true := by
  obtain ⟨r, hr, h⟩ := tot_same (T2 l F) (len_T2 hG F).1 (len_T2 hG F).2
  subst hr
  exact h
theorem ngrpAll {l : List (S46)} (hz : ∀ i : Int, SzM (Q3 l i)) : ∀ i : Int, (Q3 l i).f3.length ≤ 9223372036854775807 := fun i => (hz i).ngrp
end Go.Proofs.Ytakabkjhnncbhaa.PX
