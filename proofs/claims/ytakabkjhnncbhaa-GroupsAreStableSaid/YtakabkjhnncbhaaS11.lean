/- A part of the proof of a law: its words, walks of functions, or plain lemmas. -/
-- Written by this session's own programs (wip/printx.py, gen_*.py, assemble.py) and by hand.
import Derived.Test.YtakabkjhnncbhaaS01
import Derived.Test.YtakabkjhnncbhaaS09
import Derived.Test.YtakabkjhnncbhaaS10
namespace Go.Proofs.Ytakabkjhnncbhaa.PX
open Go.RowKit Go.Proofs.YtakabkjhnncbhaaW.PrintWords Go.Proofs.YtakabkjhnncbhaaW.PrintLast Go.Proofs.YtakabkjhnncbhaaW.PrintMore
attribute [local go_sem] Xk Xi Xs Xr X5 X4 Xj Xh   -- for this text's walks alone
set_option linter.unusedVariables false
set_option linter.unusedSimpArgs false
attribute [local go_sem high] eqA24
def Qr.f (k : Nat)  : Option (Bool) := (QC.f k).bind fun t289 => ((Qf.f k t289).bind fun bt292 => ((QC.f k).bind fun t298 => ((Xz.f k t298 (⟨#[103]⟩ : ByteArray)).bind fun bt301 => ((QC.f k).bind fun t306 => ((Xz.f k t306 (⟨#[104]⟩ : ByteArray)).bind fun bt309 => (if bt292.2.1 = 0 then (if bt301.2.2.1 = 0 then ((Qk.f k bt292.1 (([(([true] : List Bool)), (([false] : List Bool))] : List (List Bool)))).bind fun t323 => (if t323 = true then (if bt301.1 = 0 then (if bt301.2.1 = 0 then ((Xy.f 6 (-2)).bind fun bt324 => (some (bt309.2.2.1 == bt324.1 && (bt309.2.2.2 == bt324.2)))) else (some false)) else (some false)) else (some false))) else (some false)) else (some false)))))))
theorem Qr.mono : ∀ k, LeO (Qr.f k ) (Qr.f (k + 1) ) := by
 intro  k
 unfold Qr.f
 repeat' first
   | (with_reducible exact Qf.mono _ _)
   | (with_reducible exact Xz.mono _ _ _)
   | (with_reducible exact Qk.mono _ _ _)
   | (with_reducible exact QC.mono _)
   | (with_reducible exact LeO.refl _)
   | (with_reducible exact LeO.none _)
   | (with_reducible refine LeO.ite ?_ ?_)
   | (with_reducible refine LeO.bind ?_ (fun _ => ?_))
def Qr.T4 : Bool × List (List Nat × List Nat) := (true, [([], []), ([0], [0]), ([1], [1]), ([2], [2]), ([3], [3]), ([4, 3], [3, 4]), ([5, 3], [3, 5]), ([3, 6], [3, 6]), ([7, 3], [7]), ([8], [8]), ([8], [8]), ([8], [8]), ([10, 11, 8], [8, 10, 11]), ([9, 12, 8, 8], [8, 9, 12]), ([8, 13], [8, 13]), ([14, 13], [14]), ([15], [15]), ([16, 15], [15, 16]), ([15, 17], [15, 17]), ([18, 15], [18]), ([19], [19]), ([20, 19], [19, 20]), ([19, 21], [19, 21]), ([22, 19], [22]), ([23], [23]), ([23, 23], [23]), ([24, 25, 23], [23, 24, 25]), ([23, 26], [23, 26]), ([27, 25, 0, 1, 2, 3, 4, 5, 6, 7, 8, 9, 10, 11, 12, 13, 14, 15, 16, 17, 18, 19, 20, 21, 22, 23, 24, 25, 26, 27], [27])])
def Qr.B4 : List Nat := [0, 1, 3, 7, 15, 31, 63, 127, 255, 511, 511, 511, 3583, 8191, 16383, 32767, 65535, 131071, 262143, 524287, 1048575, 2097151, 4194303, 8388607, 16777215, 16777215, 67108863, 134217727, 268435455]
theorem Qr.tab4 : rtab .any (opsOf Try.f13 4) = Qr.T4 := by kernel_rfl
theorem Qr.bits4 : waitsOk Qr.T4.2 Qr.B4 = true := by kernel_rfl
set_option maxHeartbeats 8000000 in
set_option maxRecDepth 100000 in
theorem Qr.callsT (k : Nat)  (r : Bool) (w : World) (h : Qr.f k  = some r) (ht : r = true) :
  Calls Try.prog 13 #[] w fun e w' => e = .returned (.bool r) ∧ Below w.heap.size w w' := by
 have HT := Q0.mk ht
 clear ht
 have hu24 := Try.underlying24
 have HB := Q0.mk (Below.refl w.heap.size w)
 have H := h
 clear h
 unfold Qr.f at H
 try dsimp only at H
 replace H := Option.bind_eq_some_iff.mp H
 obtain ⟨t289, A10, H⟩ := H
 try dsimp only at H
 have A1 := Q0.mk A10
 clear A10
 replace H := Option.bind_eq_some_iff.mp H
 obtain ⟨⟨t292, t295, t296⟩, A20, H⟩ := H
 try dsimp only at H
 have A2 := Q0.mk A20
 clear A20
 replace H := Option.bind_eq_some_iff.mp H
 obtain ⟨t298, A30, H⟩ := H
 try dsimp only at H
 have A3 := Q0.mk A30
 clear A30
 replace H := Option.bind_eq_some_iff.mp H
 obtain ⟨⟨t301, t302, t303, t304⟩, A40, H⟩ := H
 try dsimp only at H
 have A4 := Q0.mk A40
 clear A40
 replace H := Option.bind_eq_some_iff.mp H
 obtain ⟨t306, A50, H⟩ := H
 try dsimp only at H
 have A5 := Q0.mk A50
 clear A50
 replace H := Option.bind_eq_some_iff.mp H
 obtain ⟨⟨t309, t310, t311, t312⟩, A60, H⟩ := H
 try dsimp only at H
 have A6 := Q0.mk A60
 clear A60
 by_cases c7 : t295 = 0
 ·rw [if_pos c7] at H
  have c7b0 : (t295 == 0) = true := beq_iff_eq.mpr c7
  have c7b1 : (t295 != 0) = false := bne_eq_false_iff_eq.mpr c7
  clear c7
  by_cases c8 : t303 = 0
  ·rw [if_pos c8] at H
   have c8b0 : (t303 == 0) = true := beq_iff_eq.mpr c8
   have c8b1 : (t303 != 0) = false := bne_eq_false_iff_eq.mpr c8
   clear c8
   obtain ⟨y314, hy314⟩ : ∃ y_ : List Bool, y_ = (([true] : List Bool)) := ⟨_, rfl⟩
   replace H : ((Qk.f k t292 (([y314, (([false] : List Bool))] : List (List Bool)))).bind fun t323 => (if t323 = true then (if t301 = 0 then (if t302 = 0 then ((Xy.f 6 (-2)).bind fun bt324 => (some (t311 == bt324.1 && (t312 == bt324.2)))) else (some false)) else (some false)) else (some false))) = some r := by first | (rw [hy314]; with_reducible exact H) | (have H2_ := (Option.bind_some _ _).symm.trans H; rw [hy314]; with_reducible exact H2_) | (have H2_ := (Option.bind_some _ _).symm.trans H; with_reducible exact H2_) | with_reducible exact H | (rw [hy314]; exact H) | exact H
   have Ny314 := Q0.mk hy314
   clear hy314
   obtain ⟨y317, hy317⟩ : ∃ y_ : List Bool, y_ = (([false] : List Bool)) := ⟨_, rfl⟩
   replace H : ((Qk.f k t292 (([y314, y317] : List (List Bool)))).bind fun t323 => (if t323 = true then (if t301 = 0 then (if t302 = 0 then ((Xy.f 6 (-2)).bind fun bt324 => (some (t311 == bt324.1 && (t312 == bt324.2)))) else (some false)) else (some false)) else (some false))) = some r := by first | (rw [hy317]; with_reducible exact H) | (have H2_ := (Option.bind_some _ _).symm.trans H; rw [hy317]; with_reducible exact H2_) | (have H2_ := (Option.bind_some _ _).symm.trans H; with_reducible exact H2_) | with_reducible exact H | (rw [hy317]; exact H) | exact H
   have Ny317 := Q0.mk hy317
   clear hy317
   obtain ⟨y320, hy320⟩ : ∃ y_ : List (List Bool), y_ = (([y314, y317] : List (List Bool))) := ⟨_, rfl⟩
   replace H : ((Qk.f k t292 y320).bind fun t323 => (if t323 = true then (if t301 = 0 then (if t302 = 0 then ((Xy.f 6 (-2)).bind fun bt324 => (some (t311 == bt324.1 && (t312 == bt324.2)))) else (some false)) else (some false)) else (some false))) = some r := by first | (rw [hy320]; with_reducible exact H) | (have H2_ := (Option.bind_some _ _).symm.trans H; rw [hy320]; with_reducible exact H2_) | (have H2_ := (Option.bind_some _ _).symm.trans H; with_reducible exact H2_) | with_reducible exact H | (rw [hy320]; exact H) | exact H
   have Ny320 := Q0.mk hy320
   clear hy320
   replace H := Option.bind_eq_some_iff.mp H
   obtain ⟨t323, A90, H⟩ := H
   try dsimp only at H
   have A9 := Q0.mk A90
   clear A90
   by_cases c10 : t323 = true
   ·subst c10
    rw [if_pos rfl] at H
    by_cases c11 : t301 = 0
    ·rw [if_pos c11] at H
     have c11b0 : (t301 == 0) = true := beq_iff_eq.mpr c11
     have c11b1 : (t301 != 0) = false := bne_eq_false_iff_eq.mpr c11
     clear c11
     by_cases c12 : t302 = 0
     ·rw [if_pos c12] at H
      have c12b0 : (t302 == 0) = true := beq_iff_eq.mpr c12
      have c12b1 : (t302 != 0) = false := bne_eq_false_iff_eq.mpr c12
      clear c12
      replace H := Option.bind_eq_some_iff.mp H
      obtain ⟨⟨t324, t325⟩, A130, H⟩ := H
      try dsimp only at H
      have A13 := Q0.mk A130
      clear A130
      obtain rfl := Option.some.inj H
      go_enter Try.func13, Try.ntmps13
      try go_wp2_with (first | ((with_reducible refine Qs (f := 30) rfl ?_); refine X2 (some 10) rfl rfl Try.func30 (by kernel_rfl) rfl #[] rfl (by (try simp only [List.map_toArray, List.map_cons, List.map_nil]); first | done | rfl | (simp only [List.length_drop, List.length_take]; rfl)) ?_; (with_reducible refine (QC.calls k  t289 _ A1.out).mono ?_); rintro e w14 ⟨v290, rfl, ho0, hb⟩; refine ⟨_, rfl, ?_⟩; have HO291 := Q0.mk (Kd.N_lower (Kd.XB (ok' := fun k_ => True) ho0 (fun k_ hk_ => trivial)) (Qg HB.out)); replace HB := Q0.mk (Qj HB.out hb); (try clear ho0); obtain ⟨Ao15, co15, eo15⟩ := Kd.N_slice HO291.out; subst eo15) | ((with_reducible refine Qs (f := 11) rfl ?_); refine X2 (some 11) rfl rfl Try.func11 (by kernel_rfl) rfl #[.slice Ao15 t289.length co15] rfl (by (try simp only [List.map_toArray, List.map_cons, List.map_nil]); first | done | rfl | (simp only [List.length_drop, List.length_take]; rfl)) ?_; (with_reducible refine (Qf.calls k _ _ t289 t292 t295 t296 _ ?side1 ?side2 A2.out).mono ?_); (case side1 => repeat (first | exact (Kd.Y9 HO291.out).2.2 | (with_reducible refine Kd.QT ?_ _) | (with_reducible refine Kd.QS ?_ _) | (with_reducible refine Kd.X6 ?_))); (case side2 => exact (Kd.Y9 HO291.out).2.1); rintro e w16 ⟨v293, rfl, ho0, hb⟩; refine ⟨_, rfl, ?_⟩; have HO294 := Q0.mk (Kd.N_lower (Kd.XB (ok' := fun k_ => some k_ ≠ (.slice Ao15 t289.length co15 : Value).ownBlock) (Kd.S_N (Kd.S_bound ho0)) (fun k_ hk_ => (Kd.fresh' (Kd.N_lt HO291.out) k_ hk_.2.1))) (Qg HB.out)); replace HO291 := Q0.mk (Kd.Xu HO291.out (by first | exact Kd.N_base ho0 | exact Kd.Yi ho0) hb); replace HB := Q0.mk (Qj HB.out hb); (try clear ho0)) | ((with_reducible refine QN (N := 2) rfl ?_); (try (refine Xx (by rfl) ?_; dsimp only)); refine QK ?hg (N := 2) ?hd (cs := #[.int .i64 0, .int .i64 0]) (t := 24) ?hr ?_; (case hd => rfl); (case hg => rfl); (case hr => first | (go_simp; done) | (go_simp; rfl)); intro gb297 hg w17 hbox hb; have BK297 := Q0.mk (hbox); have GW297 := Q0.mk ((by rw [hg]; exact (Qg HB.out) : w.heap.size ≤ gb297)); have GE297 := Q0.mk ((by rw [hg]; exact (Qg HB.out) : w.heap.size ≤ gb297)); replace HO291 := Q0.mk (Kd.XH (Kd.Ym HO291.out gb297 (Nat.le_of_eq hg.symm)) hb); replace HO294 := Q0.mk (Kd.XH (Kd.Ym HO294.out gb297 (Nat.le_of_eq hg.symm)) hb); replace HB := Q0.mk (Qj HB.out hb); clear hb hbox hg; obtain ⟨hcz18_0, hcz18_1⟩ := QB BK297.out; obtain ⟨hfz18_0, hfz18_1⟩ := Qt BK297.out) | ((with_reducible refine QD (t := 24) (p := 2) rfl ?_); refine Qw (t := 24) (p := 2) (v := ?vo_w19) (w1 := ((w17.setCell ⟨gb297, 0, none⟩ (.int .i64 t295)).setCell ⟨gb297, 1, none⟩ (.int .i64 t296))) ?hg ?ho ?hn ?hr ?_; (case ho => rfl); (case hg => rfl); (case hn => rfl); (case hr => first | (go_simp; done) | (go_simp; rfl)); intro w19 hw; replace HO291 : Q0 (Kd.N k46 46 w19 w.heap.size (fun k_ => some k_ ≠ (v293 : Value).ownBlock ∧ k_ ≠ gb297) (.slice Ao15 t289.length co15) t289) := ⟨(by rw [hw]; exact (by (with_reducible repeat (first | apply Kd.Xp | apply Kd.Xo | apply Kd.Xt)); exact Kd.XB (Kd.Ya (p := ⟨gb297, 1, none⟩) (Kd.Ya (p := ⟨gb297, 0, none⟩) (Kd.XB HO291.out (fun k_ hk => (⟨hk, hk.2⟩ : _ ∧ k_ ≠ gb297))) (fun _ hk => hk.2) (.int .i64 t295)) (fun _ hk => hk.2) (.int .i64 t296)) (fun _ hk => ⟨hk.1.1.2, hk.1.2⟩)))⟩; replace HO294 : Q0 (Kd.N (Kd.slice 4 Kd.bool) 39 w19 w.heap.size (fun k_ => some k_ ≠ (.slice Ao15 t289.length co15 : Value).ownBlock ∧ k_ ≠ gb297) v293 t292) := ⟨(by rw [hw]; exact (by (with_reducible repeat (first | apply Kd.Xp | apply Kd.Xo | apply Kd.Xt)); exact Kd.XB (Kd.Ya (p := ⟨gb297, 1, none⟩) (Kd.Ya (p := ⟨gb297, 0, none⟩) (Kd.XB HO294.out (fun k_ hk => (⟨hk, hk.2⟩ : _ ∧ k_ ≠ gb297))) (fun _ hk => hk.2) (.int .i64 t295)) (fun _ hk => hk.2) (.int .i64 t296)) (fun _ hk => ⟨hk.1.1, hk.1.2⟩)))⟩; replace BK297 := Q0.mk (put2 hw BK297.out); replace HB := Q0.mk (bel2 hw HB.out GE297.out); clear hw) | ((with_reducible refine Qs (f := 30) rfl ?_); refine X2 (some 15) rfl rfl Try.func30 (by kernel_rfl) rfl #[] rfl (by (try simp only [List.map_toArray, List.map_cons, List.map_nil]); first | done | rfl | (simp only [List.length_drop, List.length_take]; rfl)) ?_; (with_reducible refine (QC.calls k  t298 _ A3.out).mono ?_); rintro e w20 ⟨v299, rfl, ho0, hb⟩; refine ⟨_, rfl, ?_⟩; have HO300 := Q0.mk (Kd.N_lower (Kd.XB (ok' := fun k_ => some k_ ≠ (.slice Ao15 t289.length co15 : Value).ownBlock ∧ some k_ ≠ (v293 : Value).ownBlock ∧ k_ ≠ gb297) ho0 (fun k_ hk_ => ⟨(Kd.fresh' (Kd.N_lt HO291.out) k_ hk_), (Kd.fresh' (Kd.N_lt HO294.out) k_ hk_), (Kd.freshB (g := gb297) (o := .cells #[.int .i64 t295, .int .i64 t296] 24 (0, 0)) BK297.out k_ hk_)⟩)) (Qg HB.out)); replace HO291 := Q0.mk (Kd.Xu HO291.out (by first | exact Kd.N_base ho0 | exact Kd.Yi ho0) hb); replace HO294 := Q0.mk (Kd.Xu HO294.out (by first | exact Kd.N_base ho0 | exact Kd.Yi ho0) hb); replace BK297 := Q0.mk (Q9 BK297.out hb); replace HB := Q0.mk (Qj HB.out hb); (try clear ho0); obtain ⟨Ao21, co21, eo21⟩ := Kd.N_slice HO300.out; subst eo21) | ((with_reducible refine Qs (f := 12) rfl ?_); refine X2 (some 16) rfl rfl Try.func12 (by kernel_rfl) rfl #[.slice Ao21 t298.length co21, .string (⟨#[103]⟩ : ByteArray)] rfl (by (try simp only [List.map_toArray, List.map_cons, List.map_nil]); first | done | rfl | (simp only [List.length_drop, List.length_take]; rfl)) ?_; (with_reducible refine (Xz.calls k _ _ t298 (⟨#[103]⟩ : ByteArray) t301 t302 t303 t304 _ ?side1 ?side2 A4.out).mono ?_); (case side1 => repeat (first | exact (Kd.Y9 HO300.out).2.2 | (with_reducible refine Kd.QT ?_ _) | (with_reducible refine Kd.QS ?_ _) | (with_reducible refine Kd.X6 ?_))); (case side2 => exact (Kd.Y9 HO300.out).2.1); rintro e w22 ⟨rfl, hb⟩; refine ⟨_, rfl, ?_⟩; replace HO291 := Q0.mk (Kd.XH HO291.out hb); replace HO294 := Q0.mk (Kd.XH HO294.out hb); replace HO300 := Q0.mk (Kd.XH HO300.out hb); replace BK297 := Q0.mk (Q9 BK297.out hb); replace HB := Q0.mk (Qj HB.out hb)) | ((with_reducible refine QN (N := 5) rfl ?_); (try (refine Xx (by rfl) ?_; dsimp only)); refine QK ?hg (N := 5) ?hd (cs := #[.int .i64 0, .int .i64 0]) (t := 24) ?hr ?_; (case hd => rfl); (case hg => rfl); (case hr => first | (go_simp; done) | (go_simp; rfl)); intro gb305 hg w23 hbox hb; have BK305 := Q0.mk (hbox); have GW305 := Q0.mk ((by rw [hg]; exact (Qg HB.out) : w.heap.size ≤ gb305)); have GE305 := Q0.mk ((by rw [hg]; exact (Qg HB.out) : w.heap.size ≤ gb305)); have NB297_305 := Q0.mk ((by rw [hg]; exact Nat.ne_of_lt (Qy BK297.out) : gb297 ≠ gb305)); have NB305_297 := Q0.mk ((by rw [hg]; exact Nat.ne_of_gt (Qy BK297.out) : gb305 ≠ gb297)); replace HO291 := Q0.mk (Kd.XH (Kd.Ym HO291.out gb305 (Nat.le_of_eq hg.symm)) hb); replace HO294 := Q0.mk (Kd.XH (Kd.Ym HO294.out gb305 (Nat.le_of_eq hg.symm)) hb); replace HO300 := Q0.mk (Kd.XH (Kd.Ym HO300.out gb305 (Nat.le_of_eq hg.symm)) hb); replace BK297 := Q0.mk (Q9 BK297.out hb); replace HB := Q0.mk (Qj HB.out hb); clear hb hbox hg; have hnb24 := NB305_297.out; have hnc24 := NB297_305.out; obtain ⟨hcz25_0, hcz25_1⟩ := QB BK305.out; obtain ⟨hfz25_0, hfz25_1⟩ := Qt BK305.out) | ((with_reducible refine QD (t := 24) (p := 5) rfl ?_); refine Qw (t := 24) (p := 5) (v := ?vo_w26) (w1 := ((w23.setCell ⟨gb305, 0, none⟩ (.int .i64 t303)).setCell ⟨gb305, 1, none⟩ (.int .i64 t304))) ?hg ?ho ?hn ?hr ?_; (case ho => rfl); (case hg => rfl); (case hn => rfl); (case hr => first | (go_simp; done) | (go_simp; rfl)); intro w26 hw; replace HO291 : Q0 (Kd.N k46 46 w26 w.heap.size (fun k_ => some k_ ≠ (v293 : Value).ownBlock ∧ some k_ ≠ (.slice Ao21 t298.length co21 : Value).ownBlock ∧ k_ ≠ gb297 ∧ k_ ≠ gb305) (.slice Ao15 t289.length co15) t289) := ⟨(by rw [hw]; exact (by (with_reducible repeat (first | apply Kd.Xp | apply Kd.Xo | apply Kd.Xt)); exact Kd.XB (Kd.Ya (p := ⟨gb305, 1, none⟩) (Kd.Ya (p := ⟨gb305, 0, none⟩) (Kd.XB HO291.out (fun k_ hk => (⟨hk, hk.2⟩ : _ ∧ k_ ≠ gb305))) (fun _ hk => hk.2) (.int .i64 t303)) (fun _ hk => hk.2) (.int .i64 t304)) (fun _ hk => ⟨hk.1.1.1.1, ⟨hk.1.1.2, ⟨hk.1.1.1.2, hk.1.2⟩⟩⟩)))⟩; replace HO294 : Q0 (Kd.N (Kd.slice 4 Kd.bool) 39 w26 w.heap.size (fun k_ => some k_ ≠ (.slice Ao15 t289.length co15 : Value).ownBlock ∧ some k_ ≠ (.slice Ao21 t298.length co21 : Value).ownBlock ∧ k_ ≠ gb297 ∧ k_ ≠ gb305) v293 t292) := ⟨(by rw [hw]; exact (by (with_reducible repeat (first | apply Kd.Xp | apply Kd.Xo | apply Kd.Xt)); exact Kd.XB (Kd.Ya (p := ⟨gb305, 1, none⟩) (Kd.Ya (p := ⟨gb305, 0, none⟩) (Kd.XB HO294.out (fun k_ hk => (⟨hk, hk.2⟩ : _ ∧ k_ ≠ gb305))) (fun _ hk => hk.2) (.int .i64 t303)) (fun _ hk => hk.2) (.int .i64 t304)) (fun _ hk => ⟨hk.1.1.1.1, ⟨hk.1.1.2, ⟨hk.1.1.1.2, hk.1.2⟩⟩⟩)))⟩; replace HO300 : Q0 (Kd.N k46 46 w26 w.heap.size (fun k_ => some k_ ≠ (.slice Ao15 t289.length co15 : Value).ownBlock ∧ some k_ ≠ (v293 : Value).ownBlock ∧ k_ ≠ gb297 ∧ k_ ≠ gb305) (.slice Ao21 t298.length co21) t298) := ⟨(by rw [hw]; exact (by (with_reducible repeat (first | apply Kd.Xp | apply Kd.Xo | apply Kd.Xt)); exact Kd.XB (Kd.Ya (p := ⟨gb305, 1, none⟩) (Kd.Ya (p := ⟨gb305, 0, none⟩) (Kd.XB HO300.out (fun k_ hk => (⟨hk, hk.2⟩ : _ ∧ k_ ≠ gb305))) (fun _ hk => hk.2) (.int .i64 t303)) (fun _ hk => hk.2) (.int .i64 t304)) (fun _ hk => ⟨hk.1.1.1, ⟨hk.1.1.2.1, ⟨hk.1.1.2.2, hk.1.2⟩⟩⟩)))⟩; replace BK297 := Q0.mk (far2 hw BK297.out NB297_305.out); replace BK305 := Q0.mk (put2 hw BK305.out); replace HB := Q0.mk (bel2 hw HB.out GE305.out); clear hw) | ((with_reducible refine Qs (f := 30) rfl ?_); refine X2 (some 21) rfl rfl Try.func30 (by kernel_rfl) rfl #[] rfl (by (try simp only [List.map_toArray, List.map_cons, List.map_nil]); first | done | rfl | (simp only [List.length_drop, List.length_take]; rfl)) ?_; (with_reducible refine (QC.calls k  t306 _ A5.out).mono ?_); rintro e w27 ⟨v307, rfl, ho0, hb⟩; refine ⟨_, rfl, ?_⟩; have HO308 := Q0.mk (Kd.N_lower (Kd.XB (ok' := fun k_ => some k_ ≠ (.slice Ao15 t289.length co15 : Value).ownBlock ∧ some k_ ≠ (v293 : Value).ownBlock ∧ some k_ ≠ (.slice Ao21 t298.length co21 : Value).ownBlock ∧ k_ ≠ gb297 ∧ k_ ≠ gb305) ho0 (fun k_ hk_ => ⟨(Kd.fresh' (Kd.N_lt HO291.out) k_ hk_), (Kd.fresh' (Kd.N_lt HO294.out) k_ hk_), (Kd.fresh' (Kd.N_lt HO300.out) k_ hk_), (Kd.freshB (g := gb297) (o := .cells #[.int .i64 t295, .int .i64 t296] 24 (0, 0)) BK297.out k_ hk_), (Kd.freshB (g := gb305) (o := .cells #[.int .i64 t303, .int .i64 t304] 24 (0, 0)) BK305.out k_ hk_)⟩)) (Qg HB.out)); replace HO291 := Q0.mk (Kd.Xu HO291.out (by first | exact Kd.N_base ho0 | exact Kd.Yi ho0) hb); replace HO294 := Q0.mk (Kd.Xu HO294.out (by first | exact Kd.N_base ho0 | exact Kd.Yi ho0) hb); replace HO300 := Q0.mk (Kd.Xu HO300.out (by first | exact Kd.N_base ho0 | exact Kd.Yi ho0) hb); replace BK297 := Q0.mk (Q9 BK297.out hb); replace BK305 := Q0.mk (Q9 BK305.out hb); replace HB := Q0.mk (Qj HB.out hb); (try clear ho0); obtain ⟨Ao28, co28, eo28⟩ := Kd.N_slice HO308.out; subst eo28) | ((with_reducible refine Qs (f := 12) rfl ?_); refine X2 (some 22) rfl rfl Try.func12 (by kernel_rfl) rfl #[.slice Ao28 t306.length co28, .string (⟨#[104]⟩ : ByteArray)] rfl (by (try simp only [List.map_toArray, List.map_cons, List.map_nil]); first | done | rfl | (simp only [List.length_drop, List.length_take]; rfl)) ?_; (with_reducible refine (Xz.calls k _ _ t306 (⟨#[104]⟩ : ByteArray) t309 t310 t311 t312 _ ?side1 ?side2 A6.out).mono ?_); (case side1 => repeat (first | exact (Kd.Y9 HO308.out).2.2 | (with_reducible refine Kd.QT ?_ _) | (with_reducible refine Kd.QS ?_ _) | (with_reducible refine Kd.X6 ?_))); (case side2 => exact (Kd.Y9 HO308.out).2.1); rintro e w29 ⟨rfl, hb⟩; refine ⟨_, rfl, ?_⟩; replace HO291 := Q0.mk (Kd.XH HO291.out hb); replace HO294 := Q0.mk (Kd.XH HO294.out hb); replace HO300 := Q0.mk (Kd.XH HO300.out hb); replace HO308 := Q0.mk (Kd.XH HO308.out hb); replace BK297 := Q0.mk (Q9 BK297.out hb); replace BK305 := Q0.mk (Q9 BK305.out hb); replace HB := Q0.mk (Qj HB.out hb)) | ((with_reducible refine QN (N := 8) rfl ?_); (try (refine Xx (by rfl) ?_; dsimp only)); refine QK ?hg (N := 8) ?hd (cs := #[.int .i64 0, .int .i64 0]) (t := 24) ?hr ?_; (case hd => rfl); (case hg => rfl); (case hr => first | (go_simp; done) | (go_simp; rfl)); intro gb313 hg w30 hbox hb; have BK313 := Q0.mk (hbox); have GW313 := Q0.mk ((by rw [hg]; exact (Qg HB.out) : w.heap.size ≤ gb313)); have GE313 := Q0.mk ((by rw [hg]; exact (Qg HB.out) : w.heap.size ≤ gb313)); have NB297_313 := Q0.mk ((by rw [hg]; exact Nat.ne_of_lt (Qy BK297.out) : gb297 ≠ gb313)); have NB313_297 := Q0.mk ((by rw [hg]; exact Nat.ne_of_gt (Qy BK297.out) : gb313 ≠ gb297)); have NB305_313 := Q0.mk ((by rw [hg]; exact Nat.ne_of_lt (Qy BK305.out) : gb305 ≠ gb313)); have NB313_305 := Q0.mk ((by rw [hg]; exact Nat.ne_of_gt (Qy BK305.out) : gb313 ≠ gb305)); replace HO291 := Q0.mk (Kd.XH (Kd.Ym HO291.out gb313 (Nat.le_of_eq hg.symm)) hb); replace HO294 := Q0.mk (Kd.XH (Kd.Ym HO294.out gb313 (Nat.le_of_eq hg.symm)) hb); replace HO300 := Q0.mk (Kd.XH (Kd.Ym HO300.out gb313 (Nat.le_of_eq hg.symm)) hb); replace HO308 := Q0.mk (Kd.XH (Kd.Ym HO308.out gb313 (Nat.le_of_eq hg.symm)) hb); replace BK297 := Q0.mk (Q9 BK297.out hb); replace BK305 := Q0.mk (Q9 BK305.out hb); replace HB := Q0.mk (Qj HB.out hb); clear hb hbox hg; have hnb31 := NB313_297.out; have hnc31 := NB297_313.out; have hnb32 := NB313_305.out; have hnc32 := NB305_313.out; obtain ⟨hcz33_0, hcz33_1⟩ := QB BK313.out; obtain ⟨hfz33_0, hfz33_1⟩ := Qt BK313.out) | ((with_reducible refine QD (t := 24) (p := 8) rfl ?_); refine Qw (t := 24) (p := 8) (v := ?vo_w34) (w1 := ((w30.setCell ⟨gb313, 0, none⟩ (.int .i64 t311)).setCell ⟨gb313, 1, none⟩ (.int .i64 t312))) ?hg ?ho ?hn ?hr ?_; (case ho => rfl); (case hg => rfl); (case hn => rfl); (case hr => first | (go_simp; done) | (go_simp; rfl)); intro w34 hw; replace HO291 : Q0 (Kd.N k46 46 w34 w.heap.size (fun k_ => some k_ ≠ (v293 : Value).ownBlock ∧ some k_ ≠ (.slice Ao21 t298.length co21 : Value).ownBlock ∧ some k_ ≠ (.slice Ao28 t306.length co28 : Value).ownBlock ∧ k_ ≠ gb297 ∧ k_ ≠ gb305 ∧ k_ ≠ gb313) (.slice Ao15 t289.length co15) t289) := ⟨(by rw [hw]; exact (by (with_reducible repeat (first | apply Kd.Xp | apply Kd.Xo | apply Kd.Xt)); exact Kd.XB (Kd.Ya (p := ⟨gb313, 1, none⟩) (Kd.Ya (p := ⟨gb313, 0, none⟩) (Kd.XB HO291.out (fun k_ hk => (⟨hk, hk.2⟩ : _ ∧ k_ ≠ gb313))) (fun _ hk => hk.2) (.int .i64 t311)) (fun _ hk => hk.2) (.int .i64 t312)) (fun _ hk => ⟨hk.1.1.1.1, ⟨hk.1.1.1.2.1, ⟨hk.1.1.2, ⟨hk.1.1.1.2.2.1, ⟨hk.1.1.1.2.2.2, hk.1.2⟩⟩⟩⟩⟩)))⟩; replace HO294 : Q0 (Kd.N (Kd.slice 4 Kd.bool) 39 w34 w.heap.size (fun k_ => some k_ ≠ (.slice Ao15 t289.length co15 : Value).ownBlock ∧ some k_ ≠ (.slice Ao21 t298.length co21 : Value).ownBlock ∧ some k_ ≠ (.slice Ao28 t306.length co28 : Value).ownBlock ∧ k_ ≠ gb297 ∧ k_ ≠ gb305 ∧ k_ ≠ gb313) v293 t292) := ⟨(by rw [hw]; exact (by (with_reducible repeat (first | apply Kd.Xp | apply Kd.Xo | apply Kd.Xt)); exact Kd.XB (Kd.Ya (p := ⟨gb313, 1, none⟩) (Kd.Ya (p := ⟨gb313, 0, none⟩) (Kd.XB HO294.out (fun k_ hk => (⟨hk, hk.2⟩ : _ ∧ k_ ≠ gb313))) (fun _ hk => hk.2) (.int .i64 t311)) (fun _ hk => hk.2) (.int .i64 t312)) (fun _ hk => ⟨hk.1.1.1.1, ⟨hk.1.1.1.2.1, ⟨hk.1.1.2, ⟨hk.1.1.1.2.2.1, ⟨hk.1.1.1.2.2.2, hk.1.2⟩⟩⟩⟩⟩)))⟩; replace HO300 : Q0 (Kd.N k46 46 w34 w.heap.size (fun k_ => some k_ ≠ (.slice Ao15 t289.length co15 : Value).ownBlock ∧ some k_ ≠ (v293 : Value).ownBlock ∧ some k_ ≠ (.slice Ao28 t306.length co28 : Value).ownBlock ∧ k_ ≠ gb297 ∧ k_ ≠ gb305 ∧ k_ ≠ gb313) (.slice Ao21 t298.length co21) t298) := ⟨(by rw [hw]; exact (by (with_reducible repeat (first | apply Kd.Xp | apply Kd.Xo | apply Kd.Xt)); exact Kd.XB (Kd.Ya (p := ⟨gb313, 1, none⟩) (Kd.Ya (p := ⟨gb313, 0, none⟩) (Kd.XB HO300.out (fun k_ hk => (⟨hk, hk.2⟩ : _ ∧ k_ ≠ gb313))) (fun _ hk => hk.2) (.int .i64 t311)) (fun _ hk => hk.2) (.int .i64 t312)) (fun _ hk => ⟨hk.1.1.1.1, ⟨hk.1.1.1.2.1, ⟨hk.1.1.2, ⟨hk.1.1.1.2.2.1, ⟨hk.1.1.1.2.2.2, hk.1.2⟩⟩⟩⟩⟩)))⟩; replace HO308 : Q0 (Kd.N k46 46 w34 w.heap.size (fun k_ => some k_ ≠ (.slice Ao15 t289.length co15 : Value).ownBlock ∧ some k_ ≠ (v293 : Value).ownBlock ∧ some k_ ≠ (.slice Ao21 t298.length co21 : Value).ownBlock ∧ k_ ≠ gb297 ∧ k_ ≠ gb305 ∧ k_ ≠ gb313) (.slice Ao28 t306.length co28) t306) := ⟨(by rw [hw]; exact (by (with_reducible repeat (first | apply Kd.Xp | apply Kd.Xo | apply Kd.Xt)); exact Kd.XB (Kd.Ya (p := ⟨gb313, 1, none⟩) (Kd.Ya (p := ⟨gb313, 0, none⟩) (Kd.XB HO308.out (fun k_ hk => (⟨hk, hk.2⟩ : _ ∧ k_ ≠ gb313))) (fun _ hk => hk.2) (.int .i64 t311)) (fun _ hk => hk.2) (.int .i64 t312)) (fun _ hk => ⟨hk.1.1.1, ⟨hk.1.1.2.1, ⟨hk.1.1.2.2.1, ⟨hk.1.1.2.2.2.1, ⟨hk.1.1.2.2.2.2, hk.1.2⟩⟩⟩⟩⟩)))⟩; replace BK297 := Q0.mk (far2 hw BK297.out NB297_313.out); replace BK305 := Q0.mk (far2 hw BK305.out NB305_313.out); replace BK313 := Q0.mk (put2 hw BK313.out); replace HB := Q0.mk (bel2 hw HB.out GE313.out); clear hw; obtain ⟨Ao35, co35, eo35⟩ := Kd.N_slice HO294.out; subst eo35))
      have n0_ := Q0.mk (Kd.Xt HO291.out)
      have n1_ := Q0.mk (Kd.Xt HO294.out)
      have n2_ := Q0.mk (Kd.Xt HO300.out)
      have n3_ := Q0.mk (Kd.Xt HO308.out)
      have n4_ := Q0.mk (Qa BK297.out)
      have n5_ := Q0.mk (Qa BK305.out)
      have n6_ := Q0.mk (Qa BK313.out)
      have n7_ := Q0.mk (Q6 HB.out)
      clear HO291
      clear HO294
      clear HO300
      clear HO308
      clear BK297
      clear BK305
      clear BK313
      clear HB
      have HO291 := n0_
      have HO294 := n1_
      have HO300 := n2_
      have HO308 := n3_
      have BK297 := n4_
      have BK305 := n5_
      have BK313 := n6_
      have HB := n7_
      clear n0_ n1_ n2_ n3_ n4_ n5_ n6_ n7_
      refine start_ (n := 29) (S := fun w' => w'.cell? ⟨gb297, 0, none⟩ = some (.int .i64 t295) ∧ w'.cell? ⟨gb297, 1, none⟩ = some (.int .i64 t296) ∧ w'.cell? ⟨gb305, 0, none⟩ = some (.int .i64 t303) ∧ w'.cell? ⟨gb305, 1, none⟩ = some (.int .i64 t304) ∧ w'.cell? ⟨gb313, 0, none⟩ = some (.int .i64 t311) ∧ w'.cell? ⟨gb313, 1, none⟩ = some (.int .i64 t312)) (ds := []) #[false, false, false, false, false, false, false, false, false, false, false, false, false, false, false, false, false, false, false, false, false, false, false, false, false, false, false, false, false] (by kernel_rfl) rfl rfl ⟨(Qz BK297.out 0).trans rfl, (Qz BK297.out 1).trans rfl, (Qz BK305.out 0).trans rfl, (Qz BK305.out 1).trans rfl, (Qz BK313.out 0).trans rfl, (Qz BK313.out 1).trans rfl⟩ (fun hHeld => ?_); refine with_tabW Qr.tab4 Qr.bits4 (fun HT_ HW_ => ?_)
      generalize w34.drew = w36 at HO291 HO294 HO300 HO308 BK297 BK305 BK313 HB hHeld ⊢
      refine Xf (i := 0) (N := some 26) (v := ?_) (a' := ?_) #[true, false, false, false, false, false, false, false, false, false, false, false, false, false, false, false, false, false, false, false, false, false, false, false, false, false, false, false, false] rfl rfl (QX HT_.out (by kernel_rfl)) (fun _ _ _ h => h) (Or.inl ⟨by rfl, ?_⟩) ?_ ?_
      rotate_left
      ·intro w'
       go_simp
       with_reducible rfl
      rotate_left
      ·simp only [Act.put, List.setIfInBounds_toArray, List.set_cons_zero, List.set_cons_succ, QO, QP]
       rfl
      refine Yk (i := 1) (N := some 27) (v := ?_) (a' := ?_) #[true, true, false, false, false, false, false, false, false, false, false, false, false, false, false, false, false, false, false, false, false, false, false, false, false, false, false, false, false] rfl rfl (XU HT_.out HW_.out (by kernel_rfl)) (fun _ _ _ h => h) (Or.inl ⟨by rfl, ?_⟩) hHeld ?_ ?_
      rotate_left
      ·rintro w' ⟨s0, s1, s2, s3, s4, s5⟩
       go_simp
       with_reducible rfl
      rotate_left
      ·simp only [Act.put, List.setIfInBounds_toArray, List.set_cons_zero, List.set_cons_succ, QO, QP]
       rfl
      refine Xf (i := 2) (N := some 28) (v := ?_) (a' := ?_) #[true, true, true, false, false, false, false, false, false, false, false, false, false, false, false, false, false, false, false, false, false, false, false, false, false, false, false, false, false] rfl rfl (QX HT_.out (by kernel_rfl)) (fun _ _ _ h => h) (Or.inl ⟨by rfl, ?_⟩) ?_ ?_
      rotate_left
      ·intro w'
       go_simp
       with_reducible rfl
      rotate_left
      ·simp only [Act.put, List.setIfInBounds_toArray, List.set_cons_zero, List.set_cons_succ, QO, QP]
       rfl
      refine Xf (i := 3) (N := some 29) (v := ?_) (a' := ?_) #[true, true, true, true, false, false, false, false, false, false, false, false, false, false, false, false, false, false, false, false, false, false, false, false, false, false, false, false, false] rfl rfl (QX HT_.out (by kernel_rfl)) (fun _ _ _ h => h) (Or.inl ⟨by rfl, ?_⟩) ?_ ?_
      rotate_left
      ·intro w'
       go_simp
       with_reducible rfl
      rotate_left
      ·simp only [Act.put, List.setIfInBounds_toArray, List.set_cons_zero, List.set_cons_succ, QO, QP]
       rfl
      refine Xf (i := 4) (N := some 30) (v := ?_) (a' := ?_) #[true, true, true, true, true, false, false, false, false, false, false, false, false, false, false, false, false, false, false, false, false, false, false, false, false, false, false, false, false] rfl rfl (QX HT_.out (by kernel_rfl)) (fun _ _ _ h => h) (Or.inl ⟨by rfl, ?_⟩) ?_ ?_
      rotate_left
      ·intro w'
       go_simp
       with_reducible rfl
      rotate_left
      ·simp only [Act.put, List.setIfInBounds_toArray, List.set_cons_zero, List.set_cons_succ, QO, QP]
       rfl
      refine Yk (i := 5) (N := some 31) (v := ?_) (a' := ?_) #[true, true, true, true, true, true, false, false, false, false, false, false, false, false, false, false, false, false, false, false, false, false, false, false, false, false, false, false, false] rfl rfl (XU HT_.out HW_.out (by kernel_rfl)) (fun _ _ _ h => h) (Or.inl ⟨by rfl, ?_⟩) hHeld ?_ ?_
      rotate_left
      ·rintro w' ⟨s0, s1, s2, s3, s4, s5⟩
       go_simp
       with_reducible rfl
      rotate_left
      ·simp only [Act.put, List.setIfInBounds_toArray, List.set_cons_zero, List.set_cons_succ, QO, QP]
       rfl
      refine Xf (i := 6) (N := some 32) (v := ?_) (a' := ?_) #[true, true, true, true, true, true, true, false, false, false, false, false, false, false, false, false, false, false, false, false, false, false, false, false, false, false, false, false, false] rfl rfl (QX HT_.out (by kernel_rfl)) (fun _ _ _ h => h) (Or.inl ⟨by rfl, ?_⟩) ?_ ?_
      rotate_left
      ·intro w'
       go_simp
       with_reducible rfl
      rotate_left
      ·simp only [Act.put, List.setIfInBounds_toArray, List.set_cons_zero, List.set_cons_succ, QO, QP]
       rfl
      refine Xf (i := 7) (N := some 33) (v := ?_) (a' := ?_) #[true, true, true, true, true, true, true, true, false, false, false, false, false, false, false, false, false, false, false, false, false, false, false, false, false, false, false, false, false] rfl rfl (QX HT_.out (by kernel_rfl)) (fun _ _ _ h => h) (Or.inl ⟨by rfl, ?_⟩) ?_ ?_
      rotate_left
      ·intro w'
       go_simp
       with_reducible rfl
      rotate_left
      ·simp only [Act.put, List.setIfInBounds_toArray, List.set_cons_zero, List.set_cons_succ, QO, QP]
       rfl
      refine Xf (i := 8) (N := some 34) (v := ?_) (a' := ?_) #[true, true, true, true, true, true, true, true, true, false, false, false, false, false, false, false, false, false, false, false, false, false, false, false, false, false, false, false, false] rfl rfl (QX HT_.out (by kernel_rfl)) (fun _ _ _ h => h) (Or.inl ⟨by rfl, ?_⟩) ?_ ?_
      rotate_left
      ·intro w'
       go_simp
       with_reducible rfl
      rotate_left
      ·simp only [Act.put, List.setIfInBounds_toArray, List.set_cons_zero, List.set_cons_succ, QO, QP]
       rfl
      refine Xf (i := 9) (N := some 35) (v := ?_) (a' := ?_) #[true, true, true, true, true, true, true, true, true, true, false, false, false, false, false, false, false, false, false, false, false, false, false, false, false, false, false, false, false] rfl rfl (QX HT_.out (by kernel_rfl)) (fun _ _ _ h => h) (Or.inl ⟨by rfl, ?_⟩) ?_ ?_
      rotate_left
      ·intro w'
       go_simp
       with_reducible rfl
      rotate_left
      ·simp only [Act.put, List.setIfInBounds_toArray, List.set_cons_zero, List.set_cons_succ, QO, QP]
       rfl
      refine join_ (σ := Value × Value) 17 #[true, true, true, true, true, true, true, true, true, true, true, true, false, false, false, false, false, false, false, false, false, false, false, false, false, false, false, false, false] (fun s_ => [(36, s_.1), (37, s_.2)]) (fun s_ w' => (w'.cell? ⟨gb297, 0, none⟩ = some (.int .i64 t295) ∧ w'.cell? ⟨gb297, 1, none⟩ = some (.int .i64 t296) ∧ w'.cell? ⟨gb305, 0, none⟩ = some (.int .i64 t303) ∧ w'.cell? ⟨gb305, 1, none⟩ = some (.int .i64 t304) ∧ w'.cell? ⟨gb313, 0, none⟩ = some (.int .i64 t311) ∧ w'.cell? ⟨gb313, 1, none⟩ = some (.int .i64 t312)) ∧ (Kd.N k46 46 w' w.heap.size (fun k_ => some k_ ≠ (.slice Ao35 t292.length co35 : Value).ownBlock ∧ some k_ ≠ (.slice Ao21 t298.length co21 : Value).ownBlock ∧ some k_ ≠ (.slice Ao28 t306.length co28 : Value).ownBlock ∧ some k_ ≠ (s_.1 : Value).ownBlock ∧ some k_ ≠ (s_.2 : Value).ownBlock ∧ k_ ≠ gb297 ∧ k_ ≠ gb305 ∧ k_ ≠ gb313) (.slice Ao15 t289.length co15) t289) ∧ (Kd.N (Kd.slice 4 Kd.bool) 39 w' w.heap.size (fun k_ => some k_ ≠ (.slice Ao15 t289.length co15 : Value).ownBlock ∧ some k_ ≠ (.slice Ao21 t298.length co21 : Value).ownBlock ∧ some k_ ≠ (.slice Ao28 t306.length co28 : Value).ownBlock ∧ some k_ ≠ (s_.1 : Value).ownBlock ∧ some k_ ≠ (s_.2 : Value).ownBlock ∧ k_ ≠ gb297 ∧ k_ ≠ gb305 ∧ k_ ≠ gb313) (.slice Ao35 t292.length co35) t292) ∧ (Kd.N k46 46 w' w.heap.size (fun k_ => some k_ ≠ (.slice Ao15 t289.length co15 : Value).ownBlock ∧ some k_ ≠ (.slice Ao35 t292.length co35 : Value).ownBlock ∧ some k_ ≠ (.slice Ao28 t306.length co28 : Value).ownBlock ∧ some k_ ≠ (s_.1 : Value).ownBlock ∧ some k_ ≠ (s_.2 : Value).ownBlock ∧ k_ ≠ gb297 ∧ k_ ≠ gb305 ∧ k_ ≠ gb313) (.slice Ao21 t298.length co21) t298) ∧ (Kd.N k46 46 w' w.heap.size (fun k_ => some k_ ≠ (.slice Ao15 t289.length co15 : Value).ownBlock ∧ some k_ ≠ (.slice Ao35 t292.length co35 : Value).ownBlock ∧ some k_ ≠ (.slice Ao21 t298.length co21 : Value).ownBlock ∧ some k_ ≠ (s_.1 : Value).ownBlock ∧ some k_ ≠ (s_.2 : Value).ownBlock ∧ k_ ≠ gb297 ∧ k_ ≠ gb305 ∧ k_ ≠ gb313) (.slice Ao28 t306.length co28) t306) ∧ (Kd.R Kd.bool 4 w' w.heap.size (fun k_ => some k_ ≠ (s_.2 : Value).ownBlock) s_.1 y314) ∧ (Kd.R Kd.bool 4 w' w.heap.size (fun k_ => some k_ ≠ (s_.1 : Value).ownBlock) s_.2 y317) ∧ (w'.heap[gb297]? = some (.cells #[.int .i64 t295, .int .i64 t296] 24 (0, 0))) ∧ (w'.heap[gb305]? = some (.cells #[.int .i64 t303, .int .i64 t304] 24 (0, 0))) ∧ (w'.heap[gb313]? = some (.cells #[.int .i64 t311, .int .i64 t312] 24 (0, 0))) ∧ (Below w.heap.size w w')) ?_ ?_
      rotate_left
      ·intro hCont
       refine two_ (i := 10) (j := 11) (Ni := some 36) (Nj := some 37) #[true, true, true, true, true, true, true, true, true, true, true, false, false, false, false, false, false, false, false, false, false, false, false, false, false, false, false, false, false] #[true, true, true, true, true, true, true, true, true, true, false, true, false, false, false, false, false, false, false, false, false, false, false, false, false, false, false, false, false] rfl rfl rfl rfl (two_of HT_.out (by kernel_rfl)) (by decide) (by decide) (fun K hK => ?_) (fun K hK => ?_)
       ·skip
        refine Kd.R_lit_step Kd.bool _ 4 ?hg (N := 36) ?hd (xs := ([true] : List Bool)) (inner := [.bool true]) (ok := fun _ => True) (okp := fun _ => True) ?hr ?hp (fun _ hk => hk) trivial (Below.refl _ _) (Nat.le_refl _) (by simp) ?_; (case hd => rfl); (case hg => rfl); (case hr => first | (go_simp; done) | (go_simp; rfl)); (case hp => exact (Reps.one (show Kd.M Kd.bool _ _ _ true [.bool true] from rfl) (Reps.none _ _)))
        intro v315 w37 ho38 hb hg_ hnew_
        clear hg_ hnew_
        (first | rw [← Ny314.out] at ho38 | (simp only [Int.reduceToNat] at ho38; rw [← Ny314.out] at ho38))
        have n0_ := Q0.mk (Kd.Xu (by (with_reducible repeat (first | apply Kd.Xp | apply Kd.Xo | apply Kd.Xt)); exact HO291.out) (Kd.XV ho38) hb)
        have n1_ := Q0.mk (Kd.Xu (by (with_reducible repeat (first | apply Kd.Xp | apply Kd.Xo | apply Kd.Xt)); exact HO294.out) (Kd.XV ho38) hb)
        have n2_ := Q0.mk (Kd.Xu (by (with_reducible repeat (first | apply Kd.Xp | apply Kd.Xo | apply Kd.Xt)); exact HO300.out) (Kd.XV ho38) hb)
        have n3_ := Q0.mk (Kd.Xu (by (with_reducible repeat (first | apply Kd.Xp | apply Kd.Xo | apply Kd.Xt)); exact HO308.out) (Kd.XV ho38) hb)
        have n4_ := Q0.mk (Kd.Yw ho38 (Qg (by repeat (first | exact HB.out | apply Q4 | apply Q2 | apply Q6 | refine Q1 ?_ GE297.out | refine Q1 ?_ GE305.out | refine Q1 ?_ GE313.out))))
        have n5_ := Q0.mk (Q9 (g := gb297) (o := .cells #[.int .i64 t295, .int .i64 t296] 24 (0, 0)) (by (with_reducible repeat (first | refine Q7 ?_ _ | refine Qa ?_ | refine Q8 ?_ _)); exact BK297.out) hb)
        have n6_ := Q0.mk (Q9 (g := gb305) (o := .cells #[.int .i64 t303, .int .i64 t304] 24 (0, 0)) (by (with_reducible repeat (first | refine Q7 ?_ _ | refine Qa ?_ | refine Q8 ?_ _)); exact BK305.out) hb)
        have n7_ := Q0.mk (Q9 (g := gb313) (o := .cells #[.int .i64 t311, .int .i64 t312] 24 (0, 0)) (by (with_reducible repeat (first | refine Q7 ?_ _ | refine Qa ?_ | refine Q8 ?_ _)); exact BK313.out) hb)
        have n8_ := Q0.mk (Qj (by repeat (first | exact HB.out | apply Q4 | apply Q2 | apply Q6 | refine Q1 ?_ GE297.out | refine Q1 ?_ GE305.out | refine Q1 ?_ GE313.out)) hb)
        clear HO291
        clear HO294
        clear HO300
        clear HO308
        clear BK297
        clear BK305
        clear BK313
        clear HB
        have HO291 := n0_
        have HO294 := n1_
        have HO300 := n2_
        have HO308 := n3_
        have HO316 := n4_
        have BK297 := n5_
        have BK305 := n6_
        have BK313 := n7_
        have HB := n8_
        clear n0_ n1_ n2_ n3_ n4_ n5_ n6_ n7_ n8_
        clear hb ho38
        refine hK.out _ _ ⟨(Qz BK297.out 0).trans rfl, (Qz BK297.out 1).trans rfl, (Qz BK305.out 0).trans rfl, (Qz BK305.out 1).trans rfl, (Qz BK313.out 0).trans rfl, (Qz BK313.out 1).trans rfl⟩ (fun hHeld => ?_)
        clear hK K
        refine norm_ (a' := ?_) ?_ ?_
        rotate_left
        ·show Act.put _ (some 36) _ = _
         simp only [Act.put, List.setIfInBounds_toArray, List.set_cons_zero, List.set_cons_succ, QO, QP]
         rfl
        refine one_ (i := 11) (N := some 37) #[true, true, true, true, true, true, true, true, true, true, true, true, false, false, false, false, false, false, false, false, false, false, false, false, false, false, false, false, false] rfl rfl (one_of HT_.out (by kernel_rfl)) (by decide) (fun K hK => ?_)
        refine Kd.R_lit_step Kd.bool _ 4 ?hg (N := 37) ?hd (xs := ([false] : List Bool)) (inner := [.bool false]) (ok := fun _ => True) (okp := fun _ => True) ?hr ?hp (fun _ hk => hk) trivial (Below.refl _ _) (Nat.le_refl _) (by simp) ?_; (case hd => rfl); (case hg => rfl); (case hr => first | (go_simp; done) | (go_simp; rfl)); (case hp => exact (Reps.one (show Kd.M Kd.bool _ _ _ false [.bool false] from rfl) (Reps.none _ _)))
        intro v318 w39 ho40 hb hg_ hnew_
        clear hg_ hnew_
        (first | rw [← Ny317.out] at ho40 | (simp only [Int.reduceToNat] at ho40; rw [← Ny317.out] at ho40))
        have n0_ := Q0.mk (Kd.Xu (by (with_reducible repeat (first | apply Kd.Xp | apply Kd.Xo | apply Kd.Xt)); exact HO291.out) (Kd.XV ho40) hb)
        have n1_ := Q0.mk (Kd.Xu (by (with_reducible repeat (first | apply Kd.Xp | apply Kd.Xo | apply Kd.Xt)); exact HO294.out) (Kd.XV ho40) hb)
        have n2_ := Q0.mk (Kd.Xu (by (with_reducible repeat (first | apply Kd.Xp | apply Kd.Xo | apply Kd.Xt)); exact HO300.out) (Kd.XV ho40) hb)
        have n3_ := Q0.mk (Kd.Xu (by (with_reducible repeat (first | apply Kd.Xp | apply Kd.Xo | apply Kd.Xt)); exact HO308.out) (Kd.XV ho40) hb)
        have n4_ := Q0.mk (Kd.R_elder' (by (with_reducible repeat (first | apply Kd.XN | apply Kd.XM | apply Kd.XT)); exact HO316.out) (Kd.XV ho40) hb)
        have n5_ := Q0.mk (Kd.Yw (Kd.R_new' ho40 (Kd.R_lt (by (with_reducible repeat (first | apply Kd.XN | apply Kd.XM | apply Kd.XT)); exact HO316.out))) (Qg (by repeat (first | exact HB.out | apply Q4 | apply Q2 | apply Q6 | refine Q1 ?_ GE297.out | refine Q1 ?_ GE305.out | refine Q1 ?_ GE313.out))))
        have n6_ := Q0.mk (Q9 (g := gb297) (o := .cells #[.int .i64 t295, .int .i64 t296] 24 (0, 0)) (by (with_reducible repeat (first | refine Q7 ?_ _ | refine Qa ?_ | refine Q8 ?_ _)); exact BK297.out) hb)
        have n7_ := Q0.mk (Q9 (g := gb305) (o := .cells #[.int .i64 t303, .int .i64 t304] 24 (0, 0)) (by (with_reducible repeat (first | refine Q7 ?_ _ | refine Qa ?_ | refine Q8 ?_ _)); exact BK305.out) hb)
        have n8_ := Q0.mk (Q9 (g := gb313) (o := .cells #[.int .i64 t311, .int .i64 t312] 24 (0, 0)) (by (with_reducible repeat (first | refine Q7 ?_ _ | refine Qa ?_ | refine Q8 ?_ _)); exact BK313.out) hb)
        have n9_ := Q0.mk (Qj (by repeat (first | exact HB.out | apply Q4 | apply Q2 | apply Q6 | refine Q1 ?_ GE297.out | refine Q1 ?_ GE305.out | refine Q1 ?_ GE313.out)) hb)
        clear HO291
        clear HO294
        clear HO300
        clear HO308
        clear HO316
        clear BK297
        clear BK305
        clear BK313
        clear HB
        have HO291 := n0_
        have HO294 := n1_
        have HO300 := n2_
        have HO308 := n3_
        have HO316 := n4_
        have HO319 := n5_
        have BK297 := n6_
        have BK305 := n7_
        have BK313 := n8_
        have HB := n9_
        clear n0_ n1_ n2_ n3_ n4_ n5_ n6_ n7_ n8_ n9_
        clear hb ho40
        refine hK.out _ _ ⟨(Qz BK297.out 0).trans rfl, (Qz BK297.out 1).trans rfl, (Qz BK305.out 0).trans rfl, (Qz BK305.out 1).trans rfl, (Qz BK313.out 0).trans rfl, (Qz BK313.out 1).trans rfl⟩ (fun hHeld => ?_)
        clear hK K
        refine norm_ (a' := ?_) ?_ ?_
        rotate_left
        ·show Act.put _ (some 37) _ = _
         simp only [Act.put, List.setIfInBounds_toArray, List.set_cons_zero, List.set_cons_succ, QO, QP]
         rfl
        exact norm_ (by simp only [putAll, Act.put, List.setIfInBounds_toArray, List.set_cons_zero, List.set_cons_succ]) (hCont (v315, v318) _ ⟨hHeld, (by (with_reducible repeat (first | apply Kd.Xp | apply Kd.Xo | apply Kd.Xt)); exact Kd.XB HO291.out (fun _ hk => ⟨hk.1.1.1, ⟨hk.1.1.2.1, ⟨hk.1.1.2.2.1, ⟨hk.1.2, ⟨hk.2, ⟨hk.1.1.2.2.2.1, ⟨hk.1.1.2.2.2.2.1, hk.1.1.2.2.2.2.2⟩⟩⟩⟩⟩⟩⟩)), (by (with_reducible repeat (first | apply Kd.Xp | apply Kd.Xo | apply Kd.Xt)); exact Kd.XB HO294.out (fun _ hk => ⟨hk.1.1.1, ⟨hk.1.1.2.1, ⟨hk.1.1.2.2.1, ⟨hk.1.2, ⟨hk.2, ⟨hk.1.1.2.2.2.1, ⟨hk.1.1.2.2.2.2.1, hk.1.1.2.2.2.2.2⟩⟩⟩⟩⟩⟩⟩)), (by (with_reducible repeat (first | apply Kd.Xp | apply Kd.Xo | apply Kd.Xt)); exact Kd.XB HO300.out (fun _ hk => ⟨hk.1.1.1, ⟨hk.1.1.2.1, ⟨hk.1.1.2.2.1, ⟨hk.1.2, ⟨hk.2, ⟨hk.1.1.2.2.2.1, ⟨hk.1.1.2.2.2.2.1, hk.1.1.2.2.2.2.2⟩⟩⟩⟩⟩⟩⟩)), (by (with_reducible repeat (first | apply Kd.Xp | apply Kd.Xo | apply Kd.Xt)); exact Kd.XB HO308.out (fun _ hk => ⟨hk.1.1.1, ⟨hk.1.1.2.1, ⟨hk.1.1.2.2.1, ⟨hk.1.2, ⟨hk.2, ⟨hk.1.1.2.2.2.1, ⟨hk.1.1.2.2.2.2.1, hk.1.1.2.2.2.2.2⟩⟩⟩⟩⟩⟩⟩)), (by (with_reducible repeat (first | apply Kd.XN | apply Kd.XM | apply Kd.XT)); exact Kd.XA HO316.out (fun _ hk => hk.2)), (by (with_reducible repeat (first | apply Kd.XN | apply Kd.XM | apply Kd.XT)); exact Kd.XA HO319.out (fun _ hk => hk.2)), BK297.out, BK305.out, BK313.out, HB.out⟩)
       ·skip
        refine Kd.R_lit_step Kd.bool _ 4 ?hg (N := 37) ?hd (xs := ([false] : List Bool)) (inner := [.bool false]) (ok := fun _ => True) (okp := fun _ => True) ?hr ?hp (fun _ hk => hk) trivial (Below.refl _ _) (Nat.le_refl _) (by simp) ?_; (case hd => rfl); (case hg => rfl); (case hr => first | (go_simp; done) | (go_simp; rfl)); (case hp => exact (Reps.one (show Kd.M Kd.bool _ _ _ false [.bool false] from rfl) (Reps.none _ _)))
        intro v318 w37 ho38 hb hg_ hnew_
        clear hg_ hnew_
        (first | rw [← Ny317.out] at ho38 | (simp only [Int.reduceToNat] at ho38; rw [← Ny317.out] at ho38))
        have n0_ := Q0.mk (Kd.Xu (by (with_reducible repeat (first | apply Kd.Xp | apply Kd.Xo | apply Kd.Xt)); exact HO291.out) (Kd.XV ho38) hb)
        have n1_ := Q0.mk (Kd.Xu (by (with_reducible repeat (first | apply Kd.Xp | apply Kd.Xo | apply Kd.Xt)); exact HO294.out) (Kd.XV ho38) hb)
        have n2_ := Q0.mk (Kd.Xu (by (with_reducible repeat (first | apply Kd.Xp | apply Kd.Xo | apply Kd.Xt)); exact HO300.out) (Kd.XV ho38) hb)
        have n3_ := Q0.mk (Kd.Xu (by (with_reducible repeat (first | apply Kd.Xp | apply Kd.Xo | apply Kd.Xt)); exact HO308.out) (Kd.XV ho38) hb)
        have n4_ := Q0.mk (Kd.Yw ho38 (Qg (by repeat (first | exact HB.out | apply Q4 | apply Q2 | apply Q6 | refine Q1 ?_ GE297.out | refine Q1 ?_ GE305.out | refine Q1 ?_ GE313.out))))
        have n5_ := Q0.mk (Q9 (g := gb297) (o := .cells #[.int .i64 t295, .int .i64 t296] 24 (0, 0)) (by (with_reducible repeat (first | refine Q7 ?_ _ | refine Qa ?_ | refine Q8 ?_ _)); exact BK297.out) hb)
        have n6_ := Q0.mk (Q9 (g := gb305) (o := .cells #[.int .i64 t303, .int .i64 t304] 24 (0, 0)) (by (with_reducible repeat (first | refine Q7 ?_ _ | refine Qa ?_ | refine Q8 ?_ _)); exact BK305.out) hb)
        have n7_ := Q0.mk (Q9 (g := gb313) (o := .cells #[.int .i64 t311, .int .i64 t312] 24 (0, 0)) (by (with_reducible repeat (first | refine Q7 ?_ _ | refine Qa ?_ | refine Q8 ?_ _)); exact BK313.out) hb)
        have n8_ := Q0.mk (Qj (by repeat (first | exact HB.out | apply Q4 | apply Q2 | apply Q6 | refine Q1 ?_ GE297.out | refine Q1 ?_ GE305.out | refine Q1 ?_ GE313.out)) hb)
        clear HO291
        clear HO294
        clear HO300
        clear HO308
        clear BK297
        clear BK305
        clear BK313
        clear HB
        have HO291 := n0_
        have HO294 := n1_
        have HO300 := n2_
        have HO308 := n3_
        have HO319 := n4_
        have BK297 := n5_
        have BK305 := n6_
        have BK313 := n7_
        have HB := n8_
        clear n0_ n1_ n2_ n3_ n4_ n5_ n6_ n7_ n8_
        clear hb ho38
        refine hK.out _ _ ⟨(Qz BK297.out 0).trans rfl, (Qz BK297.out 1).trans rfl, (Qz BK305.out 0).trans rfl, (Qz BK305.out 1).trans rfl, (Qz BK313.out 0).trans rfl, (Qz BK313.out 1).trans rfl⟩ (fun hHeld => ?_)
        clear hK K
        refine norm_ (a' := ?_) ?_ ?_
        rotate_left
        ·show Act.put _ (some 37) _ = _
         simp only [Act.put, List.setIfInBounds_toArray, List.set_cons_zero, List.set_cons_succ, QO, QP]
         rfl
        refine one_ (i := 10) (N := some 36) #[true, true, true, true, true, true, true, true, true, true, true, true, false, false, false, false, false, false, false, false, false, false, false, false, false, false, false, false, false] rfl rfl (one_of HT_.out (by kernel_rfl)) (by decide) (fun K hK => ?_)
        refine Kd.R_lit_step Kd.bool _ 4 ?hg (N := 36) ?hd (xs := ([true] : List Bool)) (inner := [.bool true]) (ok := fun _ => True) (okp := fun _ => True) ?hr ?hp (fun _ hk => hk) trivial (Below.refl _ _) (Nat.le_refl _) (by simp) ?_; (case hd => rfl); (case hg => rfl); (case hr => first | (go_simp; done) | (go_simp; rfl)); (case hp => exact (Reps.one (show Kd.M Kd.bool _ _ _ true [.bool true] from rfl) (Reps.none _ _)))
        intro v315 w39 ho40 hb hg_ hnew_
        clear hg_ hnew_
        (first | rw [← Ny314.out] at ho40 | (simp only [Int.reduceToNat] at ho40; rw [← Ny314.out] at ho40))
        have n0_ := Q0.mk (Kd.Xu (by (with_reducible repeat (first | apply Kd.Xp | apply Kd.Xo | apply Kd.Xt)); exact HO291.out) (Kd.XV ho40) hb)
        have n1_ := Q0.mk (Kd.Xu (by (with_reducible repeat (first | apply Kd.Xp | apply Kd.Xo | apply Kd.Xt)); exact HO294.out) (Kd.XV ho40) hb)
        have n2_ := Q0.mk (Kd.Xu (by (with_reducible repeat (first | apply Kd.Xp | apply Kd.Xo | apply Kd.Xt)); exact HO300.out) (Kd.XV ho40) hb)
        have n3_ := Q0.mk (Kd.Xu (by (with_reducible repeat (first | apply Kd.Xp | apply Kd.Xo | apply Kd.Xt)); exact HO308.out) (Kd.XV ho40) hb)
        have n4_ := Q0.mk (Kd.R_elder' (by (with_reducible repeat (first | apply Kd.XN | apply Kd.XM | apply Kd.XT)); exact HO319.out) (Kd.XV ho40) hb)
        have n5_ := Q0.mk (Kd.Yw (Kd.R_new' ho40 (Kd.R_lt (by (with_reducible repeat (first | apply Kd.XN | apply Kd.XM | apply Kd.XT)); exact HO319.out))) (Qg (by repeat (first | exact HB.out | apply Q4 | apply Q2 | apply Q6 | refine Q1 ?_ GE297.out | refine Q1 ?_ GE305.out | refine Q1 ?_ GE313.out))))
        have n6_ := Q0.mk (Q9 (g := gb297) (o := .cells #[.int .i64 t295, .int .i64 t296] 24 (0, 0)) (by (with_reducible repeat (first | refine Q7 ?_ _ | refine Qa ?_ | refine Q8 ?_ _)); exact BK297.out) hb)
        have n7_ := Q0.mk (Q9 (g := gb305) (o := .cells #[.int .i64 t303, .int .i64 t304] 24 (0, 0)) (by (with_reducible repeat (first | refine Q7 ?_ _ | refine Qa ?_ | refine Q8 ?_ _)); exact BK305.out) hb)
        have n8_ := Q0.mk (Q9 (g := gb313) (o := .cells #[.int .i64 t311, .int .i64 t312] 24 (0, 0)) (by (with_reducible repeat (first | refine Q7 ?_ _ | refine Qa ?_ | refine Q8 ?_ _)); exact BK313.out) hb)
        have n9_ := Q0.mk (Qj (by repeat (first | exact HB.out | apply Q4 | apply Q2 | apply Q6 | refine Q1 ?_ GE297.out | refine Q1 ?_ GE305.out | refine Q1 ?_ GE313.out)) hb)
        clear HO291
        clear HO294
        clear HO300
        clear HO308
        clear HO319
        clear BK297
        clear BK305
        clear BK313
        clear HB
        have HO291 := n0_
        have HO294 := n1_
        have HO300 := n2_
        have HO308 := n3_
        have HO319 := n4_
        have HO316 := n5_
        have BK297 := n6_
        have BK305 := n7_
        have BK313 := n8_
        have HB := n9_
        clear n0_ n1_ n2_ n3_ n4_ n5_ n6_ n7_ n8_ n9_
        clear hb ho40
        refine hK.out _ _ ⟨(Qz BK297.out 0).trans rfl, (Qz BK297.out 1).trans rfl, (Qz BK305.out 0).trans rfl, (Qz BK305.out 1).trans rfl, (Qz BK313.out 0).trans rfl, (Qz BK313.out 1).trans rfl⟩ (fun hHeld => ?_)
        clear hK K
        refine norm_ (a' := ?_) ?_ ?_
        rotate_left
        ·show Act.put _ (some 36) _ = _
         simp only [Act.put, List.setIfInBounds_toArray, List.set_cons_zero, List.set_cons_succ, QO, QP]
         rfl
        exact norm_ (by simp only [putAll, Act.put, List.setIfInBounds_toArray, List.set_cons_zero, List.set_cons_succ]) (hCont (v315, v318) _ ⟨hHeld, (by (with_reducible repeat (first | apply Kd.Xp | apply Kd.Xo | apply Kd.Xt)); exact Kd.XB HO291.out (fun _ hk => ⟨hk.1.1.1, ⟨hk.1.1.2.1, ⟨hk.1.1.2.2.1, ⟨hk.2, ⟨hk.1.2, ⟨hk.1.1.2.2.2.1, ⟨hk.1.1.2.2.2.2.1, hk.1.1.2.2.2.2.2⟩⟩⟩⟩⟩⟩⟩)), (by (with_reducible repeat (first | apply Kd.Xp | apply Kd.Xo | apply Kd.Xt)); exact Kd.XB HO294.out (fun _ hk => ⟨hk.1.1.1, ⟨hk.1.1.2.1, ⟨hk.1.1.2.2.1, ⟨hk.2, ⟨hk.1.2, ⟨hk.1.1.2.2.2.1, ⟨hk.1.1.2.2.2.2.1, hk.1.1.2.2.2.2.2⟩⟩⟩⟩⟩⟩⟩)), (by (with_reducible repeat (first | apply Kd.Xp | apply Kd.Xo | apply Kd.Xt)); exact Kd.XB HO300.out (fun _ hk => ⟨hk.1.1.1, ⟨hk.1.1.2.1, ⟨hk.1.1.2.2.1, ⟨hk.2, ⟨hk.1.2, ⟨hk.1.1.2.2.2.1, ⟨hk.1.1.2.2.2.2.1, hk.1.1.2.2.2.2.2⟩⟩⟩⟩⟩⟩⟩)), (by (with_reducible repeat (first | apply Kd.Xp | apply Kd.Xo | apply Kd.Xt)); exact Kd.XB HO308.out (fun _ hk => ⟨hk.1.1.1, ⟨hk.1.1.2.1, ⟨hk.1.1.2.2.1, ⟨hk.2, ⟨hk.1.2, ⟨hk.1.1.2.2.2.1, ⟨hk.1.1.2.2.2.2.1, hk.1.1.2.2.2.2.2⟩⟩⟩⟩⟩⟩⟩)), (by (with_reducible repeat (first | apply Kd.XN | apply Kd.XM | apply Kd.XT)); exact Kd.XA HO316.out (fun _ hk => hk.2)), (by (with_reducible repeat (first | apply Kd.XN | apply Kd.XM | apply Kd.XT)); exact Kd.XA HO319.out (fun _ hk => hk.2)), BK297.out, BK305.out, BK313.out, HB.out⟩)
      rintro ⟨v315, v318⟩ w41 ⟨hS_, h0_, h1_, h2_, h3_, h4_, h5_, h6_, h7_, h8_, h9_⟩
      have n0_ : Q0 (Kd.N k46 46 w41 w.heap.size (fun k_ => some k_ ≠ (.slice Ao35 t292.length co35 : Value).ownBlock ∧ some k_ ≠ (.slice Ao21 t298.length co21 : Value).ownBlock ∧ some k_ ≠ (.slice Ao28 t306.length co28 : Value).ownBlock ∧ some k_ ≠ (v315 : Value).ownBlock ∧ some k_ ≠ (v318 : Value).ownBlock ∧ k_ ≠ gb297 ∧ k_ ≠ gb305 ∧ k_ ≠ gb313) (.slice Ao15 t289.length co15) t289) := ⟨h0_⟩
      have n1_ : Q0 (Kd.N (Kd.slice 4 Kd.bool) 39 w41 w.heap.size (fun k_ => some k_ ≠ (.slice Ao15 t289.length co15 : Value).ownBlock ∧ some k_ ≠ (.slice Ao21 t298.length co21 : Value).ownBlock ∧ some k_ ≠ (.slice Ao28 t306.length co28 : Value).ownBlock ∧ some k_ ≠ (v315 : Value).ownBlock ∧ some k_ ≠ (v318 : Value).ownBlock ∧ k_ ≠ gb297 ∧ k_ ≠ gb305 ∧ k_ ≠ gb313) (.slice Ao35 t292.length co35) t292) := ⟨h1_⟩
      have n2_ : Q0 (Kd.N k46 46 w41 w.heap.size (fun k_ => some k_ ≠ (.slice Ao15 t289.length co15 : Value).ownBlock ∧ some k_ ≠ (.slice Ao35 t292.length co35 : Value).ownBlock ∧ some k_ ≠ (.slice Ao28 t306.length co28 : Value).ownBlock ∧ some k_ ≠ (v315 : Value).ownBlock ∧ some k_ ≠ (v318 : Value).ownBlock ∧ k_ ≠ gb297 ∧ k_ ≠ gb305 ∧ k_ ≠ gb313) (.slice Ao21 t298.length co21) t298) := ⟨h2_⟩
      have n3_ : Q0 (Kd.N k46 46 w41 w.heap.size (fun k_ => some k_ ≠ (.slice Ao15 t289.length co15 : Value).ownBlock ∧ some k_ ≠ (.slice Ao35 t292.length co35 : Value).ownBlock ∧ some k_ ≠ (.slice Ao21 t298.length co21 : Value).ownBlock ∧ some k_ ≠ (v315 : Value).ownBlock ∧ some k_ ≠ (v318 : Value).ownBlock ∧ k_ ≠ gb297 ∧ k_ ≠ gb305 ∧ k_ ≠ gb313) (.slice Ao28 t306.length co28) t306) := ⟨h3_⟩
      have n4_ : Q0 (Kd.R Kd.bool 4 w41 w.heap.size (fun k_ => some k_ ≠ (v318 : Value).ownBlock) v315 y314) := ⟨h4_⟩
      have n5_ : Q0 (Kd.R Kd.bool 4 w41 w.heap.size (fun k_ => some k_ ≠ (v315 : Value).ownBlock) v318 y317) := ⟨h5_⟩
      have n6_ : Q0 (w41.heap[gb297]? = some (.cells #[.int .i64 t295, .int .i64 t296] 24 (0, 0))) := ⟨h6_⟩
      have n7_ : Q0 (w41.heap[gb305]? = some (.cells #[.int .i64 t303, .int .i64 t304] 24 (0, 0))) := ⟨h7_⟩
      have n8_ : Q0 (w41.heap[gb313]? = some (.cells #[.int .i64 t311, .int .i64 t312] 24 (0, 0))) := ⟨h8_⟩
      have n9_ : Q0 (Below w.heap.size w w41) := ⟨h9_⟩
      clear HO291
      clear HO294
      clear HO300
      clear HO308
      clear BK297
      clear BK305
      clear BK313
      clear HB
      clear h0_ h1_ h2_ h3_ h4_ h5_ h6_ h7_ h8_ h9_
      have HO291 := n0_
      have HO294 := n1_
      have HO300 := n2_
      have HO308 := n3_
      have HO316 := n4_
      have HO319 := n5_
      have BK297 := n6_
      have BK305 := n7_
      have BK313 := n8_
      have HB := n9_
      clear n0_ n1_ n2_ n3_ n4_ n5_ n6_ n7_ n8_ n9_
      have hHeld : w41.cell? ⟨gb297, 0, none⟩ = some (.int .i64 t295) ∧ w41.cell? ⟨gb297, 1, none⟩ = some (.int .i64 t296) ∧ w41.cell? ⟨gb305, 0, none⟩ = some (.int .i64 t303) ∧ w41.cell? ⟨gb305, 1, none⟩ = some (.int .i64 t304) ∧ w41.cell? ⟨gb313, 0, none⟩ = some (.int .i64 t311) ∧ w41.cell? ⟨gb313, 1, none⟩ = some (.int .i64 t312) := hS_
      obtain ⟨Ao42, co42, eo42⟩ := Kd.Yn HO316.out
      (first | subst eo42 | (injection eo42 with f1_ f2_ f3_; have f4_ := f1_.symm; have f5_ := f3_.symm; clear f1_ f2_ f3_; subst f4_; subst f5_))
      obtain ⟨Ao43, co43, eo43⟩ := Kd.Yn HO319.out
      (first | subst eo43 | (injection eo43 with f1_ f2_ f3_; have f4_ := f1_.symm; have f5_ := f3_.symm; clear f1_ f2_ f3_; subst f4_; subst f5_))
      refine norm_ (a' := ?_) ?_ ?_
      rotate_left
      ·simp only [putAll, Act.put, List.setIfInBounds_toArray, List.set_cons_zero, List.set_cons_succ]
       rfl
      refine one_ (i := 12) (N := some 38) #[true, true, true, true, true, true, true, true, true, true, true, true, true, false, false, false, false, false, false, false, false, false, false, false, false, false, false, false, false] rfl rfl (one_of HT_.out (by kernel_rfl)) (by decide) (fun K hK => ?_)
      refine Kd.N_lit_step (Kd.slice 4 Kd.bool) _ 39 ?hg (N' := 38) ?hd (xs := ([y314, y317] : List (List Bool))) (inner := [.slice Ao42 y314.length co42, .slice Ao43 y317.length co43]) (ok := (fun k_ => some k_ ≠ (.slice Ao15 t289.length co15 : Value).ownBlock ∧ some k_ ≠ (.slice Ao35 t292.length co35 : Value).ownBlock ∧ some k_ ≠ (.slice Ao21 t298.length co21 : Value).ownBlock ∧ some k_ ≠ (.slice Ao28 t306.length co28 : Value).ownBlock ∧ k_ ≠ gb297 ∧ k_ ≠ gb305 ∧ k_ ≠ gb313)) (okp := (fun k_ => some k_ ≠ (.slice Ao15 t289.length co15 : Value).ownBlock ∧ some k_ ≠ (.slice Ao35 t292.length co35 : Value).ownBlock ∧ some k_ ≠ (.slice Ao21 t298.length co21 : Value).ownBlock ∧ some k_ ≠ (.slice Ao28 t306.length co28 : Value).ownBlock ∧ k_ ≠ gb297 ∧ k_ ≠ gb305 ∧ k_ ≠ gb313)) ?hr ?hp (fun _ hk => hk) ((show ∀ k_, w41.heap.size ≤ k_ → (fun k_ => some k_ ≠ (.slice Ao15 t289.length co15 : Value).ownBlock ∧ some k_ ≠ (.slice Ao35 t292.length co35 : Value).ownBlock ∧ some k_ ≠ (.slice Ao21 t298.length co21 : Value).ownBlock ∧ some k_ ≠ (.slice Ao28 t306.length co28 : Value).ownBlock ∧ k_ ≠ gb297 ∧ k_ ≠ gb305 ∧ k_ ≠ gb313) k_ from fun k_ hk => ⟨Kd.fresh' (Kd.N_lt HO291.out) k_ hk, Kd.fresh' (Kd.N_lt HO294.out) k_ hk, Kd.fresh' (Kd.N_lt HO300.out) k_ hk, Kd.fresh' (Kd.N_lt HO308.out) k_ hk, Kd.freshB (g := gb297) (o := .cells #[.int .i64 t295, .int .i64 t296] 24 (0, 0)) BK297.out k_ hk, Kd.freshB (g := gb305) (o := .cells #[.int .i64 t303, .int .i64 t304] 24 (0, 0)) BK305.out k_ hk, Kd.freshB (g := gb313) (o := .cells #[.int .i64 t311, .int .i64 t312] 24 (0, 0)) BK313.out k_ hk⟩) _ (Nat.le_refl _)) (Below.refl _ _) (Nat.le_refl _) (by simp) ?_; (case hd => rfl); (case hg => rfl); (case hr => first | (go_simp; done) | (go_simp; rfl)); (case hp => exact (Reps.one (show Kd.FK (Kd.slice 4 Kd.bool) _ _ y314 [.slice Ao42 y314.length co42] from (Kd.FK_slice_mk (Kd.XK (Kd.XA (ok' := (fun k_ => some k_ ≠ (.slice Ao15 t289.length co15 : Value).ownBlock ∧ some k_ ≠ (.slice Ao35 t292.length co35 : Value).ownBlock ∧ some k_ ≠ (.slice Ao21 t298.length co21 : Value).ownBlock ∧ some k_ ≠ (.slice Ao28 t306.length co28 : Value).ownBlock ∧ k_ ≠ gb297 ∧ k_ ≠ gb305 ∧ k_ ≠ gb313)) (Kd.XX (Kd.XX (Kd.XX (Kd.XD (Kd.XD (Kd.XD (Kd.XD (HO316.out) (Kd.XR HO291.out) (by decide)) (Kd.XR HO294.out) (by decide)) (Kd.XR HO300.out) (by decide)) (Kd.XR HO308.out) (by decide)) BK297.out (by decide)) BK305.out (by decide)) BK313.out (by decide)) (fun k_ hk => ⟨hk.1.1.1.1.1.1.2, ⟨hk.1.1.1.1.1.2, ⟨hk.1.1.1.1.2, ⟨hk.1.1.1.2, ⟨hk.1.1.2, ⟨hk.1.2, hk.2⟩⟩⟩⟩⟩⟩))).2.1 (Kd.R_F (Kd.XA (ok' := (fun k_ => some k_ ≠ (.slice Ao15 t289.length co15 : Value).ownBlock ∧ some k_ ≠ (.slice Ao35 t292.length co35 : Value).ownBlock ∧ some k_ ≠ (.slice Ao21 t298.length co21 : Value).ownBlock ∧ some k_ ≠ (.slice Ao28 t306.length co28 : Value).ownBlock ∧ k_ ≠ gb297 ∧ k_ ≠ gb305 ∧ k_ ≠ gb313)) (Kd.XX (Kd.XX (Kd.XX (Kd.XD (Kd.XD (Kd.XD (Kd.XD (HO316.out) (Kd.XR HO291.out) (by decide)) (Kd.XR HO294.out) (by decide)) (Kd.XR HO300.out) (by decide)) (Kd.XR HO308.out) (by decide)) BK297.out (by decide)) BK305.out (by decide)) BK313.out (by decide)) (fun k_ hk => ⟨hk.1.1.1.1.1.1.2, ⟨hk.1.1.1.1.1.2, ⟨hk.1.1.1.1.2, ⟨hk.1.1.1.2, ⟨hk.1.1.2, ⟨hk.1.2, hk.2⟩⟩⟩⟩⟩⟩))))) (Reps.one (show Kd.FK (Kd.slice 4 Kd.bool) _ _ y317 [.slice Ao43 y317.length co43] from (Kd.FK_slice_mk (Kd.XK (Kd.XA (ok' := (fun k_ => some k_ ≠ (.slice Ao15 t289.length co15 : Value).ownBlock ∧ some k_ ≠ (.slice Ao35 t292.length co35 : Value).ownBlock ∧ some k_ ≠ (.slice Ao21 t298.length co21 : Value).ownBlock ∧ some k_ ≠ (.slice Ao28 t306.length co28 : Value).ownBlock ∧ k_ ≠ gb297 ∧ k_ ≠ gb305 ∧ k_ ≠ gb313)) (Kd.XX (Kd.XX (Kd.XX (Kd.XD (Kd.XD (Kd.XD (Kd.XD (HO319.out) (Kd.XR HO291.out) (by decide)) (Kd.XR HO294.out) (by decide)) (Kd.XR HO300.out) (by decide)) (Kd.XR HO308.out) (by decide)) BK297.out (by decide)) BK305.out (by decide)) BK313.out (by decide)) (fun k_ hk => ⟨hk.1.1.1.1.1.1.2, ⟨hk.1.1.1.1.1.2, ⟨hk.1.1.1.1.2, ⟨hk.1.1.1.2, ⟨hk.1.1.2, ⟨hk.1.2, hk.2⟩⟩⟩⟩⟩⟩))).2.1 (Kd.R_F (Kd.XA (ok' := (fun k_ => some k_ ≠ (.slice Ao15 t289.length co15 : Value).ownBlock ∧ some k_ ≠ (.slice Ao35 t292.length co35 : Value).ownBlock ∧ some k_ ≠ (.slice Ao21 t298.length co21 : Value).ownBlock ∧ some k_ ≠ (.slice Ao28 t306.length co28 : Value).ownBlock ∧ k_ ≠ gb297 ∧ k_ ≠ gb305 ∧ k_ ≠ gb313)) (Kd.XX (Kd.XX (Kd.XX (Kd.XD (Kd.XD (Kd.XD (Kd.XD (HO319.out) (Kd.XR HO291.out) (by decide)) (Kd.XR HO294.out) (by decide)) (Kd.XR HO300.out) (by decide)) (Kd.XR HO308.out) (by decide)) BK297.out (by decide)) BK305.out (by decide)) BK313.out (by decide)) (fun k_ hk => ⟨hk.1.1.1.1.1.1.2, ⟨hk.1.1.1.1.1.2, ⟨hk.1.1.1.1.2, ⟨hk.1.1.1.2, ⟨hk.1.1.2, ⟨hk.1.2, hk.2⟩⟩⟩⟩⟩⟩))))) (Reps.none _ _))))
      intro v321 w44 ho45 hb hg_ hnew_
      clear hg_ hnew_
      (first | rw [← Ny320.out] at ho45 | (simp only [Int.reduceToNat] at ho45; rw [← Ny320.out] at ho45))
      have n0_ := Q0.mk (Kd.Xu (by (with_reducible repeat (first | apply Kd.Xp | apply Kd.Xo | apply Kd.Xt)); exact HO291.out) (by first | exact Kd.N_base ho45 | exact Kd.Yi ho45) hb)
      have n1_ := Q0.mk (Kd.Xu (by (with_reducible repeat (first | apply Kd.Xp | apply Kd.Xo | apply Kd.Xt)); exact HO294.out) (by first | exact Kd.N_base ho45 | exact Kd.Yi ho45) hb)
      have n2_ := Q0.mk (Kd.Xu (by (with_reducible repeat (first | apply Kd.Xp | apply Kd.Xo | apply Kd.Xt)); exact HO300.out) (by first | exact Kd.N_base ho45 | exact Kd.Yi ho45) hb)
      have n3_ := Q0.mk (Kd.Xu (by (with_reducible repeat (first | apply Kd.Xp | apply Kd.Xo | apply Kd.Xt)); exact HO308.out) (by first | exact Kd.N_base ho45 | exact Kd.Yi ho45) hb)
      have n4_ := Q0.mk (Kd.N_lower ho45 (Qg (by repeat (first | exact HB.out | apply Q4 | apply Q2 | apply Q6 | refine Q1 ?_ GE297.out | refine Q1 ?_ GE305.out | refine Q1 ?_ GE313.out))))
      have n5_ := Q0.mk (Q9 (g := gb297) (o := .cells #[.int .i64 t295, .int .i64 t296] 24 (0, 0)) (by (with_reducible repeat (first | refine Q7 ?_ _ | refine Qa ?_ | refine Q8 ?_ _)); exact BK297.out) hb)
      have n6_ := Q0.mk (Q9 (g := gb305) (o := .cells #[.int .i64 t303, .int .i64 t304] 24 (0, 0)) (by (with_reducible repeat (first | refine Q7 ?_ _ | refine Qa ?_ | refine Q8 ?_ _)); exact BK305.out) hb)
      have n7_ := Q0.mk (Q9 (g := gb313) (o := .cells #[.int .i64 t311, .int .i64 t312] 24 (0, 0)) (by (with_reducible repeat (first | refine Q7 ?_ _ | refine Qa ?_ | refine Q8 ?_ _)); exact BK313.out) hb)
      have n8_ := Q0.mk (Qj (by repeat (first | exact HB.out | apply Q4 | apply Q2 | apply Q6 | refine Q1 ?_ GE297.out | refine Q1 ?_ GE305.out | refine Q1 ?_ GE313.out)) hb)
      clear HO291
      clear HO294
      clear HO300
      clear HO308
      clear BK297
      clear BK305
      clear BK313
      clear HB
      clear HO316
      clear HO319
      have HO291 := n0_
      have HO294 := n1_
      have HO300 := n2_
      have HO308 := n3_
      have HO322 := n4_
      have BK297 := n5_
      have BK305 := n6_
      have BK313 := n7_
      have HB := n8_
      clear n0_ n1_ n2_ n3_ n4_ n5_ n6_ n7_ n8_
      clear hb ho45
      obtain ⟨Ao46, co46, eo46⟩ := Kd.N_slice HO322.out
      (first | subst eo46 | (injection eo46 with f1_ f2_ f3_; have f4_ := f1_.symm; have f5_ := f3_.symm; clear f1_ f2_ f3_; subst f4_; subst f5_))
      refine hK.out _ _ ⟨(Qz BK297.out 0).trans rfl, (Qz BK297.out 1).trans rfl, (Qz BK305.out 0).trans rfl, (Qz BK305.out 1).trans rfl, (Qz BK313.out 0).trans rfl, (Qz BK313.out 1).trans rfl⟩ (fun hHeld => ?_)
      clear hK K
      refine norm_ (a' := ?_) ?_ ?_
      rotate_left
      ·show Act.put _ (some 38) _ = _
       simp only [Act.put, List.setIfInBounds_toArray, List.set_cons_zero, List.set_cons_succ, QO, QP]
       rfl
      refine one_ (i := 13) (N := some 39) #[true, true, true, true, true, true, true, true, true, true, true, true, true, true, false, false, false, false, false, false, false, false, false, false, false, false, false, false, false] rfl rfl (one_of HT_.out (by kernel_rfl)) (by decide) (fun K hK => ?_)
      refine goes_ Try.func15 (by kernel_rfl) rfl #[.slice Ao35 t292.length co35, .slice Ao46 y320.length co46] (by rfl) rfl rfl (by (try simp only [List.map_toArray, List.map_cons, List.map_nil]); first | done | rfl | (simp only [List.length_drop, List.length_take]; rfl)) ?_
      with_reducible refine (Qk.calls k _ _ t292 _ _ y320 true _ ?side1 ?side2 ?side3 ?side4 A9.out).mono ?_
      (case side1 => repeat (first | exact (Kd.Y9 HO294.out).2.2 | (with_reducible refine Kd.QT ?_ _) | (with_reducible refine Kd.QS ?_ _) | (with_reducible refine Kd.X6 ?_)))
      (case side2 => exact (Kd.Y9 HO294.out).2.1)
      (case side3 => repeat (first | exact (Kd.Y9 HO322.out).2.2 | (with_reducible refine Kd.QT ?_ _) | (with_reducible refine Kd.QS ?_ _) | (with_reducible refine Kd.X6 ?_)))
      (case side4 => exact (Kd.Y9 HO322.out).2.1)
      rintro e w' ⟨rfl, ⟨nd, rfl⟩⟩
      refine ⟨_, rfl, ?_⟩
      refine hK.out _ _ ⟨(Qz BK297.out 0).trans rfl, (Qz BK297.out 1).trans rfl, (Qz BK305.out 0).trans rfl, (Qz BK305.out 1).trans rfl, (Qz BK313.out 0).trans rfl, (Qz BK313.out 1).trans rfl⟩ (fun hHeld => ?_)
      clear hK K
      refine norm_ (a' := ?_) ?_ ?_
      rotate_left
      ·show Act.put _ (some 39) _ = _
       simp only [Act.put, List.setIfInBounds_toArray, List.set_cons_zero, List.set_cons_succ, QO, QP]
       rfl
      refine Xf (i := 14) (N := some 40) (v := ?_) (a' := ?_) #[true, true, true, true, true, true, true, true, true, true, true, true, true, true, true, false, false, false, false, false, false, false, false, false, false, false, false, false, false] rfl rfl (QX HT_.out (by kernel_rfl)) (fun _ _ _ h => h) (Or.inl ⟨by rfl, ?_⟩) ?_ ?_
      rotate_left
      ·intro w'
       go_simp
       with_reducible rfl
      rotate_left
      ·simp only [Act.put, List.setIfInBounds_toArray, List.set_cons_zero, List.set_cons_succ, QO, QP]
       rfl
      refine Xf (i := 15) (N := some 41) (v := ?_) (a' := ?_) #[true, true, true, true, true, true, true, true, true, true, true, true, true, true, true, true, false, false, false, false, false, false, false, false, false, false, false, false, false] rfl rfl (QX HT_.out (by kernel_rfl)) (fun _ _ _ h => h) (Or.inl ⟨by rfl, ?_⟩) ?_ ?_
      rotate_left
      ·intro w'
       go_simp
       with_reducible rfl
      rotate_left
      ·simp only [Act.put, List.setIfInBounds_toArray, List.set_cons_zero, List.set_cons_succ, QO, QP]
       rfl
      refine Xf (i := 16) (N := some 42) (v := ?_) (a' := ?_) #[true, true, true, true, true, true, true, true, true, true, true, true, true, true, true, true, true, false, false, false, false, false, false, false, false, false, false, false, false] rfl rfl (QX HT_.out (by kernel_rfl)) (fun _ _ _ h => h) (Or.inl ⟨by rfl, ?_⟩) ?_ ?_
      rotate_left
      ·intro w'
       go_simp
       with_reducible rfl
      rotate_left
      ·simp only [Act.put, List.setIfInBounds_toArray, List.set_cons_zero, List.set_cons_succ, QO, QP]
       rfl
      refine Xf (i := 17) (N := some 43) (v := ?_) (a' := ?_) #[true, true, true, true, true, true, true, true, true, true, true, true, true, true, true, true, true, true, false, false, false, false, false, false, false, false, false, false, false] rfl rfl (QX HT_.out (by kernel_rfl)) (fun _ _ _ h => h) (Or.inl ⟨by rfl, ?_⟩) ?_ ?_
      rotate_left
      ·intro w'
       go_simp
       with_reducible rfl
      rotate_left
      ·simp only [Act.put, List.setIfInBounds_toArray, List.set_cons_zero, List.set_cons_succ, QO, QP]
       rfl
      refine Xf (i := 18) (N := some 44) (v := ?_) (a' := ?_) #[true, true, true, true, true, true, true, true, true, true, true, true, true, true, true, true, true, true, true, false, false, false, false, false, false, false, false, false, false] rfl rfl (QX HT_.out (by kernel_rfl)) (fun _ _ _ h => h) (Or.inl ⟨by rfl, ?_⟩) ?_ ?_
      rotate_left
      ·intro w'
       go_simp
       with_reducible rfl
      rotate_left
      ·simp only [Act.put, List.setIfInBounds_toArray, List.set_cons_zero, List.set_cons_succ, QO, QP]
       rfl
      refine Xf (i := 19) (N := some 45) (v := ?_) (a' := ?_) #[true, true, true, true, true, true, true, true, true, true, true, true, true, true, true, true, true, true, true, true, false, false, false, false, false, false, false, false, false] rfl rfl (QX HT_.out (by kernel_rfl)) (fun _ _ _ h => h) (Or.inl ⟨by rfl, ?_⟩) ?_ ?_
      rotate_left
      ·intro w'
       go_simp
       with_reducible rfl
      rotate_left
      ·simp only [Act.put, List.setIfInBounds_toArray, List.set_cons_zero, List.set_cons_succ, QO, QP]
       rfl
      refine Xf (i := 20) (N := some 46) (v := ?_) (a' := ?_) #[true, true, true, true, true, true, true, true, true, true, true, true, true, true, true, true, true, true, true, true, true, false, false, false, false, false, false, false, false] rfl rfl (QX HT_.out (by kernel_rfl)) (fun _ _ _ h => h) (Or.inl ⟨by rfl, ?_⟩) ?_ ?_
      rotate_left
      ·intro w'
       go_simp
       with_reducible rfl
      rotate_left
      ·simp only [Act.put, List.setIfInBounds_toArray, List.set_cons_zero, List.set_cons_succ, QO, QP]
       rfl
      refine Xf (i := 21) (N := some 47) (v := ?_) (a' := ?_) #[true, true, true, true, true, true, true, true, true, true, true, true, true, true, true, true, true, true, true, true, true, true, false, false, false, false, false, false, false] rfl rfl (QX HT_.out (by kernel_rfl)) (fun _ _ _ h => h) (Or.inl ⟨by rfl, ?_⟩) ?_ ?_
      rotate_left
      ·intro w'
       go_simp
       with_reducible rfl
      rotate_left
      ·simp only [Act.put, List.setIfInBounds_toArray, List.set_cons_zero, List.set_cons_succ, QO, QP]
       rfl
      refine Xf (i := 22) (N := some 48) (v := ?_) (a' := ?_) #[true, true, true, true, true, true, true, true, true, true, true, true, true, true, true, true, true, true, true, true, true, true, true, false, false, false, false, false, false] rfl rfl (QX HT_.out (by kernel_rfl)) (fun _ _ _ h => h) (Or.inl ⟨by rfl, ?_⟩) ?_ ?_
      rotate_left
      ·intro w'
       go_simp
       with_reducible rfl
      rotate_left
      ·simp only [Act.put, List.setIfInBounds_toArray, List.set_cons_zero, List.set_cons_succ, QO, QP]
       rfl
      refine Xf (i := 23) (N := some 49) (v := ?_) (a' := ?_) #[true, true, true, true, true, true, true, true, true, true, true, true, true, true, true, true, true, true, true, true, true, true, true, true, false, false, false, false, false] rfl rfl (QX HT_.out (by kernel_rfl)) (fun _ _ _ h => h) (Or.inl ⟨by rfl, ?_⟩) ?_ ?_
      rotate_left
      ·intro w'
       go_simp
       with_reducible rfl
      rotate_left
      ·simp only [Act.put, List.setIfInBounds_toArray, List.set_cons_zero, List.set_cons_succ, QO, QP]
       rfl
      refine Yk (i := 24) (N := some 50) (v := ?_) (a' := ?_) #[true, true, true, true, true, true, true, true, true, true, true, true, true, true, true, true, true, true, true, true, true, true, true, true, true, false, false, false, false] rfl rfl (XU HT_.out HW_.out (by kernel_rfl)) (fun _ _ _ h => h) (Or.inl ⟨by rfl, ?_⟩) hHeld ?_ ?_
      rotate_left
      ·rintro w' ⟨s0, s1, s2, s3, s4, s5⟩
       go_simp
       with_reducible rfl
      rotate_left
      ·simp only [Act.put, List.setIfInBounds_toArray, List.set_cons_zero, List.set_cons_succ, QO, QP]
       rfl
      refine one_ (i := 25) (N := some 51) #[true, true, true, true, true, true, true, true, true, true, true, true, true, true, true, true, true, true, true, true, true, true, true, true, true, true, false, false, false] rfl rfl (one_of HT_.out (by kernel_rfl)) (by decide) (fun K hK => ?_)
      refine goes_ Try.func17 (by kernel_rfl) rfl #[.int .i64 6, .int .i64 (-2)] (by rfl) rfl rfl (by (try simp only [List.map_toArray, List.map_cons, List.map_nil]); first | done | rfl | (simp only [List.length_drop, List.length_take]; rfl)) ?_
      with_reducible refine (Xy.calls 6 (-2) t324 t325 _ A13.out).mono ?_
      rintro e w47 ⟨rfl, hb⟩
      refine ⟨_, rfl, ?_⟩
      have n0_ := Q0.mk (Kd.XH (by (with_reducible repeat (first | apply Kd.Xp | apply Kd.Xo | apply Kd.Xt)); exact HO291.out) hb)
      have n1_ := Q0.mk (Kd.XH (by (with_reducible repeat (first | apply Kd.Xp | apply Kd.Xo | apply Kd.Xt)); exact HO294.out) hb)
      have n2_ := Q0.mk (Kd.XH (by (with_reducible repeat (first | apply Kd.Xp | apply Kd.Xo | apply Kd.Xt)); exact HO300.out) hb)
      have n3_ := Q0.mk (Kd.XH (by (with_reducible repeat (first | apply Kd.Xp | apply Kd.Xo | apply Kd.Xt)); exact HO308.out) hb)
      have n4_ := Q0.mk (Kd.XH (by (with_reducible repeat (first | apply Kd.Xp | apply Kd.Xo | apply Kd.Xt)); exact HO322.out) hb)
      have n5_ := Q0.mk (Q9 (g := gb297) (o := .cells #[.int .i64 t295, .int .i64 t296] 24 (0, 0)) (by (with_reducible repeat (first | refine Q7 ?_ _ | refine Qa ?_ | refine Q8 ?_ _)); exact BK297.out) hb)
      have n6_ := Q0.mk (Q9 (g := gb305) (o := .cells #[.int .i64 t303, .int .i64 t304] 24 (0, 0)) (by (with_reducible repeat (first | refine Q7 ?_ _ | refine Qa ?_ | refine Q8 ?_ _)); exact BK305.out) hb)
      have n7_ := Q0.mk (Q9 (g := gb313) (o := .cells #[.int .i64 t311, .int .i64 t312] 24 (0, 0)) (by (with_reducible repeat (first | refine Q7 ?_ _ | refine Qa ?_ | refine Q8 ?_ _)); exact BK313.out) hb)
      have n8_ := Q0.mk (Qj (by repeat (first | exact HB.out | apply Q4 | apply Q2 | apply Q6 | refine Q1 ?_ GE297.out | refine Q1 ?_ GE305.out | refine Q1 ?_ GE313.out)) hb)
      clear HO291
      clear HO294
      clear HO300
      clear HO308
      clear HO322
      clear BK297
      clear BK305
      clear BK313
      clear HB
      have HO291 := n0_
      have HO294 := n1_
      have HO300 := n2_
      have HO308 := n3_
      have HO322 := n4_
      have BK297 := n5_
      have BK305 := n6_
      have BK313 := n7_
      have HB := n8_
      clear n0_ n1_ n2_ n3_ n4_ n5_ n6_ n7_ n8_
      (try clear hb)
      (try clear hb2)
      (try clear hk)
      (try clear hi)
      refine hK.out _ _ ⟨(Qz BK297.out 0).trans rfl, (Qz BK297.out 1).trans rfl, (Qz BK305.out 0).trans rfl, (Qz BK305.out 1).trans rfl, (Qz BK313.out 0).trans rfl, (Qz BK313.out 1).trans rfl⟩ (fun hHeld => ?_)
      clear hK K
      refine norm_ (a' := ?_) ?_ ?_
      rotate_left
      ·show Act.put _ (some 51) _ = _
       simp only [Act.put, List.setIfInBounds_toArray, List.set_cons_zero, List.set_cons_succ, QO, QP]
       rfl
      refine Xf (i := 26) (N := some 52) (v := ?_) (a' := ?_) #[true, true, true, true, true, true, true, true, true, true, true, true, true, true, true, true, true, true, true, true, true, true, true, true, true, true, true, false, false] rfl rfl (QX HT_.out (by kernel_rfl)) (fun _ _ _ h => h) (Or.inl ⟨by rfl, ?_⟩) ?_ ?_
      rotate_left
      ·intro w'
       go_simp
       with_reducible rfl
      rotate_left
      ·simp only [Act.put, List.setIfInBounds_toArray, List.set_cons_zero, List.set_cons_succ, QO, QP]
       rfl
      refine Xf (i := 27) (N := some 53) (v := ?_) (a' := ?_) #[true, true, true, true, true, true, true, true, true, true, true, true, true, true, true, true, true, true, true, true, true, true, true, true, true, true, true, true, false] rfl rfl (QX HT_.out (by kernel_rfl)) (fun _ _ _ h => h) (Or.inl ⟨by rfl, ?_⟩) ?_ ?_
      rotate_left
      ·intro w'
       go_simp
       with_reducible rfl
      rotate_left
      ·simp only [Act.put, List.setIfInBounds_toArray, List.set_cons_zero, List.set_cons_succ, QO, QP]
       rfl
      refine Xf (i := 28) (N := some 0) (v := ?_) (a' := ?_) #[true, true, true, true, true, true, true, true, true, true, true, true, true, true, true, true, true, true, true, true, true, true, true, true, true, true, true, true, true] rfl rfl (QX HT_.out (by kernel_rfl)) (fun _ _ _ h => h) (Or.inl ⟨by rfl, ?_⟩) ?_ ?_
      rotate_left
      ·intro w'
       go_simp
       with_reducible rfl
      rotate_left
      ·simp only [Act.put, List.setIfInBounds_toArray, List.set_cons_zero, List.set_cons_succ, QO, QP]
       rfl
      refine done_ (done_of HT_.out (by kernel_rfl)) ?_
      try go_wp2
      go_ret
      exact ⟨by first | rfl | (simp [*]; done), by repeat (first | exact HB.out | apply Q4 | apply Q2 | apply Q6 | refine Q1 ?_ GE297.out | refine Q1 ?_ GE305.out | refine Q1 ?_ GE313.out)⟩
     ·rw [if_neg c12] at H
      have c12b0 : (t302 == 0) = false := beq_eq_false_iff_ne.mpr c12
      have c12b1 : (t302 != 0) = true := bne_iff_ne.mpr c12
      exact absurd (Option.some.inj H) (by rw [HT.out]; decide)
    ·rw [if_neg c11] at H
     have c11b0 : (t301 == 0) = false := beq_eq_false_iff_ne.mpr c11
     have c11b1 : (t301 != 0) = true := bne_iff_ne.mpr c11
     exact absurd (Option.some.inj H) (by rw [HT.out]; decide)
   ·replace c10 := Bool.eq_false_iff.mpr c10
    subst c10
    rw [if_neg (show ¬ (false = true) by decide)] at H
    exact absurd (Option.some.inj H) (by rw [HT.out]; decide)
  ·rw [if_neg c8] at H
   have c8b0 : (t303 == 0) = false := beq_eq_false_iff_ne.mpr c8
   have c8b1 : (t303 != 0) = true := bne_iff_ne.mpr c8
   exact absurd (Option.some.inj H) (by rw [HT.out]; decide)
 ·rw [if_neg c7] at H
  have c7b0 : (t295 == 0) = false := beq_eq_false_iff_ne.mpr c7
  have c7b1 : (t295 != 0) = true := bne_iff_ne.mpr c7
  exact absurd (Option.some.inj H) (by rw [HT.out]; decide)
theorem chooses_only {k : Nat} {r : Bool} (h : Qr.f k = some r) : r = true := by
  have h1 : Qr.f 60 = some true := by kernel_rfl
  have a := at_rounds (g := fun k => Qr.f k) (fun k => Qr.mono k) (Nat.le_max_left k 60) h
  have b := at_rounds (g := fun k => Qr.f k) (fun k => Qr.mono k) (Nat.le_max_right k 60) h1
  exact Option.some.inj (a.symm.trans b)
theorem Qr.calls (k : Nat)  (r : Bool) (w : World) (h : Qr.f k  = some r) :
  Calls Try.prog 13 #[] w fun e w' => e = .returned (.bool r) ∧ Below w.heap.size w w' := Qr.callsT k r w h (chooses_only h)
end Go.Proofs.Ytakabkjhnncbhaa.PX
