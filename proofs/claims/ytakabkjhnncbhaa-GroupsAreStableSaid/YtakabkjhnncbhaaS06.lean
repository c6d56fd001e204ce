/- A part of the proof of a law: its words, walks of functions, or plain lemmas. -/
-- Written by this session's own programs (wip/printx.py, gen_*.py, assemble.py) and by hand.
import Derived.Test.YtakabkjhnncbhaaS01
import Derived.Test.YtakabkjhnncbhaaS03
import Derived.Test.YtakabkjhnncbhaaS05
namespace Go.Proofs.Ytakabkjhnncbhaa.PX
open Go.RowKit Go.Proofs.YtakabkjhnncbhaaW.PrintWords Go.Proofs.YtakabkjhnncbhaaW.PrintLast Go.Proofs.YtakabkjhnncbhaaW.PrintMore
attribute [local go_sem] Xk Xi Xs Xr X5 X4 Xj Xh   -- for this text's walks alone
set_option linter.unusedVariables false
set_option linter.unusedSimpArgs false
mutual
def Qp.j0 : Nat → Int → Bool → ByteArray → List (S89) → List (S61) → List (S49) → List ByteArray → List (S122) → ByteArray → ByteArray → Bool → Bool → Int → Int → Int → Int → Int → Option (Int)
 | 0, _, _, _, _, _, _, _, _, _, _, _, _, _, _, _, _, _ => none
 | k + 1, x1, x11, x163000, x163001, x163002, x163003, x163004, x163005, x165000, x165001, x165002, x165003, x165004, x165005, x165006, x165007, x165008 => if x11 = true then (some 12) else (if 0 ≤ x1 then (if x1 ≤ (x163002.length : Int) then ((Yf.f (x163002.take (x1 : Int).toNat) x165000).bind fun t171 => (if t171 = true then (some 7) else ((Qi.f x165004 1 3).bind fun t172 => (if t172 = true then ((Qi.f x165005 (-2) (wrap64 ((x163001.length : Int) - 1))).bind fun t173 => (if t173 = true then ((Qi.f x165008 0 (x163005.length : Int)).bind fun t174 => (if t174 = true then ((Qi.f x165007 0 1500).bind fun t175 => (Qp.j1 k (!t175) x163000 x163001 x163002 x163003 x163004 x163005 x165000 x165001 x165002 x165003 x165004 x165005 x165006 x165007 x165008)) else (Qp.j1 k true x163000 x163001 x163002 x163003 x163004 x163005 x165000 x165001 x165002 x165003 x165004 x165005 x165006 x165007 x165008))) else (Qp.j1 k true x163000 x163001 x163002 x163003 x163004 x163005 x165000 x165001 x165002 x165003 x165004 x165005 x165006 x165007 x165008))) else (some 4))))) else (none)) else (none))
def Qp.j1 : Nat → Bool → ByteArray → List (S89) → List (S61) → List (S49) → List ByteArray → List (S122) → ByteArray → ByteArray → Bool → Bool → Int → Int → Int → Int → Int → Option (Int)
 | 0, _, _, _, _, _, _, _, _, _, _, _, _, _, _, _, _ => none
 | k + 1, x39, x163000, x163001, x163002, x163003, x163004, x163005, x165000, x165001, x165002, x165003, x165004, x165005, x165006, x165007, x165008 => if x39 = true then (some 3) else (if x165005 = (-1) then (if x165004 = 1 then (Qp.j2 k true x163000 x163001 x163002 x163003 x163004 x163005 x165000 x165001 x165002 x165003 x165004 x165005 x165006 x165007 x165008) else (if x165002 = true then (Qp.j2 k true x163000 x163001 x163002 x163003 x163004 x163005 x165000 x165001 x165002 x165003 x165004 x165005 x165006 x165007 x165008) else (if x165003 = true then (Qp.j2 k true x163000 x163001 x163002 x163003 x163004 x163005 x165000 x165001 x165002 x165003 x165004 x165005 x165006 x165007 x165008) else (if x165006 = 0 then (Qp.j2 k (x165007 != 0) x163000 x163001 x163002 x163003 x163004 x163005 x165000 x165001 x165002 x165003 x165004 x165005 x165006 x165007 x165008) else (Qp.j2 k true x163000 x163001 x163002 x163003 x163004 x163005 x165000 x165001 x165002 x165003 x165004 x165005 x165006 x165007 x165008))))) else (Qp.j2 k false x163000 x163001 x163002 x163003 x163004 x163005 x165000 x165001 x165002 x165003 x165004 x165005 x165006 x165007 x165008))
def Qp.j2 : Nat → Bool → ByteArray → List (S89) → List (S61) → List (S49) → List ByteArray → List (S122) → ByteArray → ByteArray → Bool → Bool → Int → Int → Int → Int → Int → Option (Int)
 | 0, _, _, _, _, _, _, _, _, _, _, _, _, _, _, _, _ => none
 | k + 1, x63, x163000, x163001, x163002, x163003, x163004, x163005, x165000, x165001, x165002, x165003, x165004, x165005, x165006, x165007, x165008 => if x63 = true then (some 5) else (if x165005 = (-2) then ((Qi.f x165006 0 4294967295).bind fun t176 => (if t176 = true then (if x165005 ≥ 0 then (if 0 ≤ x165005 then (if x165005 < (x163001.length : Int) then ((Qi.f x165006 0 ((Qe x163001 x165005).f4)).bind fun t178 => (Qp.j3 k (!t178) x163000 x163001 x163002 x163003 x163004 x163005 x165000 x165001 x165002 x165003 x165004 x165005 x165006 x165007 x165008)) else (none)) else (none)) else (Qp.j3 k false x163000 x163001 x163002 x163003 x163004 x163005 x165000 x165001 x165002 x165003 x165004 x165005 x165006 x165007 x165008)) else (Qp.j3 k true x163000 x163001 x163002 x163003 x163004 x163005 x165000 x165001 x165002 x165003 x165004 x165005 x165006 x165007 x165008))) else (if x165005 ≥ 0 then (if 0 ≤ x165005 then (if x165005 < (x163001.length : Int) then ((Qi.f x165006 0 ((Qe x163001 x165005).f4)).bind fun t180 => (Qp.j3 k (!t180) x163000 x163001 x163002 x163003 x163004 x163005 x165000 x165001 x165002 x165003 x165004 x165005 x165006 x165007 x165008)) else (none)) else (none)) else (Qp.j3 k false x163000 x163001 x163002 x163003 x163004 x163005 x165000 x165001 x165002 x165003 x165004 x165005 x165006 x165007 x165008)))
def Qp.j3 : Nat → Bool → ByteArray → List (S89) → List (S61) → List (S49) → List ByteArray → List (S122) → ByteArray → ByteArray → Bool → Bool → Int → Int → Int → Int → Int → Option (Int)
 | 0, _, _, _, _, _, _, _, _, _, _, _, _, _, _, _, _ => none
 | k + 1, x90, x163000, x163001, x163002, x163003, x163004, x163005, x165000, x165001, x165002, x165003, x165004, x165005, x165006, x165007, x165008 => if x90 = true then (some 3) else (if x165005 ≥ 0 then (if 0 ≤ x165005 then (if x165005 < (x163001.length : Int) then (if (wrap64 (x165006 + x165007)) > ((Qe x163001 x165005).f4) then (some 5) else (if x165004 = 1 then (if x165001.toList = ([] : List UInt8) then (if x165002 = true then (some 5) else (if x165003 = true then (some 5) else (some 0))) else (some 5)) else (if x165002 = true then (if x165001.toList = ([] : List UInt8) then (some 5) else (some 0)) else (some 0)))) else (none)) else (none)) else (if x165004 = 1 then (if x165001.toList = ([] : List UInt8) then (if x165002 = true then (some 5) else (if x165003 = true then (some 5) else (some 0))) else (some 5)) else (if x165002 = true then (if x165001.toList = ([] : List UInt8) then (some 5) else (some 0)) else (some 0))))
end
def Qp.f (k : Nat) (a0_0 : ByteArray) (l0_1 : List (S89)) (l0_2 : List (S61)) (l0_3 : List (S49)) (l0_4 : List ByteArray) (l0_5 : List (S122)) (a1 : Int) : Option (Int) := if 0 ≤ a1 then (if a1 < (l0_2.length : Int) then ((Qn.f k ((Qb l0_2 a1).f0)).bind fun t165 => (if t165 = true then (if ((Qb l0_2 a1).f1).toList = ([] : List UInt8) then (Qp.j0 k a1 false a0_0 l0_1 l0_2 l0_3 l0_4 l0_5 ((Qb l0_2 a1).f0) ((Qb l0_2 a1).f1) ((Qb l0_2 a1).f2) ((Qb l0_2 a1).f3) ((Qb l0_2 a1).f4) ((Qb l0_2 a1).f5) ((Qb l0_2 a1).f6) ((Qb l0_2 a1).f7) ((Qb l0_2 a1).f8)) else ((Qn.f k ((Qb l0_2 a1).f1)).bind fun t166 => (Qp.j0 k a1 (!t166) a0_0 l0_1 l0_2 l0_3 l0_4 l0_5 ((Qb l0_2 a1).f0) ((Qb l0_2 a1).f1) ((Qb l0_2 a1).f2) ((Qb l0_2 a1).f3) ((Qb l0_2 a1).f4) ((Qb l0_2 a1).f5) ((Qb l0_2 a1).f6) ((Qb l0_2 a1).f7) ((Qb l0_2 a1).f8)))) else (Qp.j0 k a1 true a0_0 l0_1 l0_2 l0_3 l0_4 l0_5 ((Qb l0_2 a1).f0) ((Qb l0_2 a1).f1) ((Qb l0_2 a1).f2) ((Qb l0_2 a1).f3) ((Qb l0_2 a1).f4) ((Qb l0_2 a1).f5) ((Qb l0_2 a1).f6) ((Qb l0_2 a1).f7) ((Qb l0_2 a1).f8)))) else (none)) else (none)
theorem Qp.Xn : ∀ k, (∀ y0 y1 y2 y3 y4 y5 y6 y7 y8 y9 y10 y11 y12 y13 y14 y15 y16, LeO (Qp.j0 k y0 y1 y2 y3 y4 y5 y6 y7 y8 y9 y10 y11 y12 y13 y14 y15 y16) (Qp.j0 (k + 1) y0 y1 y2 y3 y4 y5 y6 y7 y8 y9 y10 y11 y12 y13 y14 y15 y16)) ∧ (∀ y0 y1 y2 y3 y4 y5 y6 y7 y8 y9 y10 y11 y12 y13 y14 y15, LeO (Qp.j1 k y0 y1 y2 y3 y4 y5 y6 y7 y8 y9 y10 y11 y12 y13 y14 y15) (Qp.j1 (k + 1) y0 y1 y2 y3 y4 y5 y6 y7 y8 y9 y10 y11 y12 y13 y14 y15)) ∧ (∀ y0 y1 y2 y3 y4 y5 y6 y7 y8 y9 y10 y11 y12 y13 y14 y15, LeO (Qp.j2 k y0 y1 y2 y3 y4 y5 y6 y7 y8 y9 y10 y11 y12 y13 y14 y15) (Qp.j2 (k + 1) y0 y1 y2 y3 y4 y5 y6 y7 y8 y9 y10 y11 y12 y13 y14 y15)) ∧ (∀ y0 y1 y2 y3 y4 y5 y6 y7 y8 y9 y10 y11 y12 y13 y14 y15, LeO (Qp.j3 k y0 y1 y2 y3 y4 y5 y6 y7 y8 y9 y10 y11 y12 y13 y14 y15) (Qp.j3 (k + 1) y0 y1 y2 y3 y4 y5 y6 y7 y8 y9 y10 y11 y12 y13 y14 y15))
 | 0 => ⟨fun _ _ _ _ _ _ _ _ _ _ _ _ _ _ _ _ _ r h => by simp [Qp.j0] at h, fun _ _ _ _ _ _ _ _ _ _ _ _ _ _ _ _ r h => by simp [Qp.j1] at h, fun _ _ _ _ _ _ _ _ _ _ _ _ _ _ _ _ r h => by simp [Qp.j2] at h, fun _ _ _ _ _ _ _ _ _ _ _ _ _ _ _ _ r h => by simp [Qp.j3] at h⟩
 | k + 1 => by
  obtain ⟨ih0, ih1, ih2, ih3⟩ := Qp.Xn k
  refine ⟨?_, ?_, ?_, ?_⟩
  ·intro y0 y1 y2 y3 y4 y5 y6 y7 y8 y9 y10 y11 y12 y13 y14 y15 y16
   unfold Qp.j0
   repeat' first
   | (with_reducible exact ih0 _ _ _ _ _ _ _ _ _ _ _ _ _ _ _ _ _)
   | (with_reducible exact ih1 _ _ _ _ _ _ _ _ _ _ _ _ _ _ _ _)
   | (with_reducible exact ih2 _ _ _ _ _ _ _ _ _ _ _ _ _ _ _ _)
   | (with_reducible exact ih3 _ _ _ _ _ _ _ _ _ _ _ _ _ _ _ _)
   | (with_reducible exact Qn.mono _ _)
   | (with_reducible exact LeO.refl _)
   | (with_reducible exact LeO.none _)
   | (with_reducible refine LeO.ite ?_ ?_)
   | (with_reducible refine LeO.bind ?_ (fun _ => ?_))
  ·intro y0 y1 y2 y3 y4 y5 y6 y7 y8 y9 y10 y11 y12 y13 y14 y15
   unfold Qp.j1
   repeat' first
   | (with_reducible exact ih0 _ _ _ _ _ _ _ _ _ _ _ _ _ _ _ _ _)
   | (with_reducible exact ih1 _ _ _ _ _ _ _ _ _ _ _ _ _ _ _ _)
   | (with_reducible exact ih2 _ _ _ _ _ _ _ _ _ _ _ _ _ _ _ _)
   | (with_reducible exact ih3 _ _ _ _ _ _ _ _ _ _ _ _ _ _ _ _)
   | (with_reducible exact Qn.mono _ _)
   | (with_reducible exact LeO.refl _)
   | (with_reducible exact LeO.none _)
   | (with_reducible refine LeO.ite ?_ ?_)
   | (with_reducible refine LeO.bind ?_ (fun _ => ?_))
  ·intro y0 y1 y2 y3 y4 y5 y6 y7 y8 y9 y10 y11 y12 y13 y14 y15
   unfold Qp.j2
   repeat' first
   | (with_reducible exact ih0 _ _ _ _ _ _ _ _ _ _ _ _ _ _ _ _ _)
   | (with_reducible exact ih1 _ _ _ _ _ _ _ _ _ _ _ _ _ _ _ _)
   | (with_reducible exact ih2 _ _ _ _ _ _ _ _ _ _ _ _ _ _ _ _)
   | (with_reducible exact ih3 _ _ _ _ _ _ _ _ _ _ _ _ _ _ _ _)
   | (with_reducible exact Qn.mono _ _)
   | (with_reducible exact LeO.refl _)
   | (with_reducible exact LeO.none _)
   | (with_reducible refine LeO.ite ?_ ?_)
   | (with_reducible refine LeO.bind ?_ (fun _ => ?_))
  ·intro y0 y1 y2 y3 y4 y5 y6 y7 y8 y9 y10 y11 y12 y13 y14 y15
   unfold Qp.j3
   repeat' first
   | (with_reducible exact ih0 _ _ _ _ _ _ _ _ _ _ _ _ _ _ _ _ _)
   | (with_reducible exact ih1 _ _ _ _ _ _ _ _ _ _ _ _ _ _ _ _)
   | (with_reducible exact ih2 _ _ _ _ _ _ _ _ _ _ _ _ _ _ _ _)
   | (with_reducible exact ih3 _ _ _ _ _ _ _ _ _ _ _ _ _ _ _ _)
   | (with_reducible exact Qn.mono _ _)
   | (with_reducible exact LeO.refl _)
   | (with_reducible exact LeO.none _)
   | (with_reducible refine LeO.ite ?_ ?_)
   | (with_reducible refine LeO.bind ?_ (fun _ => ?_))
theorem Qp.mono : ∀ a0 a1 a2 a3 a4 a5 a6 k, LeO (Qp.f k a0 a1 a2 a3 a4 a5 a6) (Qp.f (k + 1) a0 a1 a2 a3 a4 a5 a6) := by
 intro a0 a1 a2 a3 a4 a5 a6 k
 obtain ⟨ih0, ih1, ih2, ih3⟩ := Qp.Xn k
 unfold Qp.f
 repeat' first
   | (with_reducible exact ih0 _ _ _ _ _ _ _ _ _ _ _ _ _ _ _ _ _)
   | (with_reducible exact ih1 _ _ _ _ _ _ _ _ _ _ _ _ _ _ _ _)
   | (with_reducible exact ih2 _ _ _ _ _ _ _ _ _ _ _ _ _ _ _ _)
   | (with_reducible exact ih3 _ _ _ _ _ _ _ _ _ _ _ _ _ _ _ _)
   | (with_reducible exact Qn.mono _ _)
   | (with_reducible exact LeO.refl _)
   | (with_reducible exact LeO.none _)
   | (with_reducible refine LeO.ite ?_ ?_)
   | (with_reducible refine LeO.bind ?_ (fun _ => ?_))
set_option maxHeartbeats 60000000 in
set_option maxRecDepth 100000 in
theorem Qp.calls (k : Nat) (a0_0 : ByteArray) (A0_1 : Option Addr) (c0_1 : Nat) (l0_1 : List (S89)) (A0_2 : Option Addr) (c0_2 : Nat) (l0_2 : List (S61)) (A0_3 : Option Addr) (c0_3 : Nat) (l0_3 : List (S49)) (A0_4 : Option Addr) (c0_4 : Nat) (l0_4 : List ByteArray) (A0_5 : Option Addr) (c0_5 : Nat) (l0_5 : List (S122)) (a1 : Int) (r : Int) (w : World) (hr0_1 : Kd.C k89 w A0_1 l0_1.length l0_1) (hc0_1 : l0_1.length ≤ c0_1) (hr0_2 : Kd.C k61 w A0_2 l0_2.length l0_2) (hc0_2 : l0_2.length ≤ c0_2) (hr0_3 : Kd.C k49 w A0_3 l0_3.length l0_3) (hc0_3 : l0_3.length ≤ c0_3) (hr0_4 : Kd.C Kd.string w A0_4 l0_4.length l0_4) (hc0_4 : l0_4.length ≤ c0_4) (hr0_5 : Kd.C k122 w A0_5 l0_5.length l0_5) (hc0_5 : l0_5.length ≤ c0_5) (h : Qp.f k a0_0 l0_1 l0_2 l0_3 l0_4 l0_5 a1 = some r) :
  Calls Try.prog 51 #[.agg #[.string a0_0, .slice A0_1 l0_1.length c0_1, .slice A0_2 l0_2.length c0_2, .slice A0_3 l0_3.length c0_3, .slice A0_4 l0_4.length c0_4, .slice A0_5 l0_5.length c0_5], .int .i64 a1] w fun e w' => e = .returned (.int .i64 r) ∧ Below w.heap.size w w' := by
 have hu46 := Try.underlying46
 have hu61 := Try.underlying61
 have HR0_1 := Q0.mk hr0_1
 have HC0_1 := Q0.mk hc0_1
 clear hr0_1 hc0_1
 have HR0_2 := Q0.mk hr0_2
 have HC0_2 := Q0.mk hc0_2
 clear hr0_2 hc0_2
 have HR0_3 := Q0.mk hr0_3
 have HC0_3 := Q0.mk hc0_3
 clear hr0_3 hc0_3
 have HR0_4 := Q0.mk hr0_4
 have HC0_4 := Q0.mk hc0_4
 clear hr0_4 hc0_4
 have HR0_5 := Q0.mk hr0_5
 have HC0_5 := Q0.mk hc0_5
 clear hr0_5 hc0_5
 have HB := Q0.mk (Below.refl w.heap.size w)
 have H := h
 clear h
 unfold Qp.f at H
 try dsimp only at H
 by_cases c3 : 0 ≤ a1
 ·rw [if_pos c3] at H
  have c3b0 : decide (0 ≤ a1) = true := decide_eq_true c3
  clear c3
  by_cases c4 : a1 < (l0_2.length : Int)
  ·rw [if_pos c4] at H
   have c4b0 : decide (a1 < (l0_2.length : Int)) = true := decide_eq_true c4
   clear c4
   have HC5 := Q0.mk H
   clear H
   go_enter Try.func51, Try.ntmps51
   go_upto_region 2 with (first | ((with_reducible refine QN (N := 2) rfl ?_); (try (refine Xx (by rfl) ?_; dsimp only)); refine QK ?hg (N := 2) ?hd (cs := #[.string a0_0, .slice A0_1 l0_1.length c0_1, .slice A0_2 l0_2.length c0_2, .slice A0_3 l0_3.length c0_3, .slice A0_4 l0_4.length c0_4, .slice A0_5 l0_5.length c0_5]) (t := 46) ?hr ?_; (case hd => rfl); (case hg => rfl); (case hr => first | (go_simp; done) | (go_simp; rfl)); intro gb162 hg w6 hbox hb; have BK162 := Q0.mk (hbox); have GW162 := Q0.mk ((by rw [hg]; exact (Qg HB.out) : w.heap.size ≤ gb162)); have GE162 := Q0.mk ((by rw [hg]; exact (Qg HB.out) : w.heap.size ≤ gb162)); replace HB := Q0.mk (Qj HB.out hb); clear hb hbox hg; obtain ⟨hcz7_0, hcz7_1, hcz7_2, hcz7_3, hcz7_4, hcz7_5⟩ := QE BK162.out; obtain ⟨hfz7_0, hfz7_1, hfz7_2, hfz7_3, hfz7_4, hfz7_5⟩ := QR BK162.out; have p163 : 0 ≤ (a1 : Int) := of_decide_eq_true ‹_›; have q163 : a1 < (l0_2.length : Int) := of_decide_eq_true ‹_›; obtain ⟨ad163, e163, hx163_0, hx163_1, hx163_2, hx163_3, hx163_4, hx163_5, hx163_6, hx163_7, hx163_8⟩ := at_T61 HR0_2.out a1 p163 q163; cases e163; replace hx163_0 := cup HB.out hx163_0; replace hx163_1 := cup HB.out hx163_1; replace hx163_2 := cup HB.out hx163_2; replace hx163_3 := cup HB.out hx163_3; replace hx163_4 := cup HB.out hx163_4; replace hx163_5 := cup HB.out hx163_5; replace hx163_6 := cup HB.out hx163_6; replace hx163_7 := cup HB.out hx163_7; replace hx163_8 := cup HB.out hx163_8; replace p163 := eq_true p163; replace q163 := eq_true q163) | ((with_reducible refine QN (N := 5) rfl ?_); (try (refine Xx (by rfl) ?_; dsimp only)); refine QK ?hg (N := 5) ?hd (cs := #[.string (⟨#[]⟩ : ByteArray), .string (⟨#[]⟩ : ByteArray), .bool false, .bool false, .int .i64 0, .int .i64 0, .int .i64 0, .int .i64 0, .int .i64 0]) (t := 61) ?hr ?_; (case hd => rfl); (case hg => rfl); (case hr => first | (go_simp; done) | (go_simp; rfl)); intro gb164 hg w8 hbox hb; have BK164 := Q0.mk (hbox); have GW164 := Q0.mk ((by rw [hg]; exact (Qg HB.out) : w.heap.size ≤ gb164)); have GE164 := Q0.mk ((by rw [hg]; exact (Qg HB.out) : w.heap.size ≤ gb164)); have NB162_164 := Q0.mk ((by rw [hg]; exact Nat.ne_of_lt (Qy BK162.out) : gb162 ≠ gb164)); have NB164_162 := Q0.mk ((by rw [hg]; exact Nat.ne_of_gt (Qy BK162.out) : gb164 ≠ gb162)); replace BK162 := Q0.mk (Q9 BK162.out hb); replace HB := Q0.mk (Qj HB.out hb); clear hb hbox hg; have hnb9 := NB164_162.out; have hnc9 := NB162_164.out; obtain ⟨hcz10_0, hcz10_1, hcz10_2, hcz10_3, hcz10_4, hcz10_5, hcz10_6, hcz10_7, hcz10_8⟩ := Xg BK164.out; obtain ⟨hfz10_0, hfz10_1, hfz10_2, hfz10_3, hfz10_4, hfz10_5, hfz10_6, hfz10_7, hfz10_8⟩ := Ys BK164.out) | ((with_reducible refine QD (t := 61) (p := 5) rfl ?_); (try (rw [drewN_self w8]; generalize hq_ : World.drewN w8 _ = w8; replace BK162 := Q0.mk (blk_at hq_ BK162.out); replace BK164 := Q0.mk (blk_at hq_ BK164.out); replace HB := Q0.mk (below_at hq_ HB.out); clear hq_)); refine Qw (t := 61) (p := 5) (v := ?vo_w11) (w1 := (((((((((w8.setCell ⟨gb164, 0, none⟩ (.string ((Qb l0_2 a1).f0))).setCell ⟨gb164, 1, none⟩ (.string ((Qb l0_2 a1).f1))).setCell ⟨gb164, 2, none⟩ (.bool ((Qb l0_2 a1).f2))).setCell ⟨gb164, 3, none⟩ (.bool ((Qb l0_2 a1).f3))).setCell ⟨gb164, 4, none⟩ (.int .i64 ((Qb l0_2 a1).f4))).setCell ⟨gb164, 5, none⟩ (.int .i64 ((Qb l0_2 a1).f5))).setCell ⟨gb164, 6, none⟩ (.int .i64 ((Qb l0_2 a1).f6))).setCell ⟨gb164, 7, none⟩ (.int .i64 ((Qb l0_2 a1).f7))).setCell ⟨gb164, 8, none⟩ (.int .i64 ((Qb l0_2 a1).f8)))) ?hg ?ho ?hn ?hr ?_; (case ho => rfl); (case hg => rfl); (case hn => rfl); (case hr => first | (go_simp; done) | (go_simp; rfl)); intro w11 hw; replace BK162 := Q0.mk (far9 hw BK162.out NB162_164.out); replace BK164 := Q0.mk (put9 hw BK164.out); replace HB := Q0.mk (bel9 hw HB.out GE164.out); clear hw))
   repeat (go_quiet (fail); go_upto_region 2 with (fail))
   (try simp only [Act.put, List.setIfInBounds_toArray, List.set_cons_zero, List.set_cons_succ])
   go_cut [11] (fun v11 wc => ∃ (kq : Nat) (x11_4 : Bool), v11 = .bool x11_4 ∧ Q0 (Qp.j0 kq a1 x11_4 a0_0 l0_1 l0_2 l0_3 l0_4 l0_5 ((Qb l0_2 a1).f0) ((Qb l0_2 a1).f1) ((Qb l0_2 a1).f2) ((Qb l0_2 a1).f3) ((Qb l0_2 a1).f4) ((Qb l0_2 a1).f5) ((Qb l0_2 a1).f6) ((Qb l0_2 a1).f7) ((Qb l0_2 a1).f8) = some r) ∧ Q0 (kq ≤ k) ∧ Q0 (wc.heap[gb162]? = some (.cells #[.string a0_0, (.slice A0_1 l0_1.length c0_1), (.slice (some ad163) l0_2.length c0_2), (.slice A0_3 l0_3.length c0_3), (.slice A0_4 l0_4.length c0_4), (.slice A0_5 l0_5.length c0_5)] 46 (0, 0))) ∧ Q0 (wc.heap[gb164]? = some (.cells #[.string ((Qb l0_2 a1).f0), .string ((Qb l0_2 a1).f1), .bool ((Qb l0_2 a1).f2), .bool ((Qb l0_2 a1).f3), .int .i64 ((Qb l0_2 a1).f4), .int .i64 ((Qb l0_2 a1).f5), .int .i64 ((Qb l0_2 a1).f6), .int .i64 ((Qb l0_2 a1).f7), .int .i64 ((Qb l0_2 a1).f8)] 61 (0, 0))) ∧ Q0 (Below w.heap.size w wc))
   case first => as_aux_lemma =>
    have H := HC5.out
    clear HC5
    replace H := Option.bind_eq_some_iff.mp H
    obtain ⟨t165, A120, H⟩ := H
    try dsimp only at H
    have A12 := Q0.mk A120
    clear A120
    by_cases c13 : t165 = true
    ·subst c13
     rw [if_pos rfl] at H
     by_cases c14 : ((Qb l0_2 a1).f1).toList = ([] : List UInt8)
     ·rw [if_pos c14] at H
      have c14b0 : (((Qb l0_2 a1).f1).toList == ([] : List UInt8)) = true := beq_iff_eq.mpr c14
      have c14b1 : (((Qb l0_2 a1).f1).toList != ([] : List UInt8)) = false := bne_eq_false_iff_eq.mpr c14
      clear c14
      (first | rw [c14b0] | (simp only [QO, QP]; rw [c14b0]) | skip)
      have H' := Q0.mk H
      clear H
      have hnb15 := NB164_162.out
      have hnc15 := NB162_164.out
      obtain ⟨hcz16_0, hcz16_1, hcz16_2, hcz16_3, hcz16_4, hcz16_5, hcz16_6, hcz16_7, hcz16_8⟩ := Xg BK164.out
      go_wp2_with (first | (go_at_call 43; (with_reducible refine (Qn.calls k ((Qb l0_2 a1).f0) true _ A12.out).mono ?_); rintro e w' ⟨rfl, ⟨nd, rfl⟩⟩; (try first | exact ⟨rfl, _, World.drewN_drewN _ _ _⟩ | exact ⟨rfl, _, Eq.trans (World.drewN_drewN _ _ _) (congrArg (World.drewN _) (Nat.add_assoc _ _ _))⟩)))
      repeat (go_quiet (fail); try go_wp2)
      go_meet
      case rel => exact ⟨_, (false), (by first | rfl | (simp [*]; done)), H', ⟨by first | omega | exact Nat.le_refl _⟩, ⟨by (with_reducible repeat (first | refine Q7 ?_ _ | refine Qa ?_ | refine Q8 ?_ _)); exact BK162.out⟩, ⟨by (with_reducible repeat (first | refine Q7 ?_ _ | refine Qa ?_ | refine Q8 ?_ _)); exact BK164.out⟩, ⟨by repeat (first | exact HB.out | apply Q4 | apply Q2 | apply Q6 | refine Q1 ?_ GE162.out | refine Q1 ?_ GE164.out)⟩⟩
     ·rw [if_neg c14] at H
      have c14b0 : (((Qb l0_2 a1).f1).toList == ([] : List UInt8)) = false := beq_eq_false_iff_ne.mpr c14
      have c14b1 : (((Qb l0_2 a1).f1).toList != ([] : List UInt8)) = true := bne_iff_ne.mpr c14
      (first | rw [c14b0] | (simp only [QO, QP]; rw [c14b0]) | skip)
      replace H := Option.bind_eq_some_iff.mp H
      obtain ⟨t166, A170, H⟩ := H
      try dsimp only at H
      have A17 := Q0.mk A170
      clear A170
      have H' := Q0.mk H
      clear H
      have hnb18 := NB164_162.out
      have hnc18 := NB162_164.out
      obtain ⟨hcz19_0, hcz19_1, hcz19_2, hcz19_3, hcz19_4, hcz19_5, hcz19_6, hcz19_7, hcz19_8⟩ := Xg BK164.out
      go_wp2_with (first | (go_at_call 43; (with_reducible refine (Qn.calls k ((Qb l0_2 a1).f0) true _ A12.out).mono ?_); rintro e w' ⟨rfl, ⟨nd, rfl⟩⟩; (try first | exact ⟨rfl, _, World.drewN_drewN _ _ _⟩ | exact ⟨rfl, _, Eq.trans (World.drewN_drewN _ _ _) (congrArg (World.drewN _) (Nat.add_assoc _ _ _))⟩)) | (go_at_call 43; (with_reducible refine (Qn.calls k ((Qb l0_2 a1).f1) t166 _ A17.out).mono ?_); rintro e w' ⟨rfl, ⟨nd, rfl⟩⟩; (try first | exact ⟨rfl, _, World.drewN_drewN _ _ _⟩ | exact ⟨rfl, _, Eq.trans (World.drewN_drewN _ _ _) (congrArg (World.drewN _) (Nat.add_assoc _ _ _))⟩)))
      repeat (go_quiet (fail); try go_wp2)
      go_meet
      case rel => exact ⟨_, (!t166), (by first | rfl | (simp [*]; done)), H', ⟨by first | omega | exact Nat.le_refl _⟩, ⟨by (with_reducible repeat (first | refine Q7 ?_ _ | refine Qa ?_ | refine Q8 ?_ _)); exact BK162.out⟩, ⟨by (with_reducible repeat (first | refine Q7 ?_ _ | refine Qa ?_ | refine Q8 ?_ _)); exact BK164.out⟩, ⟨by repeat (first | exact HB.out | apply Q4 | apply Q2 | apply Q6 | refine Q1 ?_ GE162.out | refine Q1 ?_ GE164.out)⟩⟩
    ·replace c13 := Bool.eq_false_iff.mpr c13
     subst c13
     rw [if_neg (show ¬ (false = true) by decide)] at H
     have H' := Q0.mk H
     clear H
     have hnb20 := NB164_162.out
     have hnc20 := NB162_164.out
     obtain ⟨hcz21_0, hcz21_1, hcz21_2, hcz21_3, hcz21_4, hcz21_5, hcz21_6, hcz21_7, hcz21_8⟩ := Xg BK164.out
     go_wp2_with (first | (go_at_call 43; (with_reducible refine (Qn.calls k ((Qb l0_2 a1).f0) false _ A12.out).mono ?_); rintro e w' ⟨rfl, ⟨nd, rfl⟩⟩; (try first | exact ⟨rfl, _, World.drewN_drewN _ _ _⟩ | exact ⟨rfl, _, Eq.trans (World.drewN_drewN _ _ _) (congrArg (World.drewN _) (Nat.add_assoc _ _ _))⟩)))
     repeat (go_quiet (fail); try go_wp2)
     go_meet
     case rel => exact ⟨_, (true), (by first | rfl | (simp [*]; done)), H', ⟨by first | omega | exact Nat.le_refl _⟩, ⟨by (with_reducible repeat (first | refine Q7 ?_ _ | refine Qa ?_ | refine Q8 ?_ _)); exact BK162.out⟩, ⟨by (with_reducible repeat (first | refine Q7 ?_ _ | refine Qa ?_ | refine Q8 ?_ _)); exact BK164.out⟩, ⟨by repeat (first | exact HB.out | apply Q4 | apply Q2 | apply Q6 | refine Q1 ?_ GE162.out | refine Q1 ?_ GE164.out)⟩⟩
   case rest =>
    clear HC5
    try clear c1
    try clear p1
    try clear q1
    try clear hx1
    try clear c2
    try clear p2
    try clear c3
    try clear c3b0
    try clear c4
    try clear c4b0
    try clear c5
    try clear c9
    try clear c13
    try clear c14
    try clear c14b0
    try clear c14b1
    try clear c15
    try clear p16
    try clear q16
    try clear hx16
    try clear c18
    try clear c20
    try clear hx163_0
    try clear hx163_1
    try clear hx163_2
    try clear hx163_3
    try clear hx163_4
    try clear hx163_5
    try clear hx163_6
    try clear hx163_7
    try clear hx163_8
    try clear p163
    try clear q163
    obtain ⟨kq, x11_4, rfl, HA, HJ4, BK162, BK164, HB⟩ := hcut
    cases kq with
    | zero => exact absurd HA.out (by simp [Qp.j0])
    | succ kj4 =>
     have H := HA.out
     clear HA
     simp only [Qp.j0] at H
     by_cases c22 : x11_4 = true
     ·subst c22
      rw [if_pos rfl] at H
      obtain rfl := Option.some.inj H
      go_wp2
      repeat (go_quiet (fail); try go_wp2)
      go_ret
      exact ⟨by first | rfl | (simp [*]; done), by repeat (first | exact HB.out | apply Q4 | apply Q2 | apply Q6 | refine Q1 ?_ GE162.out | refine Q1 ?_ GE164.out)⟩
     ·replace c22 := Bool.eq_false_iff.mpr c22
      subst c22
      rw [if_neg (show ¬ (false = true) by decide)] at H
      by_cases c23 : 0 ≤ a1
      ·rw [if_pos c23] at H
       have c23b0 := eq_true c23
       have c23b1 : decide (0 ≤ a1) = true := decide_eq_true c23
       clear c23
       by_cases c24 : a1 ≤ (l0_2.length : Int)
       ·rw [if_pos c24] at H
        have c24b0 := eq_true c24
        have c24b1 : decide (a1 ≤ (l0_2.length : Int)) = true := decide_eq_true c24
        clear c24
        obtain ⟨y167, hy167⟩ : ∃ y_ : List (S61), y_ = (l0_2.take (a1 : Int).toNat) := ⟨_, rfl⟩
        replace H : ((Yf.f y167 ((Qb l0_2 a1).f0)).bind fun t171 => (if t171 = true then (some 7) else ((Qi.f ((Qb l0_2 a1).f4) 1 3).bind fun t172 => (if t172 = true then ((Qi.f ((Qb l0_2 a1).f5) (-2) (wrap64 ((l0_1.length : Int) - 1))).bind fun t173 => (if t173 = true then ((Qi.f ((Qb l0_2 a1).f8) 0 (l0_5.length : Int)).bind fun t174 => (if t174 = true then ((Qi.f ((Qb l0_2 a1).f7) 0 1500).bind fun t175 => (Qp.j1 kj4 (!t175) a0_0 l0_1 l0_2 l0_3 l0_4 l0_5 ((Qb l0_2 a1).f0) ((Qb l0_2 a1).f1) ((Qb l0_2 a1).f2) ((Qb l0_2 a1).f3) ((Qb l0_2 a1).f4) ((Qb l0_2 a1).f5) ((Qb l0_2 a1).f6) ((Qb l0_2 a1).f7) ((Qb l0_2 a1).f8))) else (Qp.j1 kj4 true a0_0 l0_1 l0_2 l0_3 l0_4 l0_5 ((Qb l0_2 a1).f0) ((Qb l0_2 a1).f1) ((Qb l0_2 a1).f2) ((Qb l0_2 a1).f3) ((Qb l0_2 a1).f4) ((Qb l0_2 a1).f5) ((Qb l0_2 a1).f6) ((Qb l0_2 a1).f7) ((Qb l0_2 a1).f8)))) else (Qp.j1 kj4 true a0_0 l0_1 l0_2 l0_3 l0_4 l0_5 ((Qb l0_2 a1).f0) ((Qb l0_2 a1).f1) ((Qb l0_2 a1).f2) ((Qb l0_2 a1).f3) ((Qb l0_2 a1).f4) ((Qb l0_2 a1).f5) ((Qb l0_2 a1).f6) ((Qb l0_2 a1).f7) ((Qb l0_2 a1).f8)))) else (some 4))))) = some r := by first | (rw [hy167]; with_reducible exact H) | (have H2_ := (Option.bind_some _ _).symm.trans H; rw [hy167]; with_reducible exact H2_) | (have H2_ := (Option.bind_some _ _).symm.trans H; with_reducible exact H2_) | with_reducible exact H | (rw [hy167]; exact H) | exact H
        have Ny167 := Q0.mk hy167
        clear hy167
        replace H := Option.bind_eq_some_iff.mp H
        obtain ⟨t171, A250, H⟩ := H
        try dsimp only at H
        have A25 := Q0.mk A250
        clear A250
        by_cases c26 : t171 = true
        ·subst c26
         rw [if_pos rfl] at H
         obtain rfl := Option.some.inj H
         have hnb27 := NB162_164.out
         have hnc27 := NB164_162.out
         obtain ⟨hcz28_0, hcz28_1, hcz28_2, hcz28_3, hcz28_4, hcz28_5⟩ := QE BK162.out
         have q29 : (a1 : Int) ≤ ((l0_2.length : Int) : Int) := of_decide_eq_true ‹_›
         obtain ⟨i029, hi029, _, hsz29, _⟩ := info_parts info61
         have hroom29 : l0_2.length ≤ c0_2 := HC0_2.out
         have hC29 : Kd.C k61 _ (some ad163) l0_2.length l0_2 := HR0_2.out
         have hcut29 := Yh (P := Try.prog) 41 61 .i64 Try.underlying41 hi029 (some ad163) l0_2.length c0_2 a1 (of_decide_eq_true ‹_›) q29 hroom29
         have hr29 := Kd.Yj (m := (a1 : Int).toNat) hC29 (by omega)
         have hy29 : y167.length = (a1 : Int).toNat := (by rw [Ny167.out, List.length_take]; omega)
         rw [← Ny167.out] at hr29
         rw [← hy29] at hcut29
         have HR170 := Q0.mk hr29
         have HC170 := Q0.mk (show y167.length ≤ c0_2 from by omega)
         clear hr29 hC29 hroom29 hi029 hsz29
         have KY29 := Q0.mk hy29
         clear hy29
         replace q29 := eq_true q29
         go_wp2_with (first | (go_at_call 56; (with_reducible refine (Yf.calls _ _ y167 gb164 ((Qb l0_2 a1).f0) true _ ?side1 ?side2 ?side3 A25.out).mono ?_); (case side1 => repeat (first | exact (Kd.Qx HR170.out HB.out) | (with_reducible refine Kd.QT ?_ _) | (with_reducible refine Kd.QS ?_ _) | (with_reducible refine Kd.X6 ?_))); (case side2 => exact HC170.out); (case side3 => exact ⟨_, BK164.out, rfl⟩); rintro e w30 ⟨rfl, hb⟩; replace BK162 := Q0.mk (Q9 BK162.out hb); replace BK164 := Q0.mk (Q9 BK164.out hb); replace HB := Q0.mk (Qj HB.out hb)))
         repeat (go_quiet (fail); try go_wp2)
         go_ret
         exact ⟨by first | rfl | (simp [*]; done), by repeat (first | exact HB.out | apply Q4 | apply Q2 | apply Q6 | refine Q1 ?_ GE162.out | refine Q1 ?_ GE164.out)⟩
        ·replace c26 := Bool.eq_false_iff.mpr c26
         subst c26
         rw [if_neg (show ¬ (false = true) by decide)] at H
         replace H := Option.bind_eq_some_iff.mp H
         obtain ⟨t172, A310, H⟩ := H
         try dsimp only at H
         have A31 := Q0.mk A310
         clear A310
         by_cases c32 : t172 = true
         ·subst c32
          rw [if_pos rfl] at H
          have HC33 := Q0.mk H
          clear H
          have hnb34 := NB162_164.out
          have hnc34 := NB164_162.out
          obtain ⟨hcz35_0, hcz35_1, hcz35_2, hcz35_3, hcz35_4, hcz35_5⟩ := QE BK162.out
          have q36 : (a1 : Int) ≤ ((l0_2.length : Int) : Int) := of_decide_eq_true ‹_›
          obtain ⟨i036, hi036, _, hsz36, _⟩ := info_parts info61
          have hroom36 : l0_2.length ≤ c0_2 := HC0_2.out
          have hC36 : Kd.C k61 _ (some ad163) l0_2.length l0_2 := HR0_2.out
          have hcut36 := Yh (P := Try.prog) 41 61 .i64 Try.underlying41 hi036 (some ad163) l0_2.length c0_2 a1 (of_decide_eq_true ‹_›) q36 hroom36
          have hr36 := Kd.Yj (m := (a1 : Int).toNat) hC36 (by omega)
          have hy36 : y167.length = (a1 : Int).toNat := (by rw [Ny167.out, List.length_take]; omega)
          rw [← Ny167.out] at hr36
          rw [← hy36] at hcut36
          have HR170 := Q0.mk hr36
          have HC170 := Q0.mk (show y167.length ≤ c0_2 from by omega)
          clear hr36 hC36 hroom36 hi036 hsz36
          have KY36 := Q0.mk hy36
          clear hy36
          replace q36 := eq_true q36
          go_upto_region 8 with (first | (go_at_call 56; (with_reducible refine (Yf.calls _ _ y167 gb164 ((Qb l0_2 a1).f0) false _ ?side1 ?side2 ?side3 A25.out).mono ?_); (case side1 => repeat (first | exact (Kd.Qx HR170.out HB.out) | (with_reducible refine Kd.QT ?_ _) | (with_reducible refine Kd.QS ?_ _) | (with_reducible refine Kd.X6 ?_))); (case side2 => exact HC170.out); (case side3 => exact ⟨_, (by (with_reducible repeat (first | refine Q7 ?_ _ | refine Qa ?_ | refine Q8 ?_ _)); exact BK164.out), rfl⟩); rintro e w37 ⟨rfl, hb⟩; replace BK162 := Q0.mk (Q9 (g := gb162) (o := .cells #[.string a0_0, .slice A0_1 l0_1.length c0_1, .slice (some ad163) l0_2.length c0_2, .slice A0_3 l0_3.length c0_3, .slice A0_4 l0_4.length c0_4, .slice A0_5 l0_5.length c0_5] 46 (0, 0)) (by (with_reducible repeat (first | refine Q7 ?_ _ | refine Qa ?_ | refine Q8 ?_ _)); exact BK162.out) hb); replace BK164 := Q0.mk (Q9 (g := gb164) (o := .cells #[.string ((Qb l0_2 a1).f0), .string ((Qb l0_2 a1).f1), .bool ((Qb l0_2 a1).f2), .bool ((Qb l0_2 a1).f3), .int .i64 ((Qb l0_2 a1).f4), .int .i64 ((Qb l0_2 a1).f5), .int .i64 ((Qb l0_2 a1).f6), .int .i64 ((Qb l0_2 a1).f7), .int .i64 ((Qb l0_2 a1).f8)] 61 (0, 0)) (by (with_reducible repeat (first | refine Q7 ?_ _ | refine Qa ?_ | refine Q8 ?_ _)); exact BK164.out) hb); replace HB := Q0.mk (Qj (by repeat (first | exact HB.out | apply Q4 | apply Q2 | apply Q6 | refine Q1 ?_ GE162.out | refine Q1 ?_ GE164.out)) hb); obtain ⟨hcz38_0, hcz38_1, hcz38_2, hcz38_3, hcz38_4, hcz38_5, hcz38_6, hcz38_7, hcz38_8⟩ := Xg BK164.out; obtain ⟨hfz38_0, hfz38_1, hfz38_2, hfz38_3, hfz38_4, hfz38_5, hfz38_6, hfz38_7, hfz38_8⟩ := Ys BK164.out) | (go_at_call 68; (with_reducible refine (Qi.calls ((Qb l0_2 a1).f4) 1 3 true _ A31.out).mono ?_); rintro e w' ⟨rfl, ⟨nd, rfl⟩⟩; (try first | exact ⟨rfl, _, World.drewN_drewN _ _ _⟩ | exact ⟨rfl, _, Eq.trans (World.drewN_drewN _ _ _) (congrArg (World.drewN _) (Nat.add_assoc _ _ _))⟩)))
          repeat (go_quiet (fail); go_upto_region 8 with (fail))
          (try simp only [Act.put, List.setIfInBounds_toArray, List.set_cons_zero, List.set_cons_succ])
          go_cut [39] (fun v39 wc => ∃ (kq : Nat) (x39_32 : Bool), v39 = .bool x39_32 ∧ Q0 (Qp.j1 kq x39_32 a0_0 l0_1 l0_2 l0_3 l0_4 l0_5 ((Qb l0_2 a1).f0) ((Qb l0_2 a1).f1) ((Qb l0_2 a1).f2) ((Qb l0_2 a1).f3) ((Qb l0_2 a1).f4) ((Qb l0_2 a1).f5) ((Qb l0_2 a1).f6) ((Qb l0_2 a1).f7) ((Qb l0_2 a1).f8) = some r) ∧ Q0 (kq ≤ kj4) ∧ Q0 (wc.heap[gb162]? = some (.cells #[.string a0_0, (.slice A0_1 l0_1.length c0_1), (.slice (some ad163) l0_2.length c0_2), (.slice A0_3 l0_3.length c0_3), (.slice A0_4 l0_4.length c0_4), (.slice A0_5 l0_5.length c0_5)] 46 (0, 0))) ∧ Q0 (wc.heap[gb164]? = some (.cells #[.string ((Qb l0_2 a1).f0), .string ((Qb l0_2 a1).f1), .bool ((Qb l0_2 a1).f2), .bool ((Qb l0_2 a1).f3), .int .i64 ((Qb l0_2 a1).f4), .int .i64 ((Qb l0_2 a1).f5), .int .i64 ((Qb l0_2 a1).f6), .int .i64 ((Qb l0_2 a1).f7), .int .i64 ((Qb l0_2 a1).f8)] 61 (0, 0))) ∧ Q0 (Below w.heap.size w wc))
          case first => as_aux_lemma =>
           have H := HC33.out
           clear HC33
           replace H := Option.bind_eq_some_iff.mp H
           obtain ⟨t173, A390, H⟩ := H
           try dsimp only at H
           have A39 := Q0.mk A390
           clear A390
           by_cases c40 : t173 = true
           ·subst c40
            rw [if_pos rfl] at H
            replace H := Option.bind_eq_some_iff.mp H
            obtain ⟨t174, A410, H⟩ := H
            try dsimp only at H
            have A41 := Q0.mk A410
            clear A410
            by_cases c42 : t174 = true
            ·subst c42
             rw [if_pos rfl] at H
             replace H := Option.bind_eq_some_iff.mp H
             obtain ⟨t175, A430, H⟩ := H
             try dsimp only at H
             have A43 := Q0.mk A430
             clear A430
             have H' := Q0.mk H
             clear H
             have hnb44 := NB164_162.out
             have hnc44 := NB162_164.out
             obtain ⟨hcz45_0, hcz45_1, hcz45_2, hcz45_3, hcz45_4, hcz45_5, hcz45_6, hcz45_7, hcz45_8⟩ := Xg BK164.out
             obtain ⟨hcz46_0, hcz46_1, hcz46_2, hcz46_3, hcz46_4, hcz46_5⟩ := QE BK162.out
             go_wp2_with (first | (go_at_call 68; (with_reducible refine (Qi.calls ((Qb l0_2 a1).f5) (-2) (wrap64 ((l0_1.length : Int) - 1)) true _ A39.out).mono ?_); rintro e w' ⟨rfl, ⟨nd, rfl⟩⟩; (try first | exact ⟨rfl, _, World.drewN_drewN _ _ _⟩ | exact ⟨rfl, _, Eq.trans (World.drewN_drewN _ _ _) (congrArg (World.drewN _) (Nat.add_assoc _ _ _))⟩)) | (go_at_call 68; (with_reducible refine (Qi.calls ((Qb l0_2 a1).f8) 0 (l0_5.length : Int) true _ A41.out).mono ?_); rintro e w' ⟨rfl, ⟨nd, rfl⟩⟩; (try first | exact ⟨rfl, _, World.drewN_drewN _ _ _⟩ | exact ⟨rfl, _, Eq.trans (World.drewN_drewN _ _ _) (congrArg (World.drewN _) (Nat.add_assoc _ _ _))⟩)) | (go_at_call 68; (with_reducible refine (Qi.calls ((Qb l0_2 a1).f7) 0 1500 t175 _ A43.out).mono ?_); rintro e w' ⟨rfl, ⟨nd, rfl⟩⟩; (try first | exact ⟨rfl, _, World.drewN_drewN _ _ _⟩ | exact ⟨rfl, _, Eq.trans (World.drewN_drewN _ _ _) (congrArg (World.drewN _) (Nat.add_assoc _ _ _))⟩)))
             repeat (go_quiet (fail); try go_wp2)
             go_meet
             case rel => exact ⟨_, (!t175), (by first | rfl | (simp [*]; done)), H', ⟨by have := HJ4.out; first | omega | exact Nat.le_refl _⟩, ⟨by (with_reducible repeat (first | refine Q7 ?_ _ | refine Qa ?_ | refine Q8 ?_ _)); exact BK162.out⟩, ⟨by (with_reducible repeat (first | refine Q7 ?_ _ | refine Qa ?_ | refine Q8 ?_ _)); exact BK164.out⟩, ⟨by repeat (first | exact HB.out | apply Q4 | apply Q2 | apply Q6 | refine Q1 ?_ GE162.out | refine Q1 ?_ GE164.out)⟩⟩
            ·replace c42 := Bool.eq_false_iff.mpr c42
             subst c42
             rw [if_neg (show ¬ (false = true) by decide)] at H
             have H' := Q0.mk H
             clear H
             have hnb47 := NB164_162.out
             have hnc47 := NB162_164.out
             obtain ⟨hcz48_0, hcz48_1, hcz48_2, hcz48_3, hcz48_4, hcz48_5, hcz48_6, hcz48_7, hcz48_8⟩ := Xg BK164.out
             obtain ⟨hcz49_0, hcz49_1, hcz49_2, hcz49_3, hcz49_4, hcz49_5⟩ := QE BK162.out
             go_wp2_with (first | (go_at_call 68; (with_reducible refine (Qi.calls ((Qb l0_2 a1).f5) (-2) (wrap64 ((l0_1.length : Int) - 1)) true _ A39.out).mono ?_); rintro e w' ⟨rfl, ⟨nd, rfl⟩⟩; (try first | exact ⟨rfl, _, World.drewN_drewN _ _ _⟩ | exact ⟨rfl, _, Eq.trans (World.drewN_drewN _ _ _) (congrArg (World.drewN _) (Nat.add_assoc _ _ _))⟩)) | (go_at_call 68; (with_reducible refine (Qi.calls ((Qb l0_2 a1).f8) 0 (l0_5.length : Int) false _ A41.out).mono ?_); rintro e w' ⟨rfl, ⟨nd, rfl⟩⟩; (try first | exact ⟨rfl, _, World.drewN_drewN _ _ _⟩ | exact ⟨rfl, _, Eq.trans (World.drewN_drewN _ _ _) (congrArg (World.drewN _) (Nat.add_assoc _ _ _))⟩)))
             repeat (go_quiet (fail); try go_wp2)
             go_meet
             case rel => exact ⟨_, (true), (by first | rfl | (simp [*]; done)), H', ⟨by have := HJ4.out; first | omega | exact Nat.le_refl _⟩, ⟨by (with_reducible repeat (first | refine Q7 ?_ _ | refine Qa ?_ | refine Q8 ?_ _)); exact BK162.out⟩, ⟨by (with_reducible repeat (first | refine Q7 ?_ _ | refine Qa ?_ | refine Q8 ?_ _)); exact BK164.out⟩, ⟨by repeat (first | exact HB.out | apply Q4 | apply Q2 | apply Q6 | refine Q1 ?_ GE162.out | refine Q1 ?_ GE164.out)⟩⟩
           ·replace c40 := Bool.eq_false_iff.mpr c40
            subst c40
            rw [if_neg (show ¬ (false = true) by decide)] at H
            have H' := Q0.mk H
            clear H
            have hnb50 := NB164_162.out
            have hnc50 := NB162_164.out
            obtain ⟨hcz51_0, hcz51_1, hcz51_2, hcz51_3, hcz51_4, hcz51_5, hcz51_6, hcz51_7, hcz51_8⟩ := Xg BK164.out
            obtain ⟨hcz52_0, hcz52_1, hcz52_2, hcz52_3, hcz52_4, hcz52_5⟩ := QE BK162.out
            go_wp2_with (first | (go_at_call 68; (with_reducible refine (Qi.calls ((Qb l0_2 a1).f5) (-2) (wrap64 ((l0_1.length : Int) - 1)) false _ A39.out).mono ?_); rintro e w' ⟨rfl, ⟨nd, rfl⟩⟩; (try first | exact ⟨rfl, _, World.drewN_drewN _ _ _⟩ | exact ⟨rfl, _, Eq.trans (World.drewN_drewN _ _ _) (congrArg (World.drewN _) (Nat.add_assoc _ _ _))⟩)))
            repeat (go_quiet (fail); try go_wp2)
            go_meet
            case rel => exact ⟨_, (true), (by first | rfl | (simp [*]; done)), H', ⟨by have := HJ4.out; first | omega | exact Nat.le_refl _⟩, ⟨by (with_reducible repeat (first | refine Q7 ?_ _ | refine Qa ?_ | refine Q8 ?_ _)); exact BK162.out⟩, ⟨by (with_reducible repeat (first | refine Q7 ?_ _ | refine Qa ?_ | refine Q8 ?_ _)); exact BK164.out⟩, ⟨by repeat (first | exact HB.out | apply Q4 | apply Q2 | apply Q6 | refine Q1 ?_ GE162.out | refine Q1 ?_ GE164.out)⟩⟩
          case rest =>
           clear HC33
           try clear c1
           try clear p1
           try clear q1
           try clear hx1
           try clear c2
           try clear p2
           try clear q2
           try clear c3
           try clear c3b0
           try clear q3
           try clear c4
           try clear c4b0
           try clear c5
           try clear p6
           try clear c9
           try clear c13
           try clear c14
           try clear c14b0
           try clear c14b1
           try clear c15
           try clear p16
           try clear q16
           try clear hx16
           try clear c18
           try clear c20
           try clear c22
           try clear c23
           try clear c23b0
           try clear c23b1
           try clear c24
           try clear c24b0
           try clear c24b1
           try clear c26
           try clear c27
           try clear q29
           try clear c32
           try clear c34
           try clear q36
           try clear c40
           try clear c42
           try clear c44
           try clear c47
           try clear c50
           try clear c51
           try clear hx163_0
           try clear hx163_1
           try clear hx163_2
           try clear hx163_3
           try clear hx163_4
           try clear hx163_5
           try clear hx163_6
           try clear hx163_7
           try clear hx163_8
           try clear p1
           try clear p16
           try clear p163
           try clear p2
           try clear q1
           try clear q16
           try clear q163
           try clear q29
           try clear q36
           obtain ⟨kq, x39_32, rfl, HA, HJ32, BK162, BK164, HB⟩ := hcut
           cases kq with
           | zero => exact absurd HA.out (by simp [Qp.j1])
           | succ kj32 =>
            have H := HA.out
            clear HA
            simp only [Qp.j1] at H
            by_cases c53 : x39_32 = true
            ·subst c53
             rw [if_pos rfl] at H
             obtain rfl := Option.some.inj H
             go_wp2
             repeat (go_quiet (fail); try go_wp2)
             go_ret
             exact ⟨by first | rfl | (simp [*]; done), by repeat (first | exact HB.out | apply Q4 | apply Q2 | apply Q6 | refine Q1 ?_ GE162.out | refine Q1 ?_ GE164.out)⟩
            ·replace c53 := Bool.eq_false_iff.mpr c53
             subst c53
             rw [if_neg (show ¬ (false = true) by decide)] at H
             have HC54 := Q0.mk H
             clear H
             go_upto_region 10 with (fail)
             repeat (go_quiet (fail); go_upto_region 10 with (fail))
             go_cut [63] (fun v63 wc => ∃ (kq : Nat) (x63_53 : Bool), v63 = .bool x63_53 ∧ Q0 (Qp.j2 kq x63_53 a0_0 l0_1 l0_2 l0_3 l0_4 l0_5 ((Qb l0_2 a1).f0) ((Qb l0_2 a1).f1) ((Qb l0_2 a1).f2) ((Qb l0_2 a1).f3) ((Qb l0_2 a1).f4) ((Qb l0_2 a1).f5) ((Qb l0_2 a1).f6) ((Qb l0_2 a1).f7) ((Qb l0_2 a1).f8) = some r) ∧ Q0 (kq ≤ kj32) ∧ Q0 (wc.heap[gb162]? = some (.cells #[.string a0_0, (.slice A0_1 l0_1.length c0_1), (.slice (some ad163) l0_2.length c0_2), (.slice A0_3 l0_3.length c0_3), (.slice A0_4 l0_4.length c0_4), (.slice A0_5 l0_5.length c0_5)] 46 (0, 0))) ∧ Q0 (wc.heap[gb164]? = some (.cells #[.string ((Qb l0_2 a1).f0), .string ((Qb l0_2 a1).f1), .bool ((Qb l0_2 a1).f2), .bool ((Qb l0_2 a1).f3), .int .i64 ((Qb l0_2 a1).f4), .int .i64 ((Qb l0_2 a1).f5), .int .i64 ((Qb l0_2 a1).f6), .int .i64 ((Qb l0_2 a1).f7), .int .i64 ((Qb l0_2 a1).f8)] 61 (0, 0))) ∧ Q0 (Below w.heap.size w wc))
             case first => as_aux_lemma =>
              have H := HC54.out
              clear HC54
              by_cases c55 : ((Qb l0_2 a1).f5) = (-1)
              ·rw [if_pos c55] at H
               have c55b0 : (((Qb l0_2 a1).f5) == (-1)) = true := beq_iff_eq.mpr c55
               have c55b1 : (((Qb l0_2 a1).f5) != (-1)) = false := bne_eq_false_iff_eq.mpr c55
               clear c55
               (first | rw [c55b0] | (simp only [QO, QP]; rw [c55b0]) | skip)
               by_cases c56 : ((Qb l0_2 a1).f4) = 1
               ·rw [if_pos c56] at H
                have c56b0 : (((Qb l0_2 a1).f4) == 1) = true := beq_iff_eq.mpr c56
                have c56b1 : (((Qb l0_2 a1).f4) != 1) = false := bne_eq_false_iff_eq.mpr c56
                clear c56
                have H' := Q0.mk H
                clear H
                have hnb57 := NB164_162.out
                have hnc57 := NB162_164.out
                obtain ⟨hcz58_0, hcz58_1, hcz58_2, hcz58_3, hcz58_4, hcz58_5, hcz58_6, hcz58_7, hcz58_8⟩ := Xg BK164.out
                go_wp2
                repeat (go_quiet (fail); try go_wp2)
                go_meet
                case rel => exact ⟨_, (true), (by first | rfl | (simp [*]; done)), H', ⟨by have := HJ4.out; have := HJ32.out; first | omega | exact Nat.le_refl _⟩, ⟨by (with_reducible repeat (first | refine Q7 ?_ _ | refine Qa ?_ | refine Q8 ?_ _)); exact BK162.out⟩, ⟨by (with_reducible repeat (first | refine Q7 ?_ _ | refine Qa ?_ | refine Q8 ?_ _)); exact BK164.out⟩, ⟨by repeat (first | exact HB.out | apply Q4 | apply Q2 | apply Q6 | refine Q1 ?_ GE162.out | refine Q1 ?_ GE164.out)⟩⟩
               ·rw [if_neg c56] at H
                have c56b0 : (((Qb l0_2 a1).f4) == 1) = false := beq_eq_false_iff_ne.mpr c56
                have c56b1 : (((Qb l0_2 a1).f4) != 1) = true := bne_iff_ne.mpr c56
                by_cases c59 : ((Qb l0_2 a1).f2) = true
                ·rw [if_pos c59] at H
                 have c59b0 : ((Qb l0_2 a1).f2) = true := c59
                 clear c59
                 have H' := Q0.mk H
                 clear H
                 have hnb60 := NB164_162.out
                 have hnc60 := NB162_164.out
                 obtain ⟨hcz61_0, hcz61_1, hcz61_2, hcz61_3, hcz61_4, hcz61_5, hcz61_6, hcz61_7, hcz61_8⟩ := Xg BK164.out
                 go_wp2
                 repeat (go_quiet (fail); try go_wp2)
                 go_meet
                 case rel => exact ⟨_, (true), (by first | rfl | (simp [*]; done)), H', ⟨by have := HJ4.out; have := HJ32.out; first | omega | exact Nat.le_refl _⟩, ⟨by (with_reducible repeat (first | refine Q7 ?_ _ | refine Qa ?_ | refine Q8 ?_ _)); exact BK162.out⟩, ⟨by (with_reducible repeat (first | refine Q7 ?_ _ | refine Qa ?_ | refine Q8 ?_ _)); exact BK164.out⟩, ⟨by repeat (first | exact HB.out | apply Q4 | apply Q2 | apply Q6 | refine Q1 ?_ GE162.out | refine Q1 ?_ GE164.out)⟩⟩
                ·rw [if_neg c59] at H
                 have c59b0 : ((Qb l0_2 a1).f2) = false := by simpa using c59
                 clear c59
                 by_cases c62 : ((Qb l0_2 a1).f3) = true
                 ·rw [if_pos c62] at H
                  have c62b0 : ((Qb l0_2 a1).f3) = true := c62
                  clear c62
                  have H' := Q0.mk H
                  clear H
                  have hnb63 := NB164_162.out
                  have hnc63 := NB162_164.out
                  obtain ⟨hcz64_0, hcz64_1, hcz64_2, hcz64_3, hcz64_4, hcz64_5, hcz64_6, hcz64_7, hcz64_8⟩ := Xg BK164.out
                  go_wp2
                  repeat (go_quiet (fail); try go_wp2)
                  go_meet
                  case rel => exact ⟨_, (true), (by first | rfl | (simp [*]; done)), H', ⟨by have := HJ4.out; have := HJ32.out; first | omega | exact Nat.le_refl _⟩, ⟨by (with_reducible repeat (first | refine Q7 ?_ _ | refine Qa ?_ | refine Q8 ?_ _)); exact BK162.out⟩, ⟨by (with_reducible repeat (first | refine Q7 ?_ _ | refine Qa ?_ | refine Q8 ?_ _)); exact BK164.out⟩, ⟨by repeat (first | exact HB.out | apply Q4 | apply Q2 | apply Q6 | refine Q1 ?_ GE162.out | refine Q1 ?_ GE164.out)⟩⟩
                 ·rw [if_neg c62] at H
                  have c62b0 : ((Qb l0_2 a1).f3) = false := by simpa using c62
                  clear c62
                  by_cases c65 : ((Qb l0_2 a1).f6) = 0
                  ·rw [if_pos c65] at H
                   have c65b0 : (((Qb l0_2 a1).f6) == 0) = true := beq_iff_eq.mpr c65
                   have c65b1 : (((Qb l0_2 a1).f6) != 0) = false := bne_eq_false_iff_eq.mpr c65
                   clear c65
                   have H' := Q0.mk H
                   clear H
                   have hnb66 := NB164_162.out
                   have hnc66 := NB162_164.out
                   obtain ⟨hcz67_0, hcz67_1, hcz67_2, hcz67_3, hcz67_4, hcz67_5, hcz67_6, hcz67_7, hcz67_8⟩ := Xg BK164.out
                   go_wp2
                   repeat (go_quiet (fail); try go_wp2)
                   go_meet
                   case rel => exact ⟨_, ((((Qb l0_2 a1).f7) != 0)), (by first | rfl | (simp [*]; done)), H', ⟨by have := HJ4.out; have := HJ32.out; first | omega | exact Nat.le_refl _⟩, ⟨by (with_reducible repeat (first | refine Q7 ?_ _ | refine Qa ?_ | refine Q8 ?_ _)); exact BK162.out⟩, ⟨by (with_reducible repeat (first | refine Q7 ?_ _ | refine Qa ?_ | refine Q8 ?_ _)); exact BK164.out⟩, ⟨by repeat (first | exact HB.out | apply Q4 | apply Q2 | apply Q6 | refine Q1 ?_ GE162.out | refine Q1 ?_ GE164.out)⟩⟩
                  ·rw [if_neg c65] at H
                   have c65b0 : (((Qb l0_2 a1).f6) == 0) = false := beq_eq_false_iff_ne.mpr c65
                   have c65b1 : (((Qb l0_2 a1).f6) != 0) = true := bne_iff_ne.mpr c65
                   have H' := Q0.mk H
                   clear H
                   have hnb68 := NB164_162.out
                   have hnc68 := NB162_164.out
                   obtain ⟨hcz69_0, hcz69_1, hcz69_2, hcz69_3, hcz69_4, hcz69_5, hcz69_6, hcz69_7, hcz69_8⟩ := Xg BK164.out
                   go_wp2
                   repeat (go_quiet (fail); try go_wp2)
                   go_meet
                   case rel => exact ⟨_, (true), (by first | rfl | (simp [*]; done)), H', ⟨by have := HJ4.out; have := HJ32.out; first | omega | exact Nat.le_refl _⟩, ⟨by (with_reducible repeat (first | refine Q7 ?_ _ | refine Qa ?_ | refine Q8 ?_ _)); exact BK162.out⟩, ⟨by (with_reducible repeat (first | refine Q7 ?_ _ | refine Qa ?_ | refine Q8 ?_ _)); exact BK164.out⟩, ⟨by repeat (first | exact HB.out | apply Q4 | apply Q2 | apply Q6 | refine Q1 ?_ GE162.out | refine Q1 ?_ GE164.out)⟩⟩
              ·rw [if_neg c55] at H
               have c55b0 : (((Qb l0_2 a1).f5) == (-1)) = false := beq_eq_false_iff_ne.mpr c55
               have c55b1 : (((Qb l0_2 a1).f5) != (-1)) = true := bne_iff_ne.mpr c55
               (first | rw [c55b0] | (simp only [QO, QP]; rw [c55b0]) | skip)
               have H' := Q0.mk H
               clear H
               have hnb70 := NB164_162.out
               have hnc70 := NB162_164.out
               obtain ⟨hcz71_0, hcz71_1, hcz71_2, hcz71_3, hcz71_4, hcz71_5, hcz71_6, hcz71_7, hcz71_8⟩ := Xg BK164.out
               go_wp2
               repeat (go_quiet (fail); try go_wp2)
               go_meet
               case rel => exact ⟨_, (false), (by first | rfl | (simp [*]; done)), H', ⟨by have := HJ4.out; have := HJ32.out; first | omega | exact Nat.le_refl _⟩, ⟨by (with_reducible repeat (first | refine Q7 ?_ _ | refine Qa ?_ | refine Q8 ?_ _)); exact BK162.out⟩, ⟨by (with_reducible repeat (first | refine Q7 ?_ _ | refine Qa ?_ | refine Q8 ?_ _)); exact BK164.out⟩, ⟨by repeat (first | exact HB.out | apply Q4 | apply Q2 | apply Q6 | refine Q1 ?_ GE162.out | refine Q1 ?_ GE164.out)⟩⟩
             case rest =>
              clear HC54
              try clear c1
              try clear p1
              try clear q1
              try clear hx1
              try clear c2
              try clear p2
              try clear q2
              try clear c3
              try clear c3b0
              try clear q3
              try clear c4
              try clear c4b0
              try clear c5
              try clear c6
              try clear p6
              try clear c7
              try clear c9
              try clear c13
              try clear c14
              try clear c14b0
              try clear c14b1
              try clear c15
              try clear p16
              try clear q16
              try clear hx16
              try clear c18
              try clear c20
              try clear c22
              try clear c23
              try clear c23b0
              try clear c23b1
              try clear c24
              try clear c24b0
              try clear c24b1
              try clear c26
              try clear c27
              try clear q29
              try clear c32
              try clear c34
              try clear q36
              try clear c40
              try clear c42
              try clear c44
              try clear c47
              try clear c50
              try clear c51
              try clear c53
              try clear c55
              try clear c55b0
              try clear c55b1
              try clear c56
              try clear c56b0
              try clear c56b1
              try clear c57
              try clear c59
              try clear c59b0
              try clear c60
              try clear c62
              try clear c62b0
              try clear c63
              try clear p64
              try clear c65
              try clear c65b0
              try clear c65b1
              try clear c66
              try clear c68
              try clear c70
              try clear hx163_0
              try clear hx163_1
              try clear hx163_2
              try clear hx163_3
              try clear hx163_4
              try clear hx163_5
              try clear hx163_6
              try clear hx163_7
              try clear hx163_8
              try clear p1
              try clear p16
              try clear p163
              try clear p2
              try clear p6
              try clear q1
              try clear q16
              try clear q163
              try clear q2
              try clear q29
              try clear q3
              try clear q36
              obtain ⟨kq, x63_53, rfl, HA, HJ53, BK162, BK164, HB⟩ := hcut
              cases kq with
              | zero => exact absurd HA.out (by simp [Qp.j2])
              | succ kj53 =>
               have H := HA.out
               clear HA
               simp only [Qp.j2] at H
               by_cases c72 : x63_53 = true
               ·subst c72
                rw [if_pos rfl] at H
                obtain rfl := Option.some.inj H
                go_wp2
                repeat (go_quiet (fail); try go_wp2)
                go_ret
                exact ⟨by first | rfl | (simp [*]; done), by repeat (first | exact HB.out | apply Q4 | apply Q2 | apply Q6 | refine Q1 ?_ GE162.out | refine Q1 ?_ GE164.out)⟩
               ·replace c72 := Bool.eq_false_iff.mpr c72
                subst c72
                rw [if_neg (show ¬ (false = true) by decide)] at H
                have HC73 := Q0.mk H
                clear H
                go_upto_region 12 with (fail)
                repeat (go_quiet (fail); go_upto_region 12 with (fail))
                go_cut [90] (fun v90 wc => ∃ (kq : Nat) (x90_72 : Bool), v90 = .bool x90_72 ∧ Q0 (Qp.j3 kq x90_72 a0_0 l0_1 l0_2 l0_3 l0_4 l0_5 ((Qb l0_2 a1).f0) ((Qb l0_2 a1).f1) ((Qb l0_2 a1).f2) ((Qb l0_2 a1).f3) ((Qb l0_2 a1).f4) ((Qb l0_2 a1).f5) ((Qb l0_2 a1).f6) ((Qb l0_2 a1).f7) ((Qb l0_2 a1).f8) = some r) ∧ Q0 (kq ≤ kj53) ∧ Q0 (wc.heap[gb162]? = some (.cells #[.string a0_0, (.slice A0_1 l0_1.length c0_1), (.slice (some ad163) l0_2.length c0_2), (.slice A0_3 l0_3.length c0_3), (.slice A0_4 l0_4.length c0_4), (.slice A0_5 l0_5.length c0_5)] 46 (0, 0))) ∧ Q0 (wc.heap[gb164]? = some (.cells #[.string ((Qb l0_2 a1).f0), .string ((Qb l0_2 a1).f1), .bool ((Qb l0_2 a1).f2), .bool ((Qb l0_2 a1).f3), .int .i64 ((Qb l0_2 a1).f4), .int .i64 ((Qb l0_2 a1).f5), .int .i64 ((Qb l0_2 a1).f6), .int .i64 ((Qb l0_2 a1).f7), .int .i64 ((Qb l0_2 a1).f8)] 61 (0, 0))) ∧ Q0 (Below w.heap.size w wc))
                case first => as_aux_lemma =>
                 have H := HC73.out
                 clear HC73
                 by_cases c74 : ((Qb l0_2 a1).f5) = (-2)
                 ·rw [if_pos c74] at H
                  have c74b0 : (((Qb l0_2 a1).f5) == (-2)) = true := beq_iff_eq.mpr c74
                  have c74b1 : (((Qb l0_2 a1).f5) != (-2)) = false := bne_eq_false_iff_eq.mpr c74
                  clear c74
                  (first | rw [c74b0] | (simp only [QO, QP]; rw [c74b0]) | skip)
                  replace H := Option.bind_eq_some_iff.mp H
                  obtain ⟨t176, A750, H⟩ := H
                  try dsimp only at H
                  have A75 := Q0.mk A750
                  clear A750
                  by_cases c76 : t176 = true
                  ·subst c76
                   rw [if_pos rfl] at H
                   by_cases c77 : ((Qb l0_2 a1).f5) ≥ 0
                   ·rw [if_pos c77] at H
                    have c77b0 : decide (0 ≤ ((Qb l0_2 a1).f5)) = true := decide_eq_true c77
                    clear c77
                    by_cases c78 : 0 ≤ ((Qb l0_2 a1).f5)
                    ·rw [if_pos c78] at H
                     have c78b0 : decide (0 ≤ ((Qb l0_2 a1).f5)) = true := decide_eq_true c78
                     clear c78
                     by_cases c79 : ((Qb l0_2 a1).f5) < (l0_1.length : Int)
                     ·rw [if_pos c79] at H
                      have c79b0 : decide (((Qb l0_2 a1).f5) < (l0_1.length : Int)) = true := decide_eq_true c79
                      clear c79
                      replace H := Option.bind_eq_some_iff.mp H
                      obtain ⟨t178, A800, H⟩ := H
                      try dsimp only at H
                      have A80 := Q0.mk A800
                      clear A800
                      have H' := Q0.mk H
                      clear H
                      have hnb81 := NB164_162.out
                      have hnc81 := NB162_164.out
                      obtain ⟨hcz82_0, hcz82_1, hcz82_2, hcz82_3, hcz82_4, hcz82_5, hcz82_6, hcz82_7, hcz82_8⟩ := Xg BK164.out
                      go_wp2_with (first | (go_at_call 68; (with_reducible refine (Qi.calls ((Qb l0_2 a1).f6) 0 4294967295 true _ A75.out).mono ?_); rintro e w' ⟨rfl, ⟨nd, rfl⟩⟩; (try first | exact ⟨rfl, _, World.drewN_drewN _ _ _⟩ | exact ⟨rfl, _, Eq.trans (World.drewN_drewN _ _ _) (congrArg (World.drewN _) (Nat.add_assoc _ _ _))⟩); obtain ⟨hcz83_0, hcz83_1, hcz83_2, hcz83_3, hcz83_4, hcz83_5⟩ := QE BK162.out; obtain ⟨hfz83_0, hfz83_1, hfz83_2, hfz83_3, hfz83_4, hfz83_5⟩ := QR BK162.out; have p177 : 0 ≤ (((Qb l0_2 a1).f5) : Int) := of_decide_eq_true ‹_›; have q177 : ((Qb l0_2 a1).f5) < (l0_1.length : Int) := of_decide_eq_true ‹_›; obtain ⟨ad177, A177_3, c177_3, A177_6, c177_6, A177_7, c177_7, A177_8, c177_8, e177, hx177_0, hx177_1, hx177_2, hx177_3, hx177_4, hx177_5, hx177_6, hx177_7, hx177_8, hl177_3, hi177_3, hl177_6, hi177_6, hl177_7, hi177_7, hl177_8, hi177_8⟩ := Yu HR0_1.out ((Qb l0_2 a1).f5) p177 q177; cases e177; replace hx177_0 := cup HB.out hx177_0; replace hx177_1 := cup HB.out hx177_1; replace hx177_2 := cup HB.out hx177_2; replace hx177_3 := cup HB.out hx177_3; replace hx177_4 := cup HB.out hx177_4; replace hx177_5 := cup HB.out hx177_5; replace hx177_6 := cup HB.out hx177_6; replace hx177_7 := cup HB.out hx177_7; replace hx177_8 := cup HB.out hx177_8; have HR177_3 := Q0.mk hi177_3; have HC177_3 := Q0.mk hl177_3; clear hi177_3 hl177_3; have HR177_6 := Q0.mk hi177_6; have HC177_6 := Q0.mk hl177_6; clear hi177_6 hl177_6; have HR177_7 := Q0.mk hi177_7; have HC177_7 := Q0.mk hl177_7; clear hi177_7 hl177_7; have HR177_8 := Q0.mk hi177_8; have HC177_8 := Q0.mk hl177_8; clear hi177_8 hl177_8; replace p177 := eq_true p177; replace q177 := eq_true q177) | (go_at_call 68; (with_reducible refine (Qi.calls ((Qb l0_2 a1).f6) 0 ((Qe l0_1 ((Qb l0_2 a1).f5)).f4) t178 _ A80.out).mono ?_); rintro e w' ⟨rfl, ⟨nd, rfl⟩⟩; (try first | exact ⟨rfl, _, World.drewN_drewN _ _ _⟩ | exact ⟨rfl, _, Eq.trans (World.drewN_drewN _ _ _) (congrArg (World.drewN _) (Nat.add_assoc _ _ _))⟩)))
                      repeat (go_quiet (first | (go_at_call 68; (with_reducible refine (Qi.calls ((Qb l0_2 a1).f6) 0 4294967295 true _ A75.out).mono ?_); rintro e w' ⟨rfl, ⟨nd, rfl⟩⟩; (try first | exact ⟨rfl, _, World.drewN_drewN _ _ _⟩ | exact ⟨rfl, _, Eq.trans (World.drewN_drewN _ _ _) (congrArg (World.drewN _) (Nat.add_assoc _ _ _))⟩); obtain ⟨hcz83_0, hcz83_1, hcz83_2, hcz83_3, hcz83_4, hcz83_5⟩ := QE BK162.out; obtain ⟨hfz83_0, hfz83_1, hfz83_2, hfz83_3, hfz83_4, hfz83_5⟩ := QR BK162.out; have p177 : 0 ≤ (((Qb l0_2 a1).f5) : Int) := of_decide_eq_true ‹_›; have q177 : ((Qb l0_2 a1).f5) < (l0_1.length : Int) := of_decide_eq_true ‹_›; obtain ⟨ad177, A177_3, c177_3, A177_6, c177_6, A177_7, c177_7, A177_8, c177_8, e177, hx177_0, hx177_1, hx177_2, hx177_3, hx177_4, hx177_5, hx177_6, hx177_7, hx177_8, hl177_3, hi177_3, hl177_6, hi177_6, hl177_7, hi177_7, hl177_8, hi177_8⟩ := Yu HR0_1.out ((Qb l0_2 a1).f5) p177 q177; cases e177; replace hx177_0 := cup HB.out hx177_0; replace hx177_1 := cup HB.out hx177_1; replace hx177_2 := cup HB.out hx177_2; replace hx177_3 := cup HB.out hx177_3; replace hx177_4 := cup HB.out hx177_4; replace hx177_5 := cup HB.out hx177_5; replace hx177_6 := cup HB.out hx177_6; replace hx177_7 := cup HB.out hx177_7; replace hx177_8 := cup HB.out hx177_8; have HR177_3 := Q0.mk hi177_3; have HC177_3 := Q0.mk hl177_3; clear hi177_3 hl177_3; have HR177_6 := Q0.mk hi177_6; have HC177_6 := Q0.mk hl177_6; clear hi177_6 hl177_6; have HR177_7 := Q0.mk hi177_7; have HC177_7 := Q0.mk hl177_7; clear hi177_7 hl177_7; have HR177_8 := Q0.mk hi177_8; have HC177_8 := Q0.mk hl177_8; clear hi177_8 hl177_8; replace p177 := eq_true p177; replace q177 := eq_true q177) | (go_at_call 68; (with_reducible refine (Qi.calls ((Qb l0_2 a1).f6) 0 ((Qe l0_1 ((Qb l0_2 a1).f5)).f4) t178 _ A80.out).mono ?_); rintro e w' ⟨rfl, ⟨nd, rfl⟩⟩; (try first | exact ⟨rfl, _, World.drewN_drewN _ _ _⟩ | exact ⟨rfl, _, Eq.trans (World.drewN_drewN _ _ _) (congrArg (World.drewN _) (Nat.add_assoc _ _ _))⟩))); try go_wp2_with (first | (go_at_call 68; (with_reducible refine (Qi.calls ((Qb l0_2 a1).f6) 0 4294967295 true _ A75.out).mono ?_); rintro e w' ⟨rfl, ⟨nd, rfl⟩⟩; (try first | exact ⟨rfl, _, World.drewN_drewN _ _ _⟩ | exact ⟨rfl, _, Eq.trans (World.drewN_drewN _ _ _) (congrArg (World.drewN _) (Nat.add_assoc _ _ _))⟩); obtain ⟨hcz83_0, hcz83_1, hcz83_2, hcz83_3, hcz83_4, hcz83_5⟩ := QE BK162.out; obtain ⟨hfz83_0, hfz83_1, hfz83_2, hfz83_3, hfz83_4, hfz83_5⟩ := QR BK162.out; have p177 : 0 ≤ (((Qb l0_2 a1).f5) : Int) := of_decide_eq_true ‹_›; have q177 : ((Qb l0_2 a1).f5) < (l0_1.length : Int) := of_decide_eq_true ‹_›; obtain ⟨ad177, A177_3, c177_3, A177_6, c177_6, A177_7, c177_7, A177_8, c177_8, e177, hx177_0, hx177_1, hx177_2, hx177_3, hx177_4, hx177_5, hx177_6, hx177_7, hx177_8, hl177_3, hi177_3, hl177_6, hi177_6, hl177_7, hi177_7, hl177_8, hi177_8⟩ := Yu HR0_1.out ((Qb l0_2 a1).f5) p177 q177; cases e177; replace hx177_0 := cup HB.out hx177_0; replace hx177_1 := cup HB.out hx177_1; replace hx177_2 := cup HB.out hx177_2; replace hx177_3 := cup HB.out hx177_3; replace hx177_4 := cup HB.out hx177_4; replace hx177_5 := cup HB.out hx177_5; replace hx177_6 := cup HB.out hx177_6; replace hx177_7 := cup HB.out hx177_7; replace hx177_8 := cup HB.out hx177_8; have HR177_3 := Q0.mk hi177_3; have HC177_3 := Q0.mk hl177_3; clear hi177_3 hl177_3; have HR177_6 := Q0.mk hi177_6; have HC177_6 := Q0.mk hl177_6; clear hi177_6 hl177_6; have HR177_7 := Q0.mk hi177_7; have HC177_7 := Q0.mk hl177_7; clear hi177_7 hl177_7; have HR177_8 := Q0.mk hi177_8; have HC177_8 := Q0.mk hl177_8; clear hi177_8 hl177_8; replace p177 := eq_true p177; replace q177 := eq_true q177) | (go_at_call 68; (with_reducible refine (Qi.calls ((Qb l0_2 a1).f6) 0 ((Qe l0_1 ((Qb l0_2 a1).f5)).f4) t178 _ A80.out).mono ?_); rintro e w' ⟨rfl, ⟨nd, rfl⟩⟩; (try first | exact ⟨rfl, _, World.drewN_drewN _ _ _⟩ | exact ⟨rfl, _, Eq.trans (World.drewN_drewN _ _ _) (congrArg (World.drewN _) (Nat.add_assoc _ _ _))⟩))))
                      go_meet
                      case rel => exact ⟨_, (!t178), (by first | rfl | (simp [*]; done)), H', ⟨by have := HJ4.out; have := HJ32.out; have := HJ53.out; first | omega | exact Nat.le_refl _⟩, ⟨by (with_reducible repeat (first | refine Q7 ?_ _ | refine Qa ?_ | refine Q8 ?_ _)); exact BK162.out⟩, ⟨by (with_reducible repeat (first | refine Q7 ?_ _ | refine Qa ?_ | refine Q8 ?_ _)); exact BK164.out⟩, ⟨by repeat (first | exact HB.out | apply Q4 | apply Q2 | apply Q6 | refine Q1 ?_ GE162.out | refine Q1 ?_ GE164.out)⟩⟩
                     ·rw [if_neg c79] at H
                      exact absurd H (by simp)
                    ·rw [if_neg c78] at H
                     exact absurd H (by simp)
                   ·rw [if_neg c77] at H
                    have c77b0 : decide (0 ≤ ((Qb l0_2 a1).f5)) = false := decide_eq_false c77
                    clear c77
                    have H' := Q0.mk H
                    clear H
                    have hnb84 := NB164_162.out
                    have hnc84 := NB162_164.out
                    obtain ⟨hcz85_0, hcz85_1, hcz85_2, hcz85_3, hcz85_4, hcz85_5, hcz85_6, hcz85_7, hcz85_8⟩ := Xg BK164.out
                    go_wp2_with (first | (go_at_call 68; (with_reducible refine (Qi.calls ((Qb l0_2 a1).f6) 0 4294967295 true _ A75.out).mono ?_); rintro e w' ⟨rfl, ⟨nd, rfl⟩⟩; (try first | exact ⟨rfl, _, World.drewN_drewN _ _ _⟩ | exact ⟨rfl, _, Eq.trans (World.drewN_drewN _ _ _) (congrArg (World.drewN _) (Nat.add_assoc _ _ _))⟩)))
                    repeat (go_quiet (first | (go_at_call 68; (with_reducible refine (Qi.calls ((Qb l0_2 a1).f6) 0 4294967295 true _ A75.out).mono ?_); rintro e w' ⟨rfl, ⟨nd, rfl⟩⟩; (try first | exact ⟨rfl, _, World.drewN_drewN _ _ _⟩ | exact ⟨rfl, _, Eq.trans (World.drewN_drewN _ _ _) (congrArg (World.drewN _) (Nat.add_assoc _ _ _))⟩))); try go_wp2_with (first | (go_at_call 68; (with_reducible refine (Qi.calls ((Qb l0_2 a1).f6) 0 4294967295 true _ A75.out).mono ?_); rintro e w' ⟨rfl, ⟨nd, rfl⟩⟩; (try first | exact ⟨rfl, _, World.drewN_drewN _ _ _⟩ | exact ⟨rfl, _, Eq.trans (World.drewN_drewN _ _ _) (congrArg (World.drewN _) (Nat.add_assoc _ _ _))⟩))))
                    go_meet
                    case rel => exact ⟨_, (false), (by first | rfl | (simp [*]; done)), H', ⟨by have := HJ4.out; have := HJ32.out; have := HJ53.out; first | omega | exact Nat.le_refl _⟩, ⟨by (with_reducible repeat (first | refine Q7 ?_ _ | refine Qa ?_ | refine Q8 ?_ _)); exact BK162.out⟩, ⟨by (with_reducible repeat (first | refine Q7 ?_ _ | refine Qa ?_ | refine Q8 ?_ _)); exact BK164.out⟩, ⟨by repeat (first | exact HB.out | apply Q4 | apply Q2 | apply Q6 | refine Q1 ?_ GE162.out | refine Q1 ?_ GE164.out)⟩⟩
                  ·replace c76 := Bool.eq_false_iff.mpr c76
                   subst c76
                   rw [if_neg (show ¬ (false = true) by decide)] at H
                   have H' := Q0.mk H
                   clear H
                   have hnb86 := NB164_162.out
                   have hnc86 := NB162_164.out
                   obtain ⟨hcz87_0, hcz87_1, hcz87_2, hcz87_3, hcz87_4, hcz87_5, hcz87_6, hcz87_7, hcz87_8⟩ := Xg BK164.out
                   go_wp2_with (first | (go_at_call 68; (with_reducible refine (Qi.calls ((Qb l0_2 a1).f6) 0 4294967295 false _ A75.out).mono ?_); rintro e w' ⟨rfl, ⟨nd, rfl⟩⟩; (try first | exact ⟨rfl, _, World.drewN_drewN _ _ _⟩ | exact ⟨rfl, _, Eq.trans (World.drewN_drewN _ _ _) (congrArg (World.drewN _) (Nat.add_assoc _ _ _))⟩)))
                   repeat (go_quiet (first | (go_at_call 68; (with_reducible refine (Qi.calls ((Qb l0_2 a1).f6) 0 4294967295 false _ A75.out).mono ?_); rintro e w' ⟨rfl, ⟨nd, rfl⟩⟩; (try first | exact ⟨rfl, _, World.drewN_drewN _ _ _⟩ | exact ⟨rfl, _, Eq.trans (World.drewN_drewN _ _ _) (congrArg (World.drewN _) (Nat.add_assoc _ _ _))⟩))); try go_wp2_with (first | (go_at_call 68; (with_reducible refine (Qi.calls ((Qb l0_2 a1).f6) 0 4294967295 false _ A75.out).mono ?_); rintro e w' ⟨rfl, ⟨nd, rfl⟩⟩; (try first | exact ⟨rfl, _, World.drewN_drewN _ _ _⟩ | exact ⟨rfl, _, Eq.trans (World.drewN_drewN _ _ _) (congrArg (World.drewN _) (Nat.add_assoc _ _ _))⟩))))
                   go_meet
                   case rel => exact ⟨_, (true), (by first | rfl | (simp [*]; done)), H', ⟨by have := HJ4.out; have := HJ32.out; have := HJ53.out; first | omega | exact Nat.le_refl _⟩, ⟨by (with_reducible repeat (first | refine Q7 ?_ _ | refine Qa ?_ | refine Q8 ?_ _)); exact BK162.out⟩, ⟨by (with_reducible repeat (first | refine Q7 ?_ _ | refine Qa ?_ | refine Q8 ?_ _)); exact BK164.out⟩, ⟨by repeat (first | exact HB.out | apply Q4 | apply Q2 | apply Q6 | refine Q1 ?_ GE162.out | refine Q1 ?_ GE164.out)⟩⟩
                 ·rw [if_neg c74] at H
                  have c74b0 : (((Qb l0_2 a1).f5) == (-2)) = false := beq_eq_false_iff_ne.mpr c74
                  have c74b1 : (((Qb l0_2 a1).f5) != (-2)) = true := bne_iff_ne.mpr c74
                  (first | rw [c74b0] | (simp only [QO, QP]; rw [c74b0]) | skip)
                  by_cases c88 : ((Qb l0_2 a1).f5) ≥ 0
                  ·rw [if_pos c88] at H
                   have c88b0 : decide (0 ≤ ((Qb l0_2 a1).f5)) = true := decide_eq_true c88
                   clear c88
                   by_cases c89 : 0 ≤ ((Qb l0_2 a1).f5)
                   ·rw [if_pos c89] at H
                    have c89b0 : decide (0 ≤ ((Qb l0_2 a1).f5)) = true := decide_eq_true c89
                    clear c89
                    by_cases c90 : ((Qb l0_2 a1).f5) < (l0_1.length : Int)
                    ·rw [if_pos c90] at H
                     have c90b0 : decide (((Qb l0_2 a1).f5) < (l0_1.length : Int)) = true := decide_eq_true c90
                     clear c90
                     replace H := Option.bind_eq_some_iff.mp H
                     obtain ⟨t180, A910, H⟩ := H
                     try dsimp only at H
                     have A91 := Q0.mk A910
                     clear A910
                     have H' := Q0.mk H
                     clear H
                     have hnb92 := NB164_162.out
                     have hnc92 := NB162_164.out
                     obtain ⟨hcz93_0, hcz93_1, hcz93_2, hcz93_3, hcz93_4, hcz93_5, hcz93_6, hcz93_7, hcz93_8⟩ := Xg BK164.out
                     obtain ⟨hcz94_0, hcz94_1, hcz94_2, hcz94_3, hcz94_4, hcz94_5⟩ := QE BK162.out
                     have p179 : 0 ≤ (((Qb l0_2 a1).f5) : Int) := of_decide_eq_true ‹_›
                     have q179 : ((Qb l0_2 a1).f5) < (l0_1.length : Int) := of_decide_eq_true ‹_›
                     obtain ⟨ad179, A179_3, c179_3, A179_6, c179_6, A179_7, c179_7, A179_8, c179_8, e179, hx179_0, hx179_1, hx179_2, hx179_3, hx179_4, hx179_5, hx179_6, hx179_7, hx179_8, hl179_3, hi179_3, hl179_6, hi179_6, hl179_7, hi179_7, hl179_8, hi179_8⟩ := Yu HR0_1.out ((Qb l0_2 a1).f5) p179 q179
                     cases e179
                     replace hx179_0 := cup HB.out hx179_0
                     replace hx179_1 := cup HB.out hx179_1
                     replace hx179_2 := cup HB.out hx179_2
                     replace hx179_3 := cup HB.out hx179_3
                     replace hx179_4 := cup HB.out hx179_4
                     replace hx179_5 := cup HB.out hx179_5
                     replace hx179_6 := cup HB.out hx179_6
                     replace hx179_7 := cup HB.out hx179_7
                     replace hx179_8 := cup HB.out hx179_8
                     have HR179_3 := Q0.mk hi179_3
                     have HC179_3 := Q0.mk hl179_3
                     clear hi179_3 hl179_3
                     have HR179_6 := Q0.mk hi179_6
                     have HC179_6 := Q0.mk hl179_6
                     clear hi179_6 hl179_6
                     have HR179_7 := Q0.mk hi179_7
                     have HC179_7 := Q0.mk hl179_7
                     clear hi179_7 hl179_7
                     have HR179_8 := Q0.mk hi179_8
                     have HC179_8 := Q0.mk hl179_8
                     clear hi179_8 hl179_8
                     replace p179 := eq_true p179
                     replace q179 := eq_true q179
                     go_wp2_with (first | (go_at_call 68; (with_reducible refine (Qi.calls ((Qb l0_2 a1).f6) 0 ((Qe l0_1 ((Qb l0_2 a1).f5)).f4) t180 _ A91.out).mono ?_); rintro e w' ⟨rfl, ⟨nd, rfl⟩⟩; (try first | exact ⟨rfl, _, World.drewN_drewN _ _ _⟩ | exact ⟨rfl, _, Eq.trans (World.drewN_drewN _ _ _) (congrArg (World.drewN _) (Nat.add_assoc _ _ _))⟩)))
                     repeat (go_quiet (first | (go_at_call 68; (with_reducible refine (Qi.calls ((Qb l0_2 a1).f6) 0 ((Qe l0_1 ((Qb l0_2 a1).f5)).f4) t180 _ A91.out).mono ?_); rintro e w' ⟨rfl, ⟨nd, rfl⟩⟩; (try first | exact ⟨rfl, _, World.drewN_drewN _ _ _⟩ | exact ⟨rfl, _, Eq.trans (World.drewN_drewN _ _ _) (congrArg (World.drewN _) (Nat.add_assoc _ _ _))⟩))); try go_wp2_with (first | (go_at_call 68; (with_reducible refine (Qi.calls ((Qb l0_2 a1).f6) 0 ((Qe l0_1 ((Qb l0_2 a1).f5)).f4) t180 _ A91.out).mono ?_); rintro e w' ⟨rfl, ⟨nd, rfl⟩⟩; (try first | exact ⟨rfl, _, World.drewN_drewN _ _ _⟩ | exact ⟨rfl, _, Eq.trans (World.drewN_drewN _ _ _) (congrArg (World.drewN _) (Nat.add_assoc _ _ _))⟩))))
                     go_meet
                     case rel => exact ⟨_, (!t180), (by first | rfl | (simp [*]; done)), H', ⟨by have := HJ4.out; have := HJ32.out; have := HJ53.out; first | omega | exact Nat.le_refl _⟩, ⟨by (with_reducible repeat (first | refine Q7 ?_ _ | refine Qa ?_ | refine Q8 ?_ _)); exact BK162.out⟩, ⟨by (with_reducible repeat (first | refine Q7 ?_ _ | refine Qa ?_ | refine Q8 ?_ _)); exact BK164.out⟩, ⟨by repeat (first | exact HB.out | apply Q4 | apply Q2 | apply Q6 | refine Q1 ?_ GE162.out | refine Q1 ?_ GE164.out)⟩⟩
                    ·rw [if_neg c90] at H
                     exact absurd H (by simp)
                   ·rw [if_neg c89] at H
                    exact absurd H (by simp)
                  ·rw [if_neg c88] at H
                   have c88b0 : decide (0 ≤ ((Qb l0_2 a1).f5)) = false := decide_eq_false c88
                   clear c88
                   have H' := Q0.mk H
                   clear H
                   have hnb95 := NB164_162.out
                   have hnc95 := NB162_164.out
                   obtain ⟨hcz96_0, hcz96_1, hcz96_2, hcz96_3, hcz96_4, hcz96_5, hcz96_6, hcz96_7, hcz96_8⟩ := Xg BK164.out
                   go_wp2
                   repeat (go_quiet (fail); try go_wp2)
                   go_meet
                   case rel => exact ⟨_, (false), (by first | rfl | (simp [*]; done)), H', ⟨by have := HJ4.out; have := HJ32.out; have := HJ53.out; first | omega | exact Nat.le_refl _⟩, ⟨by (with_reducible repeat (first | refine Q7 ?_ _ | refine Qa ?_ | refine Q8 ?_ _)); exact BK162.out⟩, ⟨by (with_reducible repeat (first | refine Q7 ?_ _ | refine Qa ?_ | refine Q8 ?_ _)); exact BK164.out⟩, ⟨by repeat (first | exact HB.out | apply Q4 | apply Q2 | apply Q6 | refine Q1 ?_ GE162.out | refine Q1 ?_ GE164.out)⟩⟩
                case rest =>
                 clear HC73
                 try clear c1
                 try clear p1
                 try clear q1
                 try clear hx1
                 try clear p2
                 try clear q2
                 try clear q3
                 try clear p6
                 try clear c7
                 try clear c8
                 try clear c9
                 try clear p16
                 try clear q16
                 try clear hx16
                 try clear c17
                 try clear p17
                 try clear q17
                 try clear hx17
                 try clear q29
                 try clear q36
                 try clear c72
                 try clear c74
                 try clear c74b0
                 try clear c74b1
                 try clear c76
                 try clear c77
                 try clear c77b0
                 try clear c78
                 try clear c78b0
                 try clear c79
                 try clear c79b0
                 try clear c81
                 try clear c84
                 try clear c86
                 try clear c88
                 try clear c88b0
                 try clear c89
                 try clear c89b0
                 try clear c90
                 try clear c90b0
                 try clear c92
                 try clear c95
                 try clear hx163_0
                 try clear hx163_1
                 try clear hx163_2
                 try clear hx163_3
                 try clear hx163_4
                 try clear hx163_5
                 try clear hx163_6
                 try clear hx163_7
                 try clear hx163_8
                 try clear hx177_0
                 try clear hx177_1
                 try clear hx177_2
                 try clear hx177_3
                 try clear hx177_4
                 try clear hx177_5
                 try clear hx177_6
                 try clear hx177_7
                 try clear hx177_8
                 try clear hx179_0
                 try clear hx179_1
                 try clear hx179_2
                 try clear hx179_3
                 try clear hx179_4
                 try clear hx179_5
                 try clear hx179_6
                 try clear hx179_7
                 try clear hx179_8
                 try clear p1
                 try clear p16
                 try clear p163
                 try clear p177
                 try clear p179
                 try clear p2
                 try clear p6
                 try clear q1
                 try clear q16
                 try clear q163
                 try clear q177
                 try clear q179
                 try clear q2
                 try clear q29
                 try clear q3
                 try clear q36
                 obtain ⟨kq, x90_72, rfl, HA, HJ72, BK162, BK164, HB⟩ := hcut
                 cases kq with
                 | zero => exact absurd HA.out (by simp [Qp.j3])
                 | succ kj72 =>
                  have H := HA.out
                  clear HA
                  simp only [Qp.j3] at H
                  by_cases c97 : x90_72 = true
                  ·subst c97
                   rw [if_pos rfl] at H
                   obtain rfl := Option.some.inj H
                   go_wp2
                   repeat (go_quiet (fail); try go_wp2)
                   go_ret
                   exact ⟨by first | rfl | (simp [*]; done), by repeat (first | exact HB.out | apply Q4 | apply Q2 | apply Q6 | refine Q1 ?_ GE162.out | refine Q1 ?_ GE164.out)⟩
                  ·replace c97 := Bool.eq_false_iff.mpr c97
                   subst c97
                   rw [if_neg (show ¬ (false = true) by decide)] at H
                   by_cases c98 : ((Qb l0_2 a1).f5) ≥ 0
                   ·rw [if_pos c98] at H
                    have c98b0 : decide (0 ≤ ((Qb l0_2 a1).f5)) = true := decide_eq_true c98
                    clear c98
                    by_cases c99 : 0 ≤ ((Qb l0_2 a1).f5)
                    ·rw [if_pos c99] at H
                     have c99b0 : decide (0 ≤ ((Qb l0_2 a1).f5)) = true := decide_eq_true c99
                     clear c99
                     by_cases c100 : ((Qb l0_2 a1).f5) < (l0_1.length : Int)
                     ·rw [if_pos c100] at H
                      have c100b0 : decide (((Qb l0_2 a1).f5) < (l0_1.length : Int)) = true := decide_eq_true c100
                      clear c100
                      by_cases c101 : (wrap64 (((Qb l0_2 a1).f6) + ((Qb l0_2 a1).f7))) > ((Qe l0_1 ((Qb l0_2 a1).f5)).f4)
                      ·rw [if_pos c101] at H
                       have c101b0 : decide (((Qe l0_1 ((Qb l0_2 a1).f5)).f4) < (wrap64 (((Qb l0_2 a1).f6) + ((Qb l0_2 a1).f7)))) = true := decide_eq_true c101
                       clear c101
                       obtain rfl := Option.some.inj H
                       have hnb102 := NB164_162.out
                       have hnc102 := NB162_164.out
                       obtain ⟨hcz103_0, hcz103_1, hcz103_2, hcz103_3, hcz103_4, hcz103_5, hcz103_6, hcz103_7, hcz103_8⟩ := Xg BK164.out
                       obtain ⟨hcz104_0, hcz104_1, hcz104_2, hcz104_3, hcz104_4, hcz104_5⟩ := QE BK162.out
                       have p181 : 0 ≤ (((Qb l0_2 a1).f5) : Int) := of_decide_eq_true ‹_›
                       have q181 : ((Qb l0_2 a1).f5) < (l0_1.length : Int) := of_decide_eq_true ‹_›
                       obtain ⟨ad181, A181_3, c181_3, A181_6, c181_6, A181_7, c181_7, A181_8, c181_8, e181, hx181_0, hx181_1, hx181_2, hx181_3, hx181_4, hx181_5, hx181_6, hx181_7, hx181_8, hl181_3, hi181_3, hl181_6, hi181_6, hl181_7, hi181_7, hl181_8, hi181_8⟩ := Yu HR0_1.out ((Qb l0_2 a1).f5) p181 q181
                       cases e181
                       replace hx181_0 := cup HB.out hx181_0
                       replace hx181_1 := cup HB.out hx181_1
                       replace hx181_2 := cup HB.out hx181_2
                       replace hx181_3 := cup HB.out hx181_3
                       replace hx181_4 := cup HB.out hx181_4
                       replace hx181_5 := cup HB.out hx181_5
                       replace hx181_6 := cup HB.out hx181_6
                       replace hx181_7 := cup HB.out hx181_7
                       replace hx181_8 := cup HB.out hx181_8
                       have HR181_3 := Q0.mk hi181_3
                       have HC181_3 := Q0.mk hl181_3
                       clear hi181_3 hl181_3
                       have HR181_6 := Q0.mk hi181_6
                       have HC181_6 := Q0.mk hl181_6
                       clear hi181_6 hl181_6
                       have HR181_7 := Q0.mk hi181_7
                       have HC181_7 := Q0.mk hl181_7
                       clear hi181_7 hl181_7
                       have HR181_8 := Q0.mk hi181_8
                       have HC181_8 := Q0.mk hl181_8
                       clear hi181_8 hl181_8
                       replace p181 := eq_true p181
                       replace q181 := eq_true q181
                       go_wp2
                       repeat (go_quiet (fail); try go_wp2)
                       go_ret
                       exact ⟨by first | rfl | (simp [*]; done), by repeat (first | exact HB.out | apply Q4 | apply Q2 | apply Q6 | refine Q1 ?_ GE162.out | refine Q1 ?_ GE164.out)⟩
                      ·rw [if_neg c101] at H
                       have c101b0 : decide (((Qe l0_1 ((Qb l0_2 a1).f5)).f4) < (wrap64 (((Qb l0_2 a1).f6) + ((Qb l0_2 a1).f7)))) = false := decide_eq_false c101
                       clear c101
                       by_cases c105 : ((Qb l0_2 a1).f4) = 1
                       ·rw [if_pos c105] at H
                        have c105b0 : (((Qb l0_2 a1).f4) == 1) = true := beq_iff_eq.mpr c105
                        have c105b1 : (((Qb l0_2 a1).f4) != 1) = false := bne_eq_false_iff_eq.mpr c105
                        clear c105
                        by_cases c106 : ((Qb l0_2 a1).f1).toList = ([] : List UInt8)
                        ·rw [if_pos c106] at H
                         have c106b0 : (((Qb l0_2 a1).f1).toList == ([] : List UInt8)) = true := beq_iff_eq.mpr c106
                         have c106b1 : (((Qb l0_2 a1).f1).toList != ([] : List UInt8)) = false := bne_eq_false_iff_eq.mpr c106
                         clear c106
                         by_cases c107 : ((Qb l0_2 a1).f2) = true
                         ·rw [if_pos c107] at H
                          have c107b0 : ((Qb l0_2 a1).f2) = true := c107
                          clear c107
                          obtain rfl := Option.some.inj H
                          have hnb108 := NB164_162.out
                          have hnc108 := NB162_164.out
                          obtain ⟨hcz109_0, hcz109_1, hcz109_2, hcz109_3, hcz109_4, hcz109_5, hcz109_6, hcz109_7, hcz109_8⟩ := Xg BK164.out
                          obtain ⟨hcz110_0, hcz110_1, hcz110_2, hcz110_3, hcz110_4, hcz110_5⟩ := QE BK162.out
                          have p181 : 0 ≤ (((Qb l0_2 a1).f5) : Int) := of_decide_eq_true ‹_›
                          have q181 : ((Qb l0_2 a1).f5) < (l0_1.length : Int) := of_decide_eq_true ‹_›
                          obtain ⟨ad181, A181_3, c181_3, A181_6, c181_6, A181_7, c181_7, A181_8, c181_8, e181, hx181_0, hx181_1, hx181_2, hx181_3, hx181_4, hx181_5, hx181_6, hx181_7, hx181_8, hl181_3, hi181_3, hl181_6, hi181_6, hl181_7, hi181_7, hl181_8, hi181_8⟩ := Yu HR0_1.out ((Qb l0_2 a1).f5) p181 q181
                          cases e181
                          replace hx181_0 := cup HB.out hx181_0
                          replace hx181_1 := cup HB.out hx181_1
                          replace hx181_2 := cup HB.out hx181_2
                          replace hx181_3 := cup HB.out hx181_3
                          replace hx181_4 := cup HB.out hx181_4
                          replace hx181_5 := cup HB.out hx181_5
                          replace hx181_6 := cup HB.out hx181_6
                          replace hx181_7 := cup HB.out hx181_7
                          replace hx181_8 := cup HB.out hx181_8
                          have HR181_3 := Q0.mk hi181_3
                          have HC181_3 := Q0.mk hl181_3
                          clear hi181_3 hl181_3
                          have HR181_6 := Q0.mk hi181_6
                          have HC181_6 := Q0.mk hl181_6
                          clear hi181_6 hl181_6
                          have HR181_7 := Q0.mk hi181_7
                          have HC181_7 := Q0.mk hl181_7
                          clear hi181_7 hl181_7
                          have HR181_8 := Q0.mk hi181_8
                          have HC181_8 := Q0.mk hl181_8
                          clear hi181_8 hl181_8
                          replace p181 := eq_true p181
                          replace q181 := eq_true q181
                          go_wp2
                          repeat (go_quiet (fail); try go_wp2)
                          go_ret
                          exact ⟨by first | rfl | (simp [*]; done), by repeat (first | exact HB.out | apply Q4 | apply Q2 | apply Q6 | refine Q1 ?_ GE162.out | refine Q1 ?_ GE164.out)⟩
                         ·rw [if_neg c107] at H
                          have c107b0 : ((Qb l0_2 a1).f2) = false := by simpa using c107
                          clear c107
                          by_cases c111 : ((Qb l0_2 a1).f3) = true
                          ·rw [if_pos c111] at H
                           have c111b0 : ((Qb l0_2 a1).f3) = true := c111
                           clear c111
                           obtain rfl := Option.some.inj H
                           have hnb112 := NB164_162.out
                           have hnc112 := NB162_164.out
                           obtain ⟨hcz113_0, hcz113_1, hcz113_2, hcz113_3, hcz113_4, hcz113_5, hcz113_6, hcz113_7, hcz113_8⟩ := Xg BK164.out
                           obtain ⟨hcz114_0, hcz114_1, hcz114_2, hcz114_3, hcz114_4, hcz114_5⟩ := QE BK162.out
                           have p181 : 0 ≤ (((Qb l0_2 a1).f5) : Int) := of_decide_eq_true ‹_›
                           have q181 : ((Qb l0_2 a1).f5) < (l0_1.length : Int) := of_decide_eq_true ‹_›
                           obtain ⟨ad181, A181_3, c181_3, A181_6, c181_6, A181_7, c181_7, A181_8, c181_8, e181, hx181_0, hx181_1, hx181_2, hx181_3, hx181_4, hx181_5, hx181_6, hx181_7, hx181_8, hl181_3, hi181_3, hl181_6, hi181_6, hl181_7, hi181_7, hl181_8, hi181_8⟩ := Yu HR0_1.out ((Qb l0_2 a1).f5) p181 q181
                           cases e181
                           replace hx181_0 := cup HB.out hx181_0
                           replace hx181_1 := cup HB.out hx181_1
                           replace hx181_2 := cup HB.out hx181_2
                           replace hx181_3 := cup HB.out hx181_3
                           replace hx181_4 := cup HB.out hx181_4
                           replace hx181_5 := cup HB.out hx181_5
                           replace hx181_6 := cup HB.out hx181_6
                           replace hx181_7 := cup HB.out hx181_7
                           replace hx181_8 := cup HB.out hx181_8
                           have HR181_3 := Q0.mk hi181_3
                           have HC181_3 := Q0.mk hl181_3
                           clear hi181_3 hl181_3
                           have HR181_6 := Q0.mk hi181_6
                           have HC181_6 := Q0.mk hl181_6
                           clear hi181_6 hl181_6
                           have HR181_7 := Q0.mk hi181_7
                           have HC181_7 := Q0.mk hl181_7
                           clear hi181_7 hl181_7
                           have HR181_8 := Q0.mk hi181_8
                           have HC181_8 := Q0.mk hl181_8
                           clear hi181_8 hl181_8
                           replace p181 := eq_true p181
                           replace q181 := eq_true q181
                           go_wp2
                           repeat (go_quiet (fail); try go_wp2)
                           go_ret
                           exact ⟨by first | rfl | (simp [*]; done), by repeat (first | exact HB.out | apply Q4 | apply Q2 | apply Q6 | refine Q1 ?_ GE162.out | refine Q1 ?_ GE164.out)⟩
                          ·rw [if_neg c111] at H
                           have c111b0 : ((Qb l0_2 a1).f3) = false := by simpa using c111
                           clear c111
                           obtain rfl := Option.some.inj H
                           have hnb115 := NB164_162.out
                           have hnc115 := NB162_164.out
                           obtain ⟨hcz116_0, hcz116_1, hcz116_2, hcz116_3, hcz116_4, hcz116_5, hcz116_6, hcz116_7, hcz116_8⟩ := Xg BK164.out
                           obtain ⟨hcz117_0, hcz117_1, hcz117_2, hcz117_3, hcz117_4, hcz117_5⟩ := QE BK162.out
                           have p181 : 0 ≤ (((Qb l0_2 a1).f5) : Int) := of_decide_eq_true ‹_›
                           have q181 : ((Qb l0_2 a1).f5) < (l0_1.length : Int) := of_decide_eq_true ‹_›
                           obtain ⟨ad181, A181_3, c181_3, A181_6, c181_6, A181_7, c181_7, A181_8, c181_8, e181, hx181_0, hx181_1, hx181_2, hx181_3, hx181_4, hx181_5, hx181_6, hx181_7, hx181_8, hl181_3, hi181_3, hl181_6, hi181_6, hl181_7, hi181_7, hl181_8, hi181_8⟩ := Yu HR0_1.out ((Qb l0_2 a1).f5) p181 q181
                           cases e181
                           replace hx181_0 := cup HB.out hx181_0
                           replace hx181_1 := cup HB.out hx181_1
                           replace hx181_2 := cup HB.out hx181_2
                           replace hx181_3 := cup HB.out hx181_3
                           replace hx181_4 := cup HB.out hx181_4
                           replace hx181_5 := cup HB.out hx181_5
                           replace hx181_6 := cup HB.out hx181_6
                           replace hx181_7 := cup HB.out hx181_7
                           replace hx181_8 := cup HB.out hx181_8
                           have HR181_3 := Q0.mk hi181_3
                           have HC181_3 := Q0.mk hl181_3
                           clear hi181_3 hl181_3
                           have HR181_6 := Q0.mk hi181_6
                           have HC181_6 := Q0.mk hl181_6
                           clear hi181_6 hl181_6
                           have HR181_7 := Q0.mk hi181_7
                           have HC181_7 := Q0.mk hl181_7
                           clear hi181_7 hl181_7
                           have HR181_8 := Q0.mk hi181_8
                           have HC181_8 := Q0.mk hl181_8
                           clear hi181_8 hl181_8
                           replace p181 := eq_true p181
                           replace q181 := eq_true q181
                           go_wp2
                           repeat (go_quiet (fail); try go_wp2)
                           go_ret
                           exact ⟨by first | rfl | (simp [*]; done), by repeat (first | exact HB.out | apply Q4 | apply Q2 | apply Q6 | refine Q1 ?_ GE162.out | refine Q1 ?_ GE164.out)⟩
                        ·rw [if_neg c106] at H
                         have c106b0 : (((Qb l0_2 a1).f1).toList == ([] : List UInt8)) = false := beq_eq_false_iff_ne.mpr c106
                         have c106b1 : (((Qb l0_2 a1).f1).toList != ([] : List UInt8)) = true := bne_iff_ne.mpr c106
                         obtain rfl := Option.some.inj H
                         have hnb118 := NB164_162.out
                         have hnc118 := NB162_164.out
                         obtain ⟨hcz119_0, hcz119_1, hcz119_2, hcz119_3, hcz119_4, hcz119_5, hcz119_6, hcz119_7, hcz119_8⟩ := Xg BK164.out
                         obtain ⟨hcz120_0, hcz120_1, hcz120_2, hcz120_3, hcz120_4, hcz120_5⟩ := QE BK162.out
                         have p181 : 0 ≤ (((Qb l0_2 a1).f5) : Int) := of_decide_eq_true ‹_›
                         have q181 : ((Qb l0_2 a1).f5) < (l0_1.length : Int) := of_decide_eq_true ‹_›
                         obtain ⟨ad181, A181_3, c181_3, A181_6, c181_6, A181_7, c181_7, A181_8, c181_8, e181, hx181_0, hx181_1, hx181_2, hx181_3, hx181_4, hx181_5, hx181_6, hx181_7, hx181_8, hl181_3, hi181_3, hl181_6, hi181_6, hl181_7, hi181_7, hl181_8, hi181_8⟩ := Yu HR0_1.out ((Qb l0_2 a1).f5) p181 q181
                         cases e181
                         replace hx181_0 := cup HB.out hx181_0
                         replace hx181_1 := cup HB.out hx181_1
                         replace hx181_2 := cup HB.out hx181_2
                         replace hx181_3 := cup HB.out hx181_3
                         replace hx181_4 := cup HB.out hx181_4
                         replace hx181_5 := cup HB.out hx181_5
                         replace hx181_6 := cup HB.out hx181_6
                         replace hx181_7 := cup HB.out hx181_7
                         replace hx181_8 := cup HB.out hx181_8
                         have HR181_3 := Q0.mk hi181_3
                         have HC181_3 := Q0.mk hl181_3
                         clear hi181_3 hl181_3
                         have HR181_6 := Q0.mk hi181_6
                         have HC181_6 := Q0.mk hl181_6
                         clear hi181_6 hl181_6
                         have HR181_7 := Q0.mk hi181_7
                         have HC181_7 := Q0.mk hl181_7
                         clear hi181_7 hl181_7
                         have HR181_8 := Q0.mk hi181_8
                         have HC181_8 := Q0.mk hl181_8
                         clear hi181_8 hl181_8
                         replace p181 := eq_true p181
                         replace q181 := eq_true q181
                         go_wp2
                         repeat (go_quiet (fail); try go_wp2)
                         go_ret
                         exact ⟨by first | rfl | (simp [*]; done), by repeat (first | exact HB.out | apply Q4 | apply Q2 | apply Q6 | refine Q1 ?_ GE162.out | refine Q1 ?_ GE164.out)⟩
                       ·rw [if_neg c105] at H
                        have c105b0 : (((Qb l0_2 a1).f4) == 1) = false := beq_eq_false_iff_ne.mpr c105
                        have c105b1 : (((Qb l0_2 a1).f4) != 1) = true := bne_iff_ne.mpr c105
                        by_cases c121 : ((Qb l0_2 a1).f2) = true
                        ·rw [if_pos c121] at H
                         have c121b0 : ((Qb l0_2 a1).f2) = true := c121
                         clear c121
                         by_cases c122 : ((Qb l0_2 a1).f1).toList = ([] : List UInt8)
                         ·rw [if_pos c122] at H
                          have c122b0 : (((Qb l0_2 a1).f1).toList == ([] : List UInt8)) = true := beq_iff_eq.mpr c122
                          have c122b1 : (((Qb l0_2 a1).f1).toList != ([] : List UInt8)) = false := bne_eq_false_iff_eq.mpr c122
                          clear c122
                          obtain rfl := Option.some.inj H
                          have hnb123 := NB164_162.out
                          have hnc123 := NB162_164.out
                          obtain ⟨hcz124_0, hcz124_1, hcz124_2, hcz124_3, hcz124_4, hcz124_5, hcz124_6, hcz124_7, hcz124_8⟩ := Xg BK164.out
                          obtain ⟨hcz125_0, hcz125_1, hcz125_2, hcz125_3, hcz125_4, hcz125_5⟩ := QE BK162.out
                          have p181 : 0 ≤ (((Qb l0_2 a1).f5) : Int) := of_decide_eq_true ‹_›
                          have q181 : ((Qb l0_2 a1).f5) < (l0_1.length : Int) := of_decide_eq_true ‹_›
                          obtain ⟨ad181, A181_3, c181_3, A181_6, c181_6, A181_7, c181_7, A181_8, c181_8, e181, hx181_0, hx181_1, hx181_2, hx181_3, hx181_4, hx181_5, hx181_6, hx181_7, hx181_8, hl181_3, hi181_3, hl181_6, hi181_6, hl181_7, hi181_7, hl181_8, hi181_8⟩ := Yu HR0_1.out ((Qb l0_2 a1).f5) p181 q181
                          cases e181
                          replace hx181_0 := cup HB.out hx181_0
                          replace hx181_1 := cup HB.out hx181_1
                          replace hx181_2 := cup HB.out hx181_2
                          replace hx181_3 := cup HB.out hx181_3
                          replace hx181_4 := cup HB.out hx181_4
                          replace hx181_5 := cup HB.out hx181_5
                          replace hx181_6 := cup HB.out hx181_6
                          replace hx181_7 := cup HB.out hx181_7
                          replace hx181_8 := cup HB.out hx181_8
                          have HR181_3 := Q0.mk hi181_3
                          have HC181_3 := Q0.mk hl181_3
                          clear hi181_3 hl181_3
                          have HR181_6 := Q0.mk hi181_6
                          have HC181_6 := Q0.mk hl181_6
                          clear hi181_6 hl181_6
                          have HR181_7 := Q0.mk hi181_7
                          have HC181_7 := Q0.mk hl181_7
                          clear hi181_7 hl181_7
                          have HR181_8 := Q0.mk hi181_8
                          have HC181_8 := Q0.mk hl181_8
                          clear hi181_8 hl181_8
                          replace p181 := eq_true p181
                          replace q181 := eq_true q181
                          go_wp2
                          repeat (go_quiet (fail); try go_wp2)
                          go_ret
                          exact ⟨by first | rfl | (simp [*]; done), by repeat (first | exact HB.out | apply Q4 | apply Q2 | apply Q6 | refine Q1 ?_ GE162.out | refine Q1 ?_ GE164.out)⟩
                         ·rw [if_neg c122] at H
                          have c122b0 : (((Qb l0_2 a1).f1).toList == ([] : List UInt8)) = false := beq_eq_false_iff_ne.mpr c122
                          have c122b1 : (((Qb l0_2 a1).f1).toList != ([] : List UInt8)) = true := bne_iff_ne.mpr c122
                          obtain rfl := Option.some.inj H
                          have hnb126 := NB164_162.out
                          have hnc126 := NB162_164.out
                          obtain ⟨hcz127_0, hcz127_1, hcz127_2, hcz127_3, hcz127_4, hcz127_5, hcz127_6, hcz127_7, hcz127_8⟩ := Xg BK164.out
                          obtain ⟨hcz128_0, hcz128_1, hcz128_2, hcz128_3, hcz128_4, hcz128_5⟩ := QE BK162.out
                          have p181 : 0 ≤ (((Qb l0_2 a1).f5) : Int) := of_decide_eq_true ‹_›
                          have q181 : ((Qb l0_2 a1).f5) < (l0_1.length : Int) := of_decide_eq_true ‹_›
                          obtain ⟨ad181, A181_3, c181_3, A181_6, c181_6, A181_7, c181_7, A181_8, c181_8, e181, hx181_0, hx181_1, hx181_2, hx181_3, hx181_4, hx181_5, hx181_6, hx181_7, hx181_8, hl181_3, hi181_3, hl181_6, hi181_6, hl181_7, hi181_7, hl181_8, hi181_8⟩ := Yu HR0_1.out ((Qb l0_2 a1).f5) p181 q181
                          cases e181
                          replace hx181_0 := cup HB.out hx181_0
                          replace hx181_1 := cup HB.out hx181_1
                          replace hx181_2 := cup HB.out hx181_2
                          replace hx181_3 := cup HB.out hx181_3
                          replace hx181_4 := cup HB.out hx181_4
                          replace hx181_5 := cup HB.out hx181_5
                          replace hx181_6 := cup HB.out hx181_6
                          replace hx181_7 := cup HB.out hx181_7
                          replace hx181_8 := cup HB.out hx181_8
                          have HR181_3 := Q0.mk hi181_3
                          have HC181_3 := Q0.mk hl181_3
                          clear hi181_3 hl181_3
                          have HR181_6 := Q0.mk hi181_6
                          have HC181_6 := Q0.mk hl181_6
                          clear hi181_6 hl181_6
                          have HR181_7 := Q0.mk hi181_7
                          have HC181_7 := Q0.mk hl181_7
                          clear hi181_7 hl181_7
                          have HR181_8 := Q0.mk hi181_8
                          have HC181_8 := Q0.mk hl181_8
                          clear hi181_8 hl181_8
                          replace p181 := eq_true p181
                          replace q181 := eq_true q181
                          go_wp2
                          repeat (go_quiet (fail); try go_wp2)
                          go_ret
                          exact ⟨by first | rfl | (simp [*]; done), by repeat (first | exact HB.out | apply Q4 | apply Q2 | apply Q6 | refine Q1 ?_ GE162.out | refine Q1 ?_ GE164.out)⟩
                        ·rw [if_neg c121] at H
                         have c121b0 : ((Qb l0_2 a1).f2) = false := by simpa using c121
                         clear c121
                         obtain rfl := Option.some.inj H
                         have hnb129 := NB164_162.out
                         have hnc129 := NB162_164.out
                         obtain ⟨hcz130_0, hcz130_1, hcz130_2, hcz130_3, hcz130_4, hcz130_5, hcz130_6, hcz130_7, hcz130_8⟩ := Xg BK164.out
                         obtain ⟨hcz131_0, hcz131_1, hcz131_2, hcz131_3, hcz131_4, hcz131_5⟩ := QE BK162.out
                         have p181 : 0 ≤ (((Qb l0_2 a1).f5) : Int) := of_decide_eq_true ‹_›
                         have q181 : ((Qb l0_2 a1).f5) < (l0_1.length : Int) := of_decide_eq_true ‹_›
                         obtain ⟨ad181, A181_3, c181_3, A181_6, c181_6, A181_7, c181_7, A181_8, c181_8, e181, hx181_0, hx181_1, hx181_2, hx181_3, hx181_4, hx181_5, hx181_6, hx181_7, hx181_8, hl181_3, hi181_3, hl181_6, hi181_6, hl181_7, hi181_7, hl181_8, hi181_8⟩ := Yu HR0_1.out ((Qb l0_2 a1).f5) p181 q181
                         cases e181
                         replace hx181_0 := cup HB.out hx181_0
                         replace hx181_1 := cup HB.out hx181_1
                         replace hx181_2 := cup HB.out hx181_2
                         replace hx181_3 := cup HB.out hx181_3
                         replace hx181_4 := cup HB.out hx181_4
                         replace hx181_5 := cup HB.out hx181_5
                         replace hx181_6 := cup HB.out hx181_6
                         replace hx181_7 := cup HB.out hx181_7
                         replace hx181_8 := cup HB.out hx181_8
                         have HR181_3 := Q0.mk hi181_3
                         have HC181_3 := Q0.mk hl181_3
                         clear hi181_3 hl181_3
                         have HR181_6 := Q0.mk hi181_6
                         have HC181_6 := Q0.mk hl181_6
                         clear hi181_6 hl181_6
                         have HR181_7 := Q0.mk hi181_7
                         have HC181_7 := Q0.mk hl181_7
                         clear hi181_7 hl181_7
                         have HR181_8 := Q0.mk hi181_8
                         have HC181_8 := Q0.mk hl181_8
                         clear hi181_8 hl181_8
                         replace p181 := eq_true p181
                         replace q181 := eq_true q181
                         go_wp2
                         repeat (go_quiet (fail); try go_wp2)
                         go_ret
                         exact ⟨by first | rfl | (simp [*]; done), by repeat (first | exact HB.out | apply Q4 | apply Q2 | apply Q6 | refine Q1 ?_ GE162.out | refine Q1 ?_ GE164.out)⟩
                     ·rw [if_neg c100] at H
                      exact absurd H (by simp)
                    ·rw [if_neg c99] at H
                     exact absurd H (by simp)
                   ·rw [if_neg c98] at H
                    have c98b0 : decide (0 ≤ ((Qb l0_2 a1).f5)) = false := decide_eq_false c98
                    clear c98
                    by_cases c132 : ((Qb l0_2 a1).f4) = 1
                    ·rw [if_pos c132] at H
                     have c132b0 : (((Qb l0_2 a1).f4) == 1) = true := beq_iff_eq.mpr c132
                     have c132b1 : (((Qb l0_2 a1).f4) != 1) = false := bne_eq_false_iff_eq.mpr c132
                     clear c132
                     by_cases c133 : ((Qb l0_2 a1).f1).toList = ([] : List UInt8)
                     ·rw [if_pos c133] at H
                      have c133b0 : (((Qb l0_2 a1).f1).toList == ([] : List UInt8)) = true := beq_iff_eq.mpr c133
                      have c133b1 : (((Qb l0_2 a1).f1).toList != ([] : List UInt8)) = false := bne_eq_false_iff_eq.mpr c133
                      clear c133
                      by_cases c134 : ((Qb l0_2 a1).f2) = true
                      ·rw [if_pos c134] at H
                       have c134b0 : ((Qb l0_2 a1).f2) = true := c134
                       clear c134
                       obtain rfl := Option.some.inj H
                       have hnb135 := NB164_162.out
                       have hnc135 := NB162_164.out
                       obtain ⟨hcz136_0, hcz136_1, hcz136_2, hcz136_3, hcz136_4, hcz136_5, hcz136_6, hcz136_7, hcz136_8⟩ := Xg BK164.out
                       go_wp2
                       repeat (go_quiet (fail); try go_wp2)
                       go_ret
                       exact ⟨by first | rfl | (simp [*]; done), by repeat (first | exact HB.out | apply Q4 | apply Q2 | apply Q6 | refine Q1 ?_ GE162.out | refine Q1 ?_ GE164.out)⟩
                      ·rw [if_neg c134] at H
                       have c134b0 : ((Qb l0_2 a1).f2) = false := by simpa using c134
                       clear c134
                       by_cases c137 : ((Qb l0_2 a1).f3) = true
                       ·rw [if_pos c137] at H
                        have c137b0 : ((Qb l0_2 a1).f3) = true := c137
                        clear c137
                        obtain rfl := Option.some.inj H
                        have hnb138 := NB164_162.out
                        have hnc138 := NB162_164.out
                        obtain ⟨hcz139_0, hcz139_1, hcz139_2, hcz139_3, hcz139_4, hcz139_5, hcz139_6, hcz139_7, hcz139_8⟩ := Xg BK164.out
                        go_wp2
                        repeat (go_quiet (fail); try go_wp2)
                        go_ret
                        exact ⟨by first | rfl | (simp [*]; done), by repeat (first | exact HB.out | apply Q4 | apply Q2 | apply Q6 | refine Q1 ?_ GE162.out | refine Q1 ?_ GE164.out)⟩
                       ·rw [if_neg c137] at H
                        have c137b0 : ((Qb l0_2 a1).f3) = false := by simpa using c137
                        clear c137
                        obtain rfl := Option.some.inj H
                        have hnb140 := NB164_162.out
                        have hnc140 := NB162_164.out
                        obtain ⟨hcz141_0, hcz141_1, hcz141_2, hcz141_3, hcz141_4, hcz141_5, hcz141_6, hcz141_7, hcz141_8⟩ := Xg BK164.out
                        go_wp2
                        repeat (go_quiet (fail); try go_wp2)
                        go_ret
                        exact ⟨by first | rfl | (simp [*]; done), by repeat (first | exact HB.out | apply Q4 | apply Q2 | apply Q6 | refine Q1 ?_ GE162.out | refine Q1 ?_ GE164.out)⟩
                     ·rw [if_neg c133] at H
                      have c133b0 : (((Qb l0_2 a1).f1).toList == ([] : List UInt8)) = false := beq_eq_false_iff_ne.mpr c133
                      have c133b1 : (((Qb l0_2 a1).f1).toList != ([] : List UInt8)) = true := bne_iff_ne.mpr c133
                      obtain rfl := Option.some.inj H
                      have hnb142 := NB164_162.out
                      have hnc142 := NB162_164.out
                      obtain ⟨hcz143_0, hcz143_1, hcz143_2, hcz143_3, hcz143_4, hcz143_5, hcz143_6, hcz143_7, hcz143_8⟩ := Xg BK164.out
                      go_wp2
                      repeat (go_quiet (fail); try go_wp2)
                      go_ret
                      exact ⟨by first | rfl | (simp [*]; done), by repeat (first | exact HB.out | apply Q4 | apply Q2 | apply Q6 | refine Q1 ?_ GE162.out | refine Q1 ?_ GE164.out)⟩
                    ·rw [if_neg c132] at H
                     have c132b0 : (((Qb l0_2 a1).f4) == 1) = false := beq_eq_false_iff_ne.mpr c132
                     have c132b1 : (((Qb l0_2 a1).f4) != 1) = true := bne_iff_ne.mpr c132
                     by_cases c144 : ((Qb l0_2 a1).f2) = true
                     ·rw [if_pos c144] at H
                      have c144b0 : ((Qb l0_2 a1).f2) = true := c144
                      clear c144
                      by_cases c145 : ((Qb l0_2 a1).f1).toList = ([] : List UInt8)
                      ·rw [if_pos c145] at H
                       have c145b0 : (((Qb l0_2 a1).f1).toList == ([] : List UInt8)) = true := beq_iff_eq.mpr c145
                       have c145b1 : (((Qb l0_2 a1).f1).toList != ([] : List UInt8)) = false := bne_eq_false_iff_eq.mpr c145
                       clear c145
                       obtain rfl := Option.some.inj H
                       have hnb146 := NB164_162.out
                       have hnc146 := NB162_164.out
                       obtain ⟨hcz147_0, hcz147_1, hcz147_2, hcz147_3, hcz147_4, hcz147_5, hcz147_6, hcz147_7, hcz147_8⟩ := Xg BK164.out
                       go_wp2
                       repeat (go_quiet (fail); try go_wp2)
                       go_ret
                       exact ⟨by first | rfl | (simp [*]; done), by repeat (first | exact HB.out | apply Q4 | apply Q2 | apply Q6 | refine Q1 ?_ GE162.out | refine Q1 ?_ GE164.out)⟩
                      ·rw [if_neg c145] at H
                       have c145b0 : (((Qb l0_2 a1).f1).toList == ([] : List UInt8)) = false := beq_eq_false_iff_ne.mpr c145
                       have c145b1 : (((Qb l0_2 a1).f1).toList != ([] : List UInt8)) = true := bne_iff_ne.mpr c145
                       obtain rfl := Option.some.inj H
                       have hnb148 := NB164_162.out
                       have hnc148 := NB162_164.out
                       obtain ⟨hcz149_0, hcz149_1, hcz149_2, hcz149_3, hcz149_4, hcz149_5, hcz149_6, hcz149_7, hcz149_8⟩ := Xg BK164.out
                       go_wp2
                       repeat (go_quiet (fail); try go_wp2)
                       go_ret
                       exact ⟨by first | rfl | (simp [*]; done), by repeat (first | exact HB.out | apply Q4 | apply Q2 | apply Q6 | refine Q1 ?_ GE162.out | refine Q1 ?_ GE164.out)⟩
                     ·rw [if_neg c144] at H
                      have c144b0 : ((Qb l0_2 a1).f2) = false := by simpa using c144
                      clear c144
                      obtain rfl := Option.some.inj H
                      have hnb150 := NB164_162.out
                      have hnc150 := NB162_164.out
                      obtain ⟨hcz151_0, hcz151_1, hcz151_2, hcz151_3, hcz151_4, hcz151_5, hcz151_6, hcz151_7, hcz151_8⟩ := Xg BK164.out
                      go_wp2
                      repeat (go_quiet (fail); try go_wp2)
                      go_ret
                      exact ⟨by first | rfl | (simp [*]; done), by repeat (first | exact HB.out | apply Q4 | apply Q2 | apply Q6 | refine Q1 ?_ GE162.out | refine Q1 ?_ GE164.out)⟩
         ·replace c32 := Bool.eq_false_iff.mpr c32
          subst c32
          rw [if_neg (show ¬ (false = true) by decide)] at H
          obtain rfl := Option.some.inj H
          have hnb152 := NB162_164.out
          have hnc152 := NB164_162.out
          obtain ⟨hcz153_0, hcz153_1, hcz153_2, hcz153_3, hcz153_4, hcz153_5⟩ := QE BK162.out
          have q154 : (a1 : Int) ≤ ((l0_2.length : Int) : Int) := of_decide_eq_true ‹_›
          obtain ⟨i0154, hi0154, _, hsz154, _⟩ := info_parts info61
          have hroom154 : l0_2.length ≤ c0_2 := HC0_2.out
          have hC154 : Kd.C k61 _ (some ad163) l0_2.length l0_2 := HR0_2.out
          have hcut154 := Yh (P := Try.prog) 41 61 .i64 Try.underlying41 hi0154 (some ad163) l0_2.length c0_2 a1 (of_decide_eq_true ‹_›) q154 hroom154
          have hr154 := Kd.Yj (m := (a1 : Int).toNat) hC154 (by omega)
          have hy154 : y167.length = (a1 : Int).toNat := (by rw [Ny167.out, List.length_take]; omega)
          rw [← Ny167.out] at hr154
          rw [← hy154] at hcut154
          have HR170 := Q0.mk hr154
          have HC170 := Q0.mk (show y167.length ≤ c0_2 from by omega)
          clear hr154 hC154 hroom154 hi0154 hsz154
          have KY154 := Q0.mk hy154
          clear hy154
          replace q154 := eq_true q154
          go_wp2_with (first | (go_at_call 56; (with_reducible refine (Yf.calls _ _ y167 gb164 ((Qb l0_2 a1).f0) false _ ?side1 ?side2 ?side3 A25.out).mono ?_); (case side1 => repeat (first | exact (Kd.Qx HR170.out HB.out) | (with_reducible refine Kd.QT ?_ _) | (with_reducible refine Kd.QS ?_ _) | (with_reducible refine Kd.X6 ?_))); (case side2 => exact HC170.out); (case side3 => exact ⟨_, (by (with_reducible repeat (first | refine Q7 ?_ _ | refine Qa ?_ | refine Q8 ?_ _)); exact BK164.out), rfl⟩); rintro e w155 ⟨rfl, hb⟩; replace BK162 := Q0.mk (Q9 (g := gb162) (o := .cells #[.string a0_0, .slice A0_1 l0_1.length c0_1, .slice (some ad163) l0_2.length c0_2, .slice A0_3 l0_3.length c0_3, .slice A0_4 l0_4.length c0_4, .slice A0_5 l0_5.length c0_5] 46 (0, 0)) (by (with_reducible repeat (first | refine Q7 ?_ _ | refine Qa ?_ | refine Q8 ?_ _)); exact BK162.out) hb); replace BK164 := Q0.mk (Q9 (g := gb164) (o := .cells #[.string ((Qb l0_2 a1).f0), .string ((Qb l0_2 a1).f1), .bool ((Qb l0_2 a1).f2), .bool ((Qb l0_2 a1).f3), .int .i64 ((Qb l0_2 a1).f4), .int .i64 ((Qb l0_2 a1).f5), .int .i64 ((Qb l0_2 a1).f6), .int .i64 ((Qb l0_2 a1).f7), .int .i64 ((Qb l0_2 a1).f8)] 61 (0, 0)) (by (with_reducible repeat (first | refine Q7 ?_ _ | refine Qa ?_ | refine Q8 ?_ _)); exact BK164.out) hb); replace HB := Q0.mk (Qj (by repeat (first | exact HB.out | apply Q4 | apply Q2 | apply Q6 | refine Q1 ?_ GE162.out | refine Q1 ?_ GE164.out)) hb); obtain ⟨hcz156_0, hcz156_1, hcz156_2, hcz156_3, hcz156_4, hcz156_5, hcz156_6, hcz156_7, hcz156_8⟩ := Xg BK164.out; obtain ⟨hfz156_0, hfz156_1, hfz156_2, hfz156_3, hfz156_4, hfz156_5, hfz156_6, hfz156_7, hfz156_8⟩ := Ys BK164.out) | (go_at_call 68; (with_reducible refine (Qi.calls ((Qb l0_2 a1).f4) 1 3 false _ A31.out).mono ?_); rintro e w' ⟨rfl, ⟨nd, rfl⟩⟩; (try first | exact ⟨rfl, _, World.drewN_drewN _ _ _⟩ | exact ⟨rfl, _, Eq.trans (World.drewN_drewN _ _ _) (congrArg (World.drewN _) (Nat.add_assoc _ _ _))⟩)))
          repeat (go_quiet (fail); try go_wp2)
          go_ret
          exact ⟨by first | rfl | (simp [*]; done), by repeat (first | exact HB.out | apply Q4 | apply Q2 | apply Q6 | refine Q1 ?_ GE162.out | refine Q1 ?_ GE164.out)⟩
       ·rw [if_neg c24] at H
        exact absurd H (by simp)
      ·rw [if_neg c23] at H
       exact absurd H (by simp)
  ·rw [if_neg c4] at H
   exact absurd H (by simp)
 ·rw [if_neg c3] at H
  exact absurd H (by simp)
end Go.Proofs.Ytakabkjhnncbhaa.PX
