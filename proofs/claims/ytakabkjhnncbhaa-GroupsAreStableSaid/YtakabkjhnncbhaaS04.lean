/- A part of the proof of a law: its words, walks of functions, or plain lemmas. -/
-- Written by this session's own programs (wip/printx.py, gen_*.py, assemble.py) and by hand.
import Derived.Test.YtakabkjhnncbhaaS01
import Derived.Test.YtakabkjhnncbhaaS03
namespace Go.Proofs.Ytakabkjhnncbhaa.PX
open Go.RowKit Go.Proofs.YtakabkjhnncbhaaW.PrintWords Go.Proofs.YtakabkjhnncbhaaW.PrintLast Go.Proofs.YtakabkjhnncbhaaW.PrintMore
attribute [local go_sem] Xk Xi Xs Xr X5 X4 Xj Xh   -- for this text's walks alone
set_option linter.unusedVariables false
set_option linter.unusedSimpArgs false
mutual
def Qo.j3 : Nat → ByteArray → List (S89) → List (S61) → List (S49) → List ByteArray → List (S122) → ByteArray → Int → Int → List Int → Int → Bool → List (S97) → List (S126) → List (S128) → Option (Int)
 | 0, _, _, _, _, _, _, _, _, _, _, _, _, _, _, _ => none
 | k + 1, x149000, x149001, x149002, x149003, x149004, x149005, x151000, x151001, x151002, x151003, x151004, x151005, x151006, x151007, x151008 => (QL.f k x151000 x151001 x151002 x151003 x151004 x151005 x151006 x151007 x151008 (x149002.length : Int)).bind fun t160 => (if t160 = 0 then ((Qv.f k x151000 x151001 x151002 x151003 x151004 x151005 x151006 x151007 x151008 (x149004.length : Int)).bind fun t161 => (some t161)) else (some t160))
def Qo.j0 : Nat → Bool → ByteArray → List (S89) → List (S61) → List (S49) → List ByteArray → List (S122) → ByteArray → Int → Int → List Int → Int → Bool → List (S97) → List (S126) → List (S128) → Option (Int)
 | 0, _, _, _, _, _, _, _, _, _, _, _, _, _, _, _, _ => none
 | k + 1, x29, x149000, x149001, x149002, x149003, x149004, x149005, x151000, x151001, x151002, x151003, x151004, x151005, x151006, x151007, x151008 => if x29 = true then (some 3) else (if x151001 = 4 then (if (x151003.length : Int) > 0 then (Qo.j1 k true x149000 x149001 x149002 x149003 x149004 x149005 x151000 x151001 x151002 x151003 x151004 x151005 x151006 x151007 x151008) else (Qo.j1 k false x149000 x149001 x149002 x149003 x149004 x149005 x151000 x151001 x151002 x151003 x151004 x151005 x151006 x151007 x151008)) else (Qo.j1 k ((x151003.length : Int) != x151004) x149000 x149001 x149002 x149003 x149004 x149005 x151000 x151001 x151002 x151003 x151004 x151005 x151006 x151007 x151008))
def Qo.j1 : Nat → Bool → ByteArray → List (S89) → List (S61) → List (S49) → List ByteArray → List (S122) → ByteArray → Int → Int → List Int → Int → Bool → List (S97) → List (S126) → List (S128) → Option (Int)
 | 0, _, _, _, _, _, _, _, _, _, _, _, _, _, _, _, _ => none
 | k + 1, x49, x149000, x149001, x149002, x149003, x149004, x149005, x151000, x151001, x151002, x151003, x151004, x151005, x151006, x151007, x151008 => if x49 = true then (some 9) else (if (x151006.length : Int) > 100 then (Qo.j2 k true x149000 x149001 x149002 x149003 x149004 x149005 x151000 x151001 x151002 x151003 x151004 x151005 x151006 x151007 x151008) else (if (x151007.length : Int) > 100 then (Qo.j2 k true x149000 x149001 x149002 x149003 x149004 x149005 x151000 x151001 x151002 x151003 x151004 x151005 x151006 x151007 x151008) else (Qo.j2 k (decide ((x151008.length : Int) > 100)) x149000 x149001 x149002 x149003 x149004 x149005 x151000 x151001 x151002 x151003 x151004 x151005 x151006 x151007 x151008)))
def Qo.j2 : Nat → Bool → ByteArray → List (S89) → List (S61) → List (S49) → List ByteArray → List (S122) → ByteArray → Int → Int → List Int → Int → Bool → List (S97) → List (S126) → List (S128) → Option (Int)
 | 0, _, _, _, _, _, _, _, _, _, _, _, _, _, _, _, _ => none
 | k + 1, x72, x149000, x149001, x149002, x149003, x149004, x149005, x151000, x151001, x151002, x151003, x151004, x151005, x151006, x151007, x151008 => if x72 = true then (some 2) else (if x151001 = 1 then (Qo.j3 k x149000 x149001 x149002 x149003 x149004 x149005 x151000 x151001 x151002 x151003 x151004 x151005 x151006 x151007 x151008) else (if (wrap64 ((x151007.length : Int) + (x151008.length : Int))) > 0 then (some 8) else (Qo.j3 k x149000 x149001 x149002 x149003 x149004 x149005 x151000 x151001 x151002 x151003 x151004 x151005 x151006 x151007 x151008)))
end
def Qo.f (k : Nat) (a0_0 : ByteArray) (l0_1 : List (S89)) (l0_2 : List (S61)) (l0_3 : List (S49)) (l0_4 : List ByteArray) (l0_5 : List (S122)) (a1 : Int) : Option (Int) := if 0 ≤ a1 then (if a1 < (l0_1.length : Int) then ((Qn.f k ((Qe l0_1 a1).f0)).bind fun t151 => (if t151 = true then (if a1 ≤ (l0_1.length : Int) then ((Yb.f (l0_1.take (a1 : Int).toNat) ((Qe l0_1 a1).f0)).bind fun t156 => (if t156 = true then (some 7) else ((Qi.f ((Qe l0_1 a1).f1) 1 5).bind fun t157 => (if t157 = true then ((Qi.f ((Qe l0_1 a1).f2) 1 256).bind fun t158 => (if t158 = true then (if (Go.bits .and .i64 ((Qe l0_1 a1).f2) (wrap64 (((Qe l0_1 a1).f2) - 1))) = 0 then ((Qi.f ((Qe l0_1 a1).f4) 0 1500).bind fun t159 => (Qo.j0 k (!t159) a0_0 l0_1 l0_2 l0_3 l0_4 l0_5 ((Qe l0_1 a1).f0) ((Qe l0_1 a1).f1) ((Qe l0_1 a1).f2) ((Qe l0_1 a1).f3) ((Qe l0_1 a1).f4) ((Qe l0_1 a1).f5) ((Qe l0_1 a1).f6) ((Qe l0_1 a1).f7) ((Qe l0_1 a1).f8))) else (Qo.j0 k true a0_0 l0_1 l0_2 l0_3 l0_4 l0_5 ((Qe l0_1 a1).f0) ((Qe l0_1 a1).f1) ((Qe l0_1 a1).f2) ((Qe l0_1 a1).f3) ((Qe l0_1 a1).f4) ((Qe l0_1 a1).f5) ((Qe l0_1 a1).f6) ((Qe l0_1 a1).f7) ((Qe l0_1 a1).f8))) else (Qo.j0 k true a0_0 l0_1 l0_2 l0_3 l0_4 l0_5 ((Qe l0_1 a1).f0) ((Qe l0_1 a1).f1) ((Qe l0_1 a1).f2) ((Qe l0_1 a1).f3) ((Qe l0_1 a1).f4) ((Qe l0_1 a1).f5) ((Qe l0_1 a1).f6) ((Qe l0_1 a1).f7) ((Qe l0_1 a1).f8)))) else (some 4))))) else (none)) else (some 12))) else (none)) else (none)
theorem Qo.Xn : ∀ k, (∀ y0 y1 y2 y3 y4 y5 y6 y7 y8 y9 y10 y11 y12 y13 y14, LeO (Qo.j3 k y0 y1 y2 y3 y4 y5 y6 y7 y8 y9 y10 y11 y12 y13 y14) (Qo.j3 (k + 1) y0 y1 y2 y3 y4 y5 y6 y7 y8 y9 y10 y11 y12 y13 y14)) ∧ (∀ y0 y1 y2 y3 y4 y5 y6 y7 y8 y9 y10 y11 y12 y13 y14 y15, LeO (Qo.j0 k y0 y1 y2 y3 y4 y5 y6 y7 y8 y9 y10 y11 y12 y13 y14 y15) (Qo.j0 (k + 1) y0 y1 y2 y3 y4 y5 y6 y7 y8 y9 y10 y11 y12 y13 y14 y15)) ∧ (∀ y0 y1 y2 y3 y4 y5 y6 y7 y8 y9 y10 y11 y12 y13 y14 y15, LeO (Qo.j1 k y0 y1 y2 y3 y4 y5 y6 y7 y8 y9 y10 y11 y12 y13 y14 y15) (Qo.j1 (k + 1) y0 y1 y2 y3 y4 y5 y6 y7 y8 y9 y10 y11 y12 y13 y14 y15)) ∧ (∀ y0 y1 y2 y3 y4 y5 y6 y7 y8 y9 y10 y11 y12 y13 y14 y15, LeO (Qo.j2 k y0 y1 y2 y3 y4 y5 y6 y7 y8 y9 y10 y11 y12 y13 y14 y15) (Qo.j2 (k + 1) y0 y1 y2 y3 y4 y5 y6 y7 y8 y9 y10 y11 y12 y13 y14 y15))
 | 0 => ⟨fun _ _ _ _ _ _ _ _ _ _ _ _ _ _ _ r h => by simp [Qo.j3] at h, fun _ _ _ _ _ _ _ _ _ _ _ _ _ _ _ _ r h => by simp [Qo.j0] at h, fun _ _ _ _ _ _ _ _ _ _ _ _ _ _ _ _ r h => by simp [Qo.j1] at h, fun _ _ _ _ _ _ _ _ _ _ _ _ _ _ _ _ r h => by simp [Qo.j2] at h⟩
 | k + 1 => by
  obtain ⟨ih0, ih1, ih2, ih3⟩ := Qo.Xn k
  refine ⟨?_, ?_, ?_, ?_⟩
  ·intro y0 y1 y2 y3 y4 y5 y6 y7 y8 y9 y10 y11 y12 y13 y14
   unfold Qo.j3
   repeat' first
   | (with_reducible exact ih0 _ _ _ _ _ _ _ _ _ _ _ _ _ _ _)
   | (with_reducible exact ih1 _ _ _ _ _ _ _ _ _ _ _ _ _ _ _ _)
   | (with_reducible exact ih2 _ _ _ _ _ _ _ _ _ _ _ _ _ _ _ _)
   | (with_reducible exact ih3 _ _ _ _ _ _ _ _ _ _ _ _ _ _ _ _)
   | (with_reducible exact QL.mono _ _ _ _ _ _ _ _ _ _ _)
   | (with_reducible exact Qv.mono _ _ _ _ _ _ _ _ _ _ _)
   | (with_reducible exact Qn.mono _ _)
   | (with_reducible exact LeO.refl _)
   | (with_reducible exact LeO.none _)
   | (with_reducible refine LeO.ite ?_ ?_)
   | (with_reducible refine LeO.bind ?_ (fun _ => ?_))
  ·intro y0 y1 y2 y3 y4 y5 y6 y7 y8 y9 y10 y11 y12 y13 y14 y15
   unfold Qo.j0
   repeat' first
   | (with_reducible exact ih0 _ _ _ _ _ _ _ _ _ _ _ _ _ _ _)
   | (with_reducible exact ih1 _ _ _ _ _ _ _ _ _ _ _ _ _ _ _ _)
   | (with_reducible exact ih2 _ _ _ _ _ _ _ _ _ _ _ _ _ _ _ _)
   | (with_reducible exact ih3 _ _ _ _ _ _ _ _ _ _ _ _ _ _ _ _)
   | (with_reducible exact QL.mono _ _ _ _ _ _ _ _ _ _ _)
   | (with_reducible exact Qv.mono _ _ _ _ _ _ _ _ _ _ _)
   | (with_reducible exact Qn.mono _ _)
   | (with_reducible exact LeO.refl _)
   | (with_reducible exact LeO.none _)
   | (with_reducible refine LeO.ite ?_ ?_)
   | (with_reducible refine LeO.bind ?_ (fun _ => ?_))
  ·intro y0 y1 y2 y3 y4 y5 y6 y7 y8 y9 y10 y11 y12 y13 y14 y15
   unfold Qo.j1
   repeat' first
   | (with_reducible exact ih0 _ _ _ _ _ _ _ _ _ _ _ _ _ _ _)
   | (with_reducible exact ih1 _ _ _ _ _ _ _ _ _ _ _ _ _ _ _ _)
   | (with_reducible exact ih2 _ _ _ _ _ _ _ _ _ _ _ _ _ _ _ _)
   | (with_reducible exact ih3 _ _ _ _ _ _ _ _ _ _ _ _ _ _ _ _)
   | (with_reducible exact QL.mono _ _ _ _ _ _ _ _ _ _ _)
   | (with_reducible exact Qv.mono _ _ _ _ _ _ _ _ _ _ _)
   | (with_reducible exact Qn.mono _ _)
   | (with_reducible exact LeO.refl _)
   | (with_reducible exact LeO.none _)
   | (with_reducible refine LeO.ite ?_ ?_)
   | (with_reducible refine LeO.bind ?_ (fun _ => ?_))
  ·intro y0 y1 y2 y3 y4 y5 y6 y7 y8 y9 y10 y11 y12 y13 y14 y15
   unfold Qo.j2
   repeat' first
   | (with_reducible exact ih0 _ _ _ _ _ _ _ _ _ _ _ _ _ _ _)
   | (with_reducible exact ih1 _ _ _ _ _ _ _ _ _ _ _ _ _ _ _ _)
   | (with_reducible exact ih2 _ _ _ _ _ _ _ _ _ _ _ _ _ _ _ _)
   | (with_reducible exact ih3 _ _ _ _ _ _ _ _ _ _ _ _ _ _ _ _)
   | (with_reducible exact QL.mono _ _ _ _ _ _ _ _ _ _ _)
   | (with_reducible exact Qv.mono _ _ _ _ _ _ _ _ _ _ _)
   | (with_reducible exact Qn.mono _ _)
   | (with_reducible exact LeO.refl _)
   | (with_reducible exact LeO.none _)
   | (with_reducible refine LeO.ite ?_ ?_)
   | (with_reducible refine LeO.bind ?_ (fun _ => ?_))
theorem Qo.mono : ∀ a0 a1 a2 a3 a4 a5 a6 k, LeO (Qo.f k a0 a1 a2 a3 a4 a5 a6) (Qo.f (k + 1) a0 a1 a2 a3 a4 a5 a6) := by
 intro a0 a1 a2 a3 a4 a5 a6 k
 obtain ⟨ih0, ih1, ih2, ih3⟩ := Qo.Xn k
 unfold Qo.f
 repeat' first
   | (with_reducible exact ih0 _ _ _ _ _ _ _ _ _ _ _ _ _ _ _)
   | (with_reducible exact ih1 _ _ _ _ _ _ _ _ _ _ _ _ _ _ _ _)
   | (with_reducible exact ih2 _ _ _ _ _ _ _ _ _ _ _ _ _ _ _ _)
   | (with_reducible exact ih3 _ _ _ _ _ _ _ _ _ _ _ _ _ _ _ _)
   | (with_reducible exact QL.mono _ _ _ _ _ _ _ _ _ _ _)
   | (with_reducible exact Qv.mono _ _ _ _ _ _ _ _ _ _ _)
   | (with_reducible exact Qn.mono _ _)
   | (with_reducible exact LeO.refl _)
   | (with_reducible exact LeO.none _)
   | (with_reducible refine LeO.ite ?_ ?_)
   | (with_reducible refine LeO.bind ?_ (fun _ => ?_))
set_option maxHeartbeats 8000000 in
set_option maxRecDepth 100000 in
theorem Qo.calls (k : Nat) (a0_0 : ByteArray) (A0_1 : Option Addr) (c0_1 : Nat) (l0_1 : List (S89)) (A0_2 : Option Addr) (c0_2 : Nat) (l0_2 : List (S61)) (A0_3 : Option Addr) (c0_3 : Nat) (l0_3 : List (S49)) (A0_4 : Option Addr) (c0_4 : Nat) (l0_4 : List ByteArray) (A0_5 : Option Addr) (c0_5 : Nat) (l0_5 : List (S122)) (a1 : Int) (r : Int) (w : World) (hr0_1 : Kd.C k89 w A0_1 l0_1.length l0_1) (hc0_1 : l0_1.length ≤ c0_1) (hr0_2 : Kd.C k61 w A0_2 l0_2.length l0_2) (hc0_2 : l0_2.length ≤ c0_2) (hr0_3 : Kd.C k49 w A0_3 l0_3.length l0_3) (hc0_3 : l0_3.length ≤ c0_3) (hr0_4 : Kd.C Kd.string w A0_4 l0_4.length l0_4) (hc0_4 : l0_4.length ≤ c0_4) (hr0_5 : Kd.C k122 w A0_5 l0_5.length l0_5) (hc0_5 : l0_5.length ≤ c0_5) (h : Qo.f k a0_0 l0_1 l0_2 l0_3 l0_4 l0_5 a1 = some r) :
  Calls Try.prog 49 #[.agg #[.string a0_0, .slice A0_1 l0_1.length c0_1, .slice A0_2 l0_2.length c0_2, .slice A0_3 l0_3.length c0_3, .slice A0_4 l0_4.length c0_4, .slice A0_5 l0_5.length c0_5], .int .i64 a1] w fun e w' => e = .returned (.int .i64 r) ∧ Below w.heap.size w w' := by
 have hu46 := Try.underlying46
 have hu89 := Try.underlying89
 have HR0_1 := Q0.mk hr0_1
 have HC0_1 := Q0.mk hc0_1
 clear hr0_1 hc0_1
 have HR0_2 := Q0.mk hr0_2
 have HC0_2 := Q0.mk hc0_2
 clear hr0_2 hc0_2
 have HR0_3 := Q0.mk hr0_3
 have HC0_3 := Q0.mk hc0_3
 clear hr0_3 hc0_3
 have HR0_4 := Q0.mk hr0_4
 have HC0_4 := Q0.mk hc0_4
 clear hr0_4 hc0_4
 have HR0_5 := Q0.mk hr0_5
 have HC0_5 := Q0.mk hc0_5
 clear hr0_5 hc0_5
 have HB := Q0.mk (Below.refl w.heap.size w)
 have H := h
 clear h
 unfold Qo.f at H
 try dsimp only at H
 by_cases c3 : 0 ≤ a1
 ·rw [if_pos c3] at H
  have c3b0 : decide (0 ≤ a1) = true := decide_eq_true c3
  clear c3
  by_cases c4 : a1 < (l0_1.length : Int)
  ·rw [if_pos c4] at H
   have c4b0 : decide (a1 < (l0_1.length : Int)) = true := decide_eq_true c4
   clear c4
   have HC5 := Q0.mk H
   clear H
   go_enter Try.func49, Try.ntmps49
   go_upto_block 0 with (first | ((with_reducible refine QN (N := 2) rfl ?_); (try (refine Xx (by rfl) ?_; dsimp only)); refine QK ?hg (N := 2) ?hd (cs := #[.string a0_0, .slice A0_1 l0_1.length c0_1, .slice A0_2 l0_2.length c0_2, .slice A0_3 l0_3.length c0_3, .slice A0_4 l0_4.length c0_4, .slice A0_5 l0_5.length c0_5]) (t := 46) ?hr ?_; (case hd => rfl); (case hg => rfl); (case hr => first | (go_simp; done) | (go_simp; rfl)); intro gb148 hg w6 hbox hb; have BK148 := Q0.mk (hbox); have GW148 := Q0.mk ((by rw [hg]; exact (Qg HB.out) : w.heap.size ≤ gb148)); have GE148 := Q0.mk ((by rw [hg]; exact (Qg HB.out) : w.heap.size ≤ gb148)); replace HB := Q0.mk (Qj HB.out hb); clear hb hbox hg; obtain ⟨hcz7_0, hcz7_1, hcz7_2, hcz7_3, hcz7_4, hcz7_5⟩ := QE BK148.out; obtain ⟨hfz7_0, hfz7_1, hfz7_2, hfz7_3, hfz7_4, hfz7_5⟩ := QR BK148.out; have p149 : 0 ≤ (a1 : Int) := of_decide_eq_true ‹_›; have q149 : a1 < (l0_1.length : Int) := of_decide_eq_true ‹_›; obtain ⟨ad149, A149_3, c149_3, A149_6, c149_6, A149_7, c149_7, A149_8, c149_8, e149, hx149_0, hx149_1, hx149_2, hx149_3, hx149_4, hx149_5, hx149_6, hx149_7, hx149_8, hl149_3, hi149_3, hl149_6, hi149_6, hl149_7, hi149_7, hl149_8, hi149_8⟩ := Yu HR0_1.out a1 p149 q149; cases e149; replace hx149_0 := cup HB.out hx149_0; replace hx149_1 := cup HB.out hx149_1; replace hx149_2 := cup HB.out hx149_2; replace hx149_3 := cup HB.out hx149_3; replace hx149_4 := cup HB.out hx149_4; replace hx149_5 := cup HB.out hx149_5; replace hx149_6 := cup HB.out hx149_6; replace hx149_7 := cup HB.out hx149_7; replace hx149_8 := cup HB.out hx149_8; have HR149_3 := Q0.mk hi149_3; have HC149_3 := Q0.mk hl149_3; clear hi149_3 hl149_3; have HR149_6 := Q0.mk hi149_6; have HC149_6 := Q0.mk hl149_6; clear hi149_6 hl149_6; have HR149_7 := Q0.mk hi149_7; have HC149_7 := Q0.mk hl149_7; clear hi149_7 hl149_7; have HR149_8 := Q0.mk hi149_8; have HC149_8 := Q0.mk hl149_8; clear hi149_8 hl149_8; replace p149 := eq_true p149; replace q149 := eq_true q149) | ((with_reducible refine QN (N := 5) rfl ?_); (try (refine Xx (by rfl) ?_; dsimp only)); refine QK ?hg (N := 5) ?hd (cs := #[.string (⟨#[]⟩ : ByteArray), .int .i64 0, .int .i64 0, .slice none 0 0, .int .i64 0, .bool false, .slice none 0 0, .slice none 0 0, .slice none 0 0]) (t := 89) ?hr ?_; (case hd => rfl); (case hg => rfl); (case hr => first | (go_simp; done) | (go_simp; rfl)); intro gb150 hg w8 hbox hb; have BK150 := Q0.mk (hbox); have GW150 := Q0.mk ((by rw [hg]; exact (Qg HB.out) : w.heap.size ≤ gb150)); have GE150 := Q0.mk ((by rw [hg]; exact (Qg HB.out) : w.heap.size ≤ gb150)); have NB148_150 := Q0.mk ((by rw [hg]; exact Nat.ne_of_lt (Qy BK148.out) : gb148 ≠ gb150)); have NB150_148 := Q0.mk ((by rw [hg]; exact Nat.ne_of_gt (Qy BK148.out) : gb150 ≠ gb148)); replace BK148 := Q0.mk (Q9 BK148.out hb); replace HB := Q0.mk (Qj HB.out hb); clear hb hbox hg; have hnb9 := NB150_148.out; have hnc9 := NB148_150.out; obtain ⟨hcz10_0, hcz10_1, hcz10_2, hcz10_3, hcz10_4, hcz10_5, hcz10_6, hcz10_7, hcz10_8⟩ := Xg BK150.out; obtain ⟨hfz10_0, hfz10_1, hfz10_2, hfz10_3, hfz10_4, hfz10_5, hfz10_6, hfz10_7, hfz10_8⟩ := Ys BK150.out) | ((with_reducible refine QD (t := 89) (p := 5) rfl ?_); refine Qw (t := 89) (p := 5) (v := ?vo_w11) (w1 := (((((((((w8.setCell ⟨gb150, 0, none⟩ (.string ((Qe l0_1 a1).f0))).setCell ⟨gb150, 1, none⟩ (.int .i64 ((Qe l0_1 a1).f1))).setCell ⟨gb150, 2, none⟩ (.int .i64 ((Qe l0_1 a1).f2))).setCell ⟨gb150, 3, none⟩ (.slice A149_3 ((Qe l0_1 a1).f3).length c149_3)).setCell ⟨gb150, 4, none⟩ (.int .i64 ((Qe l0_1 a1).f4))).setCell ⟨gb150, 5, none⟩ (.bool ((Qe l0_1 a1).f5))).setCell ⟨gb150, 6, none⟩ (.slice A149_6 ((Qe l0_1 a1).f6).length c149_6)).setCell ⟨gb150, 7, none⟩ (.slice A149_7 ((Qe l0_1 a1).f7).length c149_7)).setCell ⟨gb150, 8, none⟩ (.slice A149_8 ((Qe l0_1 a1).f8).length c149_8))) ?hg ?ho ?hn ?hr ?_; (case ho => rfl); (case hg => rfl); (case hn => rfl); (case hr => first | (go_simp; done) | (go_simp; rfl)); intro w11 hw; replace BK148 := Q0.mk (far9 hw BK148.out NB148_150.out); replace BK150 := Q0.mk (put9 hw BK150.out); replace HB := Q0.mk (bel9 hw HB.out GE150.out); clear hw))
   (try simp only [Act.put, List.setIfInBounds_toArray, List.set_cons_zero, List.set_cons_succ])
   go_cut [] (fun wc => ∃ (kq : Nat), Q0 (Qo.j3 kq a0_0 l0_1 l0_2 l0_3 l0_4 l0_5 ((Qe l0_1 a1).f0) ((Qe l0_1 a1).f1) ((Qe l0_1 a1).f2) ((Qe l0_1 a1).f3) ((Qe l0_1 a1).f4) ((Qe l0_1 a1).f5) ((Qe l0_1 a1).f6) ((Qe l0_1 a1).f7) ((Qe l0_1 a1).f8) = some r) ∧ Q0 (kq ≤ k) ∧ Q0 (wc.heap[gb148]? = some (.cells #[.string a0_0, (.slice (some ad149) l0_1.length c0_1), (.slice A0_2 l0_2.length c0_2), (.slice A0_3 l0_3.length c0_3), (.slice A0_4 l0_4.length c0_4), (.slice A0_5 l0_5.length c0_5)] 46 (0, 0))) ∧ Q0 (wc.heap[gb150]? = some (.cells #[.string ((Qe l0_1 a1).f0), .int .i64 ((Qe l0_1 a1).f1), .int .i64 ((Qe l0_1 a1).f2), (.slice A149_3 ((Qe l0_1 a1).f3).length c149_3), .int .i64 ((Qe l0_1 a1).f4), .bool ((Qe l0_1 a1).f5), (.slice A149_6 ((Qe l0_1 a1).f6).length c149_6), (.slice A149_7 ((Qe l0_1 a1).f7).length c149_7), (.slice A149_8 ((Qe l0_1 a1).f8).length c149_8)] 89 (0, 0))) ∧ Q0 (Below w.heap.size w wc))
   case first =>
    have H := HC5.out
    clear HC5
    replace H := Option.bind_eq_some_iff.mp H
    obtain ⟨t151, A120, H⟩ := H
    try dsimp only at H
    have A12 := Q0.mk A120
    clear A120
    by_cases c13 : t151 = true
    ·subst c13
     rw [if_pos rfl] at H
     have c14b0 := eq_true (of_decide_eq_true ‹_› : 0 ≤ a1)
     by_cases c15 : a1 ≤ (l0_1.length : Int)
     ·rw [if_pos c15] at H
      have c15b0 := eq_true c15
      have c15b1 : decide (a1 ≤ (l0_1.length : Int)) = true := decide_eq_true c15
      clear c15
      obtain ⟨y152, hy152⟩ : ∃ y_ : List (S89), y_ = (l0_1.take (a1 : Int).toNat) := ⟨_, rfl⟩
      replace H : ((Yb.f y152 ((Qe l0_1 a1).f0)).bind fun t156 => (if t156 = true then (some 7) else ((Qi.f ((Qe l0_1 a1).f1) 1 5).bind fun t157 => (if t157 = true then ((Qi.f ((Qe l0_1 a1).f2) 1 256).bind fun t158 => (if t158 = true then (if (Go.bits .and .i64 ((Qe l0_1 a1).f2) (wrap64 (((Qe l0_1 a1).f2) - 1))) = 0 then ((Qi.f ((Qe l0_1 a1).f4) 0 1500).bind fun t159 => (Qo.j0 k (!t159) a0_0 l0_1 l0_2 l0_3 l0_4 l0_5 ((Qe l0_1 a1).f0) ((Qe l0_1 a1).f1) ((Qe l0_1 a1).f2) ((Qe l0_1 a1).f3) ((Qe l0_1 a1).f4) ((Qe l0_1 a1).f5) ((Qe l0_1 a1).f6) ((Qe l0_1 a1).f7) ((Qe l0_1 a1).f8))) else (Qo.j0 k true a0_0 l0_1 l0_2 l0_3 l0_4 l0_5 ((Qe l0_1 a1).f0) ((Qe l0_1 a1).f1) ((Qe l0_1 a1).f2) ((Qe l0_1 a1).f3) ((Qe l0_1 a1).f4) ((Qe l0_1 a1).f5) ((Qe l0_1 a1).f6) ((Qe l0_1 a1).f7) ((Qe l0_1 a1).f8))) else (Qo.j0 k true a0_0 l0_1 l0_2 l0_3 l0_4 l0_5 ((Qe l0_1 a1).f0) ((Qe l0_1 a1).f1) ((Qe l0_1 a1).f2) ((Qe l0_1 a1).f3) ((Qe l0_1 a1).f4) ((Qe l0_1 a1).f5) ((Qe l0_1 a1).f6) ((Qe l0_1 a1).f7) ((Qe l0_1 a1).f8)))) else (some 4))))) = some r := by first | (rw [hy152]; with_reducible exact H) | (have H2_ := (Option.bind_some _ _).symm.trans H; rw [hy152]; with_reducible exact H2_) | (have H2_ := (Option.bind_some _ _).symm.trans H; with_reducible exact H2_) | with_reducible exact H | (rw [hy152]; exact H) | exact H
      have Ny152 := Q0.mk hy152
      clear hy152
      replace H := Option.bind_eq_some_iff.mp H
      obtain ⟨t156, A160, H⟩ := H
      try dsimp only at H
      have A16 := Q0.mk A160
      clear A160
      by_cases c17 : t156 = true
      ·subst c17
       rw [if_pos rfl] at H
       obtain rfl := Option.some.inj H
       have hnb18 := NB150_148.out
       have hnc18 := NB148_150.out
       obtain ⟨hcz19_0, hcz19_1, hcz19_2, hcz19_3, hcz19_4, hcz19_5, hcz19_6, hcz19_7, hcz19_8⟩ := Xg BK150.out
       go_wp2_with (first | ((with_reducible refine Qs (f := 43) rfl ?_); refine X2 (some 15) rfl rfl Try.func43 (by kernel_rfl) rfl #[.string ((Qe l0_1 a1).f0)] rfl (by (try simp only [List.map_toArray, List.map_cons, List.map_nil]); first | done | rfl | (simp only [List.length_drop, List.length_take]; rfl)) ?_; (with_reducible refine (Qn.calls k ((Qe l0_1 a1).f0) true _ A12.out).mono ?_); rintro e w' ⟨rfl, ⟨nd, rfl⟩⟩; refine ⟨_, rfl, ?_⟩; obtain ⟨hcz20_0, hcz20_1, hcz20_2, hcz20_3, hcz20_4, hcz20_5⟩ := QE BK148.out; obtain ⟨hfz20_0, hfz20_1, hfz20_2, hfz20_3, hfz20_4, hfz20_5⟩ := QR BK148.out; have q21 : (a1 : Int) ≤ ((l0_1.length : Int) : Int) := of_decide_eq_true ‹_›; obtain ⟨i021, hi021, _, hsz21, _⟩ := info_parts info89; have hroom21 : l0_1.length ≤ c0_1 := HC0_1.out; have hC21 : Kd.C k89 _ (some ad149) l0_1.length l0_1 := HR0_1.out; have hcut21 := Yh (P := Try.prog) 40 89 .i64 Try.underlying40 hi021 (some ad149) l0_1.length c0_1 a1 (of_decide_eq_true ‹_›) q21 hroom21; have hr21 := Kd.Yj (m := (a1 : Int).toNat) hC21 (by omega); have hy21 : y152.length = (a1 : Int).toNat := (by rw [Ny152.out, List.length_take]; omega); rw [← Ny152.out] at hr21; rw [← hy21] at hcut21; have HR155 := Q0.mk hr21; have HC155 := Q0.mk (show y152.length ≤ c0_1 from by omega); clear hr21 hC21 hroom21 hi021 hsz21; have KY21 := Q0.mk hy21; clear hy21; replace q21 := eq_true q21) | ((with_reducible refine Qs (f := 66) rfl ?_); refine X2 (some 23) rfl rfl Try.func66 (by kernel_rfl) rfl #[.slice (some ad149) y152.length c0_1, .func (.func 67) #[] #[.pointer (some ⟨gb150, 0, none⟩)]] rfl (by (try simp only [List.map_toArray, List.map_cons, List.map_nil]); first | done | rfl | (simp only [List.length_drop, List.length_take]; rfl)) ?_; (with_reducible refine (Yb.calls _ _ y152 gb150 ((Qe l0_1 a1).f0) true _ ?side1 ?side2 ?side3 A16.out).mono ?_); (case side1 => repeat (first | exact (Kd.Qx HR155.out (by repeat (first | exact HB.out | apply Q4 | apply Q2 | apply Q6 | refine Q1 ?_ GE148.out | refine Q1 ?_ GE150.out))) | (with_reducible refine Kd.QT ?_ _) | (with_reducible refine Kd.QS ?_ _) | (with_reducible refine Kd.X6 ?_))); (case side2 => exact HC155.out); (case side3 => exact ⟨_, (by (with_reducible repeat (first | refine Q7 ?_ _ | refine Qa ?_ | refine Q8 ?_ _)); exact BK150.out), rfl⟩); rintro e w22 ⟨rfl, hb⟩; refine ⟨_, rfl, ?_⟩; replace BK148 := Q0.mk (Q9 (g := gb148) (o := .cells #[.string a0_0, .slice (some ad149) l0_1.length c0_1, .slice A0_2 l0_2.length c0_2, .slice A0_3 l0_3.length c0_3, .slice A0_4 l0_4.length c0_4, .slice A0_5 l0_5.length c0_5] 46 (0, 0)) (by (with_reducible repeat (first | refine Q7 ?_ _ | refine Qa ?_ | refine Q8 ?_ _)); exact BK148.out) hb); replace BK150 := Q0.mk (Q9 (g := gb150) (o := .cells #[.string ((Qe l0_1 a1).f0), .int .i64 ((Qe l0_1 a1).f1), .int .i64 ((Qe l0_1 a1).f2), .slice A149_3 ((Qe l0_1 a1).f3).length c149_3, .int .i64 ((Qe l0_1 a1).f4), .bool ((Qe l0_1 a1).f5), .slice A149_6 ((Qe l0_1 a1).f6).length c149_6, .slice A149_7 ((Qe l0_1 a1).f7).length c149_7, .slice A149_8 ((Qe l0_1 a1).f8).length c149_8] 89 (0, 0)) (by (with_reducible repeat (first | refine Q7 ?_ _ | refine Qa ?_ | refine Q8 ?_ _)); exact BK150.out) hb); replace HB := Q0.mk (Qj (by repeat (first | exact HB.out | apply Q4 | apply Q2 | apply Q6 | refine Q1 ?_ GE148.out | refine Q1 ?_ GE150.out)) hb)))
       go_ret
       exact ⟨by first | rfl | (simp [*]; done), by repeat (first | exact HB.out | apply Q4 | apply Q2 | apply Q6 | refine Q1 ?_ GE148.out | refine Q1 ?_ GE150.out)⟩
      ·replace c17 := Bool.eq_false_iff.mpr c17
       subst c17
       rw [if_neg (show ¬ (false = true) by decide)] at H
       replace H := Option.bind_eq_some_iff.mp H
       obtain ⟨t157, A230, H⟩ := H
       try dsimp only at H
       have A23 := Q0.mk A230
       clear A230
       by_cases c24 : t157 = true
       ·subst c24
        rw [if_pos rfl] at H
        have HC25 := Q0.mk H
        clear H
        have hnb26 := NB150_148.out
        have hnc26 := NB148_150.out
        obtain ⟨hcz27_0, hcz27_1, hcz27_2, hcz27_3, hcz27_4, hcz27_5, hcz27_6, hcz27_7, hcz27_8⟩ := Xg BK150.out
        go_upto_region 8 with (first | ((with_reducible refine Qs (f := 43) rfl ?_); refine X2 (some 15) rfl rfl Try.func43 (by kernel_rfl) rfl #[.string ((Qe l0_1 a1).f0)] rfl (by (try simp only [List.map_toArray, List.map_cons, List.map_nil]); first | done | rfl | (simp only [List.length_drop, List.length_take]; rfl)) ?_; (with_reducible refine (Qn.calls k ((Qe l0_1 a1).f0) true _ A12.out).mono ?_); rintro e w' ⟨rfl, ⟨nd, rfl⟩⟩; refine ⟨_, rfl, ?_⟩; obtain ⟨hcz28_0, hcz28_1, hcz28_2, hcz28_3, hcz28_4, hcz28_5⟩ := QE BK148.out; obtain ⟨hfz28_0, hfz28_1, hfz28_2, hfz28_3, hfz28_4, hfz28_5⟩ := QR BK148.out; have q29 : (a1 : Int) ≤ ((l0_1.length : Int) : Int) := of_decide_eq_true ‹_›; obtain ⟨i029, hi029, _, hsz29, _⟩ := info_parts info89; have hroom29 : l0_1.length ≤ c0_1 := HC0_1.out; have hC29 : Kd.C k89 _ (some ad149) l0_1.length l0_1 := HR0_1.out; have hcut29 := Yh (P := Try.prog) 40 89 .i64 Try.underlying40 hi029 (some ad149) l0_1.length c0_1 a1 (of_decide_eq_true ‹_›) q29 hroom29; have hr29 := Kd.Yj (m := (a1 : Int).toNat) hC29 (by omega); have hy29 : y152.length = (a1 : Int).toNat := (by rw [Ny152.out, List.length_take]; omega); rw [← Ny152.out] at hr29; rw [← hy29] at hcut29; have HR155 := Q0.mk hr29; have HC155 := Q0.mk (show y152.length ≤ c0_1 from by omega); clear hr29 hC29 hroom29 hi029 hsz29; have KY29 := Q0.mk hy29; clear hy29; replace q29 := eq_true q29) | ((with_reducible refine Qs (f := 66) rfl ?_); refine X2 (some 23) rfl rfl Try.func66 (by kernel_rfl) rfl #[.slice (some ad149) y152.length c0_1, .func (.func 67) #[] #[.pointer (some ⟨gb150, 0, none⟩)]] rfl (by (try simp only [List.map_toArray, List.map_cons, List.map_nil]); first | done | rfl | (simp only [List.length_drop, List.length_take]; rfl)) ?_; (with_reducible refine (Yb.calls _ _ y152 gb150 ((Qe l0_1 a1).f0) false _ ?side1 ?side2 ?side3 A16.out).mono ?_); (case side1 => repeat (first | exact (Kd.Qx HR155.out (by repeat (first | exact HB.out | apply Q4 | apply Q2 | apply Q6 | refine Q1 ?_ GE148.out | refine Q1 ?_ GE150.out))) | (with_reducible refine Kd.QT ?_ _) | (with_reducible refine Kd.QS ?_ _) | (with_reducible refine Kd.X6 ?_))); (case side2 => exact HC155.out); (case side3 => exact ⟨_, (by (with_reducible repeat (first | refine Q7 ?_ _ | refine Qa ?_ | refine Q8 ?_ _)); exact BK150.out), rfl⟩); rintro e w30 ⟨rfl, hb⟩; refine ⟨_, rfl, ?_⟩; replace BK148 := Q0.mk (Q9 (g := gb148) (o := .cells #[.string a0_0, .slice (some ad149) l0_1.length c0_1, .slice A0_2 l0_2.length c0_2, .slice A0_3 l0_3.length c0_3, .slice A0_4 l0_4.length c0_4, .slice A0_5 l0_5.length c0_5] 46 (0, 0)) (by (with_reducible repeat (first | refine Q7 ?_ _ | refine Qa ?_ | refine Q8 ?_ _)); exact BK148.out) hb); replace BK150 := Q0.mk (Q9 (g := gb150) (o := .cells #[.string ((Qe l0_1 a1).f0), .int .i64 ((Qe l0_1 a1).f1), .int .i64 ((Qe l0_1 a1).f2), .slice A149_3 ((Qe l0_1 a1).f3).length c149_3, .int .i64 ((Qe l0_1 a1).f4), .bool ((Qe l0_1 a1).f5), .slice A149_6 ((Qe l0_1 a1).f6).length c149_6, .slice A149_7 ((Qe l0_1 a1).f7).length c149_7, .slice A149_8 ((Qe l0_1 a1).f8).length c149_8] 89 (0, 0)) (by (with_reducible repeat (first | refine Q7 ?_ _ | refine Qa ?_ | refine Q8 ?_ _)); exact BK150.out) hb); replace HB := Q0.mk (Qj (by repeat (first | exact HB.out | apply Q4 | apply Q2 | apply Q6 | refine Q1 ?_ GE148.out | refine Q1 ?_ GE150.out)) hb); obtain ⟨hcz31_0, hcz31_1, hcz31_2, hcz31_3, hcz31_4, hcz31_5, hcz31_6, hcz31_7, hcz31_8⟩ := Xg BK150.out; obtain ⟨hfz31_0, hfz31_1, hfz31_2, hfz31_3, hfz31_4, hfz31_5, hfz31_6, hfz31_7, hfz31_8⟩ := Ys BK150.out) | ((with_reducible refine Qs (f := 68) rfl ?_); refine X2 (some 27) rfl rfl Try.func68 (by kernel_rfl) rfl #[.int .i64 ((Qe l0_1 a1).f1), .int .i64 1, .int .i64 5] rfl (by (try simp only [List.map_toArray, List.map_cons, List.map_nil]); first | done | rfl | (simp only [List.length_drop, List.length_take]; rfl)) ?_; (with_reducible refine (Qi.calls ((Qe l0_1 a1).f1) 1 5 true _ A23.out).mono ?_); rintro e w' ⟨rfl, ⟨nd, rfl⟩⟩; refine ⟨_, rfl, ?_⟩))
        (try simp only [Act.put, List.setIfInBounds_toArray, List.set_cons_zero, List.set_cons_succ])
        go_cut [29] (fun v29 wc => ∃ (kq : Nat) (x29_24 : Bool), v29 = .bool x29_24 ∧ Q0 (Qo.j0 kq x29_24 a0_0 l0_1 l0_2 l0_3 l0_4 l0_5 ((Qe l0_1 a1).f0) ((Qe l0_1 a1).f1) ((Qe l0_1 a1).f2) ((Qe l0_1 a1).f3) ((Qe l0_1 a1).f4) ((Qe l0_1 a1).f5) ((Qe l0_1 a1).f6) ((Qe l0_1 a1).f7) ((Qe l0_1 a1).f8) = some r) ∧ Q0 (kq ≤ k) ∧ Q0 (wc.heap[gb148]? = some (.cells #[.string a0_0, (.slice (some ad149) l0_1.length c0_1), (.slice A0_2 l0_2.length c0_2), (.slice A0_3 l0_3.length c0_3), (.slice A0_4 l0_4.length c0_4), (.slice A0_5 l0_5.length c0_5)] 46 (0, 0))) ∧ Q0 (wc.heap[gb150]? = some (.cells #[.string ((Qe l0_1 a1).f0), .int .i64 ((Qe l0_1 a1).f1), .int .i64 ((Qe l0_1 a1).f2), (.slice A149_3 ((Qe l0_1 a1).f3).length c149_3), .int .i64 ((Qe l0_1 a1).f4), .bool ((Qe l0_1 a1).f5), (.slice A149_6 ((Qe l0_1 a1).f6).length c149_6), (.slice A149_7 ((Qe l0_1 a1).f7).length c149_7), (.slice A149_8 ((Qe l0_1 a1).f8).length c149_8)] 89 (0, 0))) ∧ Q0 (Below w.heap.size w wc))
        case first =>
         have H := HC25.out
         clear HC25
         replace H := Option.bind_eq_some_iff.mp H
         obtain ⟨t158, A320, H⟩ := H
         try dsimp only at H
         have A32 := Q0.mk A320
         clear A320
         by_cases c33 : t158 = true
         ·subst c33
          rw [if_pos rfl] at H
          by_cases c34 : (Go.bits .and .i64 ((Qe l0_1 a1).f2) (wrap64 (((Qe l0_1 a1).f2) - 1))) = 0
          ·rw [if_pos c34] at H
           have c34b0 : ((Go.bits .and .i64 ((Qe l0_1 a1).f2) (wrap64 (((Qe l0_1 a1).f2) - 1))) == 0) = true := beq_iff_eq.mpr c34
           have c34b1 : ((Go.bits .and .i64 ((Qe l0_1 a1).f2) (wrap64 (((Qe l0_1 a1).f2) - 1))) != 0) = false := bne_eq_false_iff_eq.mpr c34
           clear c34
           (first | rw [c34b0] | (simp only [QO, QP]; rw [c34b0]) | skip)
           replace H := Option.bind_eq_some_iff.mp H
           obtain ⟨t159, A350, H⟩ := H
           try dsimp only at H
           have A35 := Q0.mk A350
           clear A350
           have H' := Q0.mk H
           clear H
           have hnb36 := NB150_148.out
           have hnc36 := NB148_150.out
           obtain ⟨hcz37_0, hcz37_1, hcz37_2, hcz37_3, hcz37_4, hcz37_5, hcz37_6, hcz37_7, hcz37_8⟩ := Xg BK150.out
           go_wp2_with (first | ((with_reducible refine Qs (f := 68) rfl ?_); refine X2 (some 32) rfl rfl Try.func68 (by kernel_rfl) rfl #[.int .i64 ((Qe l0_1 a1).f2), .int .i64 1, .int .i64 256] rfl (by (try simp only [List.map_toArray, List.map_cons, List.map_nil]); first | done | rfl | (simp only [List.length_drop, List.length_take]; rfl)) ?_; (with_reducible refine (Qi.calls ((Qe l0_1 a1).f2) 1 256 true _ A32.out).mono ?_); rintro e w' ⟨rfl, ⟨nd, rfl⟩⟩; refine ⟨_, rfl, ?_⟩) | (go_at_call 68; (with_reducible refine (Qi.calls ((Qe l0_1 a1).f4) 0 1500 t159 _ A35.out).mono ?_); rintro e w' ⟨rfl, ⟨nd, rfl⟩⟩))
           go_meet
           case rel => exact ⟨_, (!t159), (by first | rfl | (simp [*]; done)), H', ⟨by first | omega | exact Nat.le_refl _⟩, ⟨by (with_reducible repeat (first | refine Q7 ?_ _ | refine Qa ?_ | refine Q8 ?_ _)); exact BK148.out⟩, ⟨by (with_reducible repeat (first | refine Q7 ?_ _ | refine Qa ?_ | refine Q8 ?_ _)); exact BK150.out⟩, ⟨by repeat (first | exact HB.out | apply Q4 | apply Q2 | apply Q6 | refine Q1 ?_ GE148.out | refine Q1 ?_ GE150.out)⟩⟩
          ·rw [if_neg c34] at H
           have c34b0 : ((Go.bits .and .i64 ((Qe l0_1 a1).f2) (wrap64 (((Qe l0_1 a1).f2) - 1))) == 0) = false := beq_eq_false_iff_ne.mpr c34
           have c34b1 : ((Go.bits .and .i64 ((Qe l0_1 a1).f2) (wrap64 (((Qe l0_1 a1).f2) - 1))) != 0) = true := bne_iff_ne.mpr c34
           (first | rw [c34b0] | (simp only [QO, QP]; rw [c34b0]) | skip)
           have H' := Q0.mk H
           clear H
           have hnb38 := NB150_148.out
           have hnc38 := NB148_150.out
           obtain ⟨hcz39_0, hcz39_1, hcz39_2, hcz39_3, hcz39_4, hcz39_5, hcz39_6, hcz39_7, hcz39_8⟩ := Xg BK150.out
           go_wp2_with (first | ((with_reducible refine Qs (f := 68) rfl ?_); refine X2 (some 32) rfl rfl Try.func68 (by kernel_rfl) rfl #[.int .i64 ((Qe l0_1 a1).f2), .int .i64 1, .int .i64 256] rfl (by (try simp only [List.map_toArray, List.map_cons, List.map_nil]); first | done | rfl | (simp only [List.length_drop, List.length_take]; rfl)) ?_; (with_reducible refine (Qi.calls ((Qe l0_1 a1).f2) 1 256 true _ A32.out).mono ?_); rintro e w' ⟨rfl, ⟨nd, rfl⟩⟩; refine ⟨_, rfl, ?_⟩))
           go_meet
           case rel => exact ⟨_, (true), (by first | rfl | (simp [*]; done)), H', ⟨by first | omega | exact Nat.le_refl _⟩, ⟨by (with_reducible repeat (first | refine Q7 ?_ _ | refine Qa ?_ | refine Q8 ?_ _)); exact BK148.out⟩, ⟨by (with_reducible repeat (first | refine Q7 ?_ _ | refine Qa ?_ | refine Q8 ?_ _)); exact BK150.out⟩, ⟨by repeat (first | exact HB.out | apply Q4 | apply Q2 | apply Q6 | refine Q1 ?_ GE148.out | refine Q1 ?_ GE150.out)⟩⟩
         ·replace c33 := Bool.eq_false_iff.mpr c33
          subst c33
          rw [if_neg (show ¬ (false = true) by decide)] at H
          have H' := Q0.mk H
          clear H
          have hnb40 := NB150_148.out
          have hnc40 := NB148_150.out
          obtain ⟨hcz41_0, hcz41_1, hcz41_2, hcz41_3, hcz41_4, hcz41_5, hcz41_6, hcz41_7, hcz41_8⟩ := Xg BK150.out
          go_wp2_with (first | ((with_reducible refine Qs (f := 68) rfl ?_); refine X2 (some 32) rfl rfl Try.func68 (by kernel_rfl) rfl #[.int .i64 ((Qe l0_1 a1).f2), .int .i64 1, .int .i64 256] rfl (by (try simp only [List.map_toArray, List.map_cons, List.map_nil]); first | done | rfl | (simp only [List.length_drop, List.length_take]; rfl)) ?_; (with_reducible refine (Qi.calls ((Qe l0_1 a1).f2) 1 256 false _ A32.out).mono ?_); rintro e w' ⟨rfl, ⟨nd, rfl⟩⟩; refine ⟨_, rfl, ?_⟩))
          go_meet
          case rel => exact ⟨_, (true), (by first | rfl | (simp [*]; done)), H', ⟨by first | omega | exact Nat.le_refl _⟩, ⟨by (with_reducible repeat (first | refine Q7 ?_ _ | refine Qa ?_ | refine Q8 ?_ _)); exact BK148.out⟩, ⟨by (with_reducible repeat (first | refine Q7 ?_ _ | refine Qa ?_ | refine Q8 ?_ _)); exact BK150.out⟩, ⟨by repeat (first | exact HB.out | apply Q4 | apply Q2 | apply Q6 | refine Q1 ?_ GE148.out | refine Q1 ?_ GE150.out)⟩⟩
        case rest =>
         clear HC25
         try clear c1
         try clear p1
         try clear q1
         try clear hx1
         try clear c2
         try clear p2
         try clear q2
         try clear c3
         try clear c3b0
         try clear c4
         try clear c4b0
         try clear c6
         try clear p6
         try clear c9
         try clear c13
         try clear c14
         try clear c14b0
         try clear p14
         try clear q14
         try clear hx14
         try clear c15
         try clear c15b0
         try clear c15b1
         try clear c17
         try clear c18
         try clear q21
         try clear c24
         try clear c26
         try clear q29
         try clear c33
         try clear c34
         try clear c34b0
         try clear c34b1
         try clear c36
         try clear c38
         try clear c40
         try clear hx149_0
         try clear hx149_1
         try clear hx149_2
         try clear hx149_3
         try clear hx149_4
         try clear hx149_5
         try clear hx149_6
         try clear hx149_7
         try clear hx149_8
         try clear p149
         try clear q149
         try clear q21
         try clear q29
         obtain ⟨kq, x29_24, rfl, HA, HJ24, BK148, BK150, HB⟩ := hcut
         cases kq with
         | zero => exact absurd HA.out (by simp [Qo.j0])
         | succ kj24 =>
          have H := HA.out
          clear HA
          simp only [Qo.j0] at H
          by_cases c42 : x29_24 = true
          ·subst c42
           rw [if_pos rfl] at H
           obtain rfl := Option.some.inj H
           go_wp2
           go_ret
           exact ⟨by first | rfl | (simp [*]; done), by repeat (first | exact HB.out | apply Q4 | apply Q2 | apply Q6 | refine Q1 ?_ GE148.out | refine Q1 ?_ GE150.out)⟩
          ·replace c42 := Bool.eq_false_iff.mpr c42
           subst c42
           rw [if_neg (show ¬ (false = true) by decide)] at H
           have HC43 := Q0.mk H
           clear H
           go_upto_region 10 with (fail)
           go_cut [49] (fun v49 wc => ∃ (kq : Nat) (x49_42 : Bool), v49 = .bool x49_42 ∧ Q0 (Qo.j1 kq x49_42 a0_0 l0_1 l0_2 l0_3 l0_4 l0_5 ((Qe l0_1 a1).f0) ((Qe l0_1 a1).f1) ((Qe l0_1 a1).f2) ((Qe l0_1 a1).f3) ((Qe l0_1 a1).f4) ((Qe l0_1 a1).f5) ((Qe l0_1 a1).f6) ((Qe l0_1 a1).f7) ((Qe l0_1 a1).f8) = some r) ∧ Q0 (kq ≤ kj24) ∧ Q0 (wc.heap[gb148]? = some (.cells #[.string a0_0, (.slice (some ad149) l0_1.length c0_1), (.slice A0_2 l0_2.length c0_2), (.slice A0_3 l0_3.length c0_3), (.slice A0_4 l0_4.length c0_4), (.slice A0_5 l0_5.length c0_5)] 46 (0, 0))) ∧ Q0 (wc.heap[gb150]? = some (.cells #[.string ((Qe l0_1 a1).f0), .int .i64 ((Qe l0_1 a1).f1), .int .i64 ((Qe l0_1 a1).f2), (.slice A149_3 ((Qe l0_1 a1).f3).length c149_3), .int .i64 ((Qe l0_1 a1).f4), .bool ((Qe l0_1 a1).f5), (.slice A149_6 ((Qe l0_1 a1).f6).length c149_6), (.slice A149_7 ((Qe l0_1 a1).f7).length c149_7), (.slice A149_8 ((Qe l0_1 a1).f8).length c149_8)] 89 (0, 0))) ∧ Q0 (Below w.heap.size w wc))
           case first =>
            have H := HC43.out
            clear HC43
            by_cases c44 : ((Qe l0_1 a1).f1) = 4
            ·rw [if_pos c44] at H
             have c44b0 : (((Qe l0_1 a1).f1) == 4) = true := beq_iff_eq.mpr c44
             have c44b1 : (((Qe l0_1 a1).f1) != 4) = false := bne_eq_false_iff_eq.mpr c44
             clear c44
             (first | rw [c44b0] | (simp only [QO, QP]; rw [c44b0]) | skip)
             by_cases c45 : (((Qe l0_1 a1).f3).length : Int) > 0
             ·rw [if_pos c45] at H
              have c45b0 : decide (0 < (((Qe l0_1 a1).f3).length : Int)) = true := decide_eq_true c45
              have c45b1 : decide (0 < ((Qe l0_1 a1).f3).length) = true := decide_eq_true (by omega)
              clear c45
              have H' := Q0.mk H
              clear H
              have hnb46 := NB150_148.out
              have hnc46 := NB148_150.out
              obtain ⟨hcz47_0, hcz47_1, hcz47_2, hcz47_3, hcz47_4, hcz47_5, hcz47_6, hcz47_7, hcz47_8⟩ := Xg BK150.out
              go_wp2
              go_meet
              case rel => exact ⟨_, (true), (by first | rfl | (simp [*]; done)), H', ⟨by have := HJ24.out; first | omega | exact Nat.le_refl _⟩, ⟨by (with_reducible repeat (first | refine Q7 ?_ _ | refine Qa ?_ | refine Q8 ?_ _)); exact BK148.out⟩, ⟨by (with_reducible repeat (first | refine Q7 ?_ _ | refine Qa ?_ | refine Q8 ?_ _)); exact BK150.out⟩, ⟨by repeat (first | exact HB.out | apply Q4 | apply Q2 | apply Q6 | refine Q1 ?_ GE148.out | refine Q1 ?_ GE150.out)⟩⟩
             ·rw [if_neg c45] at H
              have c45b0 : decide (0 < (((Qe l0_1 a1).f3).length : Int)) = false := decide_eq_false c45
              have c45b1 : decide (0 < ((Qe l0_1 a1).f3).length) = false := decide_eq_false (by omega)
              clear c45
              have H' := Q0.mk H
              clear H
              have hnb48 := NB150_148.out
              have hnc48 := NB148_150.out
              obtain ⟨hcz49_0, hcz49_1, hcz49_2, hcz49_3, hcz49_4, hcz49_5, hcz49_6, hcz49_7, hcz49_8⟩ := Xg BK150.out
              go_wp2
              go_meet
              case rel => exact ⟨_, (false), (by first | rfl | (simp [*]; done)), H', ⟨by have := HJ24.out; first | omega | exact Nat.le_refl _⟩, ⟨by (with_reducible repeat (first | refine Q7 ?_ _ | refine Qa ?_ | refine Q8 ?_ _)); exact BK148.out⟩, ⟨by (with_reducible repeat (first | refine Q7 ?_ _ | refine Qa ?_ | refine Q8 ?_ _)); exact BK150.out⟩, ⟨by repeat (first | exact HB.out | apply Q4 | apply Q2 | apply Q6 | refine Q1 ?_ GE148.out | refine Q1 ?_ GE150.out)⟩⟩
            ·rw [if_neg c44] at H
             have c44b0 : (((Qe l0_1 a1).f1) == 4) = false := beq_eq_false_iff_ne.mpr c44
             have c44b1 : (((Qe l0_1 a1).f1) != 4) = true := bne_iff_ne.mpr c44
             (first | rw [c44b0] | (simp only [QO, QP]; rw [c44b0]) | skip)
             have H' := Q0.mk H
             clear H
             have hnb50 := NB150_148.out
             have hnc50 := NB148_150.out
             obtain ⟨hcz51_0, hcz51_1, hcz51_2, hcz51_3, hcz51_4, hcz51_5, hcz51_6, hcz51_7, hcz51_8⟩ := Xg BK150.out
             go_wp2
             go_meet
             case rel => exact ⟨_, (((((Qe l0_1 a1).f3).length : Int) != ((Qe l0_1 a1).f4))), (by first | rfl | (simp [*]; done)), H', ⟨by have := HJ24.out; first | omega | exact Nat.le_refl _⟩, ⟨by (with_reducible repeat (first | refine Q7 ?_ _ | refine Qa ?_ | refine Q8 ?_ _)); exact BK148.out⟩, ⟨by (with_reducible repeat (first | refine Q7 ?_ _ | refine Qa ?_ | refine Q8 ?_ _)); exact BK150.out⟩, ⟨by repeat (first | exact HB.out | apply Q4 | apply Q2 | apply Q6 | refine Q1 ?_ GE148.out | refine Q1 ?_ GE150.out)⟩⟩
           case rest =>
            clear HC43
            try clear c1
            try clear p1
            try clear q1
            try clear hx1
            try clear c2
            try clear p2
            try clear q2
            try clear c3
            try clear c3b0
            try clear c4
            try clear c4b0
            try clear c5
            try clear c6
            try clear p6
            try clear c9
            try clear c13
            try clear c14
            try clear c14b0
            try clear p14
            try clear q14
            try clear hx14
            try clear c15
            try clear c15b0
            try clear c15b1
            try clear c17
            try clear c18
            try clear q21
            try clear c24
            try clear c26
            try clear q29
            try clear c33
            try clear c34
            try clear c34b0
            try clear c34b1
            try clear c36
            try clear c38
            try clear c40
            try clear c42
            try clear c43
            try clear c44
            try clear c44b0
            try clear c44b1
            try clear c45
            try clear c45b0
            try clear c45b1
            try clear c46
            try clear c48
            try clear c49
            try clear c50
            try clear hx149_0
            try clear hx149_1
            try clear hx149_2
            try clear hx149_3
            try clear hx149_4
            try clear hx149_5
            try clear hx149_6
            try clear hx149_7
            try clear hx149_8
            try clear p1
            try clear p14
            try clear p149
            try clear p2
            try clear p6
            try clear q1
            try clear q14
            try clear q149
            try clear q2
            try clear q21
            try clear q29
            obtain ⟨kq, x49_42, rfl, HA, HJ42, BK148, BK150, HB⟩ := hcut
            cases kq with
            | zero => exact absurd HA.out (by simp [Qo.j1])
            | succ kj42 =>
             have H := HA.out
             clear HA
             simp only [Qo.j1] at H
             by_cases c52 : x49_42 = true
             ·subst c52
              rw [if_pos rfl] at H
              obtain rfl := Option.some.inj H
              go_wp2
              go_ret
              exact ⟨by first | rfl | (simp [*]; done), by repeat (first | exact HB.out | apply Q4 | apply Q2 | apply Q6 | refine Q1 ?_ GE148.out | refine Q1 ?_ GE150.out)⟩
             ·replace c52 := Bool.eq_false_iff.mpr c52
              subst c52
              rw [if_neg (show ¬ (false = true) by decide)] at H
              have HC53 := Q0.mk H
              clear H
              go_upto_region 12 with (fail)
              go_cut [72] (fun v72 wc => ∃ (kq : Nat) (x72_52 : Bool), v72 = .bool x72_52 ∧ Q0 (Qo.j2 kq x72_52 a0_0 l0_1 l0_2 l0_3 l0_4 l0_5 ((Qe l0_1 a1).f0) ((Qe l0_1 a1).f1) ((Qe l0_1 a1).f2) ((Qe l0_1 a1).f3) ((Qe l0_1 a1).f4) ((Qe l0_1 a1).f5) ((Qe l0_1 a1).f6) ((Qe l0_1 a1).f7) ((Qe l0_1 a1).f8) = some r) ∧ Q0 (kq ≤ kj42) ∧ Q0 (wc.heap[gb148]? = some (.cells #[.string a0_0, (.slice (some ad149) l0_1.length c0_1), (.slice A0_2 l0_2.length c0_2), (.slice A0_3 l0_3.length c0_3), (.slice A0_4 l0_4.length c0_4), (.slice A0_5 l0_5.length c0_5)] 46 (0, 0))) ∧ Q0 (wc.heap[gb150]? = some (.cells #[.string ((Qe l0_1 a1).f0), .int .i64 ((Qe l0_1 a1).f1), .int .i64 ((Qe l0_1 a1).f2), (.slice A149_3 ((Qe l0_1 a1).f3).length c149_3), .int .i64 ((Qe l0_1 a1).f4), .bool ((Qe l0_1 a1).f5), (.slice A149_6 ((Qe l0_1 a1).f6).length c149_6), (.slice A149_7 ((Qe l0_1 a1).f7).length c149_7), (.slice A149_8 ((Qe l0_1 a1).f8).length c149_8)] 89 (0, 0))) ∧ Q0 (Below w.heap.size w wc))
              case first =>
               have H := HC53.out
               clear HC53
               by_cases c54 : (((Qe l0_1 a1).f6).length : Int) > 100
               ·rw [if_pos c54] at H
                have c54b0 : decide (100 < (((Qe l0_1 a1).f6).length : Int)) = true := decide_eq_true c54
                have c54b1 : decide (100 < ((Qe l0_1 a1).f6).length) = true := decide_eq_true (by omega)
                clear c54
                (first | rw [c54b0] | (simp only [QO, QP]; rw [c54b0]) | skip)
                have H' := Q0.mk H
                clear H
                have hnb55 := NB150_148.out
                have hnc55 := NB148_150.out
                obtain ⟨hcz56_0, hcz56_1, hcz56_2, hcz56_3, hcz56_4, hcz56_5, hcz56_6, hcz56_7, hcz56_8⟩ := Xg BK150.out
                go_wp2
                go_meet
                case rel => exact ⟨_, (true), (by first | rfl | (simp [*]; done)), H', ⟨by have := HJ24.out; have := HJ42.out; first | omega | exact Nat.le_refl _⟩, ⟨by (with_reducible repeat (first | refine Q7 ?_ _ | refine Qa ?_ | refine Q8 ?_ _)); exact BK148.out⟩, ⟨by (with_reducible repeat (first | refine Q7 ?_ _ | refine Qa ?_ | refine Q8 ?_ _)); exact BK150.out⟩, ⟨by repeat (first | exact HB.out | apply Q4 | apply Q2 | apply Q6 | refine Q1 ?_ GE148.out | refine Q1 ?_ GE150.out)⟩⟩
               ·rw [if_neg c54] at H
                have c54b0 : decide (100 < (((Qe l0_1 a1).f6).length : Int)) = false := decide_eq_false c54
                have c54b1 : decide (100 < ((Qe l0_1 a1).f6).length) = false := decide_eq_false (by omega)
                clear c54
                (first | rw [c54b0] | (simp only [QO, QP]; rw [c54b0]) | skip)
                by_cases c57 : (((Qe l0_1 a1).f7).length : Int) > 100
                ·rw [if_pos c57] at H
                 have c57b0 : decide (100 < (((Qe l0_1 a1).f7).length : Int)) = true := decide_eq_true c57
                 have c57b1 : decide (100 < ((Qe l0_1 a1).f7).length) = true := decide_eq_true (by omega)
                 clear c57
                 have H' := Q0.mk H
                 clear H
                 have hnb58 := NB150_148.out
                 have hnc58 := NB148_150.out
                 obtain ⟨hcz59_0, hcz59_1, hcz59_2, hcz59_3, hcz59_4, hcz59_5, hcz59_6, hcz59_7, hcz59_8⟩ := Xg BK150.out
                 go_wp2
                 go_meet
                 case rel => exact ⟨_, (true), (by first | rfl | (simp [*]; done)), H', ⟨by have := HJ24.out; have := HJ42.out; first | omega | exact Nat.le_refl _⟩, ⟨by (with_reducible repeat (first | refine Q7 ?_ _ | refine Qa ?_ | refine Q8 ?_ _)); exact BK148.out⟩, ⟨by (with_reducible repeat (first | refine Q7 ?_ _ | refine Qa ?_ | refine Q8 ?_ _)); exact BK150.out⟩, ⟨by repeat (first | exact HB.out | apply Q4 | apply Q2 | apply Q6 | refine Q1 ?_ GE148.out | refine Q1 ?_ GE150.out)⟩⟩
                ·rw [if_neg c57] at H
                 have c57b0 : decide (100 < (((Qe l0_1 a1).f7).length : Int)) = false := decide_eq_false c57
                 have c57b1 : decide (100 < ((Qe l0_1 a1).f7).length) = false := decide_eq_false (by omega)
                 clear c57
                 have H' := Q0.mk H
                 clear H
                 have hnb60 := NB150_148.out
                 have hnc60 := NB148_150.out
                 obtain ⟨hcz61_0, hcz61_1, hcz61_2, hcz61_3, hcz61_4, hcz61_5, hcz61_6, hcz61_7, hcz61_8⟩ := Xg BK150.out
                 go_wp2
                 go_meet
                 case rel => exact ⟨_, (decide ((((Qe l0_1 a1).f8).length : Int) > 100)), (by first | rfl | (simp [*]; done)), H', ⟨by have := HJ24.out; have := HJ42.out; first | omega | exact Nat.le_refl _⟩, ⟨by (with_reducible repeat (first | refine Q7 ?_ _ | refine Qa ?_ | refine Q8 ?_ _)); exact BK148.out⟩, ⟨by (with_reducible repeat (first | refine Q7 ?_ _ | refine Qa ?_ | refine Q8 ?_ _)); exact BK150.out⟩, ⟨by repeat (first | exact HB.out | apply Q4 | apply Q2 | apply Q6 | refine Q1 ?_ GE148.out | refine Q1 ?_ GE150.out)⟩⟩
              case rest =>
               clear HC53
               try clear c1
               try clear p1
               try clear q1
               try clear hx1
               try clear c2
               try clear p2
               try clear q2
               try clear c3
               try clear c3b0
               try clear c4
               try clear c4b0
               try clear c5
               try clear c6
               try clear p6
               try clear c9
               try clear c13
               try clear c14
               try clear c14b0
               try clear p14
               try clear q14
               try clear hx14
               try clear c15
               try clear c15b0
               try clear c15b1
               try clear c17
               try clear c18
               try clear q21
               try clear c24
               try clear c26
               try clear q29
               try clear c33
               try clear c34
               try clear c34b0
               try clear c34b1
               try clear c36
               try clear c38
               try clear c40
               try clear c42
               try clear c43
               try clear c44
               try clear c44b0
               try clear c44b1
               try clear c45
               try clear c45b0
               try clear c45b1
               try clear c46
               try clear c48
               try clear c49
               try clear c50
               try clear c52
               try clear c54
               try clear c54b0
               try clear c54b1
               try clear c55
               try clear c57
               try clear c57b0
               try clear c57b1
               try clear c58
               try clear c60
               try clear hx149_0
               try clear hx149_1
               try clear hx149_2
               try clear hx149_3
               try clear hx149_4
               try clear hx149_5
               try clear hx149_6
               try clear hx149_7
               try clear hx149_8
               try clear p1
               try clear p14
               try clear p149
               try clear p2
               try clear p6
               try clear q1
               try clear q14
               try clear q149
               try clear q2
               try clear q21
               try clear q29
               obtain ⟨kq, x72_52, rfl, HA, HJ52, BK148, BK150, HB⟩ := hcut
               cases kq with
               | zero => exact absurd HA.out (by simp [Qo.j2])
               | succ kj52 =>
                have H := HA.out
                clear HA
                simp only [Qo.j2] at H
                by_cases c62 : x72_52 = true
                ·subst c62
                 rw [if_pos rfl] at H
                 obtain rfl := Option.some.inj H
                 go_wp2
                 go_ret
                 exact ⟨by first | rfl | (simp [*]; done), by repeat (first | exact HB.out | apply Q4 | apply Q2 | apply Q6 | refine Q1 ?_ GE148.out | refine Q1 ?_ GE150.out)⟩
                ·replace c62 := Bool.eq_false_iff.mpr c62
                 subst c62
                 rw [if_neg (show ¬ (false = true) by decide)] at H
                 by_cases c63 : ((Qe l0_1 a1).f1) = 1
                 ·rw [if_pos c63] at H
                  have c63b0 : (((Qe l0_1 a1).f1) == 1) = true := beq_iff_eq.mpr c63
                  have c63b1 : (((Qe l0_1 a1).f1) != 1) = false := bne_eq_false_iff_eq.mpr c63
                  clear c63
                  have H' := Q0.mk H
                  clear H
                  have hnb64 := NB150_148.out
                  have hnc64 := NB148_150.out
                  obtain ⟨hcz65_0, hcz65_1, hcz65_2, hcz65_3, hcz65_4, hcz65_5, hcz65_6, hcz65_7, hcz65_8⟩ := Xg BK150.out
                  go_wp2
                  go_meet
                  case rel => exact ⟨_, H', ⟨by have := HJ24.out; have := HJ42.out; have := HJ52.out; first | omega | exact Nat.le_refl _⟩, ⟨by (with_reducible repeat (first | refine Q7 ?_ _ | refine Qa ?_ | refine Q8 ?_ _)); exact BK148.out⟩, ⟨by (with_reducible repeat (first | refine Q7 ?_ _ | refine Qa ?_ | refine Q8 ?_ _)); exact BK150.out⟩, ⟨by repeat (first | exact HB.out | apply Q4 | apply Q2 | apply Q6 | refine Q1 ?_ GE148.out | refine Q1 ?_ GE150.out)⟩⟩
                 ·rw [if_neg c63] at H
                  have c63b0 : (((Qe l0_1 a1).f1) == 1) = false := beq_eq_false_iff_ne.mpr c63
                  have c63b1 : (((Qe l0_1 a1).f1) != 1) = true := bne_iff_ne.mpr c63
                  by_cases c66 : (wrap64 ((((Qe l0_1 a1).f7).length : Int) + (((Qe l0_1 a1).f8).length : Int))) > 0
                  ·rw [if_pos c66] at H
                   have c66b0 : decide (0 < (wrap64 ((((Qe l0_1 a1).f7).length : Int) + (((Qe l0_1 a1).f8).length : Int)))) = true := decide_eq_true c66
                   clear c66
                   obtain rfl := Option.some.inj H
                   have hnb67 := NB150_148.out
                   have hnc67 := NB148_150.out
                   obtain ⟨hcz68_0, hcz68_1, hcz68_2, hcz68_3, hcz68_4, hcz68_5, hcz68_6, hcz68_7, hcz68_8⟩ := Xg BK150.out
                   go_wp2
                   go_ret
                   exact ⟨by first | rfl | (simp [*]; done), by repeat (first | exact HB.out | apply Q4 | apply Q2 | apply Q6 | refine Q1 ?_ GE148.out | refine Q1 ?_ GE150.out)⟩
                  ·rw [if_neg c66] at H
                   have c66b0 : decide (0 < (wrap64 ((((Qe l0_1 a1).f7).length : Int) + (((Qe l0_1 a1).f8).length : Int)))) = false := decide_eq_false c66
                   clear c66
                   have H' := Q0.mk H
                   clear H
                   have hnb69 := NB150_148.out
                   have hnc69 := NB148_150.out
                   obtain ⟨hcz70_0, hcz70_1, hcz70_2, hcz70_3, hcz70_4, hcz70_5, hcz70_6, hcz70_7, hcz70_8⟩ := Xg BK150.out
                   go_wp2
                   go_meet
                   case rel => exact ⟨_, H', ⟨by have := HJ24.out; have := HJ42.out; have := HJ52.out; first | omega | exact Nat.le_refl _⟩, ⟨by (with_reducible repeat (first | refine Q7 ?_ _ | refine Qa ?_ | refine Q8 ?_ _)); exact BK148.out⟩, ⟨by (with_reducible repeat (first | refine Q7 ?_ _ | refine Qa ?_ | refine Q8 ?_ _)); exact BK150.out⟩, ⟨by repeat (first | exact HB.out | apply Q4 | apply Q2 | apply Q6 | refine Q1 ?_ GE148.out | refine Q1 ?_ GE150.out)⟩⟩
       ·replace c24 := Bool.eq_false_iff.mpr c24
        subst c24
        rw [if_neg (show ¬ (false = true) by decide)] at H
        obtain rfl := Option.some.inj H
        have hnb71 := NB150_148.out
        have hnc71 := NB148_150.out
        obtain ⟨hcz72_0, hcz72_1, hcz72_2, hcz72_3, hcz72_4, hcz72_5, hcz72_6, hcz72_7, hcz72_8⟩ := Xg BK150.out
        go_wp2_with (first | ((with_reducible refine Qs (f := 43) rfl ?_); refine X2 (some 15) rfl rfl Try.func43 (by kernel_rfl) rfl #[.string ((Qe l0_1 a1).f0)] rfl (by (try simp only [List.map_toArray, List.map_cons, List.map_nil]); first | done | rfl | (simp only [List.length_drop, List.length_take]; rfl)) ?_; (with_reducible refine (Qn.calls k ((Qe l0_1 a1).f0) true _ A12.out).mono ?_); rintro e w' ⟨rfl, ⟨nd, rfl⟩⟩; refine ⟨_, rfl, ?_⟩; obtain ⟨hcz73_0, hcz73_1, hcz73_2, hcz73_3, hcz73_4, hcz73_5⟩ := QE BK148.out; obtain ⟨hfz73_0, hfz73_1, hfz73_2, hfz73_3, hfz73_4, hfz73_5⟩ := QR BK148.out; have q74 : (a1 : Int) ≤ ((l0_1.length : Int) : Int) := of_decide_eq_true ‹_›; obtain ⟨i074, hi074, _, hsz74, _⟩ := info_parts info89; have hroom74 : l0_1.length ≤ c0_1 := HC0_1.out; have hC74 : Kd.C k89 _ (some ad149) l0_1.length l0_1 := HR0_1.out; have hcut74 := Yh (P := Try.prog) 40 89 .i64 Try.underlying40 hi074 (some ad149) l0_1.length c0_1 a1 (of_decide_eq_true ‹_›) q74 hroom74; have hr74 := Kd.Yj (m := (a1 : Int).toNat) hC74 (by omega); have hy74 : y152.length = (a1 : Int).toNat := (by rw [Ny152.out, List.length_take]; omega); rw [← Ny152.out] at hr74; rw [← hy74] at hcut74; have HR155 := Q0.mk hr74; have HC155 := Q0.mk (show y152.length ≤ c0_1 from by omega); clear hr74 hC74 hroom74 hi074 hsz74; have KY74 := Q0.mk hy74; clear hy74; replace q74 := eq_true q74) | ((with_reducible refine Qs (f := 66) rfl ?_); refine X2 (some 23) rfl rfl Try.func66 (by kernel_rfl) rfl #[.slice (some ad149) y152.length c0_1, .func (.func 67) #[] #[.pointer (some ⟨gb150, 0, none⟩)]] rfl (by (try simp only [List.map_toArray, List.map_cons, List.map_nil]); first | done | rfl | (simp only [List.length_drop, List.length_take]; rfl)) ?_; (with_reducible refine (Yb.calls _ _ y152 gb150 ((Qe l0_1 a1).f0) false _ ?side1 ?side2 ?side3 A16.out).mono ?_); (case side1 => repeat (first | exact (Kd.Qx HR155.out (by repeat (first | exact HB.out | apply Q4 | apply Q2 | apply Q6 | refine Q1 ?_ GE148.out | refine Q1 ?_ GE150.out))) | (with_reducible refine Kd.QT ?_ _) | (with_reducible refine Kd.QS ?_ _) | (with_reducible refine Kd.X6 ?_))); (case side2 => exact HC155.out); (case side3 => exact ⟨_, (by (with_reducible repeat (first | refine Q7 ?_ _ | refine Qa ?_ | refine Q8 ?_ _)); exact BK150.out), rfl⟩); rintro e w75 ⟨rfl, hb⟩; refine ⟨_, rfl, ?_⟩; replace BK148 := Q0.mk (Q9 (g := gb148) (o := .cells #[.string a0_0, .slice (some ad149) l0_1.length c0_1, .slice A0_2 l0_2.length c0_2, .slice A0_3 l0_3.length c0_3, .slice A0_4 l0_4.length c0_4, .slice A0_5 l0_5.length c0_5] 46 (0, 0)) (by (with_reducible repeat (first | refine Q7 ?_ _ | refine Qa ?_ | refine Q8 ?_ _)); exact BK148.out) hb); replace BK150 := Q0.mk (Q9 (g := gb150) (o := .cells #[.string ((Qe l0_1 a1).f0), .int .i64 ((Qe l0_1 a1).f1), .int .i64 ((Qe l0_1 a1).f2), .slice A149_3 ((Qe l0_1 a1).f3).length c149_3, .int .i64 ((Qe l0_1 a1).f4), .bool ((Qe l0_1 a1).f5), .slice A149_6 ((Qe l0_1 a1).f6).length c149_6, .slice A149_7 ((Qe l0_1 a1).f7).length c149_7, .slice A149_8 ((Qe l0_1 a1).f8).length c149_8] 89 (0, 0)) (by (with_reducible repeat (first | refine Q7 ?_ _ | refine Qa ?_ | refine Q8 ?_ _)); exact BK150.out) hb); replace HB := Q0.mk (Qj (by repeat (first | exact HB.out | apply Q4 | apply Q2 | apply Q6 | refine Q1 ?_ GE148.out | refine Q1 ?_ GE150.out)) hb); obtain ⟨hcz76_0, hcz76_1, hcz76_2, hcz76_3, hcz76_4, hcz76_5, hcz76_6, hcz76_7, hcz76_8⟩ := Xg BK150.out; obtain ⟨hfz76_0, hfz76_1, hfz76_2, hfz76_3, hfz76_4, hfz76_5, hfz76_6, hfz76_7, hfz76_8⟩ := Ys BK150.out) | ((with_reducible refine Qs (f := 68) rfl ?_); refine X2 (some 27) rfl rfl Try.func68 (by kernel_rfl) rfl #[.int .i64 ((Qe l0_1 a1).f1), .int .i64 1, .int .i64 5] rfl (by (try simp only [List.map_toArray, List.map_cons, List.map_nil]); first | done | rfl | (simp only [List.length_drop, List.length_take]; rfl)) ?_; (with_reducible refine (Qi.calls ((Qe l0_1 a1).f1) 1 5 false _ A23.out).mono ?_); rintro e w' ⟨rfl, ⟨nd, rfl⟩⟩; refine ⟨_, rfl, ?_⟩))
        go_ret
        exact ⟨by first | rfl | (simp [*]; done), by repeat (first | exact HB.out | apply Q4 | apply Q2 | apply Q6 | refine Q1 ?_ GE148.out | refine Q1 ?_ GE150.out)⟩
     ·rw [if_neg c15] at H
      exact absurd H (by simp)
    ·replace c13 := Bool.eq_false_iff.mpr c13
     subst c13
     rw [if_neg (show ¬ (false = true) by decide)] at H
     obtain rfl := Option.some.inj H
     have hnb77 := NB150_148.out
     have hnc77 := NB148_150.out
     obtain ⟨hcz78_0, hcz78_1, hcz78_2, hcz78_3, hcz78_4, hcz78_5, hcz78_6, hcz78_7, hcz78_8⟩ := Xg BK150.out
     go_wp2_with (first | ((with_reducible refine Qs (f := 43) rfl ?_); refine X2 (some 15) rfl rfl Try.func43 (by kernel_rfl) rfl #[.string ((Qe l0_1 a1).f0)] rfl (by (try simp only [List.map_toArray, List.map_cons, List.map_nil]); first | done | rfl | (simp only [List.length_drop, List.length_take]; rfl)) ?_; (with_reducible refine (Qn.calls k ((Qe l0_1 a1).f0) false _ A12.out).mono ?_); rintro e w' ⟨rfl, ⟨nd, rfl⟩⟩; refine ⟨_, rfl, ?_⟩))
     go_ret
     exact ⟨by first | rfl | (simp [*]; done), by repeat (first | exact HB.out | apply Q4 | apply Q2 | apply Q6 | refine Q1 ?_ GE148.out | refine Q1 ?_ GE150.out)⟩
   case rest =>
    clear HC5
    try clear c1
    try clear p1
    try clear q1
    try clear hx1
    try clear c2
    try clear p2
    try clear q2
    try clear c3
    try clear c3b0
    try clear c4
    try clear c4b0
    try clear c5
    try clear c6
    try clear p6
    try clear c7
    try clear q7
    try clear c9
    try clear c13
    try clear c14
    try clear c14b0
    try clear p14
    try clear q14
    try clear hx14
    try clear c15
    try clear c15b0
    try clear c15b1
    try clear c17
    try clear c18
    try clear q21
    try clear c24
    try clear c26
    try clear q29
    try clear c33
    try clear c34
    try clear c34b0
    try clear c34b1
    try clear c36
    try clear c38
    try clear c40
    try clear c42
    try clear c43
    try clear c44
    try clear c44b0
    try clear c44b1
    try clear c45
    try clear c45b0
    try clear c45b1
    try clear c46
    try clear c48
    try clear c49
    try clear c50
    try clear c52
    try clear c54
    try clear c54b0
    try clear c54b1
    try clear c55
    try clear c57
    try clear c57b0
    try clear c57b1
    try clear c58
    try clear c60
    try clear c62
    try clear c63
    try clear c63b0
    try clear c63b1
    try clear c64
    try clear p64
    try clear c66
    try clear c66b0
    try clear c67
    try clear c68
    try clear c69
    try clear c71
    try clear q74
    try clear c77
    try clear hx149_0
    try clear hx149_1
    try clear hx149_2
    try clear hx149_3
    try clear hx149_4
    try clear hx149_5
    try clear hx149_6
    try clear hx149_7
    try clear hx149_8
    try clear p1
    try clear p14
    try clear p149
    try clear p2
    try clear p6
    try clear q1
    try clear q14
    try clear q149
    try clear q2
    try clear q21
    try clear q29
    try clear q74
    obtain ⟨kq, HA, HJ4, BK148, BK150, HB⟩ := hcut
    cases kq with
    | zero => exact absurd HA.out (by simp [Qo.j3])
    | succ kj4 =>
     have H := HA.out
     clear HA
     simp only [Qo.j3] at H
     replace H := Option.bind_eq_some_iff.mp H
     obtain ⟨t160, A790, H⟩ := H
     try dsimp only at H
     have A79 := Q0.mk A790
     clear A790
     by_cases c80 : t160 = 0
     ·rw [if_pos c80] at H
      have c80b0 : (t160 == 0) = true := beq_iff_eq.mpr c80
      have c80b1 : (t160 != 0) = false := bne_eq_false_iff_eq.mpr c80
      clear c80
      replace H := Option.bind_eq_some_iff.mp H
      obtain ⟨t161, A810, H⟩ := H
      try dsimp only at H
      have A81 := Q0.mk A810
      clear A810
      obtain rfl := Option.some.inj H
      have hnb82 := NB150_148.out
      have hnc82 := NB148_150.out
      obtain ⟨hcz83_0, hcz83_1, hcz83_2, hcz83_3, hcz83_4, hcz83_5, hcz83_6, hcz83_7, hcz83_8⟩ := Xg BK150.out
      obtain ⟨hcz84_0, hcz84_1, hcz84_2, hcz84_3, hcz84_4, hcz84_5⟩ := QE BK148.out
      go_wp2_with (first | ((with_reducible refine Qs (f := 69) rfl ?_); refine X2 (some 107) rfl rfl Try.func69 (by kernel_rfl) rfl #[.agg #[.string ((Qe l0_1 a1).f0), .int .i64 ((Qe l0_1 a1).f1), .int .i64 ((Qe l0_1 a1).f2), .slice A149_3 ((Qe l0_1 a1).f3).length c149_3, .int .i64 ((Qe l0_1 a1).f4), .bool ((Qe l0_1 a1).f5), .slice A149_6 ((Qe l0_1 a1).f6).length c149_6, .slice A149_7 ((Qe l0_1 a1).f7).length c149_7, .slice A149_8 ((Qe l0_1 a1).f8).length c149_8], .int .i64 (l0_2.length : Int)] rfl (by (try simp only [List.map_toArray, List.map_cons, List.map_nil]); first | done | rfl | (simp only [List.length_drop, List.length_take]; rfl)) ?_; (with_reducible refine (QL.calls kj4 ((Qe l0_1 a1).f0) ((Qe l0_1 a1).f1) ((Qe l0_1 a1).f2) _ _ ((Qe l0_1 a1).f3) ((Qe l0_1 a1).f4) ((Qe l0_1 a1).f5) _ _ ((Qe l0_1 a1).f6) _ _ ((Qe l0_1 a1).f7) _ _ ((Qe l0_1 a1).f8) (l0_2.length : Int) t160 _ ?side1 ?side2 ?side3 ?side4 ?side5 ?side6 ?side7 ?side8 A79.out).mono ?_); (case side1 => repeat (first | exact (Kd.Qx HR149_3.out HB.out) | (with_reducible refine Kd.QT ?_ _) | (with_reducible refine Kd.QS ?_ _) | (with_reducible refine Kd.X6 ?_))); (case side2 => exact HC149_3.out); (case side3 => repeat (first | exact (Kd.Qx HR149_6.out HB.out) | (with_reducible refine Kd.QT ?_ _) | (with_reducible refine Kd.QS ?_ _) | (with_reducible refine Kd.X6 ?_))); (case side4 => exact HC149_6.out); (case side5 => repeat (first | exact (Kd.Qx HR149_7.out HB.out) | (with_reducible refine Kd.QT ?_ _) | (with_reducible refine Kd.QS ?_ _) | (with_reducible refine Kd.X6 ?_))); (case side6 => exact HC149_7.out); (case side7 => repeat (first | exact (Kd.Qx HR149_8.out HB.out) | (with_reducible refine Kd.QT ?_ _) | (with_reducible refine Kd.QS ?_ _) | (with_reducible refine Kd.X6 ?_))); (case side8 => exact HC149_8.out); rintro e w85 ⟨rfl, hb⟩; refine ⟨_, rfl, ?_⟩; replace BK148 := Q0.mk (Q9 BK148.out hb); replace BK150 := Q0.mk (Q9 BK150.out hb); replace HB := Q0.mk (Qj HB.out hb); obtain ⟨hcz86_0, hcz86_1, hcz86_2, hcz86_3, hcz86_4, hcz86_5, hcz86_6, hcz86_7, hcz86_8⟩ := Xg BK150.out; obtain ⟨hfz86_0, hfz86_1, hfz86_2, hfz86_3, hfz86_4, hfz86_5, hfz86_6, hfz86_7, hfz86_8⟩ := Ys BK150.out; obtain ⟨hcz87_0, hcz87_1, hcz87_2, hcz87_3, hcz87_4, hcz87_5⟩ := QE BK148.out; obtain ⟨hfz87_0, hfz87_1, hfz87_2, hfz87_3, hfz87_4, hfz87_5⟩ := QR BK148.out) | ((with_reducible refine Qs (f := 70) rfl ?_); refine X2 (some 115) rfl rfl Try.func70 (by kernel_rfl) rfl #[.agg #[.string ((Qe l0_1 a1).f0), .int .i64 ((Qe l0_1 a1).f1), .int .i64 ((Qe l0_1 a1).f2), .slice A149_3 ((Qe l0_1 a1).f3).length c149_3, .int .i64 ((Qe l0_1 a1).f4), .bool ((Qe l0_1 a1).f5), .slice A149_6 ((Qe l0_1 a1).f6).length c149_6, .slice A149_7 ((Qe l0_1 a1).f7).length c149_7, .slice A149_8 ((Qe l0_1 a1).f8).length c149_8], .int .i64 (l0_4.length : Int)] rfl (by (try simp only [List.map_toArray, List.map_cons, List.map_nil]); first | done | rfl | (simp only [List.length_drop, List.length_take]; rfl)) ?_; (with_reducible refine (Qv.calls kj4 ((Qe l0_1 a1).f0) ((Qe l0_1 a1).f1) ((Qe l0_1 a1).f2) _ _ ((Qe l0_1 a1).f3) ((Qe l0_1 a1).f4) ((Qe l0_1 a1).f5) _ _ ((Qe l0_1 a1).f6) _ _ ((Qe l0_1 a1).f7) _ _ ((Qe l0_1 a1).f8) (l0_4.length : Int) t161 _ ?side1 ?side2 ?side3 ?side4 ?side5 ?side6 ?side7 ?side8 A81.out).mono ?_); (case side1 => repeat (first | exact (Kd.Qx HR149_3.out HB.out) | (with_reducible refine Kd.QT ?_ _) | (with_reducible refine Kd.QS ?_ _) | (with_reducible refine Kd.X6 ?_))); (case side2 => exact HC149_3.out); (case side3 => repeat (first | exact (Kd.Qx HR149_6.out HB.out) | (with_reducible refine Kd.QT ?_ _) | (with_reducible refine Kd.QS ?_ _) | (with_reducible refine Kd.X6 ?_))); (case side4 => exact HC149_6.out); (case side5 => repeat (first | exact (Kd.Qx HR149_7.out HB.out) | (with_reducible refine Kd.QT ?_ _) | (with_reducible refine Kd.QS ?_ _) | (with_reducible refine Kd.X6 ?_))); (case side6 => exact HC149_7.out); (case side7 => repeat (first | exact (Kd.Qx HR149_8.out HB.out) | (with_reducible refine Kd.QT ?_ _) | (with_reducible refine Kd.QS ?_ _) | (with_reducible refine Kd.X6 ?_))); (case side8 => exact HC149_8.out); rintro e w88 ⟨rfl, hb⟩; refine ⟨_, rfl, ?_⟩; replace BK148 := Q0.mk (Q9 BK148.out hb); replace BK150 := Q0.mk (Q9 BK150.out hb); replace HB := Q0.mk (Qj HB.out hb)))
      go_ret
      exact ⟨by first | rfl | (simp [*]; done), by repeat (first | exact HB.out | apply Q4 | apply Q2 | apply Q6 | refine Q1 ?_ GE148.out | refine Q1 ?_ GE150.out)⟩
     ·rw [if_neg c80] at H
      have c80b0 : (t160 == 0) = false := beq_eq_false_iff_ne.mpr c80
      have c80b1 : (t160 != 0) = true := bne_iff_ne.mpr c80
      obtain rfl := Option.some.inj H
      have hnb89 := NB150_148.out
      have hnc89 := NB148_150.out
      obtain ⟨hcz90_0, hcz90_1, hcz90_2, hcz90_3, hcz90_4, hcz90_5, hcz90_6, hcz90_7, hcz90_8⟩ := Xg BK150.out
      obtain ⟨hcz91_0, hcz91_1, hcz91_2, hcz91_3, hcz91_4, hcz91_5⟩ := QE BK148.out
      go_wp2_with (first | ((with_reducible refine Qs (f := 69) rfl ?_); refine X2 (some 107) rfl rfl Try.func69 (by kernel_rfl) rfl #[.agg #[.string ((Qe l0_1 a1).f0), .int .i64 ((Qe l0_1 a1).f1), .int .i64 ((Qe l0_1 a1).f2), .slice A149_3 ((Qe l0_1 a1).f3).length c149_3, .int .i64 ((Qe l0_1 a1).f4), .bool ((Qe l0_1 a1).f5), .slice A149_6 ((Qe l0_1 a1).f6).length c149_6, .slice A149_7 ((Qe l0_1 a1).f7).length c149_7, .slice A149_8 ((Qe l0_1 a1).f8).length c149_8], .int .i64 (l0_2.length : Int)] rfl (by (try simp only [List.map_toArray, List.map_cons, List.map_nil]); first | done | rfl | (simp only [List.length_drop, List.length_take]; rfl)) ?_; (with_reducible refine (QL.calls kj4 ((Qe l0_1 a1).f0) ((Qe l0_1 a1).f1) ((Qe l0_1 a1).f2) _ _ ((Qe l0_1 a1).f3) ((Qe l0_1 a1).f4) ((Qe l0_1 a1).f5) _ _ ((Qe l0_1 a1).f6) _ _ ((Qe l0_1 a1).f7) _ _ ((Qe l0_1 a1).f8) (l0_2.length : Int) t160 _ ?side1 ?side2 ?side3 ?side4 ?side5 ?side6 ?side7 ?side8 A79.out).mono ?_); (case side1 => repeat (first | exact (Kd.Qx HR149_3.out HB.out) | (with_reducible refine Kd.QT ?_ _) | (with_reducible refine Kd.QS ?_ _) | (with_reducible refine Kd.X6 ?_))); (case side2 => exact HC149_3.out); (case side3 => repeat (first | exact (Kd.Qx HR149_6.out HB.out) | (with_reducible refine Kd.QT ?_ _) | (with_reducible refine Kd.QS ?_ _) | (with_reducible refine Kd.X6 ?_))); (case side4 => exact HC149_6.out); (case side5 => repeat (first | exact (Kd.Qx HR149_7.out HB.out) | (with_reducible refine Kd.QT ?_ _) | (with_reducible refine Kd.QS ?_ _) | (with_reducible refine Kd.X6 ?_))); (case side6 => exact HC149_7.out); (case side7 => repeat (first | exact (Kd.Qx HR149_8.out HB.out) | (with_reducible refine Kd.QT ?_ _) | (with_reducible refine Kd.QS ?_ _) | (with_reducible refine Kd.X6 ?_))); (case side8 => exact HC149_8.out); rintro e w92 ⟨rfl, hb⟩; refine ⟨_, rfl, ?_⟩; replace BK148 := Q0.mk (Q9 BK148.out hb); replace BK150 := Q0.mk (Q9 BK150.out hb); replace HB := Q0.mk (Qj HB.out hb)))
      go_ret
      exact ⟨by first | rfl | (simp [*]; done), by repeat (first | exact HB.out | apply Q4 | apply Q2 | apply Q6 | refine Q1 ?_ GE148.out | refine Q1 ?_ GE150.out)⟩
  ·rw [if_neg c4] at H
   exact absurd H (by simp)
 ·rw [if_neg c3] at H
  exact absurd H (by simp)
end Go.Proofs.Ytakabkjhnncbhaa.PX
