/- A part of the proof of a law: its words, walks of functions, or plain lemmas. -/
-- Written by this session's own programs (wip/printx.py, gen_*.py, assemble.py) and by hand.
import Derived.Test.YtakabkjhnncbhaaS01
import Derived.Test.YtakabkjhnncbhaaS03
import Derived.Test.YtakabkjhnncbhaaS04
import Derived.Test.YtakabkjhnncbhaaS06
namespace Go.Proofs.Ytakabkjhnncbhaa.PX
open Go.RowKit Go.Proofs.YtakabkjhnncbhaaW.PrintWords Go.Proofs.YtakabkjhnncbhaaW.PrintLast Go.Proofs.YtakabkjhnncbhaaW.PrintMore
attribute [local go_sem] Xk Xi Xs Xr X5 X4 Xj Xh   -- for this text's walks alone
set_option linter.unusedVariables false
set_option linter.unusedSimpArgs false
def Yr {σ : Type} (step : σ → Int → Option (Int × σ)) (base : Int) : Nat → Int → σ → Option (Int × Int × σ)
  | 0, _, st => some (0, 0, st)
  | n + 1, i, st => (step st i).bind fun p => if p.1 = 0 then Yr step base n (i + 1) p.2 else some (p.1, wrap64 (base + i), p.2)
theorem grown_set {w W : World} {row : Option Nat} (h : w.grownBy W row) {g : Nat} (hg : w.heap.size ≤ g) (j : Nat) (u : Value) : w.grownBy (W.setCell ⟨g, j, none⟩ u) row :=
  ⟨h.os, h.tape, h.output, by simpa [World.setCell] using h.size, fun k hk hr => (Below.heap_setCell W ⟨g, j, none⟩ u k (by show k ≠ g; omega)).trans (h.block k hk hr)⟩
theorem grown_alloc0 (w : World) (o : Obj) (row : Option Nat) : w.grownBy (w.alloc o) row := World.grownBy_alloc w o row
set_option maxHeartbeats 4000000 in
theorem each.calls {σ : Type} (n : Nat) (base : Int) (g : Nat) (lb : Array Value) (eg : ∀ args w, (callFunc g args).run Try.prog w = .ok (.enter g args) w) (step : σ → Int → Option (Int × σ)) (Inv : σ → World → Prop) (N : Nat) (row : Option Nat) (hrow : ∀ k, row = some k → k < N)
    (hI : ∀ st W W', Inv st W → Below N W W' → Inv st W')
    (hc : ∀ st (i : Int) e st' W, Inv st W → N ≤ W.heap.size → 0 ≤ i → i < n → step st i = some (e, st') → Calls Try.prog g (#[.int .i64 i] ++ lb) W fun en w' => en = .returned (.int .i64 e) ∧ Inv st' w' ∧ W.grownBy w' row)
    (w : World) (hN : N ≤ w.heap.size) (hn : n ≤ 9223372036854775807) (st0 : σ) (h0 : Inv st0 w) (e idx : Int) (st' : σ) (h : Yr step base n 0 st0 = some (e, idx, st')) :
    Calls Try.prog 47 #[.int .i64 n, .int .i64 base, .func (.func g) #[] lb] w fun en w' => en = .returned (.agg #[.int .i64 e, .int .i64 idx]) ∧ Inv st' w' ∧ w.grownBy w' row := by
  have HC := Q0.mk hc
  have HI := Q0.mk hI
  have HROW := Q0.mk hrow
  have H0 := Q0.mk h0
  have H := Q0.mk h
  clear hc hI h0 h hrow
  have hu24 := Try.underlying24
  obtain ⟨gb, hgb⟩ : ∃ gb, gb = w.heap.size := ⟨_, rfl⟩
  have HG := Q0.mk hgb
  go_enter Try.func47, Try.ntmps47
  go_wp2_with (first | ((with_reducible refine QN (N := 6) rfl ?_); refine QK ?hg (N := 6) ?hd (cs := #[.int .i64 0, .int .i64 0]) (t := 24) ?hr ?_; (case hd => rfl); (case hg => rfl); (case hr => first | (go_simp; done) | (go_simp; rfl)); intro gb hg w3 hbox hb; clear HG hgb; have HG := Q0.mk hg; have HBOX := Q0.mk hbox; have HB := Q0.mk hb; clear hg hbox hb))
  go_loopg [10] n (fun gg v10 wr => ∃ (kk : Nat) (st : σ), v10 = .int .i64 kk ∧ kk ≤ n ∧ n - kk ≤ gg ∧ Q0 (Yr step base (n - kk) kk st = some (e, idx, st')) ∧ Q0 (Inv st wr) ∧ Q0 (w.grownBy wr row) ∧ Q0 (wr.heap[gb]? = some (.cells #[.int .i64 0, .int .i64 0] 24 (0, 0))))
  case atStart => exact ⟨0, st0, rfl, Nat.zero_le _, by omega, H, ⟨HI.out _ _ _ H0.out (HB.out.mono hN)⟩, ⟨XF HB.out row⟩, HBOX⟩
  case round =>
    obtain ⟨kk, st, rfl, hkk, hg, HE, HV, HW, HX⟩ := hrel
    by_cases hlt : kk < n
    · have hltz : (kk : Int) < (n : Int) := by omega
      obtain ⟨d, hd⟩ : ∃ d, n - kk = d + 1 := ⟨n - kk - 1, by omega⟩
      have hE := HE.out
      rw [hd] at hE
      simp only [Yr] at hE
      obtain ⟨⟨e1, st1⟩, hs, hE⟩ := Option.bind_eq_some_iff.1 hE
      have hcall := HC.out st kk e1 st1 wr HV.out (Nat.le_trans hN HW.out.size) (by omega) hltz hs
      have HS := Q0.mk hs
      have HD := Q0.mk hd
      have HE := Q0.mk hE
      clear hs hd hE
      by_cases he1 : e1 = 0
      · subst he1
        go_wp2_with (go_at_fn g; refine hcall.mono ?_; rintro en w' ⟨rfl, hv', hg'⟩)
        go_roundg (n - (kk + 1))
        case measure => omega
        case rel =>
          have hE := HE.out
          simp only [if_true] at hE
          have hd := HD.out
          refine ⟨kk + 1, st1, by go_num, by omega, by omega, ⟨?_⟩, ⟨hv'⟩, ⟨World.grownBy.trans HW.out hg'⟩, ⟨?_⟩⟩
          · rw [show n - (kk + 1) = d from by omega, show ((kk + 1 : Nat) : Int) = (kk : Int) + 1 from by omega]; exact hE
          · exact (hg'.block gb (Qy HX.out) (fun e => by have := HROW.out gb e.symm; have := HG.out; omega)).trans HX.out
      · have he1b : (e1 != 0) = true := bne_iff_ne.mpr he1
        have hE := HE.out
        rw [if_neg he1] at hE
        simp only [Option.some.injEq, Prod.mk.injEq] at hE
        obtain ⟨rfl, rfl, rfl⟩ := hE
        clear he1 HE
        go_wp2_with (go_at_fn g; refine hcall.mono ?_; rintro en w' ⟨rfl, hv', hg'⟩; have hx' := (hg'.block gb (Qy HX.out) (fun e => by have := HROW.out gb e.symm; have := HG.out; omega)).trans HX.out; have hc0 : w'.cell? ⟨gb, 0, none⟩ = some (.int .i64 0) := (Qz hx' 0).trans rfl; have hc1 : w'.cell? ⟨gb, 1, none⟩ = some (.int .i64 0) := (Qz hx' 1).trans rfl; have hf0 := QZ hx' 0; have hf1 := QZ hx' 1; have HX' := Q0.mk hx'; have HV' := Q0.mk hv'; have HG' := Q0.mk hg'; clear hx' hv' hg')
        refine bodyPost_ret (results_cell_row rfl _ _ gb 24 #[.int .i64 e1, .int .i64 (wrap64 (base + kk))] (0, 0) _ rfl (by refine Xd (cs := #[.int .i64 e1, .int .i64 0]) ?_ 1 _ rfl; refine Xd (cs := #[.int .i64 0, .int .i64 0]) ?_ 0 _ rfl; exact HX'.out) Try.underlying24 rfl (by kernel_rfl)) rfl ?_
        have hgb : w.heap.size ≤ gb := by have := HG.out; omega
        refine ⟨rfl, HI.out _ _ _ HV'.out ?_, grown_set (grown_set (World.grownBy.trans HW.out HG'.out) hgb 0 _) hgb 1 _⟩
        exact ((Below.refl N w').setCell (p := ⟨gb, 0, none⟩) (by show N ≤ gb; omega) _).setCell (p := ⟨gb, 1, none⟩) (by show N ≤ gb; omega) _
    · have hltz : ¬ (kk : Int) < (n : Int) := by omega
      have : kk = n := by omega
      subst this
      have hE := HE.out
      rw [Nat.sub_self] at hE
      simp only [Yr, Option.some.injEq, Prod.mk.injEq] at hE
      obtain ⟨rfl, rfl, rfl⟩ := hE
      clear HE
      have hc0 : wr.cell? ⟨gb, 0, none⟩ = some (.int .i64 0) := (Qz HX.out 0).trans rfl
      have hc1 : wr.cell? ⟨gb, 1, none⟩ = some (.int .i64 0) := (Qz HX.out 1).trans rfl
      have hf0 := QZ HX.out 0
      have hf1 := QZ HX.out 1
      go_wp2
      refine bodyPost_ret (results_cell_row rfl _ _ gb 24 #[.int .i64 0, .int .i64 0] (0, 0) _ rfl (by refine Xd (cs := #[.int .i64 0, .int .i64 0]) ?_ 1 _ rfl; refine Xd (cs := #[.int .i64 0, .int .i64 0]) ?_ 0 _ rfl; exact HX.out) Try.underlying24 rfl (by kernel_rfl)) rfl ?_
      have hgb : w.heap.size ≤ gb := by have := HG.out; omega
      refine ⟨rfl, HI.out _ _ _ HV.out ?_, grown_set (grown_set HW.out hgb 0 _) hgb 1 _⟩
      exact ((Below.refl N wr).setCell (p := ⟨gb, 0, none⟩) (by show N ≤ gb; omega) _).setCell (p := ⟨gb, 1, none⟩) (by show N ≤ gb; omega) _
end Go.Proofs.Ytakabkjhnncbhaa.PX
namespace Go.Proofs.Ytakabkjhnncbhaa.PX
open Go.RowKit Go.Proofs.YtakabkjhnncbhaaW.PrintWords Go.Proofs.YtakabkjhnncbhaaW.PrintLast Go.Proofs.YtakabkjhnncbhaaW.PrintMore
attribute [local go_sem] Xk Xi Xs Xr X5 X4 Xj Xh   -- for this text's walks alone
set_option linter.unusedVariables false
set_option linter.unusedSimpArgs false
set_option maxHeartbeats 2000000 in
theorem ix49.calls (A : Option Addr) (c : Nat) (l : List S49) (g : Nat) (lb : Array Value) (p : S49 → Bool) (eg : ∀ args w, (callFunc g args).run Try.prog w = .ok (.enter g args) w) (w : World) (hr : Kd.C k49 w A l.length l)
    (hp : ∀ W (x : S49) cs, Below w.heap.size w W → k49.K W x cs → Calls Try.prog g (#[.agg cs.toArray] ++ lb) W fun e w' => e = .returned (.bool (p x)) ∧ Below W.heap.size W w') :
    Calls Try.prog 54 #[.slice A l.length c, .func (.func g) #[] lb] w fun e w' => e = .returned (.int .i64 (fidx p l)) ∧ Below w.heap.size w w' := by
  have hbig : l.length ≤ 9223372036854775807 := hr.2.1
  have HR := Q0.mk hr
  have HP := Q0.mk hp
  clear hr hp
  go_enter Try.func54, Try.ntmps54
  go_wp2
  go_loopg [5, 8] l.length (fun gg _ s8 wr => ∃ kk : Nat, kk ≤ l.length ∧ l.length - kk ≤ gg ∧ s8 = .int .i64 kk ∧ Q0 (Below w.heap.size w wr) ∧ Q0 (∀ j, j < kk → p (l.getD j z49) = false))
  case atStart => exact ⟨0, Nat.zero_le _, by omega, rfl, ⟨Below.refl _ w⟩, ⟨fun j hj => absurd hj (Nat.not_lt_zero _)⟩⟩
  case round =>
    obtain ⟨kk, hkk, hg, rfl, HB, HA⟩ := hrel
    by_cases hlt : kk < l.length
    · have hltz : (kk : Int) < (l.length : Int) := by omega
      obtain ⟨ad, A1, c1, e, hx0, hx1, l1, g1⟩ := at_T49 (Kd.Qx HR.out HB.out) (kk : Int) (by omega) hltz
      cases e
      have hcall := HP.out wr (Qh l kk) _ HB.out (k49_mk wr (Qh l kk) l1 g1)
      clear l1 g1
      have hd : Qh l kk = l.getD kk z49 := by unfold Qh; rw [Int.toNat_natCast]
      have HD := Q0.mk hd
      clear hd
      simp only [Int.toNat_natCast] at hx0 hx1
      generalize hy : Qh l kk = y at hx0 hx1 hcall HD
      have HY := Q0.mk hy
      clear hy
      cases hq : p y with
      | true =>
        rw [hq] at hcall
        have HQ := Q0.mk hq
        clear hq
        go_wp2_with (go_at_fn g; refine hcall.mono ?_; rintro e w' ⟨rfl, hb'⟩)
        go_ret
        refine ⟨?_, Qj HB.out hb'⟩
        rw [fidx_hit (d := z49) hlt (by rw [← HD.out]; exact HQ.out) HA.out]
        rfl
      | false =>
        rw [hq] at hcall
        have HQ := Q0.mk hq
        clear hq
        go_wp2_with (go_at_fn g; refine hcall.mono ?_; rintro e w' ⟨rfl, hb'⟩)
        go_roundg (l.length - (kk + 1))
        case measure => omega
        case rel =>
          refine ⟨kk + 1, by omega, by omega, by go_num, ⟨Qj HB.out hb'⟩, ⟨fun j hj => ?_⟩⟩
          by_cases e : j = kk
          · subst e
            rw [← HD.out]; exact HQ.out
          · exact HA.out j (by omega)
    · have hltz : ¬ (kk : Int) < (l.length : Int) := by omega
      have : kk = l.length := by omega
      subst this
      go_wp2
      go_ret
      refine ⟨?_, HB.out⟩
      rw [fidx_miss (d := z49) HA.out]
      rfl
set_option maxHeartbeats 2000000 in
theorem cf49.calls (A : Option Addr) (c : Nat) (l : List S49) (g : Nat) (lb : Array Value) (p : S49 → Bool) (eg : ∀ args w, (callFunc g args).run Try.prog w = .ok (.enter g args) w) (w : World) (hr : Kd.C k49 w A l.length l)
    (hp : ∀ W (x : S49) cs, Below w.heap.size w W → k49.K W x cs → Calls Try.prog g (#[.agg cs.toArray] ++ lb) W fun e w' => e = .returned (.bool (p x)) ∧ Below W.heap.size W w') :
    Calls Try.prog 72 #[.slice A l.length c, .func (.func g) #[] lb] w fun e w' => e = .returned (.bool (l.any p)) ∧ Below w.heap.size w w' := by
  rw [← fidx_any p l]
  have HX := Q0.mk (ix49.calls A c l g lb p eg w hr hp)
  clear hr hp
  go_enter Try.func72, Try.ntmps72
  go_wp2_with (go_at_call 54; refine HX.out.mono ?_; rintro e w' ⟨rfl, hb'⟩)
  go_ret
  exact ⟨rfl, hb'⟩
theorem cl_group.one (x : S49) (A1 : Option Addr) (c1 : Nat) (gb : Nat) (nm : ByteArray) (W : World) (hbk : ∃ cs, W.heap[gb]? = some (.cells cs 49 (0,0)) ∧ cs[0]? = some (.string nm)) :
    Calls Try.prog 73 #[.agg #[.string x.f0, .slice A1 x.f1.length c1], .pointer (some ⟨gb,0,none⟩)] W fun e w' => e = .returned (.bool (x.f0.toList == nm.toList)) ∧ Below W.heap.size W w' := by
  obtain ⟨cs, hb, hn⟩ := hbk
  have hc0 : W.cell? ⟨gb, 0, none⟩ = some (.string nm) := (Qz hb 0).trans hn
  have hc1 : (W.alloc (.cells #[.string x.f0, .slice A1 x.f1.length c1] 49)).cell? ⟨gb, 0, none⟩ = some (.string nm) := XY (Q4 (Below.refl _ _) _) hc0
  clear hb hn hc0
  go_enter Try.func73, Try.ntmps73
  go_wp2
  go_ret
  exact ⟨rfl, Q4 (Below.refl _ _) _⟩
def cl_group.f (l : List S49) (nm : ByteArray) : Option Bool := some (l.any fun x => x.f0.toList == nm.toList)
theorem cl_group.calls (A : Option Addr) (c : Nat) (l : List S49) (gb : Nat) (nm : ByteArray) (r : Bool) (w : World) (hr : Kd.C k49 w A l.length l) (_hc : l.length ≤ c) (hbk : ∃ cs, w.heap[gb]? = some (.cells cs 49 (0,0)) ∧ cs[0]? = some (.string nm)) (h : cl_group.f l nm = some r) :
    Calls Try.prog 72 #[.slice A l.length c, .func (.func 73) #[] #[.pointer (some ⟨gb, 0, none⟩)]] w fun e w' => e = .returned (.bool r) ∧ Below w.heap.size w w' := by
  have h := Option.some.inj h
  subst h
  refine cf49.calls A c l 73 _ (fun x => x.f0.toList == nm.toList) (enters_of Try.func73 (by kernel_rfl) rfl) w hr (fun W x cs hb hK => ?_)
  obtain ⟨A1, c1, rfl, _, _⟩ := k49_open hK
  obtain ⟨cs0, h0, h1⟩ := hbk
  exact cl_group.one x _ _ gb nm W ⟨cs0, Q9 h0 hb, h1⟩
end Go.Proofs.Ytakabkjhnncbhaa.PX
namespace Go.Proofs.Ytakabkjhnncbhaa.PX
open Go.RowKit Go.Proofs.YtakabkjhnncbhaaW.PrintWords Go.Proofs.YtakabkjhnncbhaaW.PrintLast Go.Proofs.YtakabkjhnncbhaaW.PrintMore
attribute [local go_sem] Xk Xi Xs Xr X5 X4 Xj Xh   -- for this text's walks alone
set_option linter.unusedVariables false
set_option linter.unusedSimpArgs false
def grpLoop (nsec : Int) : List Int → Int → List Bool → Option (Int × List Bool)
  | [], _, used => some (0, used)
  | s :: r, last, used =>
    if s ≤ last then some (5, used) else if nsec ≤ s then some (5, used)
    else if 0 ≤ s ∧ s < used.length then (if used.getD s.toNat false = true then some (13, used) else grpLoop nsec r s (used.set s.toNat true))
    else none
def XL.f (nsec : Nat) (gs : List S49) (i : Int) (used : List Bool) : Option (Int × List Bool) :=
  if 0 ≤ i ∧ i < gs.length then
    (Qn.f ((Qh gs i).f0.size + 2) (Qh gs i).f0).bind fun ok =>
      if ok = true then
        (if ((gs.take i.toNat).any fun x => x.f0.toList == (Qh gs i).f0.toList) = true then some (7, used) else grpLoop nsec (Qh gs i).f1 (-1) used)
      else some (12, used)
  else none
theorem infoG49 : (Try.prog.info? 49).map (fun i => (i.zero, i.size, i.bytes)) = some (some (.agg #[(.string ⟨#[]⟩), (.slice none 0 0)]), 2, 40) := by kernel_rfl
set_option maxHeartbeats 8000000 in
set_option maxRecDepth 100000 in
theorem XL.calls (a0 : ByteArray) (A1 : Option Addr) (c1 : Nat) (l1 : List S89) (A2 : Option Addr) (c2 : Nat) (l2 : List S61) (A3 : Option Addr) (c3 : Nat) (l3 : List S49) (A4 : Option Addr) (c4 : Nat) (l4 : List ByteArray) (A5 : Option Addr) (c5 : Nat) (l5 : List S122)
    (i : Int) (gu : Nat) (used : List Bool) (w0 w : World) (hB0 : Below w0.heap.size w0 w) (hgu0 : w0.heap.size ≤ gu) (hr3 : Kd.C k49 w0 A3 l3.length l3) (hc3 : l3.length ≤ c3) (hgu : w.heap[gu]? = some (.cells (used.map Value.bool).toArray 4 (0, 0)))
    (e : Int) (used' : List Bool) (h : XL.f l1.length l3 i used = some (e, used')) :
    Calls Try.prog 53 #[.agg #[.string a0, .slice A1 l1.length c1, .slice A2 l2.length c2, .slice A3 l3.length c3, .slice A4 l4.length c4, .slice A5 l5.length c5], .int .i64 i, .slice (some ⟨gu, 0, none⟩) used.length used.length] w fun en w' =>
      en = .returned (.int .i64 e) ∧ w'.heap[gu]? = some (.cells (used'.map Value.bool).toArray 4 (0, 0)) ∧ w.grownBy w' (some gu) := by
  unfold XL.f at h
  split at h
  case isFalse => exact absurd h (by simp)
  case isTrue hi =>
  obtain ⟨hi0, hi1⟩ := hi
  obtain ⟨ok, hok, h⟩ := Option.bind_eq_some_iff.1 h
  have HOK := Q0.mk hok
  have HR3 := Q0.mk hr3
  have HC3 := Q0.mk hc3
  have HU := Q0.mk hgu
  have HB := Q0.mk hB0
  have HG := Q0.mk (World.grownBy.refl w (some gu))
  have H := Q0.mk h
  clear hok hr3 hc3 hgu hB0 h
  obtain ⟨ad, Ag, cg, e3, hx0, hx1, hl1, hi1'⟩ := at_T49 HR3.out i hi0 hi1
  cases e3
  have X0 := Q0.mk hx0
  have X1 := Q0.mk hx1
  have HL1 := Q0.mk hl1
  have HI1 := Q0.mk hi1'
  have hbig : (Qh l3 i).f1.length ≤ 9223372036854775807 := hi1'.2.1
  clear hx0 hx1 hl1 hi1'
  go_enter Try.func53, Try.ntmps53
  go_upto_region 2 with (first
    | ((with_reducible refine QN (N := 3) rfl ?_); refine QK ?hg (N := 3) ?hd (cs := #[.string a0, .slice A1 l1.length c1, .slice A2 l2.length c2, .slice (some ad) l3.length c3, .slice A4 l4.length c4, .slice A5 l5.length c5]) (t := 46) ?hr ?_; (case hd => rfl); (case hg => rfl); (case hr => first | (go_simp; done) | (go_simp; rfl)); intro gm hg w3 hbox hb; have n0_ := Q0.mk (X3 HB.out HB.out.size hb); have n1_ := Q0.mk (Q9 HU.out hb); have n2_ := Q0.mk (World.grownBy.trans HG.out (XF hb (some gu))); have NMU := Q0.mk (by rw [hg]; exact Nat.ne_of_gt (Qy HU.out) : gm ≠ gu); have HM := Q0.mk hbox; clear HB HU HG; have HB := n0_; have HU := n1_; have HG := n2_; clear n0_ n1_ n2_ hg hb hbox; obtain ⟨hm0, hm1, hm2, hm3, hm4, hm5⟩ := QE HM.out; have hx0 := (HB.out.cell (World.block_lt_of_cell? w0 _ X0.out)).trans X0.out; have hx1 := (HB.out.cell (World.block_lt_of_cell? w0 _ X1.out)).trans X1.out)
    | ((with_reducible refine QN (N := 7) rfl ?_); refine QK ?hg (N := 7) ?hd (cs := #[.string (⟨#[]⟩ : ByteArray), .slice none 0 0]) (t := 49) ?hr ?_; (case hd => rfl); (case hg => rfl); (case hr => first | (go_simp; done) | (go_simp; rfl)); intro gg hg w4 hbox hb; have n0_ := Q0.mk (X3 HB.out HB.out.size hb); have n1_ := Q0.mk (Q9 HU.out hb); have n2_ := Q0.mk (World.grownBy.trans HG.out (XF hb (some gu))); have n3_ := Q0.mk (Q9 HM.out hb); have GG := Q0.mk (by rw [hg]; exact HB.out.size : w0.heap.size ≤ gg); have GW := Q0.mk (by rw [hg]; exact HG.out.size : w.heap.size ≤ gg); have NGM := Q0.mk (by rw [hg]; exact Nat.ne_of_lt (Qy HM.out) : gm ≠ gg); have NGU := Q0.mk (by rw [hg]; exact Nat.ne_of_lt (Qy HU.out) : gu ≠ gg); have HGG := Q0.mk hbox; clear HB HU HG HM hm0 hm1 hm2 hm3 hm4 hm5 hx0 hx1; have HB := n0_; have HU := n1_; have HG := n2_; have HM := n3_; clear n0_ n1_ n2_ n3_ hg hb hbox; obtain ⟨hz0, hz1⟩ := QB HGG.out; obtain ⟨hf0, hf1⟩ := Qt HGG.out)
    | ((with_reducible refine QD (t := 49) (p := 7) rfl ?_); refine Qw (t := 49) (p := 7) (v := ?vo) (w1 := (w4.setCell ⟨gg, 0, none⟩ (.string (Qh l3 i).f0)).setCell ⟨gg, 1, none⟩ (.slice Ag (Qh l3 i).f1.length cg)) ?hg ?ho ?hn ?hr ?_; (case ho => rfl); (case hg => rfl); (case hn => rfl); (case hr => first | (go_simp; done) | (go_simp; rfl)); intro w5 hw; have n0_ : Q0 (Below w0.heap.size w0 w5) := ⟨by rw [hw]; exact Q1 (Q1 HB.out GG.out) GG.out⟩; have n1_ : Q0 (w5.heap[gu]? = some (.cells (used.map Value.bool).toArray 4 (0, 0))) := ⟨by rw [hw]; exact Xw (Xw HU.out NGU.out _) NGU.out _⟩; have n2_ : Q0 (w.grownBy w5 (some gu)) := ⟨by rw [hw]; exact grown_set (grown_set HG.out GW.out 0 _) GW.out 1 _⟩; have n3_ : Q0 (w5.heap[gm]? = some (.cells #[.string a0, .slice A1 l1.length c1, .slice A2 l2.length c2, .slice (some ad) l3.length c3, .slice A4 l4.length c4, .slice A5 l5.length c5] 46 (0, 0))) := ⟨by rw [hw]; exact Xw (Xw HM.out NGM.out _) NGM.out _⟩; have n4_ : Q0 (w5.heap[gg]? = some (.cells #[.string (Qh l3 i).f0, .slice Ag (Qh l3 i).f1.length cg] 49 (0, 0))) := ⟨by rw [hw]; exact Xd (Xd HGG.out 0 _ rfl) 1 _ rfl⟩; clear hw HB HU HG HM HGG hz0 hz1 hf0 hf1; have HB := n0_; have HU := n1_; have HG := n2_; have HM := n3_; have HGG := n4_; clear n0_ n1_ n2_ n3_ n4_; obtain ⟨hm0, hm1, hm2, hm3, hm4, hm5⟩ := QE HM.out; obtain ⟨hz0, hz1⟩ := QB HGG.out))
  cases ok with
  | false =>
    have hH := H.out
    clear H
    simp only [Bool.false_eq_true, ↓reduceIte, Option.some.injEq, Prod.mk.injEq] at hH
    obtain ⟨rfl, rfl⟩ := hH
    clear h
    go_wp2_with (first | (go_at_call 43; refine (Qn.calls _ _ false _ HOK.out).mono ?_; rintro en w6 ⟨rfl, hd⟩; have n0_ := Q0.mk (Q9 HU.out hd.below); have n1_ := Q0.mk (World.grownBy.trans HG.out (XF hd.below (some gu))); clear hd))
    go_ret
    exact ⟨rfl, n0_.out, n1_.out⟩
  | true =>
    have hH := H.out
    clear H
    simp only [↓reduceIte] at hH
    have H := Q0.mk hH
    clear hH h
    have htl : (l3.take i.toNat).length = i.toNat := by rw [List.length_take]; omega
    obtain ⟨in0, hin0, _, _, _⟩ := info_parts infoG49
    have hcut := Yh (P := Try.prog) 42 49 .i64 Try.underlying42 hin0 (some ad) l3.length c3 i hi0 (by omega) HC3.out
    rw [← htl] at hcut
    have HT := Q0.mk (show (l3.take i.toNat).length ≤ c3 from by have := HC3.out; rw [List.length_take]; omega)
    have HRT := Q0.mk (Kd.Yj (m := i.toNat) HR3.out (by omega))
    obtain ⟨dup, hdup⟩ : ∃ dup, dup = ((l3.take i.toNat).any fun x => x.f0.toList == (Qh l3 i).f0.toList) := ⟨_, rfl⟩
    have HF := Q0.mk (show cl_group.f (l3.take i.toNat) (Qh l3 i).f0 = some dup from by rw [hdup]; rfl)
    have hH := H.out
    clear H
    rw [← hdup] at hH
    have H := Q0.mk hH
    clear hH hdup htl
    generalize l3.take i.toNat = tk at hcut HT HRT HF
    cases dup with
    | true =>
      have hH := H.out
      clear H
      simp only [↓reduceIte, Option.some.injEq, Prod.mk.injEq] at hH
      obtain ⟨rfl, rfl⟩ := hH
      go_wp2_with (first
        | (go_at_call 43; refine (Qn.calls _ _ true _ HOK.out).mono ?_; rintro en w6 ⟨rfl, hd⟩; have n0_ := Q0.mk (Q9 HU.out hd.below); have n1_ := Q0.mk (World.grownBy.trans HG.out (XF hd.below (some gu))); have n2_ := Q0.mk (Q9 HM.out hd.below); have n3_ := Q0.mk (Q9 HGG.out hd.below); have n4_ := Q0.mk (X3 HB.out HB.out.size hd.below); clear hd HU HG HM HGG HB hm0 hm1 hm2 hm3 hm4 hm5 hz0 hz1; have HU := n0_; have HG := n1_; have HM := n2_; have HGG := n3_; have HB := n4_; clear n0_ n1_ n2_ n3_ n4_; obtain ⟨hm0, hm1, hm2, hm3, hm4, hm5⟩ := QE HM.out; obtain ⟨hz0, hz1⟩ := QB HGG.out)
        | (go_at_call 72; refine (cl_group.calls _ _ tk gg (Qh l3 i).f0 _ _ (Kd.Qx HRT.out HB.out) HT.out ⟨_, HGG.out, rfl⟩ HF.out).mono ?_; rintro en w7 ⟨rfl, hd⟩; have n0_ := Q0.mk (Q9 HU.out hd); have n1_ := Q0.mk (World.grownBy.trans HG.out (XF hd (some gu))); have n2_ := Q0.mk (Q9 HM.out hd); have n3_ := Q0.mk (Q9 HGG.out hd); have n4_ := Q0.mk (X3 HB.out HB.out.size hd); clear hd HU HG HM HGG HB hm0 hm1 hm2 hm3 hm4 hm5 hz0 hz1; have HU := n0_; have HG := n1_; have HM := n2_; have HGG := n3_; have HB := n4_; clear n0_ n1_ n2_ n3_ n4_; obtain ⟨hm0, hm1, hm2, hm3, hm4, hm5⟩ := QE HM.out; obtain ⟨hz0, hz1⟩ := QB HGG.out))
      go_ret
      exact ⟨rfl, HU.out, HG.out⟩
    | false =>
      have hH := H.out
      clear H
      simp only [Bool.false_eq_true, ↓reduceIte] at hH
      have H := Q0.mk hH
      clear hH
      go_wp2_with (first
        | (go_at_call 43; refine (Qn.calls _ _ true _ HOK.out).mono ?_; rintro en w6 ⟨rfl, hd⟩; have n0_ := Q0.mk (Q9 HU.out hd.below); have n1_ := Q0.mk (World.grownBy.trans HG.out (XF hd.below (some gu))); have n2_ := Q0.mk (Q9 HM.out hd.below); have n3_ := Q0.mk (Q9 HGG.out hd.below); have n4_ := Q0.mk (X3 HB.out HB.out.size hd.below); clear hd HU HG HM HGG HB hm0 hm1 hm2 hm3 hm4 hm5 hz0 hz1; have HU := n0_; have HG := n1_; have HM := n2_; have HGG := n3_; have HB := n4_; clear n0_ n1_ n2_ n3_ n4_; obtain ⟨hm0, hm1, hm2, hm3, hm4, hm5⟩ := QE HM.out; obtain ⟨hz0, hz1⟩ := QB HGG.out)
        | (go_at_call 72; refine (cl_group.calls _ _ tk gg (Qh l3 i).f0 _ _ (Kd.Qx HRT.out HB.out) HT.out ⟨_, HGG.out, rfl⟩ HF.out).mono ?_; rintro en w7 ⟨rfl, hd⟩; have n0_ := Q0.mk (Q9 HU.out hd); have n1_ := Q0.mk (World.grownBy.trans HG.out (XF hd (some gu))); have n2_ := Q0.mk (Q9 HM.out hd); have n3_ := Q0.mk (Q9 HGG.out hd); have n4_ := Q0.mk (X3 HB.out HB.out.size hd); clear hd HU HG HM HGG HB hm0 hm1 hm2 hm3 hm4 hm5 hz0 hz1; have HU := n0_; have HG := n1_; have HM := n2_; have HGG := n3_; have HB := n4_; clear n0_ n1_ n2_ n3_ n4_; obtain ⟨hm0, hm1, hm2, hm3, hm4, hm5⟩ := QE HM.out; obtain ⟨hz0, hz1⟩ := QB HGG.out))
      go_loopg [8, 31] (Qh l3 i).f1.length (fun gq v8 v31 wr => ∃ (kk : Nat) (last : Int) (us : List Bool), v8 = .int .i64 last ∧ v31 = .int .i64 kk ∧ kk ≤ (Qh l3 i).f1.length ∧ (Qh l3 i).f1.length - kk ≤ gq ∧ Q0 (grpLoop l1.length ((Qh l3 i).f1.drop kk) last us = some (e, used')) ∧ Q0 (us.length = used.length) ∧ Q0 (wr.heap[gu]? = some (.cells (us.map Value.bool).toArray 4 (0, 0))) ∧ Q0 (w.grownBy wr (some gu)) ∧ Q0 (Below w0.heap.size w0 wr) ∧ Q0 (wr.heap[gm]? = some (.cells #[.string a0, .slice A1 l1.length c1, .slice A2 l2.length c2, .slice (some ad) l3.length c3, .slice A4 l4.length c4, .slice A5 l5.length c5] 46 (0, 0))))
      case atStart => exact ⟨0, -1, used, rfl, rfl, Nat.zero_le _, by omega, H, ⟨rfl⟩, HU, HG, HB, HM⟩
      case round =>
        clear hm0 hm1 hm2 hm3 hm4 hm5 hz0 hz1 HU HG HB HM H
        obtain ⟨kk, last, us, rfl, rfl, hkk, hg, H, HL, HU, HG, HB, HM⟩ := hrel
        clear hcut HT HRT HF X0 X1 HGG NGM NGU GG GW
        obtain ⟨hm0, hm1, hm2, hm3, hm4, hm5⟩ := QE HM.out
        by_cases hlt : kk < (Qh l3 i).f1.length
        · have hltz : (kk : Int) < ((Qh l3 i).f1.length : Int) := by omega
          obtain ⟨ai, eA, hxi⟩ := Kd.at_int HI1.out (kk : Int) (by omega) hltz
          subst eA
          rw [Int.toNat_natCast] at hxi
          replace hxi := (HB.out.cell (World.block_lt_of_cell? w0 _ hxi)).trans hxi
          have hd : (Qh l3 i).f1.drop kk = rd (Qh l3 i).f1 kk :: (Qh l3 i).f1.drop (kk + 1) := by
            rw [List.drop_eq_getElem_cons hlt]; unfold rd; rw [Int.toNat_natCast, List.getD_eq_getElem?_getD, List.getElem?_eq_getElem hlt]; rfl
          have hH := H.out
          clear H
          rw [hd] at hH
          simp only [grpLoop] at hH
          have H := Q0.mk hH
          clear hH hd
          generalize rd (Qh l3 i).f1 (kk : Int) = s at hxi H
          by_cases h1 : s ≤ last
          · have hH := H.out
            clear H
            rw [if_pos h1] at hH
            simp only [Option.some.injEq, Prod.mk.injEq] at hH
            obtain ⟨rfl, rfl⟩ := hH
            go_wp2
            go_ret
            exact ⟨rfl, HU.out, HG.out⟩
          by_cases h2 : (l1.length : Int) ≤ s
          · have hH := H.out
            clear H
            rw [if_neg h1, if_pos h2] at hH
            simp only [Option.some.injEq, Prod.mk.injEq] at hH
            obtain ⟨rfl, rfl⟩ := hH
            go_wp2
            go_ret
            exact ⟨rfl, HU.out, HG.out⟩
          have hH := H.out
          clear H
          rw [if_neg h1, if_neg h2] at hH
          by_cases h3 : 0 ≤ s ∧ s < us.length
          · rw [if_pos h3] at hH
            obtain ⟨h4, h5⟩ := h3
            have h5' : s < (used.length : Int) := by have := HL.out; omega
            have hcs : ((us.map Value.bool).toArray)[s.toNat]? = some (.bool (us.getD s.toNat false)) := by
              rw [List.getElem?_toArray, List.getElem?_map, List.getElem?_eq_getElem (show s.toNat < us.length by omega), List.getD_eq_getElem?_getD, List.getElem?_eq_getElem (show s.toNat < us.length by omega)]; rfl
            have hu0 : wr.cell? ⟨gu, s.toNat, none⟩ = some (.bool (us.getD s.toNat false)) := (Qz HU.out s.toNat).trans hcs
            have hu1 := QZ HU.out s.toNat
            have H := Q0.mk hH
            clear hH hcs
            generalize hb : us.getD s.toNat false = b at hu0 H
            cases b with
            | true =>
              have hH := H.out
              clear H
              simp only [↓reduceIte, Option.some.injEq, Prod.mk.injEq] at hH
              obtain ⟨rfl, rfl⟩ := hH
              clear hb
              go_wp2
              go_ret
              exact ⟨rfl, HU.out, HG.out⟩
            | false =>
              have hH := H.out
              clear H
              simp only [Bool.false_eq_true, ↓reduceIte] at hH
              have H := Q0.mk hH
              clear hH hb
              go_wp2
              go_roundg ((Qh l3 i).f1.length - (kk + 1))
              case measure => omega
              case rel =>
                refine ⟨kk + 1, s, us.set s.toNat true, rfl, by go_num, by omega, by omega, H, ⟨by rw [List.length_set]; exact HL.out⟩, ⟨?_⟩, ⟨?_⟩, ⟨?_⟩, ⟨?_⟩⟩
                · have e0 : (us.set s.toNat true).map Value.bool = (us.map Value.bool).set s.toNat (.bool true) := by rw [List.map_set]
                  rw [e0]
                  refine Xd HU.out s.toNat (.bool true) ?_
                  simp
                · exact ⟨HG.out.os, HG.out.tape, HG.out.output, by simpa [World.setCell] using HG.out.size, fun k hk hr => (Below.heap_setCell wr ⟨gu, s.toNat, none⟩ _ k (by show k ≠ gu; exact fun e => hr (by rw [e]))).trans (HG.out.block k hk hr)⟩
                · exact Q1 HB.out hgu0
                · exact Xw HM.out NMU.out _
          · rw [if_neg h3] at hH
            exact absurd hH (by simp)
        · have hltz : ¬ (kk : Int) < ((Qh l3 i).f1.length : Int) := by omega
          have hH := H.out
          clear H
          rw [List.drop_eq_nil_of_le (by omega)] at hH
          simp only [grpLoop, Option.some.injEq, Prod.mk.injEq] at hH
          obtain ⟨rfl, rfl⟩ := hH
          go_wp2
          go_ret
          exact ⟨rfl, HU.out, HG.out⟩
end Go.Proofs.Ytakabkjhnncbhaa.PX
namespace Go.Proofs.Ytakabkjhnncbhaa.PX
open Go.RowKit Go.Proofs.YtakabkjhnncbhaaW.PrintWords Go.Proofs.YtakabkjhnncbhaaW.PrintLast Go.Proofs.YtakabkjhnncbhaaW.PrintMore
attribute [local go_sem] Xk Xi Xs Xr X5 X4 Xj Xh   -- for this text's walks alone
set_option linter.unusedVariables false
set_option linter.unusedSimpArgs false
def vfiles (k : Nat) (fs : List ByteArray) : Nat → Nat → Option Int
  | 0, _ => some (-1)
  | n + 1, i => (Qn.f k (fs.getD i ByteArray.empty)).bind fun b => if b = true then ((QW.f k (fs.take i) (fs.getD i ByteArray.empty)).bind fun c => if c = true then some (i : Int) else vfiles k fs n (i + 1)) else some (i : Int)
def X7.f (k : Nat) (a0 : ByteArray) (l1 : List (S89)) (l2 : List (S61)) (l3 : List (S49)) (l4 : List ByteArray) (l5 : List (S122)) : Option (Int × Int) :=
  (Qn.f k a0).bind fun b => if b = true then
    ((XI.f a0 l1 l2 l3 l4 l5).bind fun t => if t = true then some (2, -1) else
      ((vfiles k l4 l4.length 0).bind fun v => if v < 0 then
        ((QH.f k l5).bind fun q => if q.1 = 0 then
          ((Yr (fun (_ : Unit) i => (Qo.f k a0 l1 l2 l3 l4 l5 i).bind fun r => some (r, ())) 0 l1.length 0 ()).bind fun x => if x.1 = 0 then
            ((Yr (fun (_ : Unit) i => (Qp.f k a0 l1 l2 l3 l4 l5 i).bind fun r => some (r, ())) 1000 l2.length 0 ()).bind fun y => if y.1 = 0 then
              ((Yr (fun (us : List Bool) i => XL.f l1.length l3 i us) 2000 l3.length 0 (List.replicate l1.length false)).bind fun z => some (z.1, z.2.1))
            else some (y.1, y.2.1))
          else some (x.1, x.2.1))
        else some (q.1, -4))
      else some (12, wrap64 (3000 + v))))
  else some (12, -1)
theorem each_zero {σ : Type} (step : σ → Int → Option (Int × σ)) (base : Int) : ∀ (n : Nat) (i : Int) (st : σ) (e ix : Int) (st' : σ), Yr step base n i st = some (e, ix, st') → e = 0 → ix = 0
  | 0, _, _, _, _, _, h, _ => by simp only [Yr, Option.some.injEq, Prod.mk.injEq] at h; exact h.2.1.symm
  | n + 1, i, st, e, ix, st', h, he => by
    simp only [Yr] at h
    obtain ⟨⟨e1, s1⟩, _, h⟩ := Option.bind_eq_some_iff.1 h
    split at h
    · exact each_zero step base n _ _ _ _ _ h he
    · rename_i hn
      simp only [Option.some.injEq, Prod.mk.injEq] at h
      exact absurd (h.1.trans he) hn
theorem grpLoop_length : ∀ (r : List Int) (ns last : Int) (us : List Bool) (e : Int) (us' : List Bool), grpLoop ns r last us = some (e, us') → us'.length = us.length
  | [], _, _, _, _, _, h => by simp only [grpLoop, Option.some.injEq, Prod.mk.injEq] at h; rw [h.2]
  | s :: r, ns, last, us, e, us', h => by
    simp only [grpLoop] at h
    split at h
    · simp only [Option.some.injEq, Prod.mk.injEq] at h; rw [h.2]
    split at h
    · simp only [Option.some.injEq, Prod.mk.injEq] at h; rw [h.2]
    split at h
    · split at h
      · simp only [Option.some.injEq, Prod.mk.injEq] at h; rw [h.2]
      · rw [grpLoop_length r ns s _ e us' h, List.length_set]
    · exact absurd h (by simp)
theorem group_length {ns : Nat} {gs : List (S49)} {i : Int} {us : List Bool} {e : Int} {us' : List Bool} (h : XL.f ns gs i us = some (e, us')) : us'.length = us.length := by
  unfold XL.f at h
  split at h
  · obtain ⟨b, _, h⟩ := Option.bind_eq_some_iff.1 h
    split at h
    · split at h
      · simp only [Option.some.injEq, Prod.mk.injEq] at h; rw [h.2]
      · exact grpLoop_length _ _ _ _ _ _ h
    · simp only [Option.some.injEq, Prod.mk.injEq] at h; rw [h.2]
  · exact absurd h (by simp)
set_option maxHeartbeats 8000000 in
set_option maxRecDepth 100000 in
theorem v1.one (k : Nat) (a0 : ByteArray) (A1 : Option Addr) (c1 : Nat) (l1 : List (S89)) (A2 : Option Addr) (c2 : Nat) (l2 : List (S61)) (A3 : Option Addr) (c3 : Nat) (l3 : List (S49)) (A4 : Option Addr) (c4 : Nat) (l4 : List (ByteArray)) (A5 : Option Addr) (c5 : Nat) (l5 : List (S122)) (gm : Nat) (i r : Int) (w : World) (hr1 : Kd.C k89 w A1 l1.length l1) (hc1 : l1.length ≤ c1) (hr2 : Kd.C k61 w A2 l2.length l2) (hc2 : l2.length ≤ c2) (hr3 : Kd.C k49 w A3 l3.length l3) (hc3 : l3.length ≤ c3) (hr4 : Kd.C Kd.string w A4 l4.length l4) (hc4 : l4.length ≤ c4) (hr5 : Kd.C k122 w A5 l5.length l5) (hc5 : l5.length ≤ c5) (hm : w.heap[gm]? = some (.cells #[.string a0, .slice A1 l1.length c1, .slice A2 l2.length c2, .slice A3 l3.length c3, .slice A4 l4.length c4, .slice A5 l5.length c5] 46 (0, 0))) (h : Qo.f k a0 l1 l2 l3 l4 l5 i = some r) :
    Calls Try.prog 48 #[.int .i64 i, .pointer (some ⟨gm, 0, none⟩)] w fun e w' => e = .returned (.int .i64 r) ∧ Below w.heap.size w w' := by
  have HX := Q0.mk (Qo.calls k a0 A1 c1 l1 A2 c2 l2 A3 c3 l3 A4 c4 l4 A5 c5 l5 i r w hr1 hc1 hr2 hc2 hr3 hc3 hr4 hc4 hr5 hc5 h)
  obtain ⟨hc0, hc1', hc2', hc3', hc4', hc5'⟩ := QE hm
  have hu := Try.underlying46
  clear hr1 hc1 hr2 hc2 hr3 hc3 hr4 hc4 hr5 hc5 h hm
  go_enter Try.func48, Try.ntmps48
  go_wp2_with (go_at_call 49; refine HX.out.mono ?_; rintro e w' ⟨rfl, hb⟩)
  go_ret
  exact ⟨rfl, hb⟩
set_option maxHeartbeats 8000000 in
set_option maxRecDepth 100000 in
theorem v2.one (k : Nat) (a0 : ByteArray) (A1 : Option Addr) (c1 : Nat) (l1 : List (S89)) (A2 : Option Addr) (c2 : Nat) (l2 : List (S61)) (A3 : Option Addr) (c3 : Nat) (l3 : List (S49)) (A4 : Option Addr) (c4 : Nat) (l4 : List (ByteArray)) (A5 : Option Addr) (c5 : Nat) (l5 : List (S122)) (gm : Nat) (i r : Int) (w : World) (hr1 : Kd.C k89 w A1 l1.length l1) (hc1 : l1.length ≤ c1) (hr2 : Kd.C k61 w A2 l2.length l2) (hc2 : l2.length ≤ c2) (hr3 : Kd.C k49 w A3 l3.length l3) (hc3 : l3.length ≤ c3) (hr4 : Kd.C Kd.string w A4 l4.length l4) (hc4 : l4.length ≤ c4) (hr5 : Kd.C k122 w A5 l5.length l5) (hc5 : l5.length ≤ c5) (hm : w.heap[gm]? = some (.cells #[.string a0, .slice A1 l1.length c1, .slice A2 l2.length c2, .slice A3 l3.length c3, .slice A4 l4.length c4, .slice A5 l5.length c5] 46 (0, 0))) (h : Qp.f k a0 l1 l2 l3 l4 l5 i = some r) :
    Calls Try.prog 50 #[.int .i64 i, .pointer (some ⟨gm, 0, none⟩)] w fun e w' => e = .returned (.int .i64 r) ∧ Below w.heap.size w w' := by
  have HX := Q0.mk (Qp.calls k a0 A1 c1 l1 A2 c2 l2 A3 c3 l3 A4 c4 l4 A5 c5 l5 i r w hr1 hc1 hr2 hc2 hr3 hc3 hr4 hc4 hr5 hc5 h)
  obtain ⟨hc0, hc1', hc2', hc3', hc4', hc5'⟩ := QE hm
  have hu := Try.underlying46
  clear hr1 hc1 hr2 hc2 hr3 hc3 hr4 hc4 hr5 hc5 h hm
  go_enter Try.func50, Try.ntmps50
  go_wp2_with (go_at_call 51; refine HX.out.mono ?_; rintro e w' ⟨rfl, hb⟩)
  go_ret
  exact ⟨rfl, hb⟩
set_option maxHeartbeats 8000000 in
set_option maxRecDepth 100000 in
theorem v3.one (a0 : ByteArray) (A1 : Option Addr) (c1 : Nat) (l1 : List (S89)) (A2 : Option Addr) (c2 : Nat) (l2 : List (S61)) (A3 : Option Addr) (c3 : Nat) (l3 : List (S49)) (A4 : Option Addr) (c4 : Nat) (l4 : List (ByteArray)) (A5 : Option Addr) (c5 : Nat) (l5 : List (S122)) (gm gv gu : Nat) (us : List Bool) (i : Int) (w0 w : World) (hB0 : Below w0.heap.size w0 w) (hgu0 : w0.heap.size ≤ gu) (hr3 : Kd.C k49 w0 A3 l3.length l3) (hc3 : l3.length ≤ c3) (hm : w.heap[gm]? = some (.cells #[.string a0, .slice A1 l1.length c1, .slice A2 l2.length c2, .slice A3 l3.length c3, .slice A4 l4.length c4, .slice A5 l5.length c5] 46 (0, 0))) (hv : w.heap[gv]? = some (.cells #[.slice (some ⟨gu, 0, none⟩) us.length us.length] 39 (0, 0)))
    (hgu : w.heap[gu]? = some (.cells (us.map Value.bool).toArray 4 (0, 0))) (e : Int) (us' : List Bool) (h : XL.f l1.length l3 i us = some (e, us')) :
    Calls Try.prog 52 #[.int .i64 i, .pointer (some ⟨gm, 0, none⟩), .pointer (some ⟨gv, 0, none⟩)] w fun en w' => en = .returned (.int .i64 e) ∧ w'.heap[gu]? = some (.cells (us'.map Value.bool).toArray 4 (0, 0)) ∧ w.grownBy w' (some gu) := by
  have HX := Q0.mk (XL.calls a0 A1 c1 l1 A2 c2 l2 A3 c3 l3 A4 c4 l4 A5 c5 l5 i gu us w0 w hB0 hgu0 hr3 hc3 hgu e us' h)
  obtain ⟨hc0, hc1', hc2', hc3', hc4', hc5'⟩ := QE hm
  have hv0 : w.cell? ⟨gv, 0, none⟩ = some (.slice (some ⟨gu, 0, none⟩) us.length us.length) := (Qz hv 0).trans rfl
  have hu := Try.underlying46
  clear hB0 hgu0 hr3 hc3 h hm hv hgu
  go_enter Try.func52, Try.ntmps52
  go_wp2_with (go_at_call 53; refine HX.out.mono ?_; rintro e w' ⟨rfl, hb⟩)
  go_ret
  exact ⟨rfl, hb⟩
theorem eqV (d : Nat) (w : World) (x0 y0 : Int) (x1 y1 : Int) :
    (Op.equalIn (d + 2) 24 (.agg #[.int .i64 x0, .int .i64 x1]) (.agg #[.int .i64 y0, .int .i64 y1])).run Try.prog w = .ok (x0 == y0 && (x1 == y1)) w := by
  refine eqA_of Try.underlying24 (by kernel_rfl) ?_
  refine eqf_cons (by rfl) (by go_simp; rfl) (by go_simp; rfl) (by go_simp) ?_
  exact eqf_last (by rfl) (by go_simp; rfl) (by go_simp; rfl) (by go_simp)
theorem make_event {P : Program} {ops : Array Oper} {rest : List Oper} {o : Oper} {a : Act} {Q : Exit → Act → World → Prop} {W : World} (hgd : o.guard = none) {N : Tmp} (_hd : o.dst = some N) {cs : Array Value} {t : TypeId} {m : Nat}
    (hrun : (execOp a.eval o).run P W = .ok (.value (.slice (some ⟨W.heap.size, 0, none⟩) m m)) (W.alloc (.cells cs t (0, 0))))
    (h : ∀ g, g = W.heap.size → ∀ w1, w1.heap[g]? = some (.cells cs t (0, 0)) → Below W.heap.size W w1 → wpList P ops Q rest (a.put o.dst (.slice (some ⟨g, 0, none⟩) m m)) w1) : wpList P ops Q (o :: rest) a W :=
  Kd.event_run hgd hrun (h _ rfl _ (blk_new W _) (Q4 (Below.refl _ _) _))
theorem infoS9 : (Try.prog.info? 9).map (fun i => (i.zero, i.size, i.bytes)) = some (some (.string ⟨#[]⟩), 1, 16) := by kernel_rfl
theorem infoB4 : (Try.prog.info? 4).map (fun i => (i.zero, i.size, i.bytes)) = some (some (.bool false), 1, 1) := by kernel_rfl
theorem made_bools (n : Nat) : madeCells #[.bool false] n = ((List.replicate n false).map Value.bool).toArray := by
  apply Array.ext'
  apply List.ext_getElem
  · simp [madeCells]
  · intro i h1 h2
    simp [madeCells, Nat.mod_one]
theorem records_zero {k : Nat} {l : List (S122)} {q1 q2 : Int} (h : QH.f k l = some (q1, q2)) (e : q1 = 0) : q2 = 0 := by
  unfold QH.f at h
  split at h
  · simp only [Option.some.injEq, Prod.mk.injEq] at h; omega
  · have : ∀ (n : Nat) (i : Int), QH.l0 n l (l.length : Int) i = some (q1, q2) → q2 = 0 := by
      intro n
      induction n with
      | zero => intro i h; simp [QH.l0] at h
      | succ n ih =>
        intro i h
        simp only [QH.l0] at h
        split at h
        · obtain ⟨t, _, h⟩ := Option.bind_eq_some_iff.1 h
          split at h
          · exact ih _ h
          · rename_i hn
            simp only [Option.some.injEq, Prod.mk.injEq] at h
            exact absurd (h.1.trans e) hn
        · simp only [Option.some.injEq, Prod.mk.injEq] at h; exact h.2.symm
    exact this _ _ h
theorem many_false {a0 : ByteArray} {l1 : List (S89)} {l2 : List (S61)} {l3 : List (S49)} {l4 : List ByteArray} {l5 : List (S122)} (h : XI.f a0 l1 l2 l3 l4 l5 = some false) : l1.length ≤ 16 := by
  unfold XI.f at h
  split at h
  · simp at h
  · omega
theorem v1.each (k : Nat) (a0 : ByteArray) (A1 : Option Addr) (c1 : Nat) (l1 : List (S89)) (A2 : Option Addr) (c2 : Nat) (l2 : List (S61)) (A3 : Option Addr) (c3 : Nat) (l3 : List (S49)) (A4 : Option Addr) (c4 : Nat) (l4 : List (ByteArray)) (A5 : Option Addr) (c5 : Nat) (l5 : List (S122)) (gm : Nat) (e idx : Int) (w : World) (hr1 : Kd.C k89 w A1 l1.length l1) (hc1 : l1.length ≤ c1) (hr2 : Kd.C k61 w A2 l2.length l2) (hc2 : l2.length ≤ c2) (hr3 : Kd.C k49 w A3 l3.length l3) (hc3 : l3.length ≤ c3) (hr4 : Kd.C Kd.string w A4 l4.length l4) (hc4 : l4.length ≤ c4) (hr5 : Kd.C k122 w A5 l5.length l5) (hc5 : l5.length ≤ c5) (hm : w.heap[gm]? = some (.cells #[.string a0, .slice A1 l1.length c1, .slice A2 l2.length c2, .slice A3 l3.length c3, .slice A4 l4.length c4, .slice A5 l5.length c5] 46 (0, 0))) (h : Yr (fun (_ : Unit) i => (Qo.f k a0 l1 l2 l3 l4 l5 i).bind fun r => some (r, ())) 0 l1.length 0 () = some (e, idx, ())) :
    Calls Try.prog 47 #[.int .i64 l1.length, .int .i64 0, .func (.func 48) #[] #[.pointer (some ⟨gm, 0, none⟩)]] w fun en w' => en = .returned (.agg #[.int .i64 e, .int .i64 idx]) ∧ Below w.heap.size w w' := by
  refine (each.calls (σ := Unit) l1.length 0 48 _ (enters_of Try.func48 (by kernel_rfl) rfl) _ (fun _ W => Below w.heap.size w W) w.heap.size none (fun _ h => by cases h) (fun _ W W' h hb => h.trans hb) (fun st i en st' W hI hN h0 h1 hs => ?_) w (Nat.le_refl _) hr1.2.1 () (Below.refl _ _) e idx () h).mono ?_
  · obtain ⟨r, hr, he⟩ := Option.bind_eq_some_iff.1 hs
    simp only [Option.some.injEq, Prod.mk.injEq] at he
    obtain ⟨rfl, _⟩ := he
    refine (v1.one k a0 A1 c1 l1 A2 c2 l2 A3 c3 l3 A4 c4 l4 A5 c5 l5 gm i _ W (Kd.Qx hr1 hI) hc1 (Kd.Qx hr2 hI) hc2 (Kd.Qx hr3 hI) hc3 (Kd.Qx hr4 hI) hc4 (Kd.Qx hr5 hI) hc5 (Q9 hm hI) hr).mono ?_
    rintro en' w' ⟨rfl, hb⟩
    exact ⟨rfl, Qj hI hb, XF hb none⟩
  · rintro en w' ⟨rfl, hb, _⟩
    exact ⟨rfl, hb⟩
theorem v2.each (k : Nat) (a0 : ByteArray) (A1 : Option Addr) (c1 : Nat) (l1 : List (S89)) (A2 : Option Addr) (c2 : Nat) (l2 : List (S61)) (A3 : Option Addr) (c3 : Nat) (l3 : List (S49)) (A4 : Option Addr) (c4 : Nat) (l4 : List (ByteArray)) (A5 : Option Addr) (c5 : Nat) (l5 : List (S122)) (gm : Nat) (e idx : Int) (w : World) (hr1 : Kd.C k89 w A1 l1.length l1) (hc1 : l1.length ≤ c1) (hr2 : Kd.C k61 w A2 l2.length l2) (hc2 : l2.length ≤ c2) (hr3 : Kd.C k49 w A3 l3.length l3) (hc3 : l3.length ≤ c3) (hr4 : Kd.C Kd.string w A4 l4.length l4) (hc4 : l4.length ≤ c4) (hr5 : Kd.C k122 w A5 l5.length l5) (hc5 : l5.length ≤ c5) (hm : w.heap[gm]? = some (.cells #[.string a0, .slice A1 l1.length c1, .slice A2 l2.length c2, .slice A3 l3.length c3, .slice A4 l4.length c4, .slice A5 l5.length c5] 46 (0, 0))) (h : Yr (fun (_ : Unit) i => (Qp.f k a0 l1 l2 l3 l4 l5 i).bind fun r => some (r, ())) 1000 l2.length 0 () = some (e, idx, ())) :
    Calls Try.prog 47 #[.int .i64 l2.length, .int .i64 1000, .func (.func 50) #[] #[.pointer (some ⟨gm, 0, none⟩)]] w fun en w' => en = .returned (.agg #[.int .i64 e, .int .i64 idx]) ∧ Below w.heap.size w w' := by
  refine (each.calls (σ := Unit) l2.length 1000 50 _ (enters_of Try.func50 (by kernel_rfl) rfl) _ (fun _ W => Below w.heap.size w W) w.heap.size none (fun _ h => by cases h) (fun _ W W' h hb => h.trans hb) (fun st i en st' W hI hN h0 h1 hs => ?_) w (Nat.le_refl _) hr2.2.1 () (Below.refl _ _) e idx () h).mono ?_
  · obtain ⟨r, hr, he⟩ := Option.bind_eq_some_iff.1 hs
    simp only [Option.some.injEq, Prod.mk.injEq] at he
    obtain ⟨rfl, _⟩ := he
    refine (v2.one k a0 A1 c1 l1 A2 c2 l2 A3 c3 l3 A4 c4 l4 A5 c5 l5 gm i _ W (Kd.Qx hr1 hI) hc1 (Kd.Qx hr2 hI) hc2 (Kd.Qx hr3 hI) hc3 (Kd.Qx hr4 hI) hc4 (Kd.Qx hr5 hI) hc5 (Q9 hm hI) hr).mono ?_
    rintro en' w' ⟨rfl, hb⟩
    exact ⟨rfl, Qj hI hb, XF hb none⟩
  · rintro en w' ⟨rfl, hb, _⟩
    exact ⟨rfl, hb⟩
theorem v3.each (a0 : ByteArray) (A1 : Option Addr) (c1 : Nat) (l1 : List (S89)) (A2 : Option Addr) (c2 : Nat) (l2 : List (S61)) (A3 : Option Addr) (c3 : Nat) (l3 : List (S49)) (A4 : Option Addr) (c4 : Nat) (l4 : List (ByteArray)) (A5 : Option Addr) (c5 : Nat) (l5 : List (S122)) (gm gv gu : Nat) (us : List Bool) (e idx : Int) (us' : List Bool) (w0 w : World) (hB0 : Below w0.heap.size w0 w) (hgu0 : w0.heap.size ≤ gu) (hmu : gm ≠ gu) (hvu : gv ≠ gu) (hr3 : Kd.C k49 w0 A3 l3.length l3) (hc3 : l3.length ≤ c3) (hm : w.heap[gm]? = some (.cells #[.string a0, .slice A1 l1.length c1, .slice A2 l2.length c2, .slice A3 l3.length c3, .slice A4 l4.length c4, .slice A5 l5.length c5] 46 (0, 0)))
    (hv : w.heap[gv]? = some (.cells #[.slice (some ⟨gu, 0, none⟩) us.length us.length] 39 (0, 0))) (hgu : w.heap[gu]? = some (.cells (us.map Value.bool).toArray 4 (0, 0))) (h : Yr (fun (us : List Bool) i => XL.f l1.length l3 i us) 2000 l3.length 0 us = some (e, idx, us')) :
    Calls Try.prog 47 #[.int .i64 l3.length, .int .i64 2000, .func (.func 52) #[] #[.pointer (some ⟨gm, 0, none⟩), .pointer (some ⟨gv, 0, none⟩)]] w fun en w' => en = .returned (.agg #[.int .i64 e, .int .i64 idx]) ∧ Below w0.heap.size w0 w' ∧ w.grownBy w' (some gu) := by
  refine (each.calls (σ := List Bool) l3.length 2000 52 _ (enters_of Try.func52 (by kernel_rfl) rfl) _ (fun st W => Below w0.heap.size w0 W ∧ W.heap[gm]? = some (.cells #[.string a0, .slice A1 l1.length c1, .slice A2 l2.length c2, .slice A3 l3.length c3, .slice A4 l4.length c4, .slice A5 l5.length c5] 46 (0, 0)) ∧ W.heap[gv]? = some (.cells #[.slice (some ⟨gu, 0, none⟩) us.length us.length] 39 (0, 0)) ∧ W.heap[gu]? = some (.cells (st.map Value.bool).toArray 4 (0, 0)) ∧ st.length = us.length) w.heap.size (some gu) (fun k hk => by cases hk; exact Qy hgu) ?_ (fun st i en st' W hI hN h0 h1 hs => ?_) w (Nat.le_refl _) hr3.2.1 us ⟨hB0, hm, hv, hgu, rfl⟩ e idx us' h).mono ?_
  · rintro st W W' ⟨hI, h1, h2, h3, h4⟩ hb
    exact ⟨hI.trans (hb.mono hB0.size), (hb.block gm (Qy hm)).trans h1, (hb.block gv (Qy hv)).trans h2, (hb.block gu (Qy hgu)).trans h3, h4⟩
  · obtain ⟨hI, h1', h2, h3, h4⟩ := hI
    rw [← h4] at h2
    refine (v3.one a0 A1 c1 l1 A2 c2 l2 A3 c3 l3 A4 c4 l4 A5 c5 l5 gm gv gu st i w0 W hI hgu0 hr3 hc3 h1' h2 h3 en st' hs).mono ?_
    rintro en' w' ⟨rfl, hu', hg'⟩
    refine ⟨rfl, ⟨hI.grown hg' hI.size (fun k hk => by cases hk; exact hgu0), (hg'.block gm (Qy h1') (fun e => hmu (Option.some.inj e))).trans h1', ?_, hu', (group_length hs).trans h4⟩, hg'⟩
    rw [← h4]
    exact (hg'.block gv (Qy h2) (fun e => hvu (Option.some.inj e))).trans h2
  · rintro en w' ⟨rfl, hI, hg'⟩
    exact ⟨rfl, hI.1, hg'⟩
end Go.Proofs.Ytakabkjhnncbhaa.PX
namespace Go.Proofs.Ytakabkjhnncbhaa.PX
open Go.RowKit Go.Proofs.YtakabkjhnncbhaaW.PrintWords Go.Proofs.YtakabkjhnncbhaaW.PrintLast Go.Proofs.YtakabkjhnncbhaaW.PrintMore
attribute [local go_sem] Xk Xi Xs Xr X5 X4 Xj Xh   -- for this text's walks alone
set_option linter.unusedVariables false
set_option linter.unusedSimpArgs false
theorem eachS_mono {σ : Type} {s s' : σ → Int → Option (Int × σ)} (h : ∀ st i, LeO (s st i) (s' st i)) (base : Int) : ∀ n i st, LeO (Yr s base n i st) (Yr s' base n i st)
  | 0, _, _ => LeO.refl _
  | n + 1, i, st => by
    simp only [Yr]
    exact LeO.bind (h st i) (fun x => LeO.ite (eachS_mono h base n _ _) (LeO.refl _))
theorem vfiles_mono (k : Nat) (fs : List ByteArray) : ∀ n i, LeO (vfiles k fs n i) (vfiles (k + 1) fs n i)
  | 0, _ => LeO.refl _
  | n + 1, i => by
    simp only [vfiles]
    exact LeO.bind (Qn.mono _ _) (fun x => LeO.ite (LeO.bind (QW.mono _ _ _) (fun y => LeO.ite (LeO.refl _) (vfiles_mono k fs n (i + 1)))) (LeO.refl _))
theorem X7.mono (a0 : ByteArray) (l1 : List (S89)) (l2 : List (S61)) (l3 : List (S49)) (l4 : List ByteArray) (l5 : List (S122)) (k : Nat) : LeO (X7.f k a0 l1 l2 l3 l4 l5) (X7.f (k + 1) a0 l1 l2 l3 l4 l5) := by
  unfold X7.f
  refine LeO.bind (Qn.mono _ _) (fun b => LeO.ite ?_ (LeO.refl _))
  refine LeO.bind (LeO.refl _) (fun t => LeO.ite (LeO.refl _) ?_)
  refine LeO.bind (vfiles_mono _ _ _ _) (fun v => LeO.ite ?_ (LeO.refl _))
  refine LeO.bind (QH.mono _ _) (fun q => LeO.ite ?_ (LeO.refl _))
  refine LeO.bind (eachS_mono (fun st i => LeO.bind (Qo.mono _ _ _ _ _ _ _ _) (fun _ => LeO.refl _)) _ _ _ _) (fun x => LeO.ite ?_ (LeO.refl _))
  refine LeO.bind (eachS_mono (fun st i => LeO.bind (Qp.mono _ _ _ _ _ _ _ _) (fun _ => LeO.refl _)) _ _ _ _) (fun y => LeO.ite (LeO.refl _) (LeO.refl _))
theorem vfiles_bound (k : Nat) (fs : List ByteArray) : ∀ n i v, vfiles k fs n i = some v → v < 0 ∨ (i : Int) ≤ v ∧ v < i + n
  | 0, _, _, h => by simp only [vfiles, Option.some.injEq] at h; omega
  | n + 1, i, v, h => by
    simp only [vfiles] at h
    obtain ⟨b, _, h⟩ := Option.bind_eq_some_iff.1 h
    split at h
    · obtain ⟨c, _, h⟩ := Option.bind_eq_some_iff.1 h
      split at h
      · simp only [Option.some.injEq] at h; omega
      · have := vfiles_bound k fs n (i + 1) v h; omega
    · simp only [Option.some.injEq] at h; omega
attribute [local go_sem high] eqV
theorem gate_clo {P : Program} {n : FuncId} (g : Nat) {a b : Value} {lb : Array Value} {W : World} {Q : Ending → World → Prop} (h : Calls P n #[a, b, .func (.func g) #[] lb] W Q) : Calls P n #[a, b, .func (.func g) #[] lb] W Q := h
set_option maxHeartbeats 20000000 in
set_option maxRecDepth 100000 in
theorem X7.calls (k : Nat) (a0 : ByteArray) (A1 : Option Addr) (c1 : Nat) (l1 : List (S89)) (A2 : Option Addr) (c2 : Nat) (l2 : List (S61)) (A3 : Option Addr) (c3 : Nat) (l3 : List (S49)) (A4 : Option Addr) (c4 : Nat) (l4 : List (ByteArray)) (A5 : Option Addr) (c5 : Nat) (l5 : List (S122)) (r1 r2 : Int) (w : World) (hr1 : Kd.C k89 w A1 l1.length l1) (hc1 : l1.length ≤ c1) (hr2 : Kd.C k61 w A2 l2.length l2) (hc2 : l2.length ≤ c2) (hr3 : Kd.C k49 w A3 l3.length l3) (hc3 : l3.length ≤ c3) (hr4 : Kd.C Kd.string w A4 l4.length l4) (hc4 : l4.length ≤ c4) (hr5 : Kd.C k122 w A5 l5.length l5) (hc5 : l5.length ≤ c5) (h : X7.f k a0 l1 l2 l3 l4 l5 = some (r1, r2)) :
    Calls Try.prog 26 #[.agg #[.string a0, .slice A1 l1.length c1, .slice A2 l2.length c2, .slice A3 l3.length c3, .slice A4 l4.length c4, .slice A5 l5.length c5]] w fun e w' => e = .returned (.agg #[.int .i64 r1, .int .i64 r2]) ∧ Below w.heap.size w w' := by
  unfold X7.f at h
  obtain ⟨ok, hok, h⟩ := Option.bind_eq_some_iff.1 h
  have H := Q0.mk h
  have HOK := Q0.mk hok
  clear h hok
  have hu24 := Try.underlying24
  have hu46 := Try.underlying46
  have HR1 := Q0.mk hr1
  have HC1 := Q0.mk hc1
  have HR2 := Q0.mk hr2
  have HC2 := Q0.mk hc2
  have HR3 := Q0.mk hr3
  have HC3 := Q0.mk hc3
  have HR4 := Q0.mk hr4
  have HC4 := Q0.mk hc4
  have HR5 := Q0.mk hr5
  have HC5 := Q0.mk hc5
  have hbig1 : l1.length ≤ 9223372036854775807 := hr1.2.1
  have hbig2 : l2.length ≤ 9223372036854775807 := hr2.2.1
  have hbig3 : l3.length ≤ 9223372036854775807 := hr3.2.1
  have hbig4 : l4.length ≤ 9223372036854775807 := hr4.2.1
  have hbig5 : l5.length ≤ 9223372036854775807 := hr5.2.1
  clear hr1 hr2 hr3 hr4 hr5 hc1 hc2 hc3 hc4 hc5
  have HB := Q0.mk (Below.refl w.heap.size w)
  go_enter Try.func26, Try.ntmps26
  go_upto_region 1 with (first
    | ((with_reducible refine QN (N := 1) rfl ?_); refine QK ?hg (N := 1) ?hd (cs := #[.string a0, .slice A1 l1.length c1, .slice A2 l2.length c2, .slice A3 l3.length c3, .slice A4 l4.length c4, .slice A5 l5.length c5]) (t := 46) ?hr ?_; (case hd => rfl); (case hg => rfl); (case hr => first | (go_simp; done) | (go_simp; rfl)); intro gm hg wgm hbox hb; have Gw_gm := Q0.mk (by rw [hg]; exact HB.out.size : w.heap.size ≤ gm); replace HB := Q0.mk (X3 HB.out HB.out.size hb); have HM := Q0.mk hbox; clear hg hb hbox; obtain ⟨hmc0, hmc1, hmc2, hmc3, hmc4, hmc5⟩ := QE HM.out; obtain ⟨hmf0, hmf1, hmf2, hmf3, hmf4, hmf5⟩ := QR HM.out)
    | ((with_reducible refine QN (N := 2) rfl ?_); refine QK ?hg (N := 2) ?hd (cs := #[.int .i64 0, .int .i64 0]) (t := 24) ?hr ?_; (case hd => rfl); (case hg => rfl); (case hr => first | (go_simp; done) | (go_simp; rfl)); intro gr hg wgr hbox hb; have Gw_gr := Q0.mk (by rw [hg]; exact HB.out.size : w.heap.size ≤ gr); have Ngm_gr := Q0.mk (by rw [hg]; exact Nat.ne_of_lt (Qy HM.out) : gm ≠ gr); have Ngr_gm := Q0.mk (by rw [hg]; exact Nat.ne_of_gt (Qy HM.out) : gr ≠ gm); (try clear hmc0 hmf0 hmc1 hmf1 hmc2 hmf2 hmc3 hmf3 hmc4 hmf4 hmc5 hmf5); replace HB := Q0.mk (X3 HB.out HB.out.size hb); replace HM := Q0.mk (Q9 HM.out hb); have HZ := Q0.mk hbox; clear hg hb hbox; obtain ⟨hmc0, hmc1, hmc2, hmc3, hmc4, hmc5⟩ := QE HM.out; obtain ⟨hmf0, hmf1, hmf2, hmf3, hmf4, hmf5⟩ := QR HM.out; obtain ⟨hzc0, hzc1⟩ := QB HZ.out; obtain ⟨hzf0, hzf1⟩ := Qt HZ.out))
  cases ok with
  | false =>
    have hH := H.out
    clear H
    simp only [↓reduceIte, Option.some.injEq, Prod.mk.injEq, Bool.false_eq_true] at hH
    obtain ⟨rfl, rfl⟩ := hH
    go_wp2_with (first
      | (go_at_call 43; refine (Qn.calls _ _ false _ HOK.out).mono ?_; rintro en wc1 ⟨rfl, hd⟩; have hb := hd.below; (try clear hmc0 hmf0 hmc1 hmf1 hmc2 hmf2 hmc3 hmf3 hmc4 hmf4 hmc5 hmf5); (try clear hzc0 hzf0 hzc1 hzf1); replace HB := Q0.mk (X3 HB.out HB.out.size hb); replace HM := Q0.mk (Q9 HM.out hb); replace HZ := Q0.mk (Q9 HZ.out hb); (try clear hd); (try clear hb); obtain ⟨hmc0, hmc1, hmc2, hmc3, hmc4, hmc5⟩ := QE HM.out; obtain ⟨hmf0, hmf1, hmf2, hmf3, hmf4, hmf5⟩ := QR HM.out; obtain ⟨hzc0, hzc1⟩ := QB HZ.out; obtain ⟨hzf0, hzf1⟩ := Qt HZ.out))
    refine bodyPost_ret (results_cell_row rfl _ _ gr 24 #[.int .i64 (12), .int .i64 (-1)] (0, 0) _ rfl (by refine Xd (cs := #[.int .i64 (12), .int .i64 0]) ?_ 1 _ rfl; refine Xd (cs := #[.int .i64 0, .int .i64 0]) ?_ 0 _ rfl; exact HZ.out) Try.underlying24 rfl (by kernel_rfl)) rfl ?_
    exact ⟨rfl, Q1 (Q1 HB.out Gw_gr.out) Gw_gr.out⟩
  | true =>
    have hH := H.out
    clear H
    simp only [↓reduceIte] at hH
    have H := Q0.mk hH
    clear hH
    have hH := H.out
    clear H
    obtain ⟨t, ht, hH⟩ := Option.bind_eq_some_iff.1 hH
    have HT := Q0.mk ht
    have H := Q0.mk hH
    clear ht hH
    cases t with
    | true =>
      have hH := H.out
      clear H
      simp only [↓reduceIte, Option.some.injEq, Prod.mk.injEq, Bool.false_eq_true] at hH
      obtain ⟨rfl, rfl⟩ := hH
      go_wp2_with (first
        | (go_at_call 43; refine (Qn.calls _ _ true _ HOK.out).mono ?_; rintro en wc1 ⟨rfl, hd⟩; have hb := hd.below; (try clear hmc0 hmf0 hmc1 hmf1 hmc2 hmf2 hmc3 hmf3 hmc4 hmf4 hmc5 hmf5); (try clear hzc0 hzf0 hzc1 hzf1); replace HB := Q0.mk (X3 HB.out HB.out.size hb); replace HM := Q0.mk (Q9 HM.out hb); replace HZ := Q0.mk (Q9 HZ.out hb); (try clear hd); (try clear hb); obtain ⟨hmc0, hmc1, hmc2, hmc3, hmc4, hmc5⟩ := QE HM.out; obtain ⟨hmf0, hmf1, hmf2, hmf3, hmf4, hmf5⟩ := QR HM.out; obtain ⟨hzc0, hzc1⟩ := QB HZ.out; obtain ⟨hzf0, hzf1⟩ := Qt HZ.out)
        | (go_at_call 44; refine (XI.calls a0 A1 c1 l1 A2 c2 l2 A3 c3 l3 A4 c4 l4 A5 c5 l5 true _ (Kd.Qx HR1.out HB.out) HC1.out (Kd.Qx HR2.out HB.out) HC2.out (Kd.Qx HR3.out HB.out) HC3.out (Kd.Qx HR4.out HB.out) HC4.out (Kd.Qx HR5.out HB.out) HC5.out HT.out).mono ?_; rintro en wc2 ⟨rfl, hb⟩; (try clear hmc0 hmf0 hmc1 hmf1 hmc2 hmf2 hmc3 hmf3 hmc4 hmf4 hmc5 hmf5); (try clear hzc0 hzf0 hzc1 hzf1); replace HB := Q0.mk (X3 HB.out HB.out.size hb); replace HM := Q0.mk (Q9 HM.out hb); replace HZ := Q0.mk (Q9 HZ.out hb); (try clear hd); (try clear hb); obtain ⟨hmc0, hmc1, hmc2, hmc3, hmc4, hmc5⟩ := QE HM.out; obtain ⟨hmf0, hmf1, hmf2, hmf3, hmf4, hmf5⟩ := QR HM.out; obtain ⟨hzc0, hzc1⟩ := QB HZ.out; obtain ⟨hzf0, hzf1⟩ := Qt HZ.out))
      refine bodyPost_ret (results_cell_row rfl _ _ gr 24 #[.int .i64 (2), .int .i64 (-1)] (0, 0) _ rfl (by refine Xd (cs := #[.int .i64 (2), .int .i64 0]) ?_ 1 _ rfl; refine Xd (cs := #[.int .i64 0, .int .i64 0]) ?_ 0 _ rfl; exact HZ.out) Try.underlying24 rfl (by kernel_rfl)) rfl ?_
      exact ⟨rfl, Q1 (Q1 HB.out Gw_gr.out) Gw_gr.out⟩
    | false =>
      have hH := H.out
      clear H
      simp only [↓reduceIte, Bool.false_eq_true] at hH
      have H := Q0.mk hH
      clear hH
      have hH := H.out
      clear H
      obtain ⟨v, hv, hH⟩ := Option.bind_eq_some_iff.1 hH
      have HV := Q0.mk hv
      have H := Q0.mk hH
      clear hv hH
      go_wp2_with (first
        | (go_at_call 43; refine (Qn.calls _ _ true _ HOK.out).mono ?_; rintro en wc1 ⟨rfl, hd⟩; have hb := hd.below; (try clear hmc0 hmf0 hmc1 hmf1 hmc2 hmf2 hmc3 hmf3 hmc4 hmf4 hmc5 hmf5); (try clear hzc0 hzf0 hzc1 hzf1); replace HB := Q0.mk (X3 HB.out HB.out.size hb); replace HM := Q0.mk (Q9 HM.out hb); replace HZ := Q0.mk (Q9 HZ.out hb); (try clear hd); (try clear hb); obtain ⟨hmc0, hmc1, hmc2, hmc3, hmc4, hmc5⟩ := QE HM.out; obtain ⟨hmf0, hmf1, hmf2, hmf3, hmf4, hmf5⟩ := QR HM.out; obtain ⟨hzc0, hzc1⟩ := QB HZ.out; obtain ⟨hzf0, hzf1⟩ := Qt HZ.out)
        | (go_at_call 44; refine (XI.calls a0 A1 c1 l1 A2 c2 l2 A3 c3 l3 A4 c4 l4 A5 c5 l5 false _ (Kd.Qx HR1.out HB.out) HC1.out (Kd.Qx HR2.out HB.out) HC2.out (Kd.Qx HR3.out HB.out) HC3.out (Kd.Qx HR4.out HB.out) HC4.out (Kd.Qx HR5.out HB.out) HC5.out HT.out).mono ?_; rintro en wc2 ⟨rfl, hb⟩; (try clear hmc0 hmf0 hmc1 hmf1 hmc2 hmf2 hmc3 hmf3 hmc4 hmf4 hmc5 hmf5); (try clear hzc0 hzf0 hzc1 hzf1); replace HB := Q0.mk (X3 HB.out HB.out.size hb); replace HM := Q0.mk (Q9 HM.out hb); replace HZ := Q0.mk (Q9 HZ.out hb); (try clear hd); (try clear hb); obtain ⟨hmc0, hmc1, hmc2, hmc3, hmc4, hmc5⟩ := QE HM.out; obtain ⟨hmf0, hmf1, hmf2, hmf3, hmf4, hmf5⟩ := QR HM.out; obtain ⟨hzc0, hzc1⟩ := QB HZ.out; obtain ⟨hzf0, hzf1⟩ := Qt HZ.out))
      go_loopg [21] l4.length (fun gg v21 wr => ∃ kk : Nat, v21 = .int .i64 kk ∧ kk ≤ l4.length ∧ l4.length - kk ≤ gg ∧ Q0 (vfiles k l4 (l4.length - kk) kk = some v) ∧ Q0 (Below w.heap.size w wr) ∧ Q0 (wr.heap[gm]? = some (.cells #[.string a0, .slice A1 l1.length c1, .slice A2 l2.length c2, .slice A3 l3.length c3, .slice A4 l4.length c4, .slice A5 l5.length c5] 46 (0, 0))) ∧ Q0 (wr.heap[gr]? = some (.cells #[.int .i64 0, .int .i64 0] 24 (0, 0))))
      case atStart => exact ⟨0, rfl, Nat.zero_le _, by omega, HV, HB, HM, HZ⟩
      case round =>
        (try clear hmc0 hmf0 hmc1 hmf1 hmc2 hmf2 hmc3 hmf3 hmc4 hmf4 hmc5 hmf5 hzc0 hzf0 hzc1 hzf1)
        clear HV HB HM HZ
        obtain ⟨kk, rfl, hkk, hg, HV, HB, HM, HZ⟩ := hrel
        obtain ⟨hmc0, hmc1, hmc2, hmc3, hmc4, hmc5⟩ := QE HM.out
        obtain ⟨hmf0, hmf1, hmf2, hmf3, hmf4, hmf5⟩ := QR HM.out
        obtain ⟨hzc0, hzc1⟩ := QB HZ.out
        obtain ⟨hzf0, hzf1⟩ := Qt HZ.out
        by_cases hlt : kk < l4.length
        · have hltz : (kk : Int) < (l4.length : Int) := by omega
          obtain ⟨ad, e4, hx⟩ := Kd.at_string HR4.out (kk : Int) (by omega) hltz
          cases e4
          replace hx := (HB.out.cell (World.block_lt_of_cell? w _ hx)).trans hx
          rw [Int.toNat_natCast] at hx
          have hrd : rdOf ByteArray.empty l4 (kk : Int) = l4.getD kk ByteArray.empty := by unfold rdOf; rw [Int.toNat_natCast]
          rw [hrd] at hx
          clear hrd
          obtain ⟨d, hd⟩ : ∃ d, l4.length - kk = d + 1 := ⟨l4.length - kk - 1, by omega⟩
          have hE := HV.out
          rw [hd] at hE
          have HD := Q0.mk hd
          clear HV hd
          simp only [vfiles] at hE
          generalize l4.getD kk ByteArray.empty = s at hx hE
          obtain ⟨b, hb, hE⟩ := Option.bind_eq_some_iff.1 hE
          have HE := Q0.mk hE
          have HN := Q0.mk hb
          clear hE hb
          cases b with
          | false =>
            have hE := HE.out
            clear HE
            simp only [Bool.false_eq_true, ↓reduceIte, Option.some.injEq] at hE
            subst hE
            have hn0 : ¬ ((kk : Int) < 0) := by omega
            have hH := H.out
            clear H
            rw [if_neg hn0] at hH
            simp only [Option.some.injEq, Prod.mk.injEq] at hH
            obtain ⟨rfl, rfl⟩ := hH
            clear hn0
            go_wp2_with (first
              | (go_at_call 43; refine (Qn.calls _ _ false _ HN.out).mono ?_; rintro en wc3 ⟨rfl, hd⟩; have hb := hd.below; (try clear hmc0 hmf0 hmc1 hmf1 hmc2 hmf2 hmc3 hmf3 hmc4 hmf4 hmc5 hmf5); (try clear hzc0 hzf0 hzc1 hzf1); replace HB := Q0.mk (X3 HB.out HB.out.size hb); replace HM := Q0.mk (Q9 HM.out hb); replace HZ := Q0.mk (Q9 HZ.out hb); (try clear hd); (try clear hb); obtain ⟨hmc0, hmc1, hmc2, hmc3, hmc4, hmc5⟩ := QE HM.out; obtain ⟨hmf0, hmf1, hmf2, hmf3, hmf4, hmf5⟩ := QR HM.out; obtain ⟨hzc0, hzc1⟩ := QB HZ.out; obtain ⟨hzf0, hzf1⟩ := Qt HZ.out))
            refine bodyPost_ret (results_cell_row rfl _ _ gr 24 #[.int .i64 (12), .int .i64 (wrap64 (3000 + (kk : Int)))] (0, 0) _ rfl (by refine Xd (cs := #[.int .i64 (12), .int .i64 0]) ?_ 1 _ rfl; refine Xd (cs := #[.int .i64 0, .int .i64 0]) ?_ 0 _ rfl; exact HZ.out) Try.underlying24 rfl (by kernel_rfl)) rfl ?_
            exact ⟨rfl, Q1 (Q1 HB.out Gw_gr.out) Gw_gr.out⟩
          | true =>
            have hE := HE.out
            clear HE
            simp only [↓reduceIte] at hE
            obtain ⟨c, hc, hE⟩ := Option.bind_eq_some_iff.1 hE
            have HE := Q0.mk hE
            clear hE
            have htl : (l4.take kk).length = (kk : Int).toNat := by rw [Int.toNat_natCast, List.length_take]; omega
            obtain ⟨in0, hin0, _, _, _⟩ := info_parts infoS9
            have hcut := Yh (P := Try.prog) 43 9 .i64 Try.underlying43 hin0 (some ad) l4.length c4 (kk : Int) (by omega) (by omega) HC4.out
            rw [← htl] at hcut
            clear htl
            have HTK := Q0.mk (show (l4.take kk).length ≤ c4 from by have := HC4.out; rw [List.length_take]; omega)
            have HRT := Q0.mk (Kd.Yj (m := kk) HR4.out (by omega))
            have HCO := Q0.mk hc
            clear hc
            generalize l4.take kk = tk at hcut HTK HRT HCO
            cases c with
            | true =>
              have hE := HE.out
              clear HE
              simp only [↓reduceIte, Option.some.injEq] at hE
              subst hE
              have hn0 : ¬ ((kk : Int) < 0) := by omega
              have hH := H.out
              clear H
              rw [if_neg hn0] at hH
              simp only [Option.some.injEq, Prod.mk.injEq] at hH
              obtain ⟨rfl, rfl⟩ := hH
              clear hn0
              go_wp2_with (first
                | (go_at_call 43; refine (Qn.calls _ _ true _ HN.out).mono ?_; rintro en wc3 ⟨rfl, hd⟩; have hb := hd.below; (try clear hmc0 hmf0 hmc1 hmf1 hmc2 hmf2 hmc3 hmf3 hmc4 hmf4 hmc5 hmf5); (try clear hzc0 hzf0 hzc1 hzf1); replace HB := Q0.mk (X3 HB.out HB.out.size hb); replace HM := Q0.mk (Q9 HM.out hb); replace HZ := Q0.mk (Q9 HZ.out hb); (try clear hd); (try clear hb); obtain ⟨hmc0, hmc1, hmc2, hmc3, hmc4, hmc5⟩ := QE HM.out; obtain ⟨hmf0, hmf1, hmf2, hmf3, hmf4, hmf5⟩ := QR HM.out; obtain ⟨hzc0, hzc1⟩ := QB HZ.out; obtain ⟨hzf0, hzf1⟩ := Qt HZ.out)
                | (go_at_call 45; refine (QW.calls k _ _ tk s true _ (Kd.Qx HRT.out HB.out) HTK.out HCO.out).mono ?_; rintro en wc4 ⟨rfl, hd⟩; have hb := hd.below; (try clear hmc0 hmf0 hmc1 hmf1 hmc2 hmf2 hmc3 hmf3 hmc4 hmf4 hmc5 hmf5); (try clear hzc0 hzf0 hzc1 hzf1); replace HB := Q0.mk (X3 HB.out HB.out.size hb); replace HM := Q0.mk (Q9 HM.out hb); replace HZ := Q0.mk (Q9 HZ.out hb); (try clear hd); (try clear hb); obtain ⟨hmc0, hmc1, hmc2, hmc3, hmc4, hmc5⟩ := QE HM.out; obtain ⟨hmf0, hmf1, hmf2, hmf3, hmf4, hmf5⟩ := QR HM.out; obtain ⟨hzc0, hzc1⟩ := QB HZ.out; obtain ⟨hzf0, hzf1⟩ := Qt HZ.out))
              refine bodyPost_ret (results_cell_row rfl _ _ gr 24 #[.int .i64 (12), .int .i64 (wrap64 (3000 + (kk : Int)))] (0, 0) _ rfl (by refine Xd (cs := #[.int .i64 (12), .int .i64 0]) ?_ 1 _ rfl; refine Xd (cs := #[.int .i64 0, .int .i64 0]) ?_ 0 _ rfl; exact HZ.out) Try.underlying24 rfl (by kernel_rfl)) rfl ?_
              exact ⟨rfl, Q1 (Q1 HB.out Gw_gr.out) Gw_gr.out⟩
            | false =>
              go_wp2_with (first
                | (go_at_call 43; refine (Qn.calls _ _ true _ HN.out).mono ?_; rintro en wc3 ⟨rfl, hd⟩; have hb := hd.below; (try clear hmc0 hmf0 hmc1 hmf1 hmc2 hmf2 hmc3 hmf3 hmc4 hmf4 hmc5 hmf5); (try clear hzc0 hzf0 hzc1 hzf1); replace HB := Q0.mk (X3 HB.out HB.out.size hb); replace HM := Q0.mk (Q9 HM.out hb); replace HZ := Q0.mk (Q9 HZ.out hb); (try clear hd); (try clear hb); obtain ⟨hmc0, hmc1, hmc2, hmc3, hmc4, hmc5⟩ := QE HM.out; obtain ⟨hmf0, hmf1, hmf2, hmf3, hmf4, hmf5⟩ := QR HM.out; obtain ⟨hzc0, hzc1⟩ := QB HZ.out; obtain ⟨hzf0, hzf1⟩ := Qt HZ.out)
                | (go_at_call 45; refine (QW.calls k _ _ tk s false _ (Kd.Qx HRT.out HB.out) HTK.out HCO.out).mono ?_; rintro en wc4 ⟨rfl, hd⟩; have hb := hd.below; (try clear hmc0 hmf0 hmc1 hmf1 hmc2 hmf2 hmc3 hmf3 hmc4 hmf4 hmc5 hmf5); (try clear hzc0 hzf0 hzc1 hzf1); replace HB := Q0.mk (X3 HB.out HB.out.size hb); replace HM := Q0.mk (Q9 HM.out hb); replace HZ := Q0.mk (Q9 HZ.out hb); (try clear hd); (try clear hb); obtain ⟨hmc0, hmc1, hmc2, hmc3, hmc4, hmc5⟩ := QE HM.out; obtain ⟨hmf0, hmf1, hmf2, hmf3, hmf4, hmf5⟩ := QR HM.out; obtain ⟨hzc0, hzc1⟩ := QB HZ.out; obtain ⟨hzf0, hzf1⟩ := Qt HZ.out))
              go_roundg (l4.length - (kk + 1))
              case measure => omega
              case rel =>
                have hE := HE.out
                simp only [Bool.false_eq_true, ↓reduceIte] at hE
                have hd := HD.out
                refine ⟨kk + 1, by go_num, by omega, by omega, ⟨?_⟩, HB, HM, HZ⟩
                rw [show l4.length - (kk + 1) = d from by omega]; exact hE
        · have hltz : ¬ (kk : Int) < (l4.length : Int) := by omega
          have hkl : kk = l4.length := by omega
          subst hkl
          have hE := HV.out
          clear HV
          rw [Nat.sub_self] at hE
          simp only [vfiles, Option.some.injEq] at hE
          subst hE
          have hH := H.out
          clear H
          rw [if_pos (by decide)] at hH
          obtain ⟨⟨q1, q2⟩, hq, hH⟩ := Option.bind_eq_some_iff.1 hH
          have HQ := Q0.mk hq
          have H := Q0.mk hH
          clear hH hq
          by_cases hq1 : q1 = 0
          · subst hq1
            have hq2 := records_zero HQ.out rfl
            subst hq2
            have hH := H.out
            clear H
            simp only [↓reduceIte] at hH
            obtain ⟨⟨x1, x2, xu⟩, hx, hH⟩ := Option.bind_eq_some_iff.1 hH
            have HX := Q0.mk hx
            have H := Q0.mk hH
            clear hH hx
            by_cases hx1 : x1 = 0
            · subst hx1
              have hx2 := each_zero _ _ _ _ _ _ _ _ HX.out rfl
              subst hx2
              have hH := H.out
              clear H
              simp only [↓reduceIte] at hH
              obtain ⟨⟨y1, y2, yu⟩, hy, hH⟩ := Option.bind_eq_some_iff.1 hH
              have HY := Q0.mk hy
              have H := Q0.mk hH
              clear hH hy
              by_cases hy1 : y1 = 0
              · subst hy1
                have hy2 := each_zero _ _ _ _ _ _ _ _ HY.out rfl
                subst hy2
                have hH := H.out
                clear H
                simp only [↓reduceIte] at hH
                obtain ⟨⟨z1, z2, zu⟩, hz, hH⟩ := Option.bind_eq_some_iff.1 hH
                simp only [Option.some.injEq, Prod.mk.injEq] at hH
                obtain ⟨rfl, rfl⟩ := hH
                have HG3 := Q0.mk hz
                clear hz
                have h16 : l1.length ≤ 16 := many_false HT.out
                have hmk := print_make_of (P := Try.prog) 39 4 (.bool false) 1 Try.underlying39 infoB4 rfl (by decide) l1.length (by omega)
                go_wp2_with (first
                  | (go_at_call 46; refine (QH.calls k A5 c5 l5 0 0 _ (Kd.Qx HR5.out HB.out) HC5.out HQ.out).mono ?_; rintro en wc3 ⟨rfl, hb⟩; (try clear hmc0 hmf0 hmc1 hmf1 hmc2 hmf2 hmc3 hmf3 hmc4 hmf4 hmc5 hmf5); (try clear hzc0 hzf0 hzc1 hzf1); replace HB := Q0.mk (X3 HB.out HB.out.size hb); replace HM := Q0.mk (Q9 HM.out hb); replace HZ := Q0.mk (Q9 HZ.out hb); (try clear hd); (try clear hb); obtain ⟨hmc0, hmc1, hmc2, hmc3, hmc4, hmc5⟩ := QE HM.out; obtain ⟨hmf0, hmf1, hmf2, hmf3, hmf4, hmf5⟩ := QR HM.out; obtain ⟨hzc0, hzc1⟩ := QB HZ.out; obtain ⟨hzf0, hzf1⟩ := Qt HZ.out)
                  | ((with_reducible refine QN (N := 5) rfl ?_); refine QK ?hg (N := 5) ?hd (cs := #[.int .i64 0, .int .i64 0]) (t := 24) ?hr ?_; (case hd => rfl); (case hg => rfl); (case hr => first | (go_simp; done) | (go_simp; rfl)); intro g5 hg wg5 hbox hb; have Gw_g5 := Q0.mk (by rw [hg]; exact HB.out.size : w.heap.size ≤ g5); have Ngm_g5 := Q0.mk (by rw [hg]; exact Nat.ne_of_lt (Qy HM.out) : gm ≠ g5); have Ng5_gm := Q0.mk (by rw [hg]; exact Nat.ne_of_gt (Qy HM.out) : g5 ≠ gm); have Ngr_g5 := Q0.mk (by rw [hg]; exact Nat.ne_of_lt (Qy HZ.out) : gr ≠ g5); have Ng5_gr := Q0.mk (by rw [hg]; exact Nat.ne_of_gt (Qy HZ.out) : g5 ≠ gr); (try clear hmc0 hmf0 hmc1 hmf1 hmc2 hmf2 hmc3 hmf3 hmc4 hmf4 hmc5 hmf5); (try clear hzc0 hzf0 hzc1 hzf1); replace HB := Q0.mk (X3 HB.out HB.out.size hb); replace HM := Q0.mk (Q9 HM.out hb); replace HZ := Q0.mk (Q9 HZ.out hb); have HF5 := Q0.mk hbox; clear hg hb hbox; obtain ⟨hmc0, hmc1, hmc2, hmc3, hmc4, hmc5⟩ := QE HM.out; obtain ⟨hmf0, hmf1, hmf2, hmf3, hmf4, hmf5⟩ := QR HM.out; obtain ⟨hzc0, hzc1⟩ := QB HZ.out; obtain ⟨hzf0, hzf1⟩ := Qt HZ.out; obtain ⟨hf5c0, hf5c1⟩ := QB HF5.out; obtain ⟨hf5f0, hf5f1⟩ := Qt HF5.out)
                  | ((with_reducible refine QD (t := 24) (p := 5) (v := .tmp 43) rfl ?_); refine Qw (t := 24) (p := 5) (v := .tmp 43) (w1 := ((wg5.setCell ⟨g5, 0, none⟩ (.int .i64 0)).setCell ⟨g5, 1, none⟩ (.int .i64 0))) ?hg ?ho ?hn ?hr ?_; (case ho => rfl); (case hg => rfl); (case hn => rfl); (case hr => first | (go_simp; done) | (go_simp; rfl)); intro ws4 hw; replace HB := Q0.mk (bel2 hw HB.out Gw_g5.out); replace HM := Q0.mk (far2 hw HM.out Ngm_g5.out); replace HZ := Q0.mk (far2 hw HZ.out Ngr_g5.out); replace HF5 := Q0.mk (put2 hw HF5.out); (try clear hmc0 hmf0 hmc1 hmf1 hmc2 hmf2 hmc3 hmf3 hmc4 hmf4 hmc5 hmf5); (try clear hzc0 hzf0 hzc1 hzf1); (try clear hf5c0 hf5f0 hf5c1 hf5f1); clear hw; obtain ⟨hmc0, hmc1, hmc2, hmc3, hmc4, hmc5⟩ := QE HM.out; obtain ⟨hmf0, hmf1, hmf2, hmf3, hmf4, hmf5⟩ := QR HM.out; obtain ⟨hzc0, hzc1⟩ := QB HZ.out; obtain ⟨hzf0, hzf1⟩ := Qt HZ.out; obtain ⟨hf5c0, hf5c1⟩ := QB HF5.out; obtain ⟨hf5f0, hf5f1⟩ := Qt HF5.out)
                  | (go_at_call 47; (with_reducible refine gate_clo 48 ?_); refine (v1.each k a0 A1 c1 l1 A2 c2 l2 A3 c3 l3 A4 c4 l4 A5 c5 l5 gm 0 0 _ (Kd.Qx HR1.out HB.out) HC1.out (Kd.Qx HR2.out HB.out) HC2.out (Kd.Qx HR3.out HB.out) HC3.out (Kd.Qx HR4.out HB.out) HC4.out (Kd.Qx HR5.out HB.out) HC5.out HM.out HX.out).mono ?_; rintro en wc5 ⟨rfl, hb⟩; (try clear hmc0 hmf0 hmc1 hmf1 hmc2 hmf2 hmc3 hmf3 hmc4 hmf4 hmc5 hmf5); (try clear hzc0 hzf0 hzc1 hzf1); (try clear hf5c0 hf5f0 hf5c1 hf5f1); replace HB := Q0.mk (X3 HB.out HB.out.size hb); replace HM := Q0.mk (Q9 HM.out hb); replace HZ := Q0.mk (Q9 HZ.out hb); replace HF5 := Q0.mk (Q9 HF5.out hb); (try clear hd); (try clear hb); obtain ⟨hmc0, hmc1, hmc2, hmc3, hmc4, hmc5⟩ := QE HM.out; obtain ⟨hmf0, hmf1, hmf2, hmf3, hmf4, hmf5⟩ := QR HM.out; obtain ⟨hzc0, hzc1⟩ := QB HZ.out; obtain ⟨hzf0, hzf1⟩ := Qt HZ.out; obtain ⟨hf5c0, hf5c1⟩ := QB HF5.out; obtain ⟨hf5f0, hf5f1⟩ := Qt HF5.out)
                  | ((with_reducible refine QN (N := 6) rfl ?_); refine QK ?hg (N := 6) ?hd (cs := #[.int .i64 0, .int .i64 0]) (t := 24) ?hr ?_; (case hd => rfl); (case hg => rfl); (case hr => first | (go_simp; done) | (go_simp; rfl)); intro g6 hg wg6 hbox hb; have Gw_g6 := Q0.mk (by rw [hg]; exact HB.out.size : w.heap.size ≤ g6); have Ngm_g6 := Q0.mk (by rw [hg]; exact Nat.ne_of_lt (Qy HM.out) : gm ≠ g6); have Ng6_gm := Q0.mk (by rw [hg]; exact Nat.ne_of_gt (Qy HM.out) : g6 ≠ gm); have Ngr_g6 := Q0.mk (by rw [hg]; exact Nat.ne_of_lt (Qy HZ.out) : gr ≠ g6); have Ng6_gr := Q0.mk (by rw [hg]; exact Nat.ne_of_gt (Qy HZ.out) : g6 ≠ gr); have Ng5_g6 := Q0.mk (by rw [hg]; exact Nat.ne_of_lt (Qy HF5.out) : g5 ≠ g6); have Ng6_g5 := Q0.mk (by rw [hg]; exact Nat.ne_of_gt (Qy HF5.out) : g6 ≠ g5); (try clear hmc0 hmf0 hmc1 hmf1 hmc2 hmf2 hmc3 hmf3 hmc4 hmf4 hmc5 hmf5); (try clear hzc0 hzf0 hzc1 hzf1); (try clear hf5c0 hf5f0 hf5c1 hf5f1); replace HB := Q0.mk (X3 HB.out HB.out.size hb); replace HM := Q0.mk (Q9 HM.out hb); replace HZ := Q0.mk (Q9 HZ.out hb); replace HF5 := Q0.mk (Q9 HF5.out hb); have HF6 := Q0.mk hbox; clear hg hb hbox; obtain ⟨hmc0, hmc1, hmc2, hmc3, hmc4, hmc5⟩ := QE HM.out; obtain ⟨hmf0, hmf1, hmf2, hmf3, hmf4, hmf5⟩ := QR HM.out; obtain ⟨hzc0, hzc1⟩ := QB HZ.out; obtain ⟨hzf0, hzf1⟩ := Qt HZ.out; obtain ⟨hf5c0, hf5c1⟩ := QB HF5.out; obtain ⟨hf5f0, hf5f1⟩ := Qt HF5.out; obtain ⟨hf6c0, hf6c1⟩ := QB HF6.out; obtain ⟨hf6f0, hf6f1⟩ := Qt HF6.out)
                  | ((with_reducible refine QD (t := 24) (p := 6) (v := .tmp 54) rfl ?_); refine Qw (t := 24) (p := 6) (v := .tmp 54) (w1 := ((wg6.setCell ⟨g6, 0, none⟩ (.int .i64 0)).setCell ⟨g6, 1, none⟩ (.int .i64 0))) ?hg ?ho ?hn ?hr ?_; (case ho => rfl); (case hg => rfl); (case hn => rfl); (case hr => first | (go_simp; done) | (go_simp; rfl)); intro ws6 hw; replace HB := Q0.mk (bel2 hw HB.out Gw_g6.out); replace HM := Q0.mk (far2 hw HM.out Ngm_g6.out); replace HZ := Q0.mk (far2 hw HZ.out Ngr_g6.out); replace HF5 := Q0.mk (far2 hw HF5.out Ng5_g6.out); replace HF6 := Q0.mk (put2 hw HF6.out); (try clear hmc0 hmf0 hmc1 hmf1 hmc2 hmf2 hmc3 hmf3 hmc4 hmf4 hmc5 hmf5); (try clear hzc0 hzf0 hzc1 hzf1); (try clear hf5c0 hf5f0 hf5c1 hf5f1); (try clear hf6c0 hf6f0 hf6c1 hf6f1); clear hw; obtain ⟨hmc0, hmc1, hmc2, hmc3, hmc4, hmc5⟩ := QE HM.out; obtain ⟨hmf0, hmf1, hmf2, hmf3, hmf4, hmf5⟩ := QR HM.out; obtain ⟨hzc0, hzc1⟩ := QB HZ.out; obtain ⟨hzf0, hzf1⟩ := Qt HZ.out; obtain ⟨hf5c0, hf5c1⟩ := QB HF5.out; obtain ⟨hf5f0, hf5f1⟩ := Qt HF5.out; obtain ⟨hf6c0, hf6c1⟩ := QB HF6.out; obtain ⟨hf6f0, hf6f1⟩ := Qt HF6.out)
                  | (go_at_call 47; (with_reducible refine gate_clo 50 ?_); refine (v2.each k a0 A1 c1 l1 A2 c2 l2 A3 c3 l3 A4 c4 l4 A5 c5 l5 gm 0 0 _ (Kd.Qx HR1.out HB.out) HC1.out (Kd.Qx HR2.out HB.out) HC2.out (Kd.Qx HR3.out HB.out) HC3.out (Kd.Qx HR4.out HB.out) HC4.out (Kd.Qx HR5.out HB.out) HC5.out HM.out HY.out).mono ?_; rintro en wc7 ⟨rfl, hb⟩; (try clear hmc0 hmf0 hmc1 hmf1 hmc2 hmf2 hmc3 hmf3 hmc4 hmf4 hmc5 hmf5); (try clear hzc0 hzf0 hzc1 hzf1); (try clear hf5c0 hf5f0 hf5c1 hf5f1); (try clear hf6c0 hf6f0 hf6c1 hf6f1); replace HB := Q0.mk (X3 HB.out HB.out.size hb); replace HM := Q0.mk (Q9 HM.out hb); replace HZ := Q0.mk (Q9 HZ.out hb); replace HF5 := Q0.mk (Q9 HF5.out hb); replace HF6 := Q0.mk (Q9 HF6.out hb); (try clear hd); (try clear hb); obtain ⟨hmc0, hmc1, hmc2, hmc3, hmc4, hmc5⟩ := QE HM.out; obtain ⟨hmf0, hmf1, hmf2, hmf3, hmf4, hmf5⟩ := QR HM.out; obtain ⟨hzc0, hzc1⟩ := QB HZ.out; obtain ⟨hzf0, hzf1⟩ := Qt HZ.out; obtain ⟨hf5c0, hf5c1⟩ := QB HF5.out; obtain ⟨hf5f0, hf5f1⟩ := Qt HF5.out; obtain ⟨hf6c0, hf6c1⟩ := QB HF6.out; obtain ⟨hf6f0, hf6f1⟩ := Qt HF6.out)
                  | ((with_reducible refine QD (t := 24) (p := 6) (v := .tmp 62) rfl ?_); refine Qw (t := 24) (p := 6) (v := .tmp 62) (w1 := ((wc7.setCell ⟨g6, 0, none⟩ (.int .i64 0)).setCell ⟨g6, 1, none⟩ (.int .i64 0))) ?hg ?ho ?hn ?hr ?_; (case ho => rfl); (case hg => rfl); (case hn => rfl); (case hr => first | (go_simp; done) | (go_simp; rfl)); intro ws8 hw; replace HB := Q0.mk (bel2 hw HB.out Gw_g6.out); replace HM := Q0.mk (far2 hw HM.out Ngm_g6.out); replace HZ := Q0.mk (far2 hw HZ.out Ngr_g6.out); replace HF5 := Q0.mk (far2 hw HF5.out Ng5_g6.out); replace HF6 := Q0.mk (put2 hw HF6.out); (try clear hmc0 hmf0 hmc1 hmf1 hmc2 hmf2 hmc3 hmf3 hmc4 hmf4 hmc5 hmf5); (try clear hzc0 hzf0 hzc1 hzf1); (try clear hf5c0 hf5f0 hf5c1 hf5f1); (try clear hf6c0 hf6f0 hf6c1 hf6f1); clear hw; obtain ⟨hmc0, hmc1, hmc2, hmc3, hmc4, hmc5⟩ := QE HM.out; obtain ⟨hmf0, hmf1, hmf2, hmf3, hmf4, hmf5⟩ := QR HM.out; obtain ⟨hzc0, hzc1⟩ := QB HZ.out; obtain ⟨hzf0, hzf1⟩ := Qt HZ.out; obtain ⟨hf5c0, hf5c1⟩ := QB HF5.out; obtain ⟨hf5f0, hf5f1⟩ := Qt HF5.out; obtain ⟨hf6c0, hf6c1⟩ := QB HF6.out; obtain ⟨hf6f0, hf6f1⟩ := Qt HF6.out)
                  | ((with_reducible refine QN (N := 69) rfl ?_); refine make_event ?hg (N := 69) ?hd (cs := (madeCells #[.bool false] l1.length)) (t := 4) (m := l1.length) ?hr ?_; (case hd => rfl); (case hg => rfl); (case hr => first | (go_simp; done) | (go_simp; rfl) | (go_simp; rw [hmk]; rfl)); intro gu hg wgu hbox hb; have Gw_gu := Q0.mk (by rw [hg]; exact HB.out.size : w.heap.size ≤ gu); have Ngm_gu := Q0.mk (by rw [hg]; exact Nat.ne_of_lt (Qy HM.out) : gm ≠ gu); have Ngu_gm := Q0.mk (by rw [hg]; exact Nat.ne_of_gt (Qy HM.out) : gu ≠ gm); have Ngr_gu := Q0.mk (by rw [hg]; exact Nat.ne_of_lt (Qy HZ.out) : gr ≠ gu); have Ngu_gr := Q0.mk (by rw [hg]; exact Nat.ne_of_gt (Qy HZ.out) : gu ≠ gr); have Ng5_gu := Q0.mk (by rw [hg]; exact Nat.ne_of_lt (Qy HF5.out) : g5 ≠ gu); have Ngu_g5 := Q0.mk (by rw [hg]; exact Nat.ne_of_gt (Qy HF5.out) : gu ≠ g5); have Ng6_gu := Q0.mk (by rw [hg]; exact Nat.ne_of_lt (Qy HF6.out) : g6 ≠ gu); have Ngu_g6 := Q0.mk (by rw [hg]; exact Nat.ne_of_gt (Qy HF6.out) : gu ≠ g6); (try clear hmc0 hmf0 hmc1 hmf1 hmc2 hmf2 hmc3 hmf3 hmc4 hmf4 hmc5 hmf5); (try clear hzc0 hzf0 hzc1 hzf1); (try clear hf5c0 hf5f0 hf5c1 hf5f1); (try clear hf6c0 hf6f0 hf6c1 hf6f1); replace HB := Q0.mk (X3 HB.out HB.out.size hb); replace HM := Q0.mk (Q9 HM.out hb); replace HZ := Q0.mk (Q9 HZ.out hb); replace HF5 := Q0.mk (Q9 HF5.out hb); replace HF6 := Q0.mk (Q9 HF6.out hb); have HU := Q0.mk hbox; clear hg hb hbox; obtain ⟨hmc0, hmc1, hmc2, hmc3, hmc4, hmc5⟩ := QE HM.out; obtain ⟨hmf0, hmf1, hmf2, hmf3, hmf4, hmf5⟩ := QR HM.out; obtain ⟨hzc0, hzc1⟩ := QB HZ.out; obtain ⟨hzf0, hzf1⟩ := Qt HZ.out; obtain ⟨hf5c0, hf5c1⟩ := QB HF5.out; obtain ⟨hf5f0, hf5f1⟩ := Qt HF5.out; obtain ⟨hf6c0, hf6c1⟩ := QB HF6.out; obtain ⟨hf6f0, hf6f1⟩ := Qt HF6.out)
                  | ((with_reducible refine QN (N := 7) rfl ?_); refine QK ?hg (N := 7) ?hd (cs := #[.slice none 0 0]) (t := 39) ?hr ?_; (case hd => rfl); (case hg => rfl); (case hr => first | (go_simp; done) | (go_simp; rfl)); intro gv hg wgv hbox hb; have Gw_gv := Q0.mk (by rw [hg]; exact HB.out.size : w.heap.size ≤ gv); have Ngm_gv := Q0.mk (by rw [hg]; exact Nat.ne_of_lt (Qy HM.out) : gm ≠ gv); have Ngv_gm := Q0.mk (by rw [hg]; exact Nat.ne_of_gt (Qy HM.out) : gv ≠ gm); have Ngr_gv := Q0.mk (by rw [hg]; exact Nat.ne_of_lt (Qy HZ.out) : gr ≠ gv); have Ngv_gr := Q0.mk (by rw [hg]; exact Nat.ne_of_gt (Qy HZ.out) : gv ≠ gr); have Ng5_gv := Q0.mk (by rw [hg]; exact Nat.ne_of_lt (Qy HF5.out) : g5 ≠ gv); have Ngv_g5 := Q0.mk (by rw [hg]; exact Nat.ne_of_gt (Qy HF5.out) : gv ≠ g5); have Ng6_gv := Q0.mk (by rw [hg]; exact Nat.ne_of_lt (Qy HF6.out) : g6 ≠ gv); have Ngv_g6 := Q0.mk (by rw [hg]; exact Nat.ne_of_gt (Qy HF6.out) : gv ≠ g6); have Ngu_gv := Q0.mk (by rw [hg]; exact Nat.ne_of_lt (Qy HU.out) : gu ≠ gv); have Ngv_gu := Q0.mk (by rw [hg]; exact Nat.ne_of_gt (Qy HU.out) : gv ≠ gu); (try clear hmc0 hmf0 hmc1 hmf1 hmc2 hmf2 hmc3 hmf3 hmc4 hmf4 hmc5 hmf5); (try clear hzc0 hzf0 hzc1 hzf1); (try clear hf5c0 hf5f0 hf5c1 hf5f1); (try clear hf6c0 hf6f0 hf6c1 hf6f1); replace HB := Q0.mk (X3 HB.out HB.out.size hb); replace HM := Q0.mk (Q9 HM.out hb); replace HZ := Q0.mk (Q9 HZ.out hb); replace HF5 := Q0.mk (Q9 HF5.out hb); replace HF6 := Q0.mk (Q9 HF6.out hb); replace HU := Q0.mk (Q9 HU.out hb); have HS := Q0.mk hbox; clear hg hb hbox; obtain ⟨hmc0, hmc1, hmc2, hmc3, hmc4, hmc5⟩ := QE HM.out; obtain ⟨hmf0, hmf1, hmf2, hmf3, hmf4, hmf5⟩ := QR HM.out; obtain ⟨hzc0, hzc1⟩ := QB HZ.out; obtain ⟨hzf0, hzf1⟩ := Qt HZ.out; obtain ⟨hf5c0, hf5c1⟩ := QB HF5.out; obtain ⟨hf5f0, hf5f1⟩ := Qt HF5.out; obtain ⟨hf6c0, hf6c1⟩ := QB HF6.out; obtain ⟨hf6f0, hf6f1⟩ := Qt HF6.out; have hsc0 := Qz HS.out 0; have hsf0 := QZ HS.out 0)
                  | ((with_reducible refine QD (t := 39) (p := 7) (v := .tmp 69) rfl ?_); refine Qw (t := 39) (p := 7) (v := .tmp 69) (w1 := (wgv.setCell ⟨gv, 0, none⟩ (.slice (some ⟨gu, 0, none⟩) l1.length l1.length))) ?hg ?ho ?hn ?hr ?_; (case ho => rfl); (case hg => rfl); (case hn => rfl); (case hr => first | (go_simp; done) | (go_simp; rfl)); intro ws9 hw; replace HB := Q0.mk (bel1 hw HB.out Gw_gv.out); replace HM := Q0.mk (far1 hw HM.out Ngm_gv.out); replace HZ := Q0.mk (far1 hw HZ.out Ngr_gv.out); replace HF5 := Q0.mk (far1 hw HF5.out Ng5_gv.out); replace HF6 := Q0.mk (far1 hw HF6.out Ng6_gv.out); replace HU := Q0.mk (far1 hw HU.out Ngu_gv.out); replace HS := Q0.mk (put1 hw HS.out); (try clear hmc0 hmf0 hmc1 hmf1 hmc2 hmf2 hmc3 hmf3 hmc4 hmf4 hmc5 hmf5); (try clear hzc0 hzf0 hzc1 hzf1); (try clear hf5c0 hf5f0 hf5c1 hf5f1); (try clear hf6c0 hf6f0 hf6c1 hf6f1); (try clear hsc0 hsf0); clear hw; obtain ⟨hmc0, hmc1, hmc2, hmc3, hmc4, hmc5⟩ := QE HM.out; obtain ⟨hmf0, hmf1, hmf2, hmf3, hmf4, hmf5⟩ := QR HM.out; obtain ⟨hzc0, hzc1⟩ := QB HZ.out; obtain ⟨hzf0, hzf1⟩ := Qt HZ.out; obtain ⟨hf5c0, hf5c1⟩ := QB HF5.out; obtain ⟨hf5f0, hf5f1⟩ := Qt HF5.out; obtain ⟨hf6c0, hf6c1⟩ := QB HF6.out; obtain ⟨hf6f0, hf6f1⟩ := Qt HF6.out; have hsc0 := Qz HS.out 0; have hsf0 := QZ HS.out 0)
                  | (go_at_call 47; (with_reducible refine gate_clo 52 ?_); refine (v3.each a0 A1 c1 l1 A2 c2 l2 A3 c3 l3 A4 c4 l4 A5 c5 l5 gm gv gu (List.replicate l1.length false) z1 z2 zu w _ HB.out Gw_gu.out Ngm_gu.out Ngv_gu.out HR3.out HC3.out HM.out (by rw [List.length_replicate]; exact HS.out) (by rw [← made_bools]; exact HU.out) HG3.out).mono ?_; rintro en wc10 ⟨rfl, hb, hgr⟩; clear HU; (try clear hmc0 hmf0 hmc1 hmf1 hmc2 hmf2 hmc3 hmf3 hmc4 hmf4 hmc5 hmf5); (try clear hzc0 hzf0 hzc1 hzf1); (try clear hf5c0 hf5f0 hf5c1 hf5f1); (try clear hf6c0 hf6f0 hf6c1 hf6f1); (try clear hsc0 hsf0); replace HB := Q0.mk (hb); replace HM := Q0.mk ((hgr.block gm (Qy HM.out) (fun e => Ngm_gu.out (Option.some.inj e))).trans HM.out); replace HZ := Q0.mk ((hgr.block gr (Qy HZ.out) (fun e => Ngr_gu.out (Option.some.inj e))).trans HZ.out); replace HF5 := Q0.mk ((hgr.block g5 (Qy HF5.out) (fun e => Ng5_gu.out (Option.some.inj e))).trans HF5.out); replace HF6 := Q0.mk ((hgr.block g6 (Qy HF6.out) (fun e => Ng6_gu.out (Option.some.inj e))).trans HF6.out); replace HS := Q0.mk ((hgr.block gv (Qy HS.out) (fun e => Ngv_gu.out (Option.some.inj e))).trans HS.out); clear hb hgr; obtain ⟨hmc0, hmc1, hmc2, hmc3, hmc4, hmc5⟩ := QE HM.out; obtain ⟨hmf0, hmf1, hmf2, hmf3, hmf4, hmf5⟩ := QR HM.out; obtain ⟨hzc0, hzc1⟩ := QB HZ.out; obtain ⟨hzf0, hzf1⟩ := Qt HZ.out; obtain ⟨hf5c0, hf5c1⟩ := QB HF5.out; obtain ⟨hf5f0, hf5f1⟩ := Qt HF5.out; obtain ⟨hf6c0, hf6c1⟩ := QB HF6.out; obtain ⟨hf6f0, hf6f1⟩ := Qt HF6.out; have hsc0 := Qz HS.out 0; have hsf0 := QZ HS.out 0)
                  | ((with_reducible refine QD (t := 24) (p := 6) (v := .tmp 74) rfl ?_); refine Qw (t := 24) (p := 6) (v := .tmp 74) (w1 := ((wc10.setCell ⟨g6, 0, none⟩ (.int .i64 z1)).setCell ⟨g6, 1, none⟩ (.int .i64 z2))) ?hg ?ho ?hn ?hr ?_; (case ho => rfl); (case hg => rfl); (case hn => rfl); (case hr => first | (go_simp; done) | (go_simp; rfl)); intro ws11 hw; replace HB := Q0.mk (bel2 hw HB.out Gw_g6.out); replace HM := Q0.mk (far2 hw HM.out Ngm_g6.out); replace HZ := Q0.mk (far2 hw HZ.out Ngr_g6.out); replace HF5 := Q0.mk (far2 hw HF5.out Ng5_g6.out); replace HF6 := Q0.mk (put2 hw HF6.out); replace HS := Q0.mk (far2 hw HS.out Ngv_g6.out); (try clear hmc0 hmf0 hmc1 hmf1 hmc2 hmf2 hmc3 hmf3 hmc4 hmf4 hmc5 hmf5); (try clear hzc0 hzf0 hzc1 hzf1); (try clear hf5c0 hf5f0 hf5c1 hf5f1); (try clear hf6c0 hf6f0 hf6c1 hf6f1); (try clear hsc0 hsf0); clear hw; obtain ⟨hmc0, hmc1, hmc2, hmc3, hmc4, hmc5⟩ := QE HM.out; obtain ⟨hmf0, hmf1, hmf2, hmf3, hmf4, hmf5⟩ := QR HM.out; obtain ⟨hzc0, hzc1⟩ := QB HZ.out; obtain ⟨hzf0, hzf1⟩ := Qt HZ.out; obtain ⟨hf5c0, hf5c1⟩ := QB HF5.out; obtain ⟨hf5f0, hf5f1⟩ := Qt HF5.out; obtain ⟨hf6c0, hf6c1⟩ := QB HF6.out; obtain ⟨hf6f0, hf6f1⟩ := Qt HF6.out; have hsc0 := Qz HS.out 0; have hsf0 := QZ HS.out 0))
                refine bodyPost_ret (results_cell_row rfl _ _ gr 24 #[.int .i64 (z1), .int .i64 (z2)] (0, 0) _ rfl (by refine Xd (cs := #[.int .i64 (z1), .int .i64 0]) ?_ 1 _ rfl; refine Xd (cs := #[.int .i64 0, .int .i64 0]) ?_ 0 _ rfl; exact HZ.out) Try.underlying24 rfl (by kernel_rfl)) rfl ?_
                exact ⟨rfl, Q1 (Q1 HB.out Gw_gr.out) Gw_gr.out⟩
              · have hH := H.out
                clear H
                rw [if_neg hy1] at hH
                simp only [Option.some.injEq, Prod.mk.injEq] at hH
                obtain ⟨rfl, rfl⟩ := hH
                have y1b : (y1 == 0) = false := beq_eq_false_iff_ne.mpr hy1
                have y1n : (y1 != 0) = true := bne_iff_ne.mpr hy1
                go_wp2_with (first
                  | (go_at_call 46; refine (QH.calls k A5 c5 l5 0 0 _ (Kd.Qx HR5.out HB.out) HC5.out HQ.out).mono ?_; rintro en wc3 ⟨rfl, hb⟩; (try clear hmc0 hmf0 hmc1 hmf1 hmc2 hmf2 hmc3 hmf3 hmc4 hmf4 hmc5 hmf5); (try clear hzc0 hzf0 hzc1 hzf1); replace HB := Q0.mk (X3 HB.out HB.out.size hb); replace HM := Q0.mk (Q9 HM.out hb); replace HZ := Q0.mk (Q9 HZ.out hb); (try clear hd); (try clear hb); obtain ⟨hmc0, hmc1, hmc2, hmc3, hmc4, hmc5⟩ := QE HM.out; obtain ⟨hmf0, hmf1, hmf2, hmf3, hmf4, hmf5⟩ := QR HM.out; obtain ⟨hzc0, hzc1⟩ := QB HZ.out; obtain ⟨hzf0, hzf1⟩ := Qt HZ.out)
                  | ((with_reducible refine QN (N := 5) rfl ?_); refine QK ?hg (N := 5) ?hd (cs := #[.int .i64 0, .int .i64 0]) (t := 24) ?hr ?_; (case hd => rfl); (case hg => rfl); (case hr => first | (go_simp; done) | (go_simp; rfl)); intro g5 hg wg5 hbox hb; have Gw_g5 := Q0.mk (by rw [hg]; exact HB.out.size : w.heap.size ≤ g5); have Ngm_g5 := Q0.mk (by rw [hg]; exact Nat.ne_of_lt (Qy HM.out) : gm ≠ g5); have Ng5_gm := Q0.mk (by rw [hg]; exact Nat.ne_of_gt (Qy HM.out) : g5 ≠ gm); have Ngr_g5 := Q0.mk (by rw [hg]; exact Nat.ne_of_lt (Qy HZ.out) : gr ≠ g5); have Ng5_gr := Q0.mk (by rw [hg]; exact Nat.ne_of_gt (Qy HZ.out) : g5 ≠ gr); (try clear hmc0 hmf0 hmc1 hmf1 hmc2 hmf2 hmc3 hmf3 hmc4 hmf4 hmc5 hmf5); (try clear hzc0 hzf0 hzc1 hzf1); replace HB := Q0.mk (X3 HB.out HB.out.size hb); replace HM := Q0.mk (Q9 HM.out hb); replace HZ := Q0.mk (Q9 HZ.out hb); have HF5 := Q0.mk hbox; clear hg hb hbox; obtain ⟨hmc0, hmc1, hmc2, hmc3, hmc4, hmc5⟩ := QE HM.out; obtain ⟨hmf0, hmf1, hmf2, hmf3, hmf4, hmf5⟩ := QR HM.out; obtain ⟨hzc0, hzc1⟩ := QB HZ.out; obtain ⟨hzf0, hzf1⟩ := Qt HZ.out; obtain ⟨hf5c0, hf5c1⟩ := QB HF5.out; obtain ⟨hf5f0, hf5f1⟩ := Qt HF5.out)
                  | ((with_reducible refine QD (t := 24) (p := 5) (v := .tmp 43) rfl ?_); refine Qw (t := 24) (p := 5) (v := .tmp 43) (w1 := ((wg5.setCell ⟨g5, 0, none⟩ (.int .i64 0)).setCell ⟨g5, 1, none⟩ (.int .i64 0))) ?hg ?ho ?hn ?hr ?_; (case ho => rfl); (case hg => rfl); (case hn => rfl); (case hr => first | (go_simp; done) | (go_simp; rfl)); intro ws4 hw; replace HB := Q0.mk (bel2 hw HB.out Gw_g5.out); replace HM := Q0.mk (far2 hw HM.out Ngm_g5.out); replace HZ := Q0.mk (far2 hw HZ.out Ngr_g5.out); replace HF5 := Q0.mk (put2 hw HF5.out); (try clear hmc0 hmf0 hmc1 hmf1 hmc2 hmf2 hmc3 hmf3 hmc4 hmf4 hmc5 hmf5); (try clear hzc0 hzf0 hzc1 hzf1); (try clear hf5c0 hf5f0 hf5c1 hf5f1); clear hw; obtain ⟨hmc0, hmc1, hmc2, hmc3, hmc4, hmc5⟩ := QE HM.out; obtain ⟨hmf0, hmf1, hmf2, hmf3, hmf4, hmf5⟩ := QR HM.out; obtain ⟨hzc0, hzc1⟩ := QB HZ.out; obtain ⟨hzf0, hzf1⟩ := Qt HZ.out; obtain ⟨hf5c0, hf5c1⟩ := QB HF5.out; obtain ⟨hf5f0, hf5f1⟩ := Qt HF5.out)
                  | (go_at_call 47; (with_reducible refine gate_clo 48 ?_); refine (v1.each k a0 A1 c1 l1 A2 c2 l2 A3 c3 l3 A4 c4 l4 A5 c5 l5 gm 0 0 _ (Kd.Qx HR1.out HB.out) HC1.out (Kd.Qx HR2.out HB.out) HC2.out (Kd.Qx HR3.out HB.out) HC3.out (Kd.Qx HR4.out HB.out) HC4.out (Kd.Qx HR5.out HB.out) HC5.out HM.out HX.out).mono ?_; rintro en wc5 ⟨rfl, hb⟩; (try clear hmc0 hmf0 hmc1 hmf1 hmc2 hmf2 hmc3 hmf3 hmc4 hmf4 hmc5 hmf5); (try clear hzc0 hzf0 hzc1 hzf1); (try clear hf5c0 hf5f0 hf5c1 hf5f1); replace HB := Q0.mk (X3 HB.out HB.out.size hb); replace HM := Q0.mk (Q9 HM.out hb); replace HZ := Q0.mk (Q9 HZ.out hb); replace HF5 := Q0.mk (Q9 HF5.out hb); (try clear hd); (try clear hb); obtain ⟨hmc0, hmc1, hmc2, hmc3, hmc4, hmc5⟩ := QE HM.out; obtain ⟨hmf0, hmf1, hmf2, hmf3, hmf4, hmf5⟩ := QR HM.out; obtain ⟨hzc0, hzc1⟩ := QB HZ.out; obtain ⟨hzf0, hzf1⟩ := Qt HZ.out; obtain ⟨hf5c0, hf5c1⟩ := QB HF5.out; obtain ⟨hf5f0, hf5f1⟩ := Qt HF5.out)
                  | ((with_reducible refine QN (N := 6) rfl ?_); refine QK ?hg (N := 6) ?hd (cs := #[.int .i64 0, .int .i64 0]) (t := 24) ?hr ?_; (case hd => rfl); (case hg => rfl); (case hr => first | (go_simp; done) | (go_simp; rfl)); intro g6 hg wg6 hbox hb; have Gw_g6 := Q0.mk (by rw [hg]; exact HB.out.size : w.heap.size ≤ g6); have Ngm_g6 := Q0.mk (by rw [hg]; exact Nat.ne_of_lt (Qy HM.out) : gm ≠ g6); have Ng6_gm := Q0.mk (by rw [hg]; exact Nat.ne_of_gt (Qy HM.out) : g6 ≠ gm); have Ngr_g6 := Q0.mk (by rw [hg]; exact Nat.ne_of_lt (Qy HZ.out) : gr ≠ g6); have Ng6_gr := Q0.mk (by rw [hg]; exact Nat.ne_of_gt (Qy HZ.out) : g6 ≠ gr); have Ng5_g6 := Q0.mk (by rw [hg]; exact Nat.ne_of_lt (Qy HF5.out) : g5 ≠ g6); have Ng6_g5 := Q0.mk (by rw [hg]; exact Nat.ne_of_gt (Qy HF5.out) : g6 ≠ g5); (try clear hmc0 hmf0 hmc1 hmf1 hmc2 hmf2 hmc3 hmf3 hmc4 hmf4 hmc5 hmf5); (try clear hzc0 hzf0 hzc1 hzf1); (try clear hf5c0 hf5f0 hf5c1 hf5f1); replace HB := Q0.mk (X3 HB.out HB.out.size hb); replace HM := Q0.mk (Q9 HM.out hb); replace HZ := Q0.mk (Q9 HZ.out hb); replace HF5 := Q0.mk (Q9 HF5.out hb); have HF6 := Q0.mk hbox; clear hg hb hbox; obtain ⟨hmc0, hmc1, hmc2, hmc3, hmc4, hmc5⟩ := QE HM.out; obtain ⟨hmf0, hmf1, hmf2, hmf3, hmf4, hmf5⟩ := QR HM.out; obtain ⟨hzc0, hzc1⟩ := QB HZ.out; obtain ⟨hzf0, hzf1⟩ := Qt HZ.out; obtain ⟨hf5c0, hf5c1⟩ := QB HF5.out; obtain ⟨hf5f0, hf5f1⟩ := Qt HF5.out; obtain ⟨hf6c0, hf6c1⟩ := QB HF6.out; obtain ⟨hf6f0, hf6f1⟩ := Qt HF6.out)
                  | ((with_reducible refine QD (t := 24) (p := 6) (v := .tmp 54) rfl ?_); refine Qw (t := 24) (p := 6) (v := .tmp 54) (w1 := ((wg6.setCell ⟨g6, 0, none⟩ (.int .i64 0)).setCell ⟨g6, 1, none⟩ (.int .i64 0))) ?hg ?ho ?hn ?hr ?_; (case ho => rfl); (case hg => rfl); (case hn => rfl); (case hr => first | (go_simp; done) | (go_simp; rfl)); intro ws6 hw; replace HB := Q0.mk (bel2 hw HB.out Gw_g6.out); replace HM := Q0.mk (far2 hw HM.out Ngm_g6.out); replace HZ := Q0.mk (far2 hw HZ.out Ngr_g6.out); replace HF5 := Q0.mk (far2 hw HF5.out Ng5_g6.out); replace HF6 := Q0.mk (put2 hw HF6.out); (try clear hmc0 hmf0 hmc1 hmf1 hmc2 hmf2 hmc3 hmf3 hmc4 hmf4 hmc5 hmf5); (try clear hzc0 hzf0 hzc1 hzf1); (try clear hf5c0 hf5f0 hf5c1 hf5f1); (try clear hf6c0 hf6f0 hf6c1 hf6f1); clear hw; obtain ⟨hmc0, hmc1, hmc2, hmc3, hmc4, hmc5⟩ := QE HM.out; obtain ⟨hmf0, hmf1, hmf2, hmf3, hmf4, hmf5⟩ := QR HM.out; obtain ⟨hzc0, hzc1⟩ := QB HZ.out; obtain ⟨hzf0, hzf1⟩ := Qt HZ.out; obtain ⟨hf5c0, hf5c1⟩ := QB HF5.out; obtain ⟨hf5f0, hf5f1⟩ := Qt HF5.out; obtain ⟨hf6c0, hf6c1⟩ := QB HF6.out; obtain ⟨hf6f0, hf6f1⟩ := Qt HF6.out)
                  | (go_at_call 47; (with_reducible refine gate_clo 50 ?_); refine (v2.each k a0 A1 c1 l1 A2 c2 l2 A3 c3 l3 A4 c4 l4 A5 c5 l5 gm y1 y2 _ (Kd.Qx HR1.out HB.out) HC1.out (Kd.Qx HR2.out HB.out) HC2.out (Kd.Qx HR3.out HB.out) HC3.out (Kd.Qx HR4.out HB.out) HC4.out (Kd.Qx HR5.out HB.out) HC5.out HM.out HY.out).mono ?_; rintro en wc7 ⟨rfl, hb⟩; (try clear hmc0 hmf0 hmc1 hmf1 hmc2 hmf2 hmc3 hmf3 hmc4 hmf4 hmc5 hmf5); (try clear hzc0 hzf0 hzc1 hzf1); (try clear hf5c0 hf5f0 hf5c1 hf5f1); (try clear hf6c0 hf6f0 hf6c1 hf6f1); replace HB := Q0.mk (X3 HB.out HB.out.size hb); replace HM := Q0.mk (Q9 HM.out hb); replace HZ := Q0.mk (Q9 HZ.out hb); replace HF5 := Q0.mk (Q9 HF5.out hb); replace HF6 := Q0.mk (Q9 HF6.out hb); (try clear hd); (try clear hb); obtain ⟨hmc0, hmc1, hmc2, hmc3, hmc4, hmc5⟩ := QE HM.out; obtain ⟨hmf0, hmf1, hmf2, hmf3, hmf4, hmf5⟩ := QR HM.out; obtain ⟨hzc0, hzc1⟩ := QB HZ.out; obtain ⟨hzf0, hzf1⟩ := Qt HZ.out; obtain ⟨hf5c0, hf5c1⟩ := QB HF5.out; obtain ⟨hf5f0, hf5f1⟩ := Qt HF5.out; obtain ⟨hf6c0, hf6c1⟩ := QB HF6.out; obtain ⟨hf6f0, hf6f1⟩ := Qt HF6.out)
                  | ((with_reducible refine QD (t := 24) (p := 6) (v := .tmp 62) rfl ?_); refine Qw (t := 24) (p := 6) (v := .tmp 62) (w1 := ((wc7.setCell ⟨g6, 0, none⟩ (.int .i64 y1)).setCell ⟨g6, 1, none⟩ (.int .i64 y2))) ?hg ?ho ?hn ?hr ?_; (case ho => rfl); (case hg => rfl); (case hn => rfl); (case hr => first | (go_simp; done) | (go_simp; rfl)); intro ws8 hw; replace HB := Q0.mk (bel2 hw HB.out Gw_g6.out); replace HM := Q0.mk (far2 hw HM.out Ngm_g6.out); replace HZ := Q0.mk (far2 hw HZ.out Ngr_g6.out); replace HF5 := Q0.mk (far2 hw HF5.out Ng5_g6.out); replace HF6 := Q0.mk (put2 hw HF6.out); (try clear hmc0 hmf0 hmc1 hmf1 hmc2 hmf2 hmc3 hmf3 hmc4 hmf4 hmc5 hmf5); (try clear hzc0 hzf0 hzc1 hzf1); (try clear hf5c0 hf5f0 hf5c1 hf5f1); (try clear hf6c0 hf6f0 hf6c1 hf6f1); clear hw; obtain ⟨hmc0, hmc1, hmc2, hmc3, hmc4, hmc5⟩ := QE HM.out; obtain ⟨hmf0, hmf1, hmf2, hmf3, hmf4, hmf5⟩ := QR HM.out; obtain ⟨hzc0, hzc1⟩ := QB HZ.out; obtain ⟨hzf0, hzf1⟩ := Qt HZ.out; obtain ⟨hf5c0, hf5c1⟩ := QB HF5.out; obtain ⟨hf5f0, hf5f1⟩ := Qt HF5.out; obtain ⟨hf6c0, hf6c1⟩ := QB HF6.out; obtain ⟨hf6f0, hf6f1⟩ := Qt HF6.out))
                refine bodyPost_ret (results_cell_row rfl _ _ gr 24 #[.int .i64 (y1), .int .i64 (y2)] (0, 0) _ rfl (by refine Xd (cs := #[.int .i64 (y1), .int .i64 0]) ?_ 1 _ rfl; refine Xd (cs := #[.int .i64 0, .int .i64 0]) ?_ 0 _ rfl; exact HZ.out) Try.underlying24 rfl (by kernel_rfl)) rfl ?_
                exact ⟨rfl, Q1 (Q1 HB.out Gw_gr.out) Gw_gr.out⟩
            · have hH := H.out
              clear H
              rw [if_neg hx1] at hH
              simp only [Option.some.injEq, Prod.mk.injEq] at hH
              obtain ⟨rfl, rfl⟩ := hH
              have x1b : (x1 == 0) = false := beq_eq_false_iff_ne.mpr hx1
              have x1n : (x1 != 0) = true := bne_iff_ne.mpr hx1
              go_wp2_with (first
                | (go_at_call 46; refine (QH.calls k A5 c5 l5 0 0 _ (Kd.Qx HR5.out HB.out) HC5.out HQ.out).mono ?_; rintro en wc3 ⟨rfl, hb⟩; (try clear hmc0 hmf0 hmc1 hmf1 hmc2 hmf2 hmc3 hmf3 hmc4 hmf4 hmc5 hmf5); (try clear hzc0 hzf0 hzc1 hzf1); replace HB := Q0.mk (X3 HB.out HB.out.size hb); replace HM := Q0.mk (Q9 HM.out hb); replace HZ := Q0.mk (Q9 HZ.out hb); (try clear hd); (try clear hb); obtain ⟨hmc0, hmc1, hmc2, hmc3, hmc4, hmc5⟩ := QE HM.out; obtain ⟨hmf0, hmf1, hmf2, hmf3, hmf4, hmf5⟩ := QR HM.out; obtain ⟨hzc0, hzc1⟩ := QB HZ.out; obtain ⟨hzf0, hzf1⟩ := Qt HZ.out)
                | ((with_reducible refine QN (N := 5) rfl ?_); refine QK ?hg (N := 5) ?hd (cs := #[.int .i64 0, .int .i64 0]) (t := 24) ?hr ?_; (case hd => rfl); (case hg => rfl); (case hr => first | (go_simp; done) | (go_simp; rfl)); intro g5 hg wg5 hbox hb; have Gw_g5 := Q0.mk (by rw [hg]; exact HB.out.size : w.heap.size ≤ g5); have Ngm_g5 := Q0.mk (by rw [hg]; exact Nat.ne_of_lt (Qy HM.out) : gm ≠ g5); have Ng5_gm := Q0.mk (by rw [hg]; exact Nat.ne_of_gt (Qy HM.out) : g5 ≠ gm); have Ngr_g5 := Q0.mk (by rw [hg]; exact Nat.ne_of_lt (Qy HZ.out) : gr ≠ g5); have Ng5_gr := Q0.mk (by rw [hg]; exact Nat.ne_of_gt (Qy HZ.out) : g5 ≠ gr); (try clear hmc0 hmf0 hmc1 hmf1 hmc2 hmf2 hmc3 hmf3 hmc4 hmf4 hmc5 hmf5); (try clear hzc0 hzf0 hzc1 hzf1); replace HB := Q0.mk (X3 HB.out HB.out.size hb); replace HM := Q0.mk (Q9 HM.out hb); replace HZ := Q0.mk (Q9 HZ.out hb); have HF5 := Q0.mk hbox; clear hg hb hbox; obtain ⟨hmc0, hmc1, hmc2, hmc3, hmc4, hmc5⟩ := QE HM.out; obtain ⟨hmf0, hmf1, hmf2, hmf3, hmf4, hmf5⟩ := QR HM.out; obtain ⟨hzc0, hzc1⟩ := QB HZ.out; obtain ⟨hzf0, hzf1⟩ := Qt HZ.out; obtain ⟨hf5c0, hf5c1⟩ := QB HF5.out; obtain ⟨hf5f0, hf5f1⟩ := Qt HF5.out)
                | ((with_reducible refine QD (t := 24) (p := 5) (v := .tmp 43) rfl ?_); refine Qw (t := 24) (p := 5) (v := .tmp 43) (w1 := ((wg5.setCell ⟨g5, 0, none⟩ (.int .i64 0)).setCell ⟨g5, 1, none⟩ (.int .i64 0))) ?hg ?ho ?hn ?hr ?_; (case ho => rfl); (case hg => rfl); (case hn => rfl); (case hr => first | (go_simp; done) | (go_simp; rfl)); intro ws4 hw; replace HB := Q0.mk (bel2 hw HB.out Gw_g5.out); replace HM := Q0.mk (far2 hw HM.out Ngm_g5.out); replace HZ := Q0.mk (far2 hw HZ.out Ngr_g5.out); replace HF5 := Q0.mk (put2 hw HF5.out); (try clear hmc0 hmf0 hmc1 hmf1 hmc2 hmf2 hmc3 hmf3 hmc4 hmf4 hmc5 hmf5); (try clear hzc0 hzf0 hzc1 hzf1); (try clear hf5c0 hf5f0 hf5c1 hf5f1); clear hw; obtain ⟨hmc0, hmc1, hmc2, hmc3, hmc4, hmc5⟩ := QE HM.out; obtain ⟨hmf0, hmf1, hmf2, hmf3, hmf4, hmf5⟩ := QR HM.out; obtain ⟨hzc0, hzc1⟩ := QB HZ.out; obtain ⟨hzf0, hzf1⟩ := Qt HZ.out; obtain ⟨hf5c0, hf5c1⟩ := QB HF5.out; obtain ⟨hf5f0, hf5f1⟩ := Qt HF5.out)
                | (go_at_call 47; (with_reducible refine gate_clo 48 ?_); refine (v1.each k a0 A1 c1 l1 A2 c2 l2 A3 c3 l3 A4 c4 l4 A5 c5 l5 gm x1 x2 _ (Kd.Qx HR1.out HB.out) HC1.out (Kd.Qx HR2.out HB.out) HC2.out (Kd.Qx HR3.out HB.out) HC3.out (Kd.Qx HR4.out HB.out) HC4.out (Kd.Qx HR5.out HB.out) HC5.out HM.out HX.out).mono ?_; rintro en wc5 ⟨rfl, hb⟩; (try clear hmc0 hmf0 hmc1 hmf1 hmc2 hmf2 hmc3 hmf3 hmc4 hmf4 hmc5 hmf5); (try clear hzc0 hzf0 hzc1 hzf1); (try clear hf5c0 hf5f0 hf5c1 hf5f1); replace HB := Q0.mk (X3 HB.out HB.out.size hb); replace HM := Q0.mk (Q9 HM.out hb); replace HZ := Q0.mk (Q9 HZ.out hb); replace HF5 := Q0.mk (Q9 HF5.out hb); (try clear hd); (try clear hb); obtain ⟨hmc0, hmc1, hmc2, hmc3, hmc4, hmc5⟩ := QE HM.out; obtain ⟨hmf0, hmf1, hmf2, hmf3, hmf4, hmf5⟩ := QR HM.out; obtain ⟨hzc0, hzc1⟩ := QB HZ.out; obtain ⟨hzf0, hzf1⟩ := Qt HZ.out; obtain ⟨hf5c0, hf5c1⟩ := QB HF5.out; obtain ⟨hf5f0, hf5f1⟩ := Qt HF5.out)
                | ((with_reducible refine QN (N := 6) rfl ?_); refine QK ?hg (N := 6) ?hd (cs := #[.int .i64 0, .int .i64 0]) (t := 24) ?hr ?_; (case hd => rfl); (case hg => rfl); (case hr => first | (go_simp; done) | (go_simp; rfl)); intro g6 hg wg6 hbox hb; have Gw_g6 := Q0.mk (by rw [hg]; exact HB.out.size : w.heap.size ≤ g6); have Ngm_g6 := Q0.mk (by rw [hg]; exact Nat.ne_of_lt (Qy HM.out) : gm ≠ g6); have Ng6_gm := Q0.mk (by rw [hg]; exact Nat.ne_of_gt (Qy HM.out) : g6 ≠ gm); have Ngr_g6 := Q0.mk (by rw [hg]; exact Nat.ne_of_lt (Qy HZ.out) : gr ≠ g6); have Ng6_gr := Q0.mk (by rw [hg]; exact Nat.ne_of_gt (Qy HZ.out) : g6 ≠ gr); have Ng5_g6 := Q0.mk (by rw [hg]; exact Nat.ne_of_lt (Qy HF5.out) : g5 ≠ g6); have Ng6_g5 := Q0.mk (by rw [hg]; exact Nat.ne_of_gt (Qy HF5.out) : g6 ≠ g5); (try clear hmc0 hmf0 hmc1 hmf1 hmc2 hmf2 hmc3 hmf3 hmc4 hmf4 hmc5 hmf5); (try clear hzc0 hzf0 hzc1 hzf1); (try clear hf5c0 hf5f0 hf5c1 hf5f1); replace HB := Q0.mk (X3 HB.out HB.out.size hb); replace HM := Q0.mk (Q9 HM.out hb); replace HZ := Q0.mk (Q9 HZ.out hb); replace HF5 := Q0.mk (Q9 HF5.out hb); have HF6 := Q0.mk hbox; clear hg hb hbox; obtain ⟨hmc0, hmc1, hmc2, hmc3, hmc4, hmc5⟩ := QE HM.out; obtain ⟨hmf0, hmf1, hmf2, hmf3, hmf4, hmf5⟩ := QR HM.out; obtain ⟨hzc0, hzc1⟩ := QB HZ.out; obtain ⟨hzf0, hzf1⟩ := Qt HZ.out; obtain ⟨hf5c0, hf5c1⟩ := QB HF5.out; obtain ⟨hf5f0, hf5f1⟩ := Qt HF5.out; obtain ⟨hf6c0, hf6c1⟩ := QB HF6.out; obtain ⟨hf6f0, hf6f1⟩ := Qt HF6.out)
                | ((with_reducible refine QD (t := 24) (p := 6) (v := .tmp 54) rfl ?_); refine Qw (t := 24) (p := 6) (v := .tmp 54) (w1 := ((wg6.setCell ⟨g6, 0, none⟩ (.int .i64 x1)).setCell ⟨g6, 1, none⟩ (.int .i64 x2))) ?hg ?ho ?hn ?hr ?_; (case ho => rfl); (case hg => rfl); (case hn => rfl); (case hr => first | (go_simp; done) | (go_simp; rfl)); intro ws6 hw; replace HB := Q0.mk (bel2 hw HB.out Gw_g6.out); replace HM := Q0.mk (far2 hw HM.out Ngm_g6.out); replace HZ := Q0.mk (far2 hw HZ.out Ngr_g6.out); replace HF5 := Q0.mk (far2 hw HF5.out Ng5_g6.out); replace HF6 := Q0.mk (put2 hw HF6.out); (try clear hmc0 hmf0 hmc1 hmf1 hmc2 hmf2 hmc3 hmf3 hmc4 hmf4 hmc5 hmf5); (try clear hzc0 hzf0 hzc1 hzf1); (try clear hf5c0 hf5f0 hf5c1 hf5f1); (try clear hf6c0 hf6f0 hf6c1 hf6f1); clear hw; obtain ⟨hmc0, hmc1, hmc2, hmc3, hmc4, hmc5⟩ := QE HM.out; obtain ⟨hmf0, hmf1, hmf2, hmf3, hmf4, hmf5⟩ := QR HM.out; obtain ⟨hzc0, hzc1⟩ := QB HZ.out; obtain ⟨hzf0, hzf1⟩ := Qt HZ.out; obtain ⟨hf5c0, hf5c1⟩ := QB HF5.out; obtain ⟨hf5f0, hf5f1⟩ := Qt HF5.out; obtain ⟨hf6c0, hf6c1⟩ := QB HF6.out; obtain ⟨hf6f0, hf6f1⟩ := Qt HF6.out))
              refine bodyPost_ret (results_cell_row rfl _ _ gr 24 #[.int .i64 (x1), .int .i64 (x2)] (0, 0) _ rfl (by refine Xd (cs := #[.int .i64 (x1), .int .i64 0]) ?_ 1 _ rfl; refine Xd (cs := #[.int .i64 0, .int .i64 0]) ?_ 0 _ rfl; exact HZ.out) Try.underlying24 rfl (by kernel_rfl)) rfl ?_
              exact ⟨rfl, Q1 (Q1 HB.out Gw_gr.out) Gw_gr.out⟩
          · have hH := H.out
            clear H
            rw [if_neg hq1] at hH
            simp only [Option.some.injEq, Prod.mk.injEq] at hH
            obtain ⟨rfl, rfl⟩ := hH
            have q1b : (q1 == 0) = false := beq_eq_false_iff_ne.mpr hq1
            have q1n : (q1 != 0) = true := bne_iff_ne.mpr hq1
            go_wp2_with (first
              | (go_at_call 46; refine (QH.calls k A5 c5 l5 q1 q2 _ (Kd.Qx HR5.out HB.out) HC5.out HQ.out).mono ?_; rintro en wc3 ⟨rfl, hb⟩; (try clear hmc0 hmf0 hmc1 hmf1 hmc2 hmf2 hmc3 hmf3 hmc4 hmf4 hmc5 hmf5); (try clear hzc0 hzf0 hzc1 hzf1); replace HB := Q0.mk (X3 HB.out HB.out.size hb); replace HM := Q0.mk (Q9 HM.out hb); replace HZ := Q0.mk (Q9 HZ.out hb); (try clear hd); (try clear hb); obtain ⟨hmc0, hmc1, hmc2, hmc3, hmc4, hmc5⟩ := QE HM.out; obtain ⟨hmf0, hmf1, hmf2, hmf3, hmf4, hmf5⟩ := QR HM.out; obtain ⟨hzc0, hzc1⟩ := QB HZ.out; obtain ⟨hzf0, hzf1⟩ := Qt HZ.out)
              | ((with_reducible refine QN (N := 5) rfl ?_); refine QK ?hg (N := 5) ?hd (cs := #[.int .i64 0, .int .i64 0]) (t := 24) ?hr ?_; (case hd => rfl); (case hg => rfl); (case hr => first | (go_simp; done) | (go_simp; rfl)); intro g5 hg wg5 hbox hb; have Gw_g5 := Q0.mk (by rw [hg]; exact HB.out.size : w.heap.size ≤ g5); have Ngm_g5 := Q0.mk (by rw [hg]; exact Nat.ne_of_lt (Qy HM.out) : gm ≠ g5); have Ng5_gm := Q0.mk (by rw [hg]; exact Nat.ne_of_gt (Qy HM.out) : g5 ≠ gm); have Ngr_g5 := Q0.mk (by rw [hg]; exact Nat.ne_of_lt (Qy HZ.out) : gr ≠ g5); have Ng5_gr := Q0.mk (by rw [hg]; exact Nat.ne_of_gt (Qy HZ.out) : g5 ≠ gr); (try clear hmc0 hmf0 hmc1 hmf1 hmc2 hmf2 hmc3 hmf3 hmc4 hmf4 hmc5 hmf5); (try clear hzc0 hzf0 hzc1 hzf1); replace HB := Q0.mk (X3 HB.out HB.out.size hb); replace HM := Q0.mk (Q9 HM.out hb); replace HZ := Q0.mk (Q9 HZ.out hb); have HF5 := Q0.mk hbox; clear hg hb hbox; obtain ⟨hmc0, hmc1, hmc2, hmc3, hmc4, hmc5⟩ := QE HM.out; obtain ⟨hmf0, hmf1, hmf2, hmf3, hmf4, hmf5⟩ := QR HM.out; obtain ⟨hzc0, hzc1⟩ := QB HZ.out; obtain ⟨hzf0, hzf1⟩ := Qt HZ.out; obtain ⟨hf5c0, hf5c1⟩ := QB HF5.out; obtain ⟨hf5f0, hf5f1⟩ := Qt HF5.out)
              | ((with_reducible refine QD (t := 24) (p := 5) (v := .tmp 43) rfl ?_); refine Qw (t := 24) (p := 5) (v := .tmp 43) (w1 := ((wg5.setCell ⟨g5, 0, none⟩ (.int .i64 q1)).setCell ⟨g5, 1, none⟩ (.int .i64 q2))) ?hg ?ho ?hn ?hr ?_; (case ho => rfl); (case hg => rfl); (case hn => rfl); (case hr => first | (go_simp; done) | (go_simp; rfl)); intro ws4 hw; replace HB := Q0.mk (bel2 hw HB.out Gw_g5.out); replace HM := Q0.mk (far2 hw HM.out Ngm_g5.out); replace HZ := Q0.mk (far2 hw HZ.out Ngr_g5.out); replace HF5 := Q0.mk (put2 hw HF5.out); (try clear hmc0 hmf0 hmc1 hmf1 hmc2 hmf2 hmc3 hmf3 hmc4 hmf4 hmc5 hmf5); (try clear hzc0 hzf0 hzc1 hzf1); (try clear hf5c0 hf5f0 hf5c1 hf5f1); clear hw; obtain ⟨hmc0, hmc1, hmc2, hmc3, hmc4, hmc5⟩ := QE HM.out; obtain ⟨hmf0, hmf1, hmf2, hmf3, hmf4, hmf5⟩ := QR HM.out; obtain ⟨hzc0, hzc1⟩ := QB HZ.out; obtain ⟨hzf0, hzf1⟩ := Qt HZ.out; obtain ⟨hf5c0, hf5c1⟩ := QB HF5.out; obtain ⟨hf5f0, hf5f1⟩ := Qt HF5.out))
            refine bodyPost_ret (results_cell_row rfl _ _ gr 24 #[.int .i64 (q1), .int .i64 (-4)] (0, 0) _ rfl (by refine Xd (cs := #[.int .i64 (q1), .int .i64 0]) ?_ 1 _ rfl; refine Xd (cs := #[.int .i64 0, .int .i64 0]) ?_ 0 _ rfl; exact HZ.out) Try.underlying24 rfl (by kernel_rfl)) rfl ?_
            exact ⟨rfl, Q1 (Q1 HB.out Gw_gr.out) Gw_gr.out⟩
end Go.Proofs.Ytakabkjhnncbhaa.PX
namespace Go.Proofs.Ytakabkjhnncbhaa.PX
open Go.RowKit Go.Proofs.YtakabkjhnncbhaaW.PrintWords Go.Proofs.YtakabkjhnncbhaaW.PrintLast Go.Proofs.YtakabkjhnncbhaaW.PrintMore
attribute [local go_sem] Xk Xi Xs Xr X5 X4 Xj Xh   -- for this text's walks alone
set_option linter.unusedVariables false
set_option linter.unusedSimpArgs false
attribute [local go_sem high] eqA24
def QI.l0 : Nat → List (S46) → Int → Int → Option (Int × Int)
 | 0, _, _, _ => none
 | k + 1, x10, x11, x12 => if x12 < x11 then (if 0 ≤ x12 then (if x12 < (x10.length : Int) then ((X7.f k ((Q3 x10 x12).f0) ((Q3 x10 x12).f1) ((Q3 x10 x12).f2) ((Q3 x10 x12).f3) ((Q3 x10 x12).f4) ((Q3 x10 x12).f5)).bind fun bt206 => (if (!(bt206.1 == 0) || (!(bt206.2 == 0))) = true then (some (bt206.1, x12)) else (QI.l0 k x10 x11 (wrap64 (x12 + 1))))) else (none)) else (none)) else (some (0, 0))
def QI.f (k : Nat) (l0 : List (S46)) : Option (Int × Int) := if (l0.length : Int) > 8 then (some (2, (-1))) else (QI.l0 k l0 (l0.length : Int) 0)
theorem QI.Xn : ∀ k, (∀ y0 y1 y2, LeO (QI.l0 k y0 y1 y2) (QI.l0 (k + 1) y0 y1 y2))
 | 0 => fun _ _ _ r h => by simp [QI.l0] at h
 | k + 1 => by
  have ih0 := QI.Xn k
  ·intro y0 y1 y2
   unfold QI.l0
   repeat' first
   | (with_reducible exact ih0 _ _ _)
   | (with_reducible exact X7.mono _ _ _ _ _ _ _)
   | (with_reducible exact LeO.refl _)
   | (with_reducible exact LeO.none _)
   | (with_reducible refine LeO.ite ?_ ?_)
   | (with_reducible refine LeO.bind ?_ (fun _ => ?_))
theorem QI.mono : ∀ a0 k, LeO (QI.f k a0) (QI.f (k + 1) a0) := by
 intro a0 k
 have ih0 := QI.Xn k
 unfold QI.f
 repeat' first
   | (with_reducible exact ih0 _ _ _)
   | (with_reducible exact X7.mono _ _ _ _ _ _ _)
   | (with_reducible exact LeO.refl _)
   | (with_reducible exact LeO.none _)
   | (with_reducible refine LeO.ite ?_ ?_)
   | (with_reducible refine LeO.bind ?_ (fun _ => ?_))
set_option maxHeartbeats 8000000 in
set_option maxRecDepth 100000 in
theorem QI.calls (k : Nat) (A0 : Option Addr) (c0 : Nat) (l0 : List (S46)) (r1 : Int) (r2 : Int) (w : World) (hr0 : Kd.C k46 w A0 l0.length l0) (hc0 : l0.length ≤ c0) (h : QI.f k l0 = some (r1, r2)) :
  Calls Try.prog 27 #[.slice A0 l0.length c0] w fun e w' => e = .returned (.agg #[.int .i64 r1, .int .i64 r2]) ∧ Below w.heap.size w w' := by
 have hu24 := Try.underlying24
 have hu46 := Try.underlying46
 have HR0 := Q0.mk hr0
 have HC0 := Q0.mk hc0
 clear hr0 hc0
 have HB := Q0.mk (Below.refl w.heap.size w)
 have H := h
 clear h
 unfold QI.f at H
 try dsimp only at H
 by_cases c2 : (l0.length : Int) > 8
 ·rw [if_pos c2] at H
  have c2b0 : decide (8 < (l0.length : Int)) = true := decide_eq_true c2
  have c2b1 : decide (8 < l0.length) = true := decide_eq_true (by omega)
  clear c2
  simp only [Option.some.injEq, Prod.mk.injEq] at H
  obtain ⟨rfl, rfl⟩ := H
  go_enter Try.func27, Try.ntmps27
  go_wp2_with (first | ((with_reducible refine QN (N := 2) rfl ?_); refine QK ?hg (N := 2) ?hd (cs := #[.int .i64 0, .int .i64 0]) (t := 24) ?hr ?_; (case hd => rfl); (case hg => rfl); (case hr => first | (go_simp; done) | (go_simp; rfl)); intro gb203 hg w3 hbox hb; have BK203 := Q0.mk (hbox); have GW203 := Q0.mk ((by rw [hg]; exact (Qg HB.out) : w.heap.size ≤ gb203)); have GE203 := Q0.mk ((by rw [hg]; exact (Qg HB.out) : w.heap.size ≤ gb203)); replace HB := Q0.mk (Qj HB.out hb); clear hb hbox hg; obtain ⟨hcz4_0, hcz4_1⟩ := QB BK203.out; obtain ⟨hfz4_0, hfz4_1⟩ := Qt BK203.out) | ((with_reducible refine QD (t := 24) (p := 2) rfl ?_); refine Qw (t := 24) (p := 2) (v := ?vo_w5) (w1 := ((w3.setCell ⟨gb203, 0, none⟩ (.int .i64 2)).setCell ⟨gb203, 1, none⟩ (.int .i64 (-1)))) ?hg ?ho ?hn ?hr ?_; (case ho => rfl); (case hg => rfl); (case hn => rfl); (case hr => first | (go_simp; done) | (go_simp; rfl)); intro w5 hw; replace BK203 := Q0.mk (put2 hw BK203.out); replace HB := Q0.mk (bel2 hw HB.out GE203.out); clear hw))
  refine bodyPost_ret (results_cell_row rfl _ _ gb203 24 #[.int .i64 2, .int .i64 (-1)] (0, 0) _ rfl BK203.out Try.underlying24 rfl (by kernel_rfl)) rfl ?_
  exact ⟨by first | rfl | (simp [*]; done), by repeat (first | exact HB.out | apply Q4 | apply Q2 | apply Q6 | refine Q1 ?_ GE203.out)⟩
 ·rw [if_neg c2] at H
  have c2b0 : decide (8 < (l0.length : Int)) = false := decide_eq_false c2
  have c2b1 : decide (8 < l0.length) = false := decide_eq_false (by omega)
  clear c2
  have H' := Q0.mk H
  clear H
  go_enter Try.func27, Try.ntmps27
  go_wp2_with (first | ((with_reducible refine QN (N := 2) rfl ?_); refine QK ?hg (N := 2) ?hd (cs := #[.int .i64 0, .int .i64 0]) (t := 24) ?hr ?_; (case hd => rfl); (case hg => rfl); (case hr => first | (go_simp; done) | (go_simp; rfl)); intro gb203 hg w6 hbox hb; have BK203 := Q0.mk (hbox); have GW203 := Q0.mk ((by rw [hg]; exact (Qg HB.out) : w.heap.size ≤ gb203)); have GE203 := Q0.mk ((by rw [hg]; exact (Qg HB.out) : w.heap.size ≤ gb203)); replace HB := Q0.mk (Qj HB.out hb); clear hb hbox hg))
  go_loopg [12] k (fun kq v12 w' => ∃ (x12_1 : Int) (x204000_1 : Int) (x204001_1 : Int), v12 = .int .i64 x12_1 ∧ Q0 (QI.l0 kq l0 (l0.length : Int) x12_1 = some (r1, r2)) ∧ Q0 (kq ≤ k) ∧ Q0 (w'.heap[gb203]? = some (.cells #[.int .i64 x204000_1, .int .i64 x204001_1] 24 (0, 0))) ∧ Q0 (Below w.heap.size w w'))
  case atStart => exact ⟨(0), (0), (0), (by first | rfl | (simp [*]; done)), H', ⟨Nat.le_refl _⟩, ⟨by (with_reducible repeat (first | refine Q7 ?_ _ | refine Qa ?_ | refine Q8 ?_ _)); exact BK203.out⟩, ⟨by repeat (first | exact HB.out | apply Q4 | apply Q2 | apply Q6 | refine Q1 ?_ GE203.out)⟩⟩
  case round =>
   clear H'
   try clear c2
   try clear c2b0
   try clear c2b1
   try clear p2
   obtain ⟨x12_1, x204000_1, x204001_1, rfl, HA, HK1, BK203, HB⟩ := hrel
   cases gk with
   | zero => exact absurd HA.out (by simp [QI.l0])
   | succ k1 =>
    have H := HA.out
    clear HA
    simp only [QI.l0] at H
    by_cases c7 : x12_1 < (l0.length : Int)
    ·rw [if_pos c7] at H
     have c7b0 : decide (x12_1 < (l0.length : Int)) = true := decide_eq_true c7
     clear c7
     by_cases c8 : 0 ≤ x12_1
     ·rw [if_pos c8] at H
      have c8b0 : decide (0 ≤ x12_1) = true := decide_eq_true c8
      clear c8
      by_cases c9 : x12_1 < (l0.length : Int)
      ·rw [if_pos c9] at H
       have c9b0 : decide (x12_1 < (l0.length : Int)) = true := decide_eq_true c9
       clear c9
       replace H := Option.bind_eq_some_iff.mp H
       obtain ⟨⟨t206, t207⟩, A100, H⟩ := H
       try dsimp only at H
       have A10 := Q0.mk A100
       clear A100
       by_cases c11 : (!(t206 == 0) || (!(t207 == 0))) = true
       ·rw [if_pos c11] at H
        have c11b0 : (!(t206 == 0) || (!(t207 == 0))) = true := c11
        clear c11
        simp only [Option.some.injEq, Prod.mk.injEq] at H
        obtain ⟨rfl, rfl⟩ := H
        have p204 : 0 ≤ (x12_1 : Int) := of_decide_eq_true ‹_›
        have q204 : x12_1 < (l0.length : Int) := of_decide_eq_true ‹_›
        obtain ⟨ad204, A204_1, c204_1, A204_2, c204_2, A204_3, c204_3, A204_4, c204_4, A204_5, c204_5, e204, hx204_0, hx204_1, hx204_2, hx204_3, hx204_4, hx204_5, hl204_1, hi204_1, hl204_2, hi204_2, hl204_3, hi204_3, hl204_4, hi204_4, hl204_5, hi204_5⟩ := Y0 HR0.out x12_1 p204 q204
        cases e204
        replace hx204_0 := cup HB.out hx204_0
        replace hx204_1 := cup HB.out hx204_1
        replace hx204_2 := cup HB.out hx204_2
        replace hx204_3 := cup HB.out hx204_3
        replace hx204_4 := cup HB.out hx204_4
        replace hx204_5 := cup HB.out hx204_5
        have HR204_1 := Q0.mk hi204_1
        have HC204_1 := Q0.mk hl204_1
        clear hi204_1 hl204_1
        have HR204_2 := Q0.mk hi204_2
        have HC204_2 := Q0.mk hl204_2
        clear hi204_2 hl204_2
        have HR204_3 := Q0.mk hi204_3
        have HC204_3 := Q0.mk hl204_3
        clear hi204_3 hl204_3
        have HR204_4 := Q0.mk hi204_4
        have HC204_4 := Q0.mk hl204_4
        clear hi204_4 hl204_4
        have HR204_5 := Q0.mk hi204_5
        have HC204_5 := Q0.mk hl204_5
        clear hi204_5 hl204_5
        replace p204 := eq_true p204
        replace q204 := eq_true q204
        go_wp2_with (first | ((with_reducible refine QN (N := 4) rfl ?_); refine QK ?hg (N := 4) ?hd (cs := #[.string (⟨#[]⟩ : ByteArray), .slice none 0 0, .slice none 0 0, .slice none 0 0, .slice none 0 0, .slice none 0 0]) (t := 46) ?hr ?_; (case hd => rfl); (case hg => rfl); (case hr => first | (go_simp; done) | (go_simp; rfl)); intro gb205 hg w12 hbox hb; have BK205 := Q0.mk (hbox); have GW205 := Q0.mk ((by rw [hg]; exact (Qg HB.out) : w.heap.size ≤ gb205)); have GE205 := Q0.mk ((by rw [hg]; exact (Qg HB.out) : w.heap.size ≤ gb205)); have NB203_205 := Q0.mk ((by rw [hg]; exact Nat.ne_of_lt (Qy BK203.out) : gb203 ≠ gb205)); have NB205_203 := Q0.mk ((by rw [hg]; exact Nat.ne_of_gt (Qy BK203.out) : gb205 ≠ gb203)); replace BK203 := Q0.mk (Q9 BK203.out hb); replace HB := Q0.mk (Qj HB.out hb); clear hb hbox hg; have hnb13 := NB205_203.out; have hnc13 := NB203_205.out; obtain ⟨hcz14_0, hcz14_1, hcz14_2, hcz14_3, hcz14_4, hcz14_5⟩ := QE BK205.out; obtain ⟨hfz14_0, hfz14_1, hfz14_2, hfz14_3, hfz14_4, hfz14_5⟩ := QR BK205.out) | ((with_reducible refine QD (t := 46) (p := 4) rfl ?_); refine Qw (t := 46) (p := 4) (v := ?vo_w15) (w1 := ((((((w12.setCell ⟨gb205, 0, none⟩ (.string ((Q3 l0 x12_1).f0))).setCell ⟨gb205, 1, none⟩ (.slice A204_1 ((Q3 l0 x12_1).f1).length c204_1)).setCell ⟨gb205, 2, none⟩ (.slice A204_2 ((Q3 l0 x12_1).f2).length c204_2)).setCell ⟨gb205, 3, none⟩ (.slice A204_3 ((Q3 l0 x12_1).f3).length c204_3)).setCell ⟨gb205, 4, none⟩ (.slice A204_4 ((Q3 l0 x12_1).f4).length c204_4)).setCell ⟨gb205, 5, none⟩ (.slice A204_5 ((Q3 l0 x12_1).f5).length c204_5))) ?hg ?ho ?hn ?hr ?_; (case ho => rfl); (case hg => rfl); (case hn => rfl); (case hr => first | (go_simp; done) | (go_simp; rfl)); intro w15 hw; replace BK203 := Q0.mk (far6 hw BK203.out NB203_205.out); replace BK205 := Q0.mk (put6 hw BK205.out); replace HB := Q0.mk (bel6 hw HB.out GE205.out); clear hw; obtain ⟨hcz16_0, hcz16_1, hcz16_2, hcz16_3, hcz16_4, hcz16_5⟩ := QE BK205.out; obtain ⟨hfz16_0, hfz16_1, hfz16_2, hfz16_3, hfz16_4, hfz16_5⟩ := QR BK205.out) | ((with_reducible refine Qs (f := 26) rfl ?_); refine X2 (some 18) rfl rfl Try.func26 (by kernel_rfl) rfl #[.agg #[.string ((Q3 l0 x12_1).f0), .slice A204_1 ((Q3 l0 x12_1).f1).length c204_1, .slice A204_2 ((Q3 l0 x12_1).f2).length c204_2, .slice A204_3 ((Q3 l0 x12_1).f3).length c204_3, .slice A204_4 ((Q3 l0 x12_1).f4).length c204_4, .slice A204_5 ((Q3 l0 x12_1).f5).length c204_5]] rfl (by (try simp only [List.map_toArray, List.map_cons, List.map_nil]); first | done | rfl | (simp only [List.length_drop, List.length_take]; rfl)) ?_; (with_reducible refine (X7.calls k1 ((Q3 l0 x12_1).f0) _ _ ((Q3 l0 x12_1).f1) _ _ ((Q3 l0 x12_1).f2) _ _ ((Q3 l0 x12_1).f3) _ _ ((Q3 l0 x12_1).f4) _ _ ((Q3 l0 x12_1).f5) t206 t207 _ ?side1 ?side2 ?side3 ?side4 ?side5 ?side6 ?side7 ?side8 ?side9 ?side10 A10.out).mono ?_); (case side1 => repeat (first | exact (Kd.Qx HR204_1.out HB.out) | (with_reducible refine Kd.QT ?_ _) | (with_reducible refine Kd.QS ?_ _) | (with_reducible refine Kd.X6 ?_))); (case side2 => exact HC204_1.out); (case side3 => repeat (first | exact (Kd.Qx HR204_2.out HB.out) | (with_reducible refine Kd.QT ?_ _) | (with_reducible refine Kd.QS ?_ _) | (with_reducible refine Kd.X6 ?_))); (case side4 => exact HC204_2.out); (case side5 => repeat (first | exact (Kd.Qx HR204_3.out HB.out) | (with_reducible refine Kd.QT ?_ _) | (with_reducible refine Kd.QS ?_ _) | (with_reducible refine Kd.X6 ?_))); (case side6 => exact HC204_3.out); (case side7 => repeat (first | exact (Kd.Qx HR204_4.out HB.out) | (with_reducible refine Kd.QT ?_ _) | (with_reducible refine Kd.QS ?_ _) | (with_reducible refine Kd.X6 ?_))); (case side8 => exact HC204_4.out); (case side9 => repeat (first | exact (Kd.Qx HR204_5.out HB.out) | (with_reducible refine Kd.QT ?_ _) | (with_reducible refine Kd.QS ?_ _) | (with_reducible refine Kd.X6 ?_))); (case side10 => exact HC204_5.out); rintro e w17 ⟨rfl, hb⟩; refine ⟨_, rfl, ?_⟩; replace BK203 := Q0.mk (Q9 BK203.out hb); replace BK205 := Q0.mk (Q9 BK205.out hb); replace HB := Q0.mk (Qj HB.out hb)) | ((with_reducible refine QN (N := 5) rfl ?_); refine QK ?hg (N := 5) ?hd (cs := #[.int .i64 0, .int .i64 0]) (t := 24) ?hr ?_; (case hd => rfl); (case hg => rfl); (case hr => first | (go_simp; done) | (go_simp; rfl)); intro gb208 hg w18 hbox hb; have BK208 := Q0.mk (hbox); have GW208 := Q0.mk ((by rw [hg]; exact (Qg HB.out) : w.heap.size ≤ gb208)); have GE208 := Q0.mk ((by rw [hg]; exact (Qg HB.out) : w.heap.size ≤ gb208)); have NB203_208 := Q0.mk ((by rw [hg]; exact Nat.ne_of_lt (Qy BK203.out) : gb203 ≠ gb208)); have NB208_203 := Q0.mk ((by rw [hg]; exact Nat.ne_of_gt (Qy BK203.out) : gb208 ≠ gb203)); have NB205_208 := Q0.mk ((by rw [hg]; exact Nat.ne_of_lt (Qy BK205.out) : gb205 ≠ gb208)); have NB208_205 := Q0.mk ((by rw [hg]; exact Nat.ne_of_gt (Qy BK205.out) : gb208 ≠ gb205)); replace BK203 := Q0.mk (Q9 BK203.out hb); replace BK205 := Q0.mk (Q9 BK205.out hb); replace HB := Q0.mk (Qj HB.out hb); clear hb hbox hg; have hnb19 := NB208_203.out; have hnc19 := NB203_208.out; have hnb20 := NB208_205.out; have hnc20 := NB205_208.out; obtain ⟨hcz21_0, hcz21_1⟩ := QB BK208.out; obtain ⟨hfz21_0, hfz21_1⟩ := Qt BK208.out) | ((with_reducible refine QD (t := 24) (p := 5) rfl ?_); refine Qw (t := 24) (p := 5) (v := ?vo_w22) (w1 := ((w18.setCell ⟨gb208, 0, none⟩ (.int .i64 t206)).setCell ⟨gb208, 1, none⟩ (.int .i64 t207))) ?hg ?ho ?hn ?hr ?_; (case ho => rfl); (case hg => rfl); (case hn => rfl); (case hr => first | (go_simp; done) | (go_simp; rfl)); intro w22 hw; replace BK203 := Q0.mk (far2 hw BK203.out NB203_208.out); replace BK205 := Q0.mk (far2 hw BK205.out NB205_208.out); replace BK208 := Q0.mk (put2 hw BK208.out); replace HB := Q0.mk (bel2 hw HB.out GE208.out); clear hw; obtain ⟨hcz23_0, hcz23_1⟩ := QB BK208.out; obtain ⟨hfz23_0, hfz23_1⟩ := Qt BK208.out; obtain ⟨hcz24_0, hcz24_1⟩ := QB BK203.out; obtain ⟨hfz24_0, hfz24_1⟩ := Qt BK203.out) | ((with_reducible refine QD (t := 24) (p := 2) rfl ?_); refine Qw (t := 24) (p := 2) (v := ?vo_w25) (w1 := ((w22.setCell ⟨gb203, 0, none⟩ (.int .i64 t206)).setCell ⟨gb203, 1, none⟩ (.int .i64 x12_1))) ?hg ?ho ?hn ?hr ?_; (case ho => rfl); (case hg => rfl); (case hn => rfl); (case hr => first | (go_simp; done) | (go_simp; rfl)); intro w25 hw; replace BK203 := Q0.mk (put2 hw BK203.out); replace BK205 := Q0.mk (far2 hw BK205.out NB205_203.out); replace BK208 := Q0.mk (far2 hw BK208.out NB208_203.out); replace HB := Q0.mk (bel2 hw HB.out GE203.out); clear hw))
        refine bodyPost_ret (results_cell_row rfl _ _ gb203 24 #[.int .i64 t206, .int .i64 x12_1] (0, 0) _ rfl BK203.out Try.underlying24 rfl (by kernel_rfl)) rfl ?_
        exact ⟨by first | rfl | (simp [*]; done), by repeat (first | exact HB.out | apply Q4 | apply Q2 | apply Q6 | refine Q1 ?_ GE203.out | refine Q1 ?_ GE205.out | refine Q1 ?_ GE208.out)⟩
       ·rw [if_neg c11] at H
        have c11b0 : (!(t206 == 0) || (!(t207 == 0))) = false := by simpa using c11
        clear c11
        have H' := Q0.mk H
        clear H
        have p204 : 0 ≤ (x12_1 : Int) := of_decide_eq_true ‹_›
        have q204 : x12_1 < (l0.length : Int) := of_decide_eq_true ‹_›
        obtain ⟨ad204, A204_1, c204_1, A204_2, c204_2, A204_3, c204_3, A204_4, c204_4, A204_5, c204_5, e204, hx204_0, hx204_1, hx204_2, hx204_3, hx204_4, hx204_5, hl204_1, hi204_1, hl204_2, hi204_2, hl204_3, hi204_3, hl204_4, hi204_4, hl204_5, hi204_5⟩ := Y0 HR0.out x12_1 p204 q204
        cases e204
        replace hx204_0 := cup HB.out hx204_0
        replace hx204_1 := cup HB.out hx204_1
        replace hx204_2 := cup HB.out hx204_2
        replace hx204_3 := cup HB.out hx204_3
        replace hx204_4 := cup HB.out hx204_4
        replace hx204_5 := cup HB.out hx204_5
        have HR204_1 := Q0.mk hi204_1
        have HC204_1 := Q0.mk hl204_1
        clear hi204_1 hl204_1
        have HR204_2 := Q0.mk hi204_2
        have HC204_2 := Q0.mk hl204_2
        clear hi204_2 hl204_2
        have HR204_3 := Q0.mk hi204_3
        have HC204_3 := Q0.mk hl204_3
        clear hi204_3 hl204_3
        have HR204_4 := Q0.mk hi204_4
        have HC204_4 := Q0.mk hl204_4
        clear hi204_4 hl204_4
        have HR204_5 := Q0.mk hi204_5
        have HC204_5 := Q0.mk hl204_5
        clear hi204_5 hl204_5
        replace p204 := eq_true p204
        replace q204 := eq_true q204
        go_wp2_with (first | ((with_reducible refine QN (N := 4) rfl ?_); refine QK ?hg (N := 4) ?hd (cs := #[.string (⟨#[]⟩ : ByteArray), .slice none 0 0, .slice none 0 0, .slice none 0 0, .slice none 0 0, .slice none 0 0]) (t := 46) ?hr ?_; (case hd => rfl); (case hg => rfl); (case hr => first | (go_simp; done) | (go_simp; rfl)); intro gb205 hg w26 hbox hb; have BK205 := Q0.mk (hbox); have GW205 := Q0.mk ((by rw [hg]; exact (Qg HB.out) : w.heap.size ≤ gb205)); have GE205 := Q0.mk ((by rw [hg]; exact (Qg HB.out) : w.heap.size ≤ gb205)); have NB203_205 := Q0.mk ((by rw [hg]; exact Nat.ne_of_lt (Qy BK203.out) : gb203 ≠ gb205)); have NB205_203 := Q0.mk ((by rw [hg]; exact Nat.ne_of_gt (Qy BK203.out) : gb205 ≠ gb203)); replace BK203 := Q0.mk (Q9 BK203.out hb); replace HB := Q0.mk (Qj HB.out hb); clear hb hbox hg; have hnb27 := NB205_203.out; have hnc27 := NB203_205.out; obtain ⟨hcz28_0, hcz28_1, hcz28_2, hcz28_3, hcz28_4, hcz28_5⟩ := QE BK205.out; obtain ⟨hfz28_0, hfz28_1, hfz28_2, hfz28_3, hfz28_4, hfz28_5⟩ := QR BK205.out) | ((with_reducible refine QD (t := 46) (p := 4) rfl ?_); refine Qw (t := 46) (p := 4) (v := ?vo_w29) (w1 := ((((((w26.setCell ⟨gb205, 0, none⟩ (.string ((Q3 l0 x12_1).f0))).setCell ⟨gb205, 1, none⟩ (.slice A204_1 ((Q3 l0 x12_1).f1).length c204_1)).setCell ⟨gb205, 2, none⟩ (.slice A204_2 ((Q3 l0 x12_1).f2).length c204_2)).setCell ⟨gb205, 3, none⟩ (.slice A204_3 ((Q3 l0 x12_1).f3).length c204_3)).setCell ⟨gb205, 4, none⟩ (.slice A204_4 ((Q3 l0 x12_1).f4).length c204_4)).setCell ⟨gb205, 5, none⟩ (.slice A204_5 ((Q3 l0 x12_1).f5).length c204_5))) ?hg ?ho ?hn ?hr ?_; (case ho => rfl); (case hg => rfl); (case hn => rfl); (case hr => first | (go_simp; done) | (go_simp; rfl)); intro w29 hw; replace BK203 := Q0.mk (far6 hw BK203.out NB203_205.out); replace BK205 := Q0.mk (put6 hw BK205.out); replace HB := Q0.mk (bel6 hw HB.out GE205.out); clear hw; obtain ⟨hcz30_0, hcz30_1, hcz30_2, hcz30_3, hcz30_4, hcz30_5⟩ := QE BK205.out; obtain ⟨hfz30_0, hfz30_1, hfz30_2, hfz30_3, hfz30_4, hfz30_5⟩ := QR BK205.out) | ((with_reducible refine Qs (f := 26) rfl ?_); refine X2 (some 18) rfl rfl Try.func26 (by kernel_rfl) rfl #[.agg #[.string ((Q3 l0 x12_1).f0), .slice A204_1 ((Q3 l0 x12_1).f1).length c204_1, .slice A204_2 ((Q3 l0 x12_1).f2).length c204_2, .slice A204_3 ((Q3 l0 x12_1).f3).length c204_3, .slice A204_4 ((Q3 l0 x12_1).f4).length c204_4, .slice A204_5 ((Q3 l0 x12_1).f5).length c204_5]] rfl (by (try simp only [List.map_toArray, List.map_cons, List.map_nil]); first | done | rfl | (simp only [List.length_drop, List.length_take]; rfl)) ?_; (with_reducible refine (X7.calls k1 ((Q3 l0 x12_1).f0) _ _ ((Q3 l0 x12_1).f1) _ _ ((Q3 l0 x12_1).f2) _ _ ((Q3 l0 x12_1).f3) _ _ ((Q3 l0 x12_1).f4) _ _ ((Q3 l0 x12_1).f5) t206 t207 _ ?side1 ?side2 ?side3 ?side4 ?side5 ?side6 ?side7 ?side8 ?side9 ?side10 A10.out).mono ?_); (case side1 => repeat (first | exact (Kd.Qx HR204_1.out HB.out) | (with_reducible refine Kd.QT ?_ _) | (with_reducible refine Kd.QS ?_ _) | (with_reducible refine Kd.X6 ?_))); (case side2 => exact HC204_1.out); (case side3 => repeat (first | exact (Kd.Qx HR204_2.out HB.out) | (with_reducible refine Kd.QT ?_ _) | (with_reducible refine Kd.QS ?_ _) | (with_reducible refine Kd.X6 ?_))); (case side4 => exact HC204_2.out); (case side5 => repeat (first | exact (Kd.Qx HR204_3.out HB.out) | (with_reducible refine Kd.QT ?_ _) | (with_reducible refine Kd.QS ?_ _) | (with_reducible refine Kd.X6 ?_))); (case side6 => exact HC204_3.out); (case side7 => repeat (first | exact (Kd.Qx HR204_4.out HB.out) | (with_reducible refine Kd.QT ?_ _) | (with_reducible refine Kd.QS ?_ _) | (with_reducible refine Kd.X6 ?_))); (case side8 => exact HC204_4.out); (case side9 => repeat (first | exact (Kd.Qx HR204_5.out HB.out) | (with_reducible refine Kd.QT ?_ _) | (with_reducible refine Kd.QS ?_ _) | (with_reducible refine Kd.X6 ?_))); (case side10 => exact HC204_5.out); rintro e w31 ⟨rfl, hb⟩; refine ⟨_, rfl, ?_⟩; replace BK203 := Q0.mk (Q9 BK203.out hb); replace BK205 := Q0.mk (Q9 BK205.out hb); replace HB := Q0.mk (Qj HB.out hb)) | ((with_reducible refine QN (N := 5) rfl ?_); refine QK ?hg (N := 5) ?hd (cs := #[.int .i64 0, .int .i64 0]) (t := 24) ?hr ?_; (case hd => rfl); (case hg => rfl); (case hr => first | (go_simp; done) | (go_simp; rfl)); intro gb208 hg w32 hbox hb; have BK208 := Q0.mk (hbox); have GW208 := Q0.mk ((by rw [hg]; exact (Qg HB.out) : w.heap.size ≤ gb208)); have GE208 := Q0.mk ((by rw [hg]; exact (Qg HB.out) : w.heap.size ≤ gb208)); have NB203_208 := Q0.mk ((by rw [hg]; exact Nat.ne_of_lt (Qy BK203.out) : gb203 ≠ gb208)); have NB208_203 := Q0.mk ((by rw [hg]; exact Nat.ne_of_gt (Qy BK203.out) : gb208 ≠ gb203)); have NB205_208 := Q0.mk ((by rw [hg]; exact Nat.ne_of_lt (Qy BK205.out) : gb205 ≠ gb208)); have NB208_205 := Q0.mk ((by rw [hg]; exact Nat.ne_of_gt (Qy BK205.out) : gb208 ≠ gb205)); replace BK203 := Q0.mk (Q9 BK203.out hb); replace BK205 := Q0.mk (Q9 BK205.out hb); replace HB := Q0.mk (Qj HB.out hb); clear hb hbox hg; have hnb33 := NB208_203.out; have hnc33 := NB203_208.out; have hnb34 := NB208_205.out; have hnc34 := NB205_208.out; obtain ⟨hcz35_0, hcz35_1⟩ := QB BK208.out; obtain ⟨hfz35_0, hfz35_1⟩ := Qt BK208.out) | ((with_reducible refine QD (t := 24) (p := 5) rfl ?_); refine Qw (t := 24) (p := 5) (v := ?vo_w36) (w1 := ((w32.setCell ⟨gb208, 0, none⟩ (.int .i64 t206)).setCell ⟨gb208, 1, none⟩ (.int .i64 t207))) ?hg ?ho ?hn ?hr ?_; (case ho => rfl); (case hg => rfl); (case hn => rfl); (case hr => first | (go_simp; done) | (go_simp; rfl)); intro w36 hw; replace BK203 := Q0.mk (far2 hw BK203.out NB203_208.out); replace BK205 := Q0.mk (far2 hw BK205.out NB205_208.out); replace BK208 := Q0.mk (put2 hw BK208.out); replace HB := Q0.mk (bel2 hw HB.out GE208.out); clear hw; obtain ⟨hcz37_0, hcz37_1⟩ := QB BK208.out; obtain ⟨hfz37_0, hfz37_1⟩ := Qt BK208.out))
        go_roundg k1
        case measure => have := HK1.out; omega
        case rel => exact ⟨(wrap64 (x12_1 + 1)), (x204000_1), (x204001_1), (by first | rfl | (simp [*]; done)), H', ⟨by have := HK1.out; omega⟩, ⟨by (with_reducible repeat (first | refine Q7 ?_ _ | refine Qa ?_ | refine Q8 ?_ _)); exact BK203.out⟩, ⟨by repeat (first | exact HB.out | apply Q4 | apply Q2 | apply Q6 | refine Q1 ?_ GE203.out | refine Q1 ?_ GE205.out | refine Q1 ?_ GE208.out)⟩⟩
      ·rw [if_neg c9] at H
       exact absurd H (by simp)
     ·rw [if_neg c8] at H
      exact absurd H (by simp)
    ·rw [if_neg c7] at H
     have c7b0 : decide (x12_1 < (l0.length : Int)) = false := decide_eq_false c7
     clear c7
     simp only [Option.some.injEq, Prod.mk.injEq] at H
     obtain ⟨rfl, rfl⟩ := H
     obtain ⟨hcz38_0, hcz38_1⟩ := QB BK203.out
     obtain ⟨hfz38_0, hfz38_1⟩ := Qt BK203.out
     go_wp2_with (first | ((with_reducible refine QD (t := 24) (p := 2) rfl ?_); refine Qw (t := 24) (p := 2) (v := ?vo_w39) (w1 := ((wr.setCell ⟨gb203, 0, none⟩ (.int .i64 0)).setCell ⟨gb203, 1, none⟩ (.int .i64 0))) ?hg ?ho ?hn ?hr ?_; (case ho => rfl); (case hg => rfl); (case hn => rfl); (case hr => first | (go_simp; done) | (go_simp; rfl)); intro w39 hw; replace BK203 := Q0.mk (put2 hw BK203.out); replace HB := Q0.mk (bel2 hw HB.out GE203.out); clear hw))
     refine bodyPost_ret (results_cell_row rfl _ _ gb203 24 #[.int .i64 0, .int .i64 0] (0, 0) _ rfl BK203.out Try.underlying24 rfl (by kernel_rfl)) rfl ?_
     exact ⟨by first | rfl | (simp [*]; done), by repeat (first | exact HB.out | apply Q4 | apply Q2 | apply Q6 | refine Q1 ?_ GE203.out)⟩
end Go.Proofs.Ytakabkjhnncbhaa.PX
