/- A part of the proof of a law: its words, walks of functions, or plain lemmas. -/
-- Written by this session's own programs (wip/printx.py, gen_*.py, assemble.py) and by hand.
import Derived.Test.YtakabkjhnncbhaaT01
namespace Go.Proofs.Ytakabkjhnncbhaa.PX
open Go.RowKit Go.Proofs.YtakabkjhnncbhaaW.PrintWords Go.Proofs.YtakabkjhnncbhaaW.PrintLast Go.Proofs.YtakabkjhnncbhaaW.PrintMore
attribute [local go_sem] Xl Xj Xu Xt X7 X6 Xk Xi   -- for this text's walks alone
set_option linter.unusedVariables false
set_option linter.unusedSimpArgs false
set_option maxHeartbeats 2000000 in
theorem ix61.calls (A : Option Addr) (c : Nat) (l : List S61) (g : Nat) (lb : Array Value) (p : S61 → Bool) (eg : ∀ args w, (callFunc g args).run Try.prog w = .ok (.enter g args) w) (w : World) (hr : Kd.C k61 w A l.length l)
    (hp : ∀ W (x : S61) cs, Below w.heap.size w W → k61.K W x cs → Calls Try.prog g (#[.agg cs.toArray] ++ lb) W fun e w' => e = .returned (.bool (p x)) ∧ Below W.heap.size W w') :
    Calls Try.prog 74 #[.slice A l.length c, .func (.func g) #[] lb] w fun e w' => e = .returned (.int .i64 (fidx p l)) ∧ Below w.heap.size w w' := by
  have hbig : l.length ≤ 9223372036854775807 := hr.2.1;have HR := Q0.mk hr;have HP := Q0.mk hp;clear hr hp
  go_enter Try.func74, Try.ntmps74
  go_wp2
  go_loopg [5, 8] l.length (fun gg _ s8 wr => ∃ kk : Nat, kk ≤ l.length ∧ l.length - kk ≤ gg ∧ s8 = .int .i64 kk ∧ Q0 (Below w.heap.size w wr) ∧ Q0 (∀ j, j < kk → p (l.getD j z61) = false))
  case atStart => exact ⟨0, Nat.zero_le _, by omega, rfl, ⟨Below.refl _ w⟩, ⟨fun j hj => absurd hj (Nat.not_lt_zero _)⟩⟩
  case round =>
    obtain ⟨kk, hkk, hg, rfl, HB, HA⟩ := hrel;by_cases hlt : kk < l.length
    · (have hltz : (kk : Int) < (l.length : Int) := by omega);obtain ⟨ad, e, hx0, hx1, hx2, hx3, hx4, hx5, hx6, hx7, hx8⟩ := at_T61 (Kd.Qy HR.out HB.out) (kk : Int) (by omega) hltz
      cases e
      have hcall := HP.out wr (Qd l kk) _ HB.out (k61_mk wr (Qd l kk))
      skip
      (have hd : Qd l kk = l.getD kk z61 := by unfold Qd; rw [Int.toNat_natCast]);have HD := Q0.mk hd;clear hd;simp only [Int.toNat_natCast] at hx0 hx1 hx2 hx3 hx4 hx5 hx6 hx7 hx8;generalize hy : Qd l kk = y at hx0 hx1 hx2 hx3 hx4 hx5 hx6 hx7 hx8 hcall HD;have HY := Q0.mk hy;clear hy
      cases hq : p y with
      | true =>
        rw [hq] at hcall;have HQ := Q0.mk hq;clear hq;go_wp2_with (go_at_fn g; refine hcall.mono ?_; rintro e w' ⟨rfl, hb'⟩);go_ret;refine ⟨?_, Ql HB.out hb'⟩;rw [fidx_hit (d := z61) hlt (by rw [← HD.out]; exact HQ.out) HA.out]
        rfl
      | false =>
        rw [hq] at hcall;have HQ := Q0.mk hq;clear hq;go_wp2_with (go_at_fn g; refine hcall.mono ?_; rintro e w' ⟨rfl, hb'⟩)
        go_roundg (l.length - (kk + 1))
        case measure => omega
        case rel =>
          refine ⟨kk + 1, by omega, by omega, by go_num, ⟨Ql HB.out hb'⟩, ⟨fun j hj => ?_⟩⟩;by_cases e : j = kk
          · subst e;rw [← HD.out]; exact HQ.out
          · exact HA.out j (by omega)
    · (have hltz : ¬ (kk : Int) < (l.length : Int) := by omega);(have : kk = l.length := by omega);subst this;go_wp2;go_ret;refine ⟨?_, HB.out⟩;rw [fidx_miss (d := z61) HA.out];rfl
set_option maxHeartbeats 2000000 in
theorem cf61.calls (A : Option Addr) (c : Nat) (l : List S61) (g : Nat) (lb : Array Value) (p : S61 → Bool) (eg : ∀ args w, (callFunc g args).run Try.prog w = .ok (.enter g args) w) (w : World) (hr : Kd.C k61 w A l.length l)
    (hp : ∀ W (x : S61) cs, Below w.heap.size w W → k61.K W x cs → Calls Try.prog g (#[.agg cs.toArray] ++ lb) W fun e w' => e = .returned (.bool (p x)) ∧ Below W.heap.size W w') :
    Calls Try.prog 56 #[.slice A l.length c, .func (.func g) #[] lb] w fun e w' => e = .returned (.bool (l.any p)) ∧ Below w.heap.size w w' := by
  rw [← fidx_any p l];have HX := Q0.mk (ix61.calls A c l g lb p eg w hr hp);clear hr hp
  go_enter Try.func56, Try.ntmps56
  go_wp2_with (go_at_call 74; refine HX.out.mono ?_; rintro e w' ⟨rfl, hb'⟩);go_ret;exact ⟨rfl, hb'⟩
theorem Yj.one (x : S61) (gb : Nat) (nm : ByteArray) (W : World) (hbk : ∃ cs, W.heap[gb]? = some (.cells cs 61 (0,0)) ∧ cs[0]? = some (.string nm)) :
    Calls Try.prog 71 #[.agg #[.string x.f0, .string x.f1, .bool x.f2, .bool x.f3, .int .i64 x.f4, .int .i64 x.f5, .int .i64 x.f6, .int .i64 x.f7, .int .i64 x.f8], .pointer (some ⟨gb,0,none⟩)] W fun e w' => e = .returned (.bool (x.f0.toList == nm.toList)) ∧ Below W.heap.size W w' := by
  obtain ⟨cs, hb, hn⟩ := hbk;have hc0 : W.cell? ⟨gb, 0, none⟩ = some (.string nm) := (Qz hb 0).trans hn;have hc1 : (W.alloc (.cells #[.string x.f0, .string x.f1, .bool x.f2, .bool x.f3, .int .i64 x.f4, .int .i64 x.f5, .int .i64 x.f6, .int .i64 x.f7, .int .i64 x.f8] 61)).cell? ⟨gb, 0, none⟩ = some (.string nm) := XZ (Q5 (Below.refl _ _) _) hc0;clear hb hn hc0
  go_enter Try.func71, Try.ntmps71
  go_wp2;go_ret;exact ⟨rfl, Q5 (Below.refl _ _) _⟩
def Yj.f (l : List S61) (nm : ByteArray) : Option Bool := some (l.any fun x => x.f0.toList == nm.toList)
theorem Yj.calls (A : Option Addr) (c : Nat) (l : List S61) (gb : Nat) (nm : ByteArray) (r : Bool) (w : World) (hr : Kd.C k61 w A l.length l) (_hc : l.length ≤ c) (hbk : ∃ cs, w.heap[gb]? = some (.cells cs 61 (0,0)) ∧ cs[0]? = some (.string nm)) (h : Yj.f l nm = some r) :
    Calls Try.prog 56 #[.slice A l.length c, .func (.func 71) #[] #[.pointer (some ⟨gb, 0, none⟩)]] w fun e w' => e = .returned (.bool r) ∧ Below w.heap.size w w' := by
  have h := Option.some.inj h;subst h;refine cf61.calls A c l 71 _ (fun x => x.f0.toList == nm.toList) (enters_of Try.func71 (by kernel_rfl) rfl) w hr (fun W x cs hb hK => ?_);obtain rfl := k61_open hK;obtain ⟨cs0, h0, h1⟩ := hbk;exact Yj.one x gb nm W ⟨cs0, Qc h0 hb, h1⟩
end Go.Proofs.Ytakabkjhnncbhaa.PX
