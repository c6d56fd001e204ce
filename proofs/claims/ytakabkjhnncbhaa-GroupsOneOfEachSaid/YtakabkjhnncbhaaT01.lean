/- A part of the proof of a law: its words, walks of functions, or plain lemmas. -/
-- Written by this session's own programs (wip/printx.py, gen_*.py, assemble.py) and by hand.
import Derived.Test.YtakabkjhnncbhaaProg
import Derived.Below
import Derived.Deep.Draws
import Derived.Deep.AppendLies
import Derived.Maps.AppendAt
import Derived.OwnWalk
import Derived.Laws.BytesArg
import Derived.Laws.MakeOwn
import Derived.Laws.OwnMore
import Derived.Deep.OwnRows
import Derived.Tactics
import Derived.Lib.ConvBytes
import Derived.Laws.Slices
import Derived.WalkKit
import Derived.KernelRfl
import Derived.RowKit3
import Derived.Deep.LoopGhost
import Derived.Deep.QuietTactic
import Derived.BigQuiet
import Derived.WideLaws
import Derived.Deep.DeepCutAuto
import Derived.Deep.CutBlock
import Derived.Deep.RegionHeld3
import Derived.Laws.Rows
import Derived.Lib.AppendStr
import Derived.ArgAppend
import Derived.Laws.IdiomCopy
import Derived.OrdersHeld
import Derived.Laws.BitsLemmas
import Derived.RowKit
import Derived.Shelf.Abstract
import Derived.Test.YtakabkjhnncbhaaT00
namespace Go.Proofs.Ytakabkjhnncbhaa.PX
open Go.RowKit Go.Proofs.YtakabkjhnncbhaaW.PrintWords Go.Proofs.YtakabkjhnncbhaaW.PrintLast Go.Proofs.YtakabkjhnncbhaaW.PrintMore
attribute [local go_sem] Xl Xj Xu Xt X7 X6 Xk Xi   -- for this text's walks alone
set_option linter.unusedVariables false
set_option linter.unusedSimpArgs false
def errW : Option Int → Value
  | none => .nilIface
  | some c => .iface 0 (.int .i64 c)
theorem errW_none : errW none = .nilIface := rfl
theorem errW_some (c : Int) : errW (some c) = .iface 0 (.int .i64 c) := rfl
theorem info4 : (Try.prog.info? 4).map (fun i => (i.zero, i.size, i.bytes)) = some (some (.bool false), 1, 1) := by kernel_rfl
theorem info39 : (Try.prog.info? 39).map (fun i => (i.zero, i.size, i.bytes)) = some (some (.slice none 0 0), 1, 24) := by kernel_rfl
theorem info46 : (Try.prog.info? 46).map (fun i => (i.zero, i.size, i.bytes)) = some (some (.agg #[(.string ⟨#[]⟩), (.slice none 0 0), (.slice none 0 0), (.slice none 0 0), (.slice none 0 0), (.slice none 0 0)]), 6, 136) := by kernel_rfl
theorem info61 : (Try.prog.info? 61).map (fun i => (i.zero, i.size, i.bytes)) = some (some (.agg #[(.string ⟨#[]⟩), (.string ⟨#[]⟩), (.bool false), (.bool false), (.int .i64 0), (.int .i64 0), (.int .i64 0), (.int .i64 0), (.int .i64 0)]), 9, 80) := by kernel_rfl
theorem info89 : (Try.prog.info? 89).map (fun i => (i.zero, i.size, i.bytes)) = some (some (.agg #[(.string ⟨#[]⟩), (.int .i64 0), (.int .i64 0), (.slice none 0 0), (.int .i64 0), (.bool false), (.slice none 0 0), (.slice none 0 0), (.slice none 0 0)]), 9, 144) := by kernel_rfl
theorem info137 : (Try.prog.info? 137).map (fun i => (i.zero, i.size, i.bytes)) = some (some (.agg #[(.string ⟨#[]⟩), (.int .i64 0), (.int .i64 0)]), 3, 32) := by kernel_rfl
structure S97 where
  f0 : Int
  f1 : Int
  f2 : Int
  f3 : Int
def z97 : S97 := ⟨(0 : Int), (0 : Int), (0 : Int), (0 : Int)⟩
def k97 : Kd S97 := Kd.iso (Kd.pair (Kd.int .i64) (Kd.pair (Kd.int .i64) (Kd.pair (Kd.int .i64) (Kd.int .i64)))) (fun x : S97 => (x.f0, x.f1, x.f2, x.f3))
theorem k97_open {w : World} {x : S97} {cs : List Value} (h : k97.K w x cs) : cs = [.int .i64 x.f0, .int .i64 x.f1, .int .i64 x.f2, .int .i64 x.f3] := by
  obtain ⟨_, _, rfl, rfl, ⟨_, _, rfl, rfl, ⟨_, _, rfl, rfl, rfl⟩⟩⟩ := h;exact rfl
def Xf (xs : List S97) (i : Int) : S97 := xs.getD i.toNat z97
theorem at_T97 {w : World} {A : Option Addr} {n : Nat} {xs : List S97} (h : Kd.C k97 w A n xs) (i : Int) (h0 : 0 ≤ i) (h1 : i < n) : ∃ ad , A = some ad ∧ w.cell? (ad.add (i.toNat * 4)) = some (.int .i64 (Xf xs i).f0) ∧ w.cell? ⟨(ad.add (i.toNat * 4)).block, (ad.add (i.toNat * 4)).off + 1, none⟩ = some (.int .i64 (Xf xs i).f1) ∧ w.cell? ⟨(ad.add (i.toNat * 4)).block, (ad.add (i.toNat * 4)).off + 2, none⟩ = some (.int .i64 (Xf xs i).f2) ∧ w.cell? ⟨(ad.add (i.toNat * 4)).block, (ad.add (i.toNat * 4)).off + 3, none⟩ = some (.int .i64 (Xf xs i).f3) := by
  obtain ⟨ad, c, e, _, hK, hc0⟩ := Kd.C_get h z97 i h0 h1;have hc : ∀ j u, c[j]? = some u → w.cell? (ad.add (i.toNat * 4 + j)) = some u := hc0;obtain rfl := k97_open hK;exact ⟨ad, e, hc 0 _ rfl, by rw [← Xd _ _ 1 (by omega)]; exact hc 1 _ rfl, by rw [← Xd _ _ 2 (by omega)]; exact hc 2 _ rfl, by rw [← Xd _ _ 3 (by omega)]; exact hc 3 _ rfl⟩
structure S126 where
  f0 : Int
  f1 : Int
  f2 : Int
def z126 : S126 := ⟨(0 : Int), (0 : Int), (0 : Int)⟩
def k126 : Kd S126 := Kd.iso (Kd.pair (Kd.int .i64) (Kd.pair (Kd.int .i64) (Kd.int .i64))) (fun x : S126 => (x.f0, x.f1, x.f2))
theorem k126_open {w : World} {x : S126} {cs : List Value} (h : k126.K w x cs) : cs = [.int .i64 x.f0, .int .i64 x.f1, .int .i64 x.f2] := by
  obtain ⟨_, _, rfl, rfl, ⟨_, _, rfl, rfl, rfl⟩⟩ := h;exact rfl
def Xn (xs : List S126) (i : Int) : S126 := xs.getD i.toNat z126
theorem at_T126 {w : World} {A : Option Addr} {n : Nat} {xs : List S126} (h : Kd.C k126 w A n xs) (i : Int) (h0 : 0 ≤ i) (h1 : i < n) : ∃ ad , A = some ad ∧ w.cell? (ad.add (i.toNat * 3)) = some (.int .i64 (Xn xs i).f0) ∧ w.cell? ⟨(ad.add (i.toNat * 3)).block, (ad.add (i.toNat * 3)).off + 1, none⟩ = some (.int .i64 (Xn xs i).f1) ∧ w.cell? ⟨(ad.add (i.toNat * 3)).block, (ad.add (i.toNat * 3)).off + 2, none⟩ = some (.int .i64 (Xn xs i).f2) := by
  obtain ⟨ad, c, e, _, hK, hc0⟩ := Kd.C_get h z126 i h0 h1;have hc : ∀ j u, c[j]? = some u → w.cell? (ad.add (i.toNat * 3 + j)) = some u := hc0;obtain rfl := k126_open hK;exact ⟨ad, e, hc 0 _ rfl, by rw [← Xd _ _ 1 (by omega)]; exact hc 1 _ rfl, by rw [← Xd _ _ 2 (by omega)]; exact hc 2 _ rfl⟩
structure S128 where
  f0 : Int
  f1 : Int
  f2 : Int
  f3 : Int
def z128 : S128 := ⟨(0 : Int), (0 : Int), (0 : Int), (0 : Int)⟩
def k128 : Kd S128 := Kd.iso (Kd.pair (Kd.int .i64) (Kd.pair (Kd.int .i64) (Kd.pair (Kd.int .i64) (Kd.int .i64)))) (fun x : S128 => (x.f0, x.f1, x.f2, x.f3))
theorem k128_open {w : World} {x : S128} {cs : List Value} (h : k128.K w x cs) : cs = [.int .i64 x.f0, .int .i64 x.f1, .int .i64 x.f2, .int .i64 x.f3] := by
  obtain ⟨_, _, rfl, rfl, ⟨_, _, rfl, rfl, ⟨_, _, rfl, rfl, rfl⟩⟩⟩ := h;exact rfl
def QV (xs : List S128) (i : Int) : S128 := xs.getD i.toNat z128
theorem at_T128 {w : World} {A : Option Addr} {n : Nat} {xs : List S128} (h : Kd.C k128 w A n xs) (i : Int) (h0 : 0 ≤ i) (h1 : i < n) : ∃ ad , A = some ad ∧ w.cell? (ad.add (i.toNat * 4)) = some (.int .i64 (QV xs i).f0) ∧ w.cell? ⟨(ad.add (i.toNat * 4)).block, (ad.add (i.toNat * 4)).off + 1, none⟩ = some (.int .i64 (QV xs i).f1) ∧ w.cell? ⟨(ad.add (i.toNat * 4)).block, (ad.add (i.toNat * 4)).off + 2, none⟩ = some (.int .i64 (QV xs i).f2) ∧ w.cell? ⟨(ad.add (i.toNat * 4)).block, (ad.add (i.toNat * 4)).off + 3, none⟩ = some (.int .i64 (QV xs i).f3) := by
  obtain ⟨ad, c, e, _, hK, hc0⟩ := Kd.C_get h z128 i h0 h1;have hc : ∀ j u, c[j]? = some u → w.cell? (ad.add (i.toNat * 4 + j)) = some u := hc0;obtain rfl := k128_open hK;exact ⟨ad, e, hc 0 _ rfl, by rw [← Xd _ _ 1 (by omega)]; exact hc 1 _ rfl, by rw [← Xd _ _ 2 (by omega)]; exact hc 2 _ rfl, by rw [← Xd _ _ 3 (by omega)]; exact hc 3 _ rfl⟩
structure S89 where
  f0 : ByteArray
  f1 : Int
  f2 : Int
  f3 : (List Int)
  f4 : Int
  f5 : Bool
  f6 : (List S97)
  f7 : (List S126)
  f8 : (List S128)
def z89 : S89 := ⟨(⟨#[]⟩ : ByteArray), (0 : Int), (0 : Int), ([] : List Int), (0 : Int), false, ([] : List S97), ([] : List S126), ([] : List S128)⟩
def k89 : Kd S89 := Kd.iso (Kd.pair Kd.string (Kd.pair (Kd.int .i64) (Kd.pair (Kd.int .i64) (Kd.pair (Kd.slice 5 (Kd.int .u8)) (Kd.pair (Kd.int .i64) (Kd.pair Kd.bool (Kd.pair (Kd.slice 97 k97) (Kd.pair (Kd.slice 126 k126) (Kd.slice 128 k128))))))))) (fun x : S89 => (x.f0, x.f1, x.f2, x.f3, x.f4, x.f5, x.f6, x.f7, x.f8))
theorem k89_open {w : World} {x : S89} {cs : List Value} (h : k89.K w x cs) : ∃ A3 c3 A6 c6 A7 c7 A8 c8, cs = [.string x.f0, .int .i64 x.f1, .int .i64 x.f2, .slice A3 x.f3.length c3, .int .i64 x.f4, .bool x.f5, .slice A6 x.f6.length c6, .slice A7 x.f7.length c7, .slice A8 x.f8.length c8] ∧ x.f3.length ≤ c3 ∧ (Kd.int .u8).C w A3 x.f3.length x.f3 ∧ x.f6.length ≤ c6 ∧ k97.C w A6 x.f6.length x.f6 ∧ x.f7.length ≤ c7 ∧ k126.C w A7 x.f7.length x.f7 ∧ x.f8.length ≤ c8 ∧ k128.C w A8 x.f8.length x.f8 := by
  obtain ⟨_, _, rfl, rfl, ⟨_, _, rfl, rfl, ⟨_, _, rfl, rfl, ⟨_, _, rfl, ⟨A3, c3, rfl, l3, g3⟩, ⟨_, _, rfl, rfl, ⟨_, _, rfl, rfl, ⟨_, _, rfl, ⟨A6, c6, rfl, l6, g6⟩, ⟨_, _, rfl, ⟨A7, c7, rfl, l7, g7⟩, ⟨A8, c8, rfl, l8, g8⟩⟩⟩⟩⟩⟩⟩⟩⟩ := h;exact ⟨A3, c3, A6, c6, A7, c7, A8, c8, rfl, l3, g3, l6, g6, l7, g7, l8, g8⟩
theorem k89_mk (w : World) (x : S89) {A3 : Option Addr} {c3 : Nat} (l3 : x.f3.length ≤ c3) (g3 : (Kd.int .u8).C w A3 x.f3.length x.f3) {A6 : Option Addr} {c6 : Nat} (l6 : x.f6.length ≤ c6) (g6 : k97.C w A6 x.f6.length x.f6) {A7 : Option Addr} {c7 : Nat} (l7 : x.f7.length ≤ c7) (g7 : k126.C w A7 x.f7.length x.f7) {A8 : Option Addr} {c8 : Nat} (l8 : x.f8.length ≤ c8) (g8 : k128.C w A8 x.f8.length x.f8) : k89.K w x [.string x.f0, .int .i64 x.f1, .int .i64 x.f2, .slice A3 x.f3.length c3, .int .i64 x.f4, .bool x.f5, .slice A6 x.f6.length c6, .slice A7 x.f7.length c7, .slice A8 x.f8.length c8] := ⟨[.string x.f0], [.int .i64 x.f1, .int .i64 x.f2, .slice A3 x.f3.length c3, .int .i64 x.f4, .bool x.f5, .slice A6 x.f6.length c6, .slice A7 x.f7.length c7, .slice A8 x.f8.length c8], rfl, rfl, ⟨[.int .i64 x.f1], [.int .i64 x.f2, .slice A3 x.f3.length c3, .int .i64 x.f4, .bool x.f5, .slice A6 x.f6.length c6, .slice A7 x.f7.length c7, .slice A8 x.f8.length c8], rfl, rfl, ⟨[.int .i64 x.f2], [.slice A3 x.f3.length c3, .int .i64 x.f4, .bool x.f5, .slice A6 x.f6.length c6, .slice A7 x.f7.length c7, .slice A8 x.f8.length c8], rfl, rfl, ⟨[.slice A3 x.f3.length c3], [.int .i64 x.f4, .bool x.f5, .slice A6 x.f6.length c6, .slice A7 x.f7.length c7, .slice A8 x.f8.length c8], rfl, ⟨A3, c3, rfl, l3, g3⟩, ⟨[.int .i64 x.f4], [.bool x.f5, .slice A6 x.f6.length c6, .slice A7 x.f7.length c7, .slice A8 x.f8.length c8], rfl, rfl, ⟨[.bool x.f5], [.slice A6 x.f6.length c6, .slice A7 x.f7.length c7, .slice A8 x.f8.length c8], rfl, rfl, ⟨[.slice A6 x.f6.length c6], [.slice A7 x.f7.length c7, .slice A8 x.f8.length c8], rfl, ⟨A6, c6, rfl, l6, g6⟩, ⟨[.slice A7 x.f7.length c7], [.slice A8 x.f8.length c8], rfl, ⟨A7, c7, rfl, l7, g7⟩, ⟨A8, c8, rfl, l8, g8⟩⟩⟩⟩⟩⟩⟩⟩⟩
theorem k89_mkF (W : World) (ok : Nat → Prop) (x : S89) {A3 : Option Addr} {c3 : Nat} (l3 : x.f3.length ≤ c3) (g3 : Kd.F (Kd.int .u8) W ok A3 x.f3.length x.f3) {A6 : Option Addr} {c6 : Nat} (l6 : x.f6.length ≤ c6) (g6 : Kd.F k97 W ok A6 x.f6.length x.f6) {A7 : Option Addr} {c7 : Nat} (l7 : x.f7.length ≤ c7) (g7 : Kd.F k126 W ok A7 x.f7.length x.f7) {A8 : Option Addr} {c8 : Nat} (l8 : x.f8.length ≤ c8) (g8 : Kd.F k128 W ok A8 x.f8.length x.f8) : Kd.FK k89 W ok x [.string x.f0, .int .i64 x.f1, .int .i64 x.f2, .slice A3 x.f3.length c3, .int .i64 x.f4, .bool x.f5, .slice A6 x.f6.length c6, .slice A7 x.f7.length c7, .slice A8 x.f8.length c8] := fun W2 hW => k89_mk W2 x l3 (g3 W2 hW) l6 (g6 W2 hW) l7 (g7 W2 hW) l8 (g8 W2 hW)
def Qg (xs : List S89) (i : Int) : S89 := xs.getD i.toNat z89
theorem Yv {w : World} {A : Option Addr} {n : Nat} {xs : List S89} (h : Kd.C k89 w A n xs) (i : Int) (h0 : 0 ≤ i) (h1 : i < n) : ∃ ad A3 c3 A6 c6 A7 c7 A8 c8, A = some ad ∧ w.cell? (ad.add (i.toNat * 9)) = some (.string (Qg xs i).f0) ∧ w.cell? ⟨(ad.add (i.toNat * 9)).block, (ad.add (i.toNat * 9)).off + 1, none⟩ = some (.int .i64 (Qg xs i).f1) ∧ w.cell? ⟨(ad.add (i.toNat * 9)).block, (ad.add (i.toNat * 9)).off + 2, none⟩ = some (.int .i64 (Qg xs i).f2) ∧ w.cell? ⟨(ad.add (i.toNat * 9)).block, (ad.add (i.toNat * 9)).off + 3, none⟩ = some (.slice A3 (Qg xs i).f3.length c3) ∧ w.cell? ⟨(ad.add (i.toNat * 9)).block, (ad.add (i.toNat * 9)).off + 4, none⟩ = some (.int .i64 (Qg xs i).f4) ∧ w.cell? ⟨(ad.add (i.toNat * 9)).block, (ad.add (i.toNat * 9)).off + 5, none⟩ = some (.bool (Qg xs i).f5) ∧ w.cell? ⟨(ad.add (i.toNat * 9)).block, (ad.add (i.toNat * 9)).off + 6, none⟩ = some (.slice A6 (Qg xs i).f6.length c6) ∧ w.cell? ⟨(ad.add (i.toNat * 9)).block, (ad.add (i.toNat * 9)).off + 7, none⟩ = some (.slice A7 (Qg xs i).f7.length c7) ∧ w.cell? ⟨(ad.add (i.toNat * 9)).block, (ad.add (i.toNat * 9)).off + 8, none⟩ = some (.slice A8 (Qg xs i).f8.length c8) ∧ (Qg xs i).f3.length ≤ c3 ∧ (Kd.int .u8).C w A3 (Qg xs i).f3.length (Qg xs i).f3 ∧ (Qg xs i).f6.length ≤ c6 ∧ k97.C w A6 (Qg xs i).f6.length (Qg xs i).f6 ∧ (Qg xs i).f7.length ≤ c7 ∧ k126.C w A7 (Qg xs i).f7.length (Qg xs i).f7 ∧ (Qg xs i).f8.length ≤ c8 ∧ k128.C w A8 (Qg xs i).f8.length (Qg xs i).f8 := by
  obtain ⟨ad, c, e, _, hK, hc0⟩ := Kd.C_get h z89 i h0 h1;have hc : ∀ j u, c[j]? = some u → w.cell? (ad.add (i.toNat * 9 + j)) = some u := hc0;obtain ⟨A3, c3, A6, c6, A7, c7, A8, c8, rfl, l3, g3, l6, g6, l7, g7, l8, g8⟩ := k89_open hK;exact ⟨ad, A3, c3, A6, c6, A7, c7, A8, c8, e, hc 0 _ rfl, by rw [← Xd _ _ 1 (by omega)]; exact hc 1 _ rfl, by rw [← Xd _ _ 2 (by omega)]; exact hc 2 _ rfl, by rw [← Xd _ _ 3 (by omega)]; exact hc 3 _ rfl, by rw [← Xd _ _ 4 (by omega)]; exact hc 4 _ rfl, by rw [← Xd _ _ 5 (by omega)]; exact hc 5 _ rfl, by rw [← Xd _ _ 6 (by omega)]; exact hc 6 _ rfl, by rw [← Xd _ _ 7 (by omega)]; exact hc 7 _ rfl, by rw [← Xd _ _ 8 (by omega)]; exact hc 8 _ rfl, l3, g3, l6, g6, l7, g7, l8, g8⟩
structure S61 where
  f0 : ByteArray
  f1 : ByteArray
  f2 : Bool
  f3 : Bool
  f4 : Int
  f5 : Int
  f6 : Int
  f7 : Int
  f8 : Int
def z61 : S61 := ⟨(⟨#[]⟩ : ByteArray), (⟨#[]⟩ : ByteArray), false, false, (0 : Int), (0 : Int), (0 : Int), (0 : Int), (0 : Int)⟩
def k61 : Kd S61 := Kd.iso (Kd.pair Kd.string (Kd.pair Kd.string (Kd.pair Kd.bool (Kd.pair Kd.bool (Kd.pair (Kd.int .i64) (Kd.pair (Kd.int .i64) (Kd.pair (Kd.int .i64) (Kd.pair (Kd.int .i64) (Kd.int .i64))))))))) (fun x : S61 => (x.f0, x.f1, x.f2, x.f3, x.f4, x.f5, x.f6, x.f7, x.f8))
theorem k61_open {w : World} {x : S61} {cs : List Value} (h : k61.K w x cs) : cs = [.string x.f0, .string x.f1, .bool x.f2, .bool x.f3, .int .i64 x.f4, .int .i64 x.f5, .int .i64 x.f6, .int .i64 x.f7, .int .i64 x.f8] := by
  obtain ⟨_, _, rfl, rfl, ⟨_, _, rfl, rfl, ⟨_, _, rfl, rfl, ⟨_, _, rfl, rfl, ⟨_, _, rfl, rfl, ⟨_, _, rfl, rfl, ⟨_, _, rfl, rfl, ⟨_, _, rfl, rfl, rfl⟩⟩⟩⟩⟩⟩⟩⟩ := h;exact rfl
theorem k61_mk (w : World) (x : S61)  : k61.K w x [.string x.f0, .string x.f1, .bool x.f2, .bool x.f3, .int .i64 x.f4, .int .i64 x.f5, .int .i64 x.f6, .int .i64 x.f7, .int .i64 x.f8] := ⟨[.string x.f0], [.string x.f1, .bool x.f2, .bool x.f3, .int .i64 x.f4, .int .i64 x.f5, .int .i64 x.f6, .int .i64 x.f7, .int .i64 x.f8], rfl, rfl, ⟨[.string x.f1], [.bool x.f2, .bool x.f3, .int .i64 x.f4, .int .i64 x.f5, .int .i64 x.f6, .int .i64 x.f7, .int .i64 x.f8], rfl, rfl, ⟨[.bool x.f2], [.bool x.f3, .int .i64 x.f4, .int .i64 x.f5, .int .i64 x.f6, .int .i64 x.f7, .int .i64 x.f8], rfl, rfl, ⟨[.bool x.f3], [.int .i64 x.f4, .int .i64 x.f5, .int .i64 x.f6, .int .i64 x.f7, .int .i64 x.f8], rfl, rfl, ⟨[.int .i64 x.f4], [.int .i64 x.f5, .int .i64 x.f6, .int .i64 x.f7, .int .i64 x.f8], rfl, rfl, ⟨[.int .i64 x.f5], [.int .i64 x.f6, .int .i64 x.f7, .int .i64 x.f8], rfl, rfl, ⟨[.int .i64 x.f6], [.int .i64 x.f7, .int .i64 x.f8], rfl, rfl, ⟨[.int .i64 x.f7], [.int .i64 x.f8], rfl, rfl, rfl⟩⟩⟩⟩⟩⟩⟩⟩
def Qd (xs : List S61) (i : Int) : S61 := xs.getD i.toNat z61
theorem at_T61 {w : World} {A : Option Addr} {n : Nat} {xs : List S61} (h : Kd.C k61 w A n xs) (i : Int) (h0 : 0 ≤ i) (h1 : i < n) : ∃ ad , A = some ad ∧ w.cell? (ad.add (i.toNat * 9)) = some (.string (Qd xs i).f0) ∧ w.cell? ⟨(ad.add (i.toNat * 9)).block, (ad.add (i.toNat * 9)).off + 1, none⟩ = some (.string (Qd xs i).f1) ∧ w.cell? ⟨(ad.add (i.toNat * 9)).block, (ad.add (i.toNat * 9)).off + 2, none⟩ = some (.bool (Qd xs i).f2) ∧ w.cell? ⟨(ad.add (i.toNat * 9)).block, (ad.add (i.toNat * 9)).off + 3, none⟩ = some (.bool (Qd xs i).f3) ∧ w.cell? ⟨(ad.add (i.toNat * 9)).block, (ad.add (i.toNat * 9)).off + 4, none⟩ = some (.int .i64 (Qd xs i).f4) ∧ w.cell? ⟨(ad.add (i.toNat * 9)).block, (ad.add (i.toNat * 9)).off + 5, none⟩ = some (.int .i64 (Qd xs i).f5) ∧ w.cell? ⟨(ad.add (i.toNat * 9)).block, (ad.add (i.toNat * 9)).off + 6, none⟩ = some (.int .i64 (Qd xs i).f6) ∧ w.cell? ⟨(ad.add (i.toNat * 9)).block, (ad.add (i.toNat * 9)).off + 7, none⟩ = some (.int .i64 (Qd xs i).f7) ∧ w.cell? ⟨(ad.add (i.toNat * 9)).block, (ad.add (i.toNat * 9)).off + 8, none⟩ = some (.int .i64 (Qd xs i).f8) := by
  obtain ⟨ad, c, e, _, hK, hc0⟩ := Kd.C_get h z61 i h0 h1;have hc : ∀ j u, c[j]? = some u → w.cell? (ad.add (i.toNat * 9 + j)) = some u := hc0;obtain rfl := k61_open hK;exact ⟨ad, e, hc 0 _ rfl, by rw [← Xd _ _ 1 (by omega)]; exact hc 1 _ rfl, by rw [← Xd _ _ 2 (by omega)]; exact hc 2 _ rfl, by rw [← Xd _ _ 3 (by omega)]; exact hc 3 _ rfl, by rw [← Xd _ _ 4 (by omega)]; exact hc 4 _ rfl, by rw [← Xd _ _ 5 (by omega)]; exact hc 5 _ rfl, by rw [← Xd _ _ 6 (by omega)]; exact hc 6 _ rfl, by rw [← Xd _ _ 7 (by omega)]; exact hc 7 _ rfl, by rw [← Xd _ _ 8 (by omega)]; exact hc 8 _ rfl⟩
structure S49 where
  f0 : ByteArray
  f1 : (List Int)
def z49 : S49 := ⟨(⟨#[]⟩ : ByteArray), ([] : List Int)⟩
def k49 : Kd S49 := Kd.iso (Kd.pair Kd.string (Kd.slice 3 (Kd.int .i64))) (fun x : S49 => (x.f0, x.f1))
theorem k49_open {w : World} {x : S49} {cs : List Value} (h : k49.K w x cs) : ∃ A1 c1, cs = [.string x.f0, .slice A1 x.f1.length c1] ∧ x.f1.length ≤ c1 ∧ (Kd.int .i64).C w A1 x.f1.length x.f1 := by
  obtain ⟨_, _, rfl, rfl, ⟨A1, c1, rfl, l1, g1⟩⟩ := h;exact ⟨A1, c1, rfl, l1, g1⟩
theorem k49_mk (w : World) (x : S49) {A1 : Option Addr} {c1 : Nat} (l1 : x.f1.length ≤ c1) (g1 : (Kd.int .i64).C w A1 x.f1.length x.f1) : k49.K w x [.string x.f0, .slice A1 x.f1.length c1] := ⟨[.string x.f0], [.slice A1 x.f1.length c1], rfl, rfl, ⟨A1, c1, rfl, l1, g1⟩⟩
theorem k49_mkF (W : World) (ok : Nat → Prop) (x : S49) {A1 : Option Addr} {c1 : Nat} (l1 : x.f1.length ≤ c1) (g1 : Kd.F (Kd.int .i64) W ok A1 x.f1.length x.f1) : Kd.FK k49 W ok x [.string x.f0, .slice A1 x.f1.length c1] := fun W2 hW => k49_mk W2 x l1 (g1 W2 hW)
def Qa (xs : List S49) (i : Int) : S49 := xs.getD i.toNat z49
theorem at_T49 {w : World} {A : Option Addr} {n : Nat} {xs : List S49} (h : Kd.C k49 w A n xs) (i : Int) (h0 : 0 ≤ i) (h1 : i < n) : ∃ ad A1 c1, A = some ad ∧ w.cell? (ad.add (i.toNat * 2)) = some (.string (Qa xs i).f0) ∧ w.cell? ⟨(ad.add (i.toNat * 2)).block, (ad.add (i.toNat * 2)).off + 1, none⟩ = some (.slice A1 (Qa xs i).f1.length c1) ∧ (Qa xs i).f1.length ≤ c1 ∧ (Kd.int .i64).C w A1 (Qa xs i).f1.length (Qa xs i).f1 := by
  obtain ⟨ad, c, e, _, hK, hc0⟩ := Kd.C_get h z49 i h0 h1;have hc : ∀ j u, c[j]? = some u → w.cell? (ad.add (i.toNat * 2 + j)) = some u := hc0;obtain ⟨A1, c1, rfl, l1, g1⟩ := k49_open hK;exact ⟨ad, A1, c1, e, hc 0 _ rfl, by rw [← Xd _ _ 1 (by omega)]; exact hc 1 _ rfl, l1, g1⟩
structure S137 where
  f0 : ByteArray
  f1 : Int
  f2 : Int
def z137 : S137 := ⟨(⟨#[]⟩ : ByteArray), (0 : Int), (0 : Int)⟩
def k137 : Kd S137 := Kd.iso (Kd.pair Kd.string (Kd.pair (Kd.int .i64) (Kd.int .i64))) (fun x : S137 => (x.f0, x.f1, x.f2))
theorem k137_open {w : World} {x : S137} {cs : List Value} (h : k137.K w x cs) : cs = [.string x.f0, .int .i64 x.f1, .int .i64 x.f2] := by
  obtain ⟨_, _, rfl, rfl, ⟨_, _, rfl, rfl, rfl⟩⟩ := h;exact rfl
theorem k137_mk (w : World) (x : S137)  : k137.K w x [.string x.f0, .int .i64 x.f1, .int .i64 x.f2] := ⟨[.string x.f0], [.int .i64 x.f1, .int .i64 x.f2], rfl, rfl, ⟨[.int .i64 x.f1], [.int .i64 x.f2], rfl, rfl, rfl⟩⟩
def QH (xs : List S137) (i : Int) : S137 := xs.getD i.toNat z137
theorem at_T137 {w : World} {A : Option Addr} {n : Nat} {xs : List S137} (h : Kd.C k137 w A n xs) (i : Int) (h0 : 0 ≤ i) (h1 : i < n) : ∃ ad , A = some ad ∧ w.cell? (ad.add (i.toNat * 3)) = some (.string (QH xs i).f0) ∧ w.cell? ⟨(ad.add (i.toNat * 3)).block, (ad.add (i.toNat * 3)).off + 1, none⟩ = some (.int .i64 (QH xs i).f1) ∧ w.cell? ⟨(ad.add (i.toNat * 3)).block, (ad.add (i.toNat * 3)).off + 2, none⟩ = some (.int .i64 (QH xs i).f2) := by
  obtain ⟨ad, c, e, _, hK, hc0⟩ := Kd.C_get h z137 i h0 h1;have hc : ∀ j u, c[j]? = some u → w.cell? (ad.add (i.toNat * 3 + j)) = some u := hc0;obtain rfl := k137_open hK;exact ⟨ad, e, hc 0 _ rfl, by rw [← Xd _ _ 1 (by omega)]; exact hc 1 _ rfl, by rw [← Xd _ _ 2 (by omega)]; exact hc 2 _ rfl⟩
structure S122 where
  f0 : Int
  f1 : ByteArray
  f2 : Int
  f3 : Int
  f4 : Int
  f5 : (List S137)
def z122 : S122 := ⟨(0 : Int), (⟨#[]⟩ : ByteArray), (0 : Int), (0 : Int), (0 : Int), ([] : List S137)⟩
def k122 : Kd S122 := Kd.iso (Kd.pair (Kd.int .i64) (Kd.pair Kd.string (Kd.pair (Kd.int .i64) (Kd.pair (Kd.int .i64) (Kd.pair (Kd.int .i64) (Kd.slice 137 k137)))))) (fun x : S122 => (x.f0, x.f1, x.f2, x.f3, x.f4, x.f5))
theorem k122_open {w : World} {x : S122} {cs : List Value} (h : k122.K w x cs) : ∃ A5 c5, cs = [.int .i64 x.f0, .string x.f1, .int .i64 x.f2, .int .i64 x.f3, .int .i64 x.f4, .slice A5 x.f5.length c5] ∧ x.f5.length ≤ c5 ∧ k137.C w A5 x.f5.length x.f5 := by
  obtain ⟨_, _, rfl, rfl, ⟨_, _, rfl, rfl, ⟨_, _, rfl, rfl, ⟨_, _, rfl, rfl, ⟨_, _, rfl, rfl, ⟨A5, c5, rfl, l5, g5⟩⟩⟩⟩⟩⟩ := h;exact ⟨A5, c5, rfl, l5, g5⟩
def Q7 (xs : List S122) (i : Int) : S122 := xs.getD i.toNat z122
theorem at_T122 {w : World} {A : Option Addr} {n : Nat} {xs : List S122} (h : Kd.C k122 w A n xs) (i : Int) (h0 : 0 ≤ i) (h1 : i < n) : ∃ ad A5 c5, A = some ad ∧ w.cell? (ad.add (i.toNat * 6)) = some (.int .i64 (Q7 xs i).f0) ∧ w.cell? ⟨(ad.add (i.toNat * 6)).block, (ad.add (i.toNat * 6)).off + 1, none⟩ = some (.string (Q7 xs i).f1) ∧ w.cell? ⟨(ad.add (i.toNat * 6)).block, (ad.add (i.toNat * 6)).off + 2, none⟩ = some (.int .i64 (Q7 xs i).f2) ∧ w.cell? ⟨(ad.add (i.toNat * 6)).block, (ad.add (i.toNat * 6)).off + 3, none⟩ = some (.int .i64 (Q7 xs i).f3) ∧ w.cell? ⟨(ad.add (i.toNat * 6)).block, (ad.add (i.toNat * 6)).off + 4, none⟩ = some (.int .i64 (Q7 xs i).f4) ∧ w.cell? ⟨(ad.add (i.toNat * 6)).block, (ad.add (i.toNat * 6)).off + 5, none⟩ = some (.slice A5 (Q7 xs i).f5.length c5) ∧ (Q7 xs i).f5.length ≤ c5 ∧ k137.C w A5 (Q7 xs i).f5.length (Q7 xs i).f5 := by
  obtain ⟨ad, c, e, _, hK, hc0⟩ := Kd.C_get h z122 i h0 h1;have hc : ∀ j u, c[j]? = some u → w.cell? (ad.add (i.toNat * 6 + j)) = some u := hc0;obtain ⟨A5, c5, rfl, l5, g5⟩ := k122_open hK;exact ⟨ad, A5, c5, e, hc 0 _ rfl, by rw [← Xd _ _ 1 (by omega)]; exact hc 1 _ rfl, by rw [← Xd _ _ 2 (by omega)]; exact hc 2 _ rfl, by rw [← Xd _ _ 3 (by omega)]; exact hc 3 _ rfl, by rw [← Xd _ _ 4 (by omega)]; exact hc 4 _ rfl, by rw [← Xd _ _ 5 (by omega)]; exact hc 5 _ rfl, l5, g5⟩
structure S46 where
  f0 : ByteArray
  f1 : (List S89)
  f2 : (List S61)
  f3 : (List S49)
  f4 : (List ByteArray)
  f5 : (List S122)
def z46 : S46 := ⟨(⟨#[]⟩ : ByteArray), ([] : List S89), ([] : List S61), ([] : List S49), ([] : List ByteArray), ([] : List S122)⟩
def k46 : Kd S46 := Kd.iso (Kd.pair Kd.string (Kd.pair (Kd.slice 89 k89) (Kd.pair (Kd.slice 61 k61) (Kd.pair (Kd.slice 49 k49) (Kd.pair (Kd.slice 9 Kd.string) (Kd.slice 122 k122)))))) (fun x : S46 => (x.f0, x.f1, x.f2, x.f3, x.f4, x.f5))
theorem k46_open {w : World} {x : S46} {cs : List Value} (h : k46.K w x cs) : ∃ A1 c1 A2 c2 A3 c3 A4 c4 A5 c5, cs = [.string x.f0, .slice A1 x.f1.length c1, .slice A2 x.f2.length c2, .slice A3 x.f3.length c3, .slice A4 x.f4.length c4, .slice A5 x.f5.length c5] ∧ x.f1.length ≤ c1 ∧ k89.C w A1 x.f1.length x.f1 ∧ x.f2.length ≤ c2 ∧ k61.C w A2 x.f2.length x.f2 ∧ x.f3.length ≤ c3 ∧ k49.C w A3 x.f3.length x.f3 ∧ x.f4.length ≤ c4 ∧ Kd.string.C w A4 x.f4.length x.f4 ∧ x.f5.length ≤ c5 ∧ k122.C w A5 x.f5.length x.f5 := by
  obtain ⟨_, _, rfl, rfl, ⟨_, _, rfl, ⟨A1, c1, rfl, l1, g1⟩, ⟨_, _, rfl, ⟨A2, c2, rfl, l2, g2⟩, ⟨_, _, rfl, ⟨A3, c3, rfl, l3, g3⟩, ⟨_, _, rfl, ⟨A4, c4, rfl, l4, g4⟩, ⟨A5, c5, rfl, l5, g5⟩⟩⟩⟩⟩⟩ := h;exact ⟨A1, c1, A2, c2, A3, c3, A4, c4, A5, c5, rfl, l1, g1, l2, g2, l3, g3, l4, g4, l5, g5⟩
theorem k46_mk (w : World) (x : S46) {A1 : Option Addr} {c1 : Nat} (l1 : x.f1.length ≤ c1) (g1 : k89.C w A1 x.f1.length x.f1) {A2 : Option Addr} {c2 : Nat} (l2 : x.f2.length ≤ c2) (g2 : k61.C w A2 x.f2.length x.f2) {A3 : Option Addr} {c3 : Nat} (l3 : x.f3.length ≤ c3) (g3 : k49.C w A3 x.f3.length x.f3) {A4 : Option Addr} {c4 : Nat} (l4 : x.f4.length ≤ c4) (g4 : Kd.string.C w A4 x.f4.length x.f4) {A5 : Option Addr} {c5 : Nat} (l5 : x.f5.length ≤ c5) (g5 : k122.C w A5 x.f5.length x.f5) : k46.K w x [.string x.f0, .slice A1 x.f1.length c1, .slice A2 x.f2.length c2, .slice A3 x.f3.length c3, .slice A4 x.f4.length c4, .slice A5 x.f5.length c5] := ⟨[.string x.f0], [.slice A1 x.f1.length c1, .slice A2 x.f2.length c2, .slice A3 x.f3.length c3, .slice A4 x.f4.length c4, .slice A5 x.f5.length c5], rfl, rfl, ⟨[.slice A1 x.f1.length c1], [.slice A2 x.f2.length c2, .slice A3 x.f3.length c3, .slice A4 x.f4.length c4, .slice A5 x.f5.length c5], rfl, ⟨A1, c1, rfl, l1, g1⟩, ⟨[.slice A2 x.f2.length c2], [.slice A3 x.f3.length c3, .slice A4 x.f4.length c4, .slice A5 x.f5.length c5], rfl, ⟨A2, c2, rfl, l2, g2⟩, ⟨[.slice A3 x.f3.length c3], [.slice A4 x.f4.length c4, .slice A5 x.f5.length c5], rfl, ⟨A3, c3, rfl, l3, g3⟩, ⟨[.slice A4 x.f4.length c4], [.slice A5 x.f5.length c5], rfl, ⟨A4, c4, rfl, l4, g4⟩, ⟨A5, c5, rfl, l5, g5⟩⟩⟩⟩⟩⟩
theorem k46_mkF (W : World) (ok : Nat → Prop) (x : S46) {A1 : Option Addr} {c1 : Nat} (l1 : x.f1.length ≤ c1) (g1 : Kd.F k89 W ok A1 x.f1.length x.f1) {A2 : Option Addr} {c2 : Nat} (l2 : x.f2.length ≤ c2) (g2 : Kd.F k61 W ok A2 x.f2.length x.f2) {A3 : Option Addr} {c3 : Nat} (l3 : x.f3.length ≤ c3) (g3 : Kd.F k49 W ok A3 x.f3.length x.f3) {A4 : Option Addr} {c4 : Nat} (l4 : x.f4.length ≤ c4) (g4 : Kd.F Kd.string W ok A4 x.f4.length x.f4) {A5 : Option Addr} {c5 : Nat} (l5 : x.f5.length ≤ c5) (g5 : Kd.F k122 W ok A5 x.f5.length x.f5) : Kd.FK k46 W ok x [.string x.f0, .slice A1 x.f1.length c1, .slice A2 x.f2.length c2, .slice A3 x.f3.length c3, .slice A4 x.f4.length c4, .slice A5 x.f5.length c5] := fun W2 hW => k46_mk W2 x l1 (g1 W2 hW) l2 (g2 W2 hW) l3 (g3 W2 hW) l4 (g4 W2 hW) l5 (g5 W2 hW)
def Q3 (xs : List S46) (i : Int) : S46 := xs.getD i.toNat z46
theorem XP {w : World} {A : Option Addr} {n : Nat} {xs : List S46} (h : Kd.C k46 w A n xs) (i : Int) (h0 : 0 ≤ i) (h1 : i < n) : ∃ ad A1 c1 A2 c2 A3 c3 A4 c4 A5 c5, A = some ad ∧ w.cell? (ad.add (i.toNat * 6)) = some (.string (Q3 xs i).f0) ∧ w.cell? ⟨(ad.add (i.toNat * 6)).block, (ad.add (i.toNat * 6)).off + 1, none⟩ = some (.slice A1 (Q3 xs i).f1.length c1) ∧ w.cell? ⟨(ad.add (i.toNat * 6)).block, (ad.add (i.toNat * 6)).off + 2, none⟩ = some (.slice A2 (Q3 xs i).f2.length c2) ∧ w.cell? ⟨(ad.add (i.toNat * 6)).block, (ad.add (i.toNat * 6)).off + 3, none⟩ = some (.slice A3 (Q3 xs i).f3.length c3) ∧ w.cell? ⟨(ad.add (i.toNat * 6)).block, (ad.add (i.toNat * 6)).off + 4, none⟩ = some (.slice A4 (Q3 xs i).f4.length c4) ∧ w.cell? ⟨(ad.add (i.toNat * 6)).block, (ad.add (i.toNat * 6)).off + 5, none⟩ = some (.slice A5 (Q3 xs i).f5.length c5) ∧ (Q3 xs i).f1.length ≤ c1 ∧ k89.C w A1 (Q3 xs i).f1.length (Q3 xs i).f1 ∧ (Q3 xs i).f2.length ≤ c2 ∧ k61.C w A2 (Q3 xs i).f2.length (Q3 xs i).f2 ∧ (Q3 xs i).f3.length ≤ c3 ∧ k49.C w A3 (Q3 xs i).f3.length (Q3 xs i).f3 ∧ (Q3 xs i).f4.length ≤ c4 ∧ Kd.string.C w A4 (Q3 xs i).f4.length (Q3 xs i).f4 ∧ (Q3 xs i).f5.length ≤ c5 ∧ k122.C w A5 (Q3 xs i).f5.length (Q3 xs i).f5 := by
  obtain ⟨ad, c, e, _, hK, hc0⟩ := Kd.C_get h z46 i h0 h1;have hc : ∀ j u, c[j]? = some u → w.cell? (ad.add (i.toNat * 6 + j)) = some u := hc0;obtain ⟨A1, c1, A2, c2, A3, c3, A4, c4, A5, c5, rfl, l1, g1, l2, g2, l3, g3, l4, g4, l5, g5⟩ := k46_open hK;exact ⟨ad, A1, c1, A2, c2, A3, c3, A4, c4, A5, c5, e, hc 0 _ rfl, by rw [← Xd _ _ 1 (by omega)]; exact hc 1 _ rfl, by rw [← Xd _ _ 2 (by omega)]; exact hc 2 _ rfl, by rw [← Xd _ _ 3 (by omega)]; exact hc 3 _ rfl, by rw [← Xd _ _ 4 (by omega)]; exact hc 4 _ rfl, by rw [← Xd _ _ 5 (by omega)]; exact hc 5 _ rfl, l1, g1, l2, g2, l3, g3, l4, g4, l5, g5⟩
def Qs (xs : List (List Bool)) (i : Int) : (List Bool) := xs.getD i.toNat ([] : List Bool)
theorem XQ {w : World} {A : Option Addr} {n : Nat} {xs : List (List Bool)} (h : Kd.C (Kd.slice 4 Kd.bool) w A n xs) (i : Int) (h0 : 0 ≤ i) (h1 : i < n) : ∃ ad A0 c0, A = some ad ∧ w.cell? (ad.add i.toNat) = some (.slice A0 (Qs xs i).length c0) ∧ (Qs xs i).length ≤ c0 ∧ Kd.bool.C w A0 (Qs xs i).length (Qs xs i) := by
  obtain ⟨ad, c, e, _, hK, hc0⟩ := Kd.C_get h ([] : List Bool) i h0 h1;have hc : ∀ j u, c[j]? = some u → w.cell? (ad.add (i.toNat * 1 + j)) = some u := hc0;obtain ⟨A0, c0, rfl, l0, g0⟩ := hK;exact ⟨ad, A0, c0, e, by have hq := hc 0 _ rfl; rwa [Nat.mul_one, Nat.add_zero] at hq, l0, g0⟩
theorem QA {w : World} {g : Nat} {t : TypeId} {v0 v1 : Value} (h : w.heap[g]? = some (.cells #[v0, v1] t (0, 0))) : w.cell? ⟨g, 0, none⟩ = some v0 ∧ w.cell? ⟨g, 1, none⟩ = some v1 := ⟨(Qz h 0).trans rfl, (Qz h 1).trans rfl⟩
theorem Qt {w : World} {g : Nat} {t : TypeId} {cs : Array Value} (h : w.heap[g]? = some (.cells cs t (0, 0))) : w.frozen? ⟨g, 0, none⟩ = false ∧ w.frozen? ⟨g, 1, none⟩ = false := ⟨X3 h 0, X3 h 1⟩
theorem cells3 {w : World} {g : Nat} {t : TypeId} {v0 v1 v2 : Value} (h : w.heap[g]? = some (.cells #[v0, v1, v2] t (0, 0))) : w.cell? ⟨g, 0, none⟩ = some v0 ∧ w.cell? ⟨g, 1, none⟩ = some v1 ∧ w.cell? ⟨g, 2, none⟩ = some v2 := ⟨(Qz h 0).trans rfl, (Qz h 1).trans rfl, (Qz h 2).trans rfl⟩
theorem frozen3 {w : World} {g : Nat} {t : TypeId} {cs : Array Value} (h : w.heap[g]? = some (.cells cs t (0, 0))) : w.frozen? ⟨g, 0, none⟩ = false ∧ w.frozen? ⟨g, 1, none⟩ = false ∧ w.frozen? ⟨g, 2, none⟩ = false := ⟨X3 h 0, X3 h 1, X3 h 2⟩
theorem Y6 {w : World} {g : Nat} {t : TypeId} {v0 v1 v2 v3 : Value} (h : w.heap[g]? = some (.cells #[v0, v1, v2, v3] t (0, 0))) : w.cell? ⟨g, 0, none⟩ = some v0 ∧ w.cell? ⟨g, 1, none⟩ = some v1 ∧ w.cell? ⟨g, 2, none⟩ = some v2 ∧ w.cell? ⟨g, 3, none⟩ = some v3 := ⟨(Qz h 0).trans rfl, (Qz h 1).trans rfl, (Qz h 2).trans rfl, (Qz h 3).trans rfl⟩
theorem frozen4 {w : World} {g : Nat} {t : TypeId} {cs : Array Value} (h : w.heap[g]? = some (.cells cs t (0, 0))) : w.frozen? ⟨g, 0, none⟩ = false ∧ w.frozen? ⟨g, 1, none⟩ = false ∧ w.frozen? ⟨g, 2, none⟩ = false ∧ w.frozen? ⟨g, 3, none⟩ = false := ⟨X3 h 0, X3 h 1, X3 h 2, X3 h 3⟩
theorem QF {w : World} {g : Nat} {t : TypeId} {v0 v1 v2 v3 v4 v5 : Value} (h : w.heap[g]? = some (.cells #[v0, v1, v2, v3, v4, v5] t (0, 0))) : w.cell? ⟨g, 0, none⟩ = some v0 ∧ w.cell? ⟨g, 1, none⟩ = some v1 ∧ w.cell? ⟨g, 2, none⟩ = some v2 ∧ w.cell? ⟨g, 3, none⟩ = some v3 ∧ w.cell? ⟨g, 4, none⟩ = some v4 ∧ w.cell? ⟨g, 5, none⟩ = some v5 := ⟨(Qz h 0).trans rfl, (Qz h 1).trans rfl, (Qz h 2).trans rfl, (Qz h 3).trans rfl, (Qz h 4).trans rfl, (Qz h 5).trans rfl⟩
theorem QT {w : World} {g : Nat} {t : TypeId} {cs : Array Value} (h : w.heap[g]? = some (.cells cs t (0, 0))) : w.frozen? ⟨g, 0, none⟩ = false ∧ w.frozen? ⟨g, 1, none⟩ = false ∧ w.frozen? ⟨g, 2, none⟩ = false ∧ w.frozen? ⟨g, 3, none⟩ = false ∧ w.frozen? ⟨g, 4, none⟩ = false ∧ w.frozen? ⟨g, 5, none⟩ = false := ⟨X3 h 0, X3 h 1, X3 h 2, X3 h 3, X3 h 4, X3 h 5⟩
theorem Xh {w : World} {g : Nat} {t : TypeId} {v0 v1 v2 v3 v4 v5 v6 v7 v8 : Value} (h : w.heap[g]? = some (.cells #[v0, v1, v2, v3, v4, v5, v6, v7, v8] t (0, 0))) : w.cell? ⟨g, 0, none⟩ = some v0 ∧ w.cell? ⟨g, 1, none⟩ = some v1 ∧ w.cell? ⟨g, 2, none⟩ = some v2 ∧ w.cell? ⟨g, 3, none⟩ = some v3 ∧ w.cell? ⟨g, 4, none⟩ = some v4 ∧ w.cell? ⟨g, 5, none⟩ = some v5 ∧ w.cell? ⟨g, 6, none⟩ = some v6 ∧ w.cell? ⟨g, 7, none⟩ = some v7 ∧ w.cell? ⟨g, 8, none⟩ = some v8 := ⟨(Qz h 0).trans rfl, (Qz h 1).trans rfl, (Qz h 2).trans rfl, (Qz h 3).trans rfl, (Qz h 4).trans rfl, (Qz h 5).trans rfl, (Qz h 6).trans rfl, (Qz h 7).trans rfl, (Qz h 8).trans rfl⟩
theorem Yt {w : World} {g : Nat} {t : TypeId} {cs : Array Value} (h : w.heap[g]? = some (.cells cs t (0, 0))) : w.frozen? ⟨g, 0, none⟩ = false ∧ w.frozen? ⟨g, 1, none⟩ = false ∧ w.frozen? ⟨g, 2, none⟩ = false ∧ w.frozen? ⟨g, 3, none⟩ = false ∧ w.frozen? ⟨g, 4, none⟩ = false ∧ w.frozen? ⟨g, 5, none⟩ = false ∧ w.frozen? ⟨g, 6, none⟩ = false ∧ w.frozen? ⟨g, 7, none⟩ = false ∧ w.frozen? ⟨g, 8, none⟩ = false := ⟨X3 h 0, X3 h 1, X3 h 2, X3 h 3, X3 h 4, X3 h 5, X3 h 6, X3 h 7, X3 h 8⟩
theorem cup {w W : World} {a : Addr} {v : Value} (h : Below w.heap.size w W) (hc : w.cell? a = some v) : W.cell? a = some v := (h.cell (World.block_lt_of_cell? w _ hc)).trans hc
theorem far1 {W W' : World} {g : Nat} {v0 : Value} (hw : W' = (W.setCell ⟨g, 0, none⟩ v0)) {h : Nat} {t : TypeId} {cs : Array Value} (H : W.heap[h]? = some (.cells cs t (0, 0))) (hn : h ≠ g) : W'.heap[h]? = some (.cells cs t (0, 0)) := by rw [hw]; exact (Xz H hn _)
theorem put1 {W W' : World} {g : Nat} {v0 : Value} (hw : W' = (W.setCell ⟨g, 0, none⟩ v0)) {u0 : Value} {t : TypeId} (H : W.heap[g]? = some (.cells #[u0] t (0, 0))) : W'.heap[g]? = some (.cells #[v0] t (0, 0)) := by rw [hw]; exact (Xe (cs := #[u0]) H 0 _ rfl)
theorem bel1 {W W' : World} {g : Nat} {v0 : Value} (hw : W' = (W.setCell ⟨g, 0, none⟩ v0)) {w : World} (H : Below w.heap.size w W) (hg : w.heap.size ≤ g) : Below w.heap.size w W' := by rw [hw]; exact (Q1 H hg)
theorem far2 {W W' : World} {g : Nat} {v0 v1 : Value} (hw : W' = ((W.setCell ⟨g, 0, none⟩ v0).setCell ⟨g, 1, none⟩ v1)) {h : Nat} {t : TypeId} {cs : Array Value} (H : W.heap[h]? = some (.cells cs t (0, 0))) (hn : h ≠ g) : W'.heap[h]? = some (.cells cs t (0, 0)) := by rw [hw]; exact (Xz (Xz H hn _) hn _)
theorem put2 {W W' : World} {g : Nat} {v0 v1 : Value} (hw : W' = ((W.setCell ⟨g, 0, none⟩ v0).setCell ⟨g, 1, none⟩ v1)) {u0 u1 : Value} {t : TypeId} (H : W.heap[g]? = some (.cells #[u0, u1] t (0, 0))) : W'.heap[g]? = some (.cells #[v0, v1] t (0, 0)) := by rw [hw]; exact (Xe (cs := #[v0, u1]) (Xe (cs := #[u0, u1]) H 0 _ rfl) 1 _ rfl)
theorem bel2 {W W' : World} {g : Nat} {v0 v1 : Value} (hw : W' = ((W.setCell ⟨g, 0, none⟩ v0).setCell ⟨g, 1, none⟩ v1)) {w : World} (H : Below w.heap.size w W) (hg : w.heap.size ≤ g) : Below w.heap.size w W' := by rw [hw]; exact (Q1 (Q1 H hg) hg)
theorem far3 {W W' : World} {g : Nat} {v0 v1 v2 : Value} (hw : W' = (((W.setCell ⟨g, 0, none⟩ v0).setCell ⟨g, 1, none⟩ v1).setCell ⟨g, 2, none⟩ v2)) {h : Nat} {t : TypeId} {cs : Array Value} (H : W.heap[h]? = some (.cells cs t (0, 0))) (hn : h ≠ g) : W'.heap[h]? = some (.cells cs t (0, 0)) := by rw [hw]; exact (Xz (Xz (Xz H hn _) hn _) hn _)
theorem put3 {W W' : World} {g : Nat} {v0 v1 v2 : Value} (hw : W' = (((W.setCell ⟨g, 0, none⟩ v0).setCell ⟨g, 1, none⟩ v1).setCell ⟨g, 2, none⟩ v2)) {u0 u1 u2 : Value} {t : TypeId} (H : W.heap[g]? = some (.cells #[u0, u1, u2] t (0, 0))) : W'.heap[g]? = some (.cells #[v0, v1, v2] t (0, 0)) := by rw [hw]; exact (Xe (cs := #[v0, v1, u2]) (Xe (cs := #[v0, u1, u2]) (Xe (cs := #[u0, u1, u2]) H 0 _ rfl) 1 _ rfl) 2 _ rfl)
theorem bel3 {W W' : World} {g : Nat} {v0 v1 v2 : Value} (hw : W' = (((W.setCell ⟨g, 0, none⟩ v0).setCell ⟨g, 1, none⟩ v1).setCell ⟨g, 2, none⟩ v2)) {w : World} (H : Below w.heap.size w W) (hg : w.heap.size ≤ g) : Below w.heap.size w W' := by rw [hw]; exact (Q1 (Q1 (Q1 H hg) hg) hg)
theorem far4 {W W' : World} {g : Nat} {v0 v1 v2 v3 : Value} (hw : W' = ((((W.setCell ⟨g, 0, none⟩ v0).setCell ⟨g, 1, none⟩ v1).setCell ⟨g, 2, none⟩ v2).setCell ⟨g, 3, none⟩ v3)) {h : Nat} {t : TypeId} {cs : Array Value} (H : W.heap[h]? = some (.cells cs t (0, 0))) (hn : h ≠ g) : W'.heap[h]? = some (.cells cs t (0, 0)) := by rw [hw]; exact (Xz (Xz (Xz (Xz H hn _) hn _) hn _) hn _)
theorem put4 {W W' : World} {g : Nat} {v0 v1 v2 v3 : Value} (hw : W' = ((((W.setCell ⟨g, 0, none⟩ v0).setCell ⟨g, 1, none⟩ v1).setCell ⟨g, 2, none⟩ v2).setCell ⟨g, 3, none⟩ v3)) {u0 u1 u2 u3 : Value} {t : TypeId} (H : W.heap[g]? = some (.cells #[u0, u1, u2, u3] t (0, 0))) : W'.heap[g]? = some (.cells #[v0, v1, v2, v3] t (0, 0)) := by rw [hw]; exact (Xe (cs := #[v0, v1, v2, u3]) (Xe (cs := #[v0, v1, u2, u3]) (Xe (cs := #[v0, u1, u2, u3]) (Xe (cs := #[u0, u1, u2, u3]) H 0 _ rfl) 1 _ rfl) 2 _ rfl) 3 _ rfl)
theorem bel4 {W W' : World} {g : Nat} {v0 v1 v2 v3 : Value} (hw : W' = ((((W.setCell ⟨g, 0, none⟩ v0).setCell ⟨g, 1, none⟩ v1).setCell ⟨g, 2, none⟩ v2).setCell ⟨g, 3, none⟩ v3)) {w : World} (H : Below w.heap.size w W) (hg : w.heap.size ≤ g) : Below w.heap.size w W' := by rw [hw]; exact (Q1 (Q1 (Q1 (Q1 H hg) hg) hg) hg)
theorem far6 {W W' : World} {g : Nat} {v0 v1 v2 v3 v4 v5 : Value} (hw : W' = ((((((W.setCell ⟨g, 0, none⟩ v0).setCell ⟨g, 1, none⟩ v1).setCell ⟨g, 2, none⟩ v2).setCell ⟨g, 3, none⟩ v3).setCell ⟨g, 4, none⟩ v4).setCell ⟨g, 5, none⟩ v5)) {h : Nat} {t : TypeId} {cs : Array Value} (H : W.heap[h]? = some (.cells cs t (0, 0))) (hn : h ≠ g) : W'.heap[h]? = some (.cells cs t (0, 0)) := by rw [hw]; exact (Xz (Xz (Xz (Xz (Xz (Xz H hn _) hn _) hn _) hn _) hn _) hn _)
theorem put6 {W W' : World} {g : Nat} {v0 v1 v2 v3 v4 v5 : Value} (hw : W' = ((((((W.setCell ⟨g, 0, none⟩ v0).setCell ⟨g, 1, none⟩ v1).setCell ⟨g, 2, none⟩ v2).setCell ⟨g, 3, none⟩ v3).setCell ⟨g, 4, none⟩ v4).setCell ⟨g, 5, none⟩ v5)) {u0 u1 u2 u3 u4 u5 : Value} {t : TypeId} (H : W.heap[g]? = some (.cells #[u0, u1, u2, u3, u4, u5] t (0, 0))) : W'.heap[g]? = some (.cells #[v0, v1, v2, v3, v4, v5] t (0, 0)) := by rw [hw]; exact (Xe (cs := #[v0, v1, v2, v3, v4, u5]) (Xe (cs := #[v0, v1, v2, v3, u4, u5]) (Xe (cs := #[v0, v1, v2, u3, u4, u5]) (Xe (cs := #[v0, v1, u2, u3, u4, u5]) (Xe (cs := #[v0, u1, u2, u3, u4, u5]) (Xe (cs := #[u0, u1, u2, u3, u4, u5]) H 0 _ rfl) 1 _ rfl) 2 _ rfl) 3 _ rfl) 4 _ rfl) 5 _ rfl)
theorem bel6 {W W' : World} {g : Nat} {v0 v1 v2 v3 v4 v5 : Value} (hw : W' = ((((((W.setCell ⟨g, 0, none⟩ v0).setCell ⟨g, 1, none⟩ v1).setCell ⟨g, 2, none⟩ v2).setCell ⟨g, 3, none⟩ v3).setCell ⟨g, 4, none⟩ v4).setCell ⟨g, 5, none⟩ v5)) {w : World} (H : Below w.heap.size w W) (hg : w.heap.size ≤ g) : Below w.heap.size w W' := by rw [hw]; exact (Q1 (Q1 (Q1 (Q1 (Q1 (Q1 H hg) hg) hg) hg) hg) hg)
theorem far9 {W W' : World} {g : Nat} {v0 v1 v2 v3 v4 v5 v6 v7 v8 : Value} (hw : W' = (((((((((W.setCell ⟨g, 0, none⟩ v0).setCell ⟨g, 1, none⟩ v1).setCell ⟨g, 2, none⟩ v2).setCell ⟨g, 3, none⟩ v3).setCell ⟨g, 4, none⟩ v4).setCell ⟨g, 5, none⟩ v5).setCell ⟨g, 6, none⟩ v6).setCell ⟨g, 7, none⟩ v7).setCell ⟨g, 8, none⟩ v8)) {h : Nat} {t : TypeId} {cs : Array Value} (H : W.heap[h]? = some (.cells cs t (0, 0))) (hn : h ≠ g) : W'.heap[h]? = some (.cells cs t (0, 0)) := by rw [hw]; exact (Xz (Xz (Xz (Xz (Xz (Xz (Xz (Xz (Xz H hn _) hn _) hn _) hn _) hn _) hn _) hn _) hn _) hn _)
theorem put9 {W W' : World} {g : Nat} {v0 v1 v2 v3 v4 v5 v6 v7 v8 : Value} (hw : W' = (((((((((W.setCell ⟨g, 0, none⟩ v0).setCell ⟨g, 1, none⟩ v1).setCell ⟨g, 2, none⟩ v2).setCell ⟨g, 3, none⟩ v3).setCell ⟨g, 4, none⟩ v4).setCell ⟨g, 5, none⟩ v5).setCell ⟨g, 6, none⟩ v6).setCell ⟨g, 7, none⟩ v7).setCell ⟨g, 8, none⟩ v8)) {u0 u1 u2 u3 u4 u5 u6 u7 u8 : Value} {t : TypeId} (H : W.heap[g]? = some (.cells #[u0, u1, u2, u3, u4, u5, u6, u7, u8] t (0, 0))) : W'.heap[g]? = some (.cells #[v0, v1, v2, v3, v4, v5, v6, v7, v8] t (0, 0)) := by rw [hw]; exact (Xe (cs := #[v0, v1, v2, v3, v4, v5, v6, v7, u8]) (Xe (cs := #[v0, v1, v2, v3, v4, v5, v6, u7, u8]) (Xe (cs := #[v0, v1, v2, v3, v4, v5, u6, u7, u8]) (Xe (cs := #[v0, v1, v2, v3, v4, u5, u6, u7, u8]) (Xe (cs := #[v0, v1, v2, v3, u4, u5, u6, u7, u8]) (Xe (cs := #[v0, v1, v2, u3, u4, u5, u6, u7, u8]) (Xe (cs := #[v0, v1, u2, u3, u4, u5, u6, u7, u8]) (Xe (cs := #[v0, u1, u2, u3, u4, u5, u6, u7, u8]) (Xe (cs := #[u0, u1, u2, u3, u4, u5, u6, u7, u8]) H 0 _ rfl) 1 _ rfl) 2 _ rfl) 3 _ rfl) 4 _ rfl) 5 _ rfl) 6 _ rfl) 7 _ rfl) 8 _ rfl)
theorem bel9 {W W' : World} {g : Nat} {v0 v1 v2 v3 v4 v5 v6 v7 v8 : Value} (hw : W' = (((((((((W.setCell ⟨g, 0, none⟩ v0).setCell ⟨g, 1, none⟩ v1).setCell ⟨g, 2, none⟩ v2).setCell ⟨g, 3, none⟩ v3).setCell ⟨g, 4, none⟩ v4).setCell ⟨g, 5, none⟩ v5).setCell ⟨g, 6, none⟩ v6).setCell ⟨g, 7, none⟩ v7).setCell ⟨g, 8, none⟩ v8)) {w : World} (H : Below w.heap.size w W) (hg : w.heap.size ≤ g) : Below w.heap.size w W' := by rw [hw]; exact (Q1 (Q1 (Q1 (Q1 (Q1 (Q1 (Q1 (Q1 (Q1 H hg) hg) hg) hg) hg) hg) hg) hg) hg)
end Go.Proofs.Ytakabkjhnncbhaa.PX
namespace Go.Proofs.Ytakabkjhnncbhaa.PX
open Go.RowKit Go.Proofs.YtakabkjhnncbhaaW.PrintWords Go.Proofs.YtakabkjhnncbhaaW.PrintLast Go.Proofs.YtakabkjhnncbhaaW.PrintMore
attribute [local go_sem] Xl Xj Xu Xt X7 X6 Xk Xi   -- for this text's walks alone
set_option linter.unusedVariables false
set_option linter.unusedSimpArgs false
theorem eqA24 (d : Nat) (w : World) (x0 y0 : Int) (x1 y1 : Int) :
    (Op.equalIn (d + 2) 24 (.agg #[.int .i64 x0, .int .i64 x1]) (.agg #[.int .i64 y0, .int .i64 y1])).run Try.prog w = .ok (x0 == y0 && (x1 == y1)) w := by
  refine eqA_of Try.underlying24 (by kernel_rfl) ?_;refine eqf_cons (by rfl) (by go_simp; rfl) (by go_simp; rfl) (by go_simp) ?_;exact eqf_last (by rfl) (by go_simp; rfl) (by go_simp; rfl) (by go_simp)
end Go.Proofs.Ytakabkjhnncbhaa.PX
namespace Go.Proofs.Ytakabkjhnncbhaa.PX
open Go.RowKit Go.Proofs.YtakabkjhnncbhaaW.PrintWords Go.Proofs.YtakabkjhnncbhaaW.PrintLast Go.Proofs.YtakabkjhnncbhaaW.PrintMore
attribute [local go_sem] Xl Xj Xu Xt X7 X6 Xk Xi   -- for this text's walks alone
set_option linter.unusedVariables false
set_option linter.unusedSimpArgs false
def QZ.f (a0 : Int) : Option (Bool) := if a0 ≥ 48 then (some (decide (a0 ≤ 57))) else (some false)
set_option maxHeartbeats 8000000 in
set_option maxRecDepth 100000 in
theorem QZ.calls (a0 : Int) (r : Bool) (w : World) (h : QZ.f a0 = some r) :
  Calls Try.prog 63 #[.int .u8 a0] w fun e w' => e = .returned (.bool r) ∧ QM w w' := by
 have H := h;clear h;unfold QZ.f at H;(try dsimp only at H);by_cases c2 : a0 ≥ 48
 ·rw [if_pos c2] at H;have c2b0 : decide (48 ≤ a0) = true := decide_eq_true c2;clear c2;obtain rfl := Option.some.inj H
  go_enter Try.func63, Try.ntmps63
  go_wp2;go_ret;exact ⟨by first | rfl | (simp; done) | (simp [*]; done), by repeat (first | exact QM.refl _ | apply QM.step)⟩
 ·rw [if_neg c2] at H;have c2b0 : decide (48 ≤ a0) = false := decide_eq_false c2;clear c2;obtain rfl := Option.some.inj H
  go_enter Try.func63, Try.ntmps63
  go_wp2;go_ret;exact ⟨by first | rfl | (simp; done) | (simp [*]; done), by repeat (first | exact QM.refl _ | apply QM.step)⟩
end Go.Proofs.Ytakabkjhnncbhaa.PX
namespace Go.Proofs.Ytakabkjhnncbhaa.PX
open Go.RowKit Go.Proofs.YtakabkjhnncbhaaW.PrintWords Go.Proofs.YtakabkjhnncbhaaW.PrintLast Go.Proofs.YtakabkjhnncbhaaW.PrintMore
attribute [local go_sem] Xl Xj Xu Xt X7 X6 Xk Xi   -- for this text's walks alone
set_option linter.unusedVariables false
set_option linter.unusedSimpArgs false
def XH.f (a0 : Int) : Option (Bool) := if a0 ≥ 97 then (if a0 ≤ 122 then (some true) else (if a0 ≥ 65 then (if a0 ≤ 90 then (some true) else ((QZ.f a0).bind fun t102 => (if t102 = true then (some true) else (if a0 = 46 then (some true) else (if a0 = 95 then (some true) else (some (a0 == 36))))))) else ((QZ.f a0).bind fun t103 => (if t103 = true then (some true) else (if a0 = 46 then (some true) else (if a0 = 95 then (some true) else (some (a0 == 36)))))))) else (if a0 ≥ 65 then (if a0 ≤ 90 then (some true) else ((QZ.f a0).bind fun t104 => (if t104 = true then (some true) else (if a0 = 46 then (some true) else (if a0 = 95 then (some true) else (some (a0 == 36))))))) else ((QZ.f a0).bind fun t105 => (if t105 = true then (some true) else (if a0 = 46 then (some true) else (if a0 = 95 then (some true) else (some (a0 == 36)))))))
set_option maxHeartbeats 8000000 in
set_option maxRecDepth 100000 in
theorem XH.calls (a0 : Int) (r : Bool) (w : World) (h : XH.f a0 = some r) :
  Calls Try.prog 62 #[.int .u8 a0] w fun e w' => e = .returned (.bool r) ∧ QM w w' := by
 have H := h;clear h;unfold XH.f at H;(try dsimp only at H);by_cases c2 : a0 ≥ 97
 ·rw [if_pos c2] at H;have c2b0 : decide (97 ≤ a0) = true := decide_eq_true c2;clear c2;by_cases c3 : a0 ≤ 122
  ·rw [if_pos c3] at H;have c3b0 : decide (a0 ≤ 122) = true := decide_eq_true c3;clear c3;obtain rfl := Option.some.inj H
   go_enter Try.func62, Try.ntmps62
   go_wp2;go_ret;exact ⟨by first | rfl | (simp; done) | (simp [*]; done), by repeat (first | exact QM.refl _ | apply QM.step)⟩
  ·rw [if_neg c3] at H;have c3b0 : decide (a0 ≤ 122) = false := decide_eq_false c3;clear c3;by_cases c4 : a0 ≥ 65
   ·rw [if_pos c4] at H;have c4b0 : decide (65 ≤ a0) = true := decide_eq_true c4;clear c4;by_cases c5 : a0 ≤ 90
    ·rw [if_pos c5] at H;have c5b0 : decide (a0 ≤ 90) = true := decide_eq_true c5;clear c5;obtain rfl := Option.some.inj H
     go_enter Try.func62, Try.ntmps62
     go_wp2;go_ret;exact ⟨by first | rfl | (simp; done) | (simp [*]; done), by repeat (first | exact QM.refl _ | apply QM.step)⟩
    ·rw [if_neg c5] at H;have c5b0 : decide (a0 ≤ 90) = false := decide_eq_false c5;clear c5;replace H := Option.bind_eq_some_iff.mp H;obtain ⟨t102, A60, H⟩ := H;(try dsimp only at H);have A6 := Q0.mk A60;clear A60;by_cases c7 : t102 = true
     ·subst c7;rw [if_pos rfl] at H;obtain rfl := Option.some.inj H
      go_enter Try.func62, Try.ntmps62
      go_wp2_with (first | (go_at_call 63; (with_reducible refine (QZ.calls a0 true _ A6.out).mono ?_); rintro e w' ⟨rfl, ⟨nd, rfl⟩⟩));go_ret;exact ⟨by first | rfl | (simp; done) | (simp [*]; done), by repeat (first | exact QM.refl _ | apply QM.step)⟩
     ·replace c7 := Bool.eq_false_iff.mpr c7;subst c7;rw [if_neg (show ¬ (false = true) by decide)] at H;by_cases c8 : a0 = 46
      ·rw [if_pos c8] at H;have c8b0 : (a0 == 46) = true := beq_iff_eq.mpr c8;have c8b1 : (a0 != 46) = false := bne_eq_false_iff_eq.mpr c8;clear c8;obtain rfl := Option.some.inj H
       go_enter Try.func62, Try.ntmps62
       go_wp2_with (first | (go_at_call 63; (with_reducible refine (QZ.calls a0 false _ A6.out).mono ?_); rintro e w' ⟨rfl, ⟨nd, rfl⟩⟩));go_ret;exact ⟨by first | rfl | (simp; done) | (simp [*]; done), by repeat (first | exact QM.refl _ | apply QM.step)⟩
      ·rw [if_neg c8] at H;have c8b0 : (a0 == 46) = false := beq_eq_false_iff_ne.mpr c8;have c8b1 : (a0 != 46) = true := bne_iff_ne.mpr c8;by_cases c9 : a0 = 95
       ·rw [if_pos c9] at H;have c9b0 : (a0 == 95) = true := beq_iff_eq.mpr c9;have c9b1 : (a0 != 95) = false := bne_eq_false_iff_eq.mpr c9;clear c9;obtain rfl := Option.some.inj H
        go_enter Try.func62, Try.ntmps62
        go_wp2_with (first | (go_at_call 63; (with_reducible refine (QZ.calls a0 false _ A6.out).mono ?_); rintro e w' ⟨rfl, ⟨nd, rfl⟩⟩));go_ret;exact ⟨by first | rfl | (simp; done) | (simp [*]; done), by repeat (first | exact QM.refl _ | apply QM.step)⟩
       ·rw [if_neg c9] at H;have c9b0 : (a0 == 95) = false := beq_eq_false_iff_ne.mpr c9;have c9b1 : (a0 != 95) = true := bne_iff_ne.mpr c9;obtain rfl := Option.some.inj H
        go_enter Try.func62, Try.ntmps62
        go_wp2_with (first | (go_at_call 63; (with_reducible refine (QZ.calls a0 false _ A6.out).mono ?_); rintro e w' ⟨rfl, ⟨nd, rfl⟩⟩));go_ret;exact ⟨by first | rfl | (simp; done) | (simp [*]; done), by repeat (first | exact QM.refl _ | apply QM.step)⟩
   ·rw [if_neg c4] at H;have c4b0 : decide (65 ≤ a0) = false := decide_eq_false c4;clear c4;replace H := Option.bind_eq_some_iff.mp H;obtain ⟨t103, A100, H⟩ := H;(try dsimp only at H);have A10 := Q0.mk A100;clear A100;by_cases c11 : t103 = true
    ·subst c11;rw [if_pos rfl] at H;obtain rfl := Option.some.inj H
     go_enter Try.func62, Try.ntmps62
     go_wp2_with (first | (go_at_call 63; (with_reducible refine (QZ.calls a0 true _ A10.out).mono ?_); rintro e w' ⟨rfl, ⟨nd, rfl⟩⟩));go_ret;exact ⟨by first | rfl | (simp; done) | (simp [*]; done), by repeat (first | exact QM.refl _ | apply QM.step)⟩
    ·replace c11 := Bool.eq_false_iff.mpr c11;subst c11;rw [if_neg (show ¬ (false = true) by decide)] at H;by_cases c12 : a0 = 46
     ·rw [if_pos c12] at H;have c12b0 : (a0 == 46) = true := beq_iff_eq.mpr c12;have c12b1 : (a0 != 46) = false := bne_eq_false_iff_eq.mpr c12;clear c12;obtain rfl := Option.some.inj H
      go_enter Try.func62, Try.ntmps62
      go_wp2_with (first | (go_at_call 63; (with_reducible refine (QZ.calls a0 false _ A10.out).mono ?_); rintro e w' ⟨rfl, ⟨nd, rfl⟩⟩));go_ret;exact ⟨by first | rfl | (simp; done) | (simp [*]; done), by repeat (first | exact QM.refl _ | apply QM.step)⟩
     ·rw [if_neg c12] at H;have c12b0 : (a0 == 46) = false := beq_eq_false_iff_ne.mpr c12;have c12b1 : (a0 != 46) = true := bne_iff_ne.mpr c12;by_cases c13 : a0 = 95
      ·rw [if_pos c13] at H;have c13b0 : (a0 == 95) = true := beq_iff_eq.mpr c13;have c13b1 : (a0 != 95) = false := bne_eq_false_iff_eq.mpr c13;clear c13;obtain rfl := Option.some.inj H
       go_enter Try.func62, Try.ntmps62
       go_wp2_with (first | (go_at_call 63; (with_reducible refine (QZ.calls a0 false _ A10.out).mono ?_); rintro e w' ⟨rfl, ⟨nd, rfl⟩⟩));go_ret;exact ⟨by first | rfl | (simp; done) | (simp [*]; done), by repeat (first | exact QM.refl _ | apply QM.step)⟩
      ·rw [if_neg c13] at H;have c13b0 : (a0 == 95) = false := beq_eq_false_iff_ne.mpr c13;have c13b1 : (a0 != 95) = true := bne_iff_ne.mpr c13;obtain rfl := Option.some.inj H
       go_enter Try.func62, Try.ntmps62
       go_wp2_with (first | (go_at_call 63; (with_reducible refine (QZ.calls a0 false _ A10.out).mono ?_); rintro e w' ⟨rfl, ⟨nd, rfl⟩⟩));go_ret;exact ⟨by first | rfl | (simp; done) | (simp [*]; done), by repeat (first | exact QM.refl _ | apply QM.step)⟩
 ·rw [if_neg c2] at H;have c2b0 : decide (97 ≤ a0) = false := decide_eq_false c2;clear c2;by_cases c14 : a0 ≥ 65
  ·rw [if_pos c14] at H;have c14b0 : decide (65 ≤ a0) = true := decide_eq_true c14;clear c14;by_cases c15 : a0 ≤ 90
   ·rw [if_pos c15] at H;have c15b0 : decide (a0 ≤ 90) = true := decide_eq_true c15;clear c15;obtain rfl := Option.some.inj H
    go_enter Try.func62, Try.ntmps62
    go_wp2;go_ret;exact ⟨by first | rfl | (simp; done) | (simp [*]; done), by repeat (first | exact QM.refl _ | apply QM.step)⟩
   ·rw [if_neg c15] at H;have c15b0 : decide (a0 ≤ 90) = false := decide_eq_false c15;clear c15;replace H := Option.bind_eq_some_iff.mp H;obtain ⟨t104, A160, H⟩ := H;(try dsimp only at H);have A16 := Q0.mk A160;clear A160;by_cases c17 : t104 = true
    ·subst c17;rw [if_pos rfl] at H;obtain rfl := Option.some.inj H
     go_enter Try.func62, Try.ntmps62
     go_wp2_with (first | (go_at_call 63; (with_reducible refine (QZ.calls a0 true _ A16.out).mono ?_); rintro e w' ⟨rfl, ⟨nd, rfl⟩⟩));go_ret;exact ⟨by first | rfl | (simp; done) | (simp [*]; done), by repeat (first | exact QM.refl _ | apply QM.step)⟩
    ·replace c17 := Bool.eq_false_iff.mpr c17;subst c17;rw [if_neg (show ¬ (false = true) by decide)] at H;by_cases c18 : a0 = 46
     ·rw [if_pos c18] at H;have c18b0 : (a0 == 46) = true := beq_iff_eq.mpr c18;have c18b1 : (a0 != 46) = false := bne_eq_false_iff_eq.mpr c18;clear c18;obtain rfl := Option.some.inj H
      go_enter Try.func62, Try.ntmps62
      go_wp2_with (first | (go_at_call 63; (with_reducible refine (QZ.calls a0 false _ A16.out).mono ?_); rintro e w' ⟨rfl, ⟨nd, rfl⟩⟩));go_ret;exact ⟨by first | rfl | (simp; done) | (simp [*]; done), by repeat (first | exact QM.refl _ | apply QM.step)⟩
     ·rw [if_neg c18] at H;have c18b0 : (a0 == 46) = false := beq_eq_false_iff_ne.mpr c18;have c18b1 : (a0 != 46) = true := bne_iff_ne.mpr c18;by_cases c19 : a0 = 95
      ·rw [if_pos c19] at H;have c19b0 : (a0 == 95) = true := beq_iff_eq.mpr c19;have c19b1 : (a0 != 95) = false := bne_eq_false_iff_eq.mpr c19;clear c19;obtain rfl := Option.some.inj H
       go_enter Try.func62, Try.ntmps62
       go_wp2_with (first | (go_at_call 63; (with_reducible refine (QZ.calls a0 false _ A16.out).mono ?_); rintro e w' ⟨rfl, ⟨nd, rfl⟩⟩));go_ret;exact ⟨by first | rfl | (simp; done) | (simp [*]; done), by repeat (first | exact QM.refl _ | apply QM.step)⟩
      ·rw [if_neg c19] at H;have c19b0 : (a0 == 95) = false := beq_eq_false_iff_ne.mpr c19;have c19b1 : (a0 != 95) = true := bne_iff_ne.mpr c19;obtain rfl := Option.some.inj H
       go_enter Try.func62, Try.ntmps62
       go_wp2_with (first | (go_at_call 63; (with_reducible refine (QZ.calls a0 false _ A16.out).mono ?_); rintro e w' ⟨rfl, ⟨nd, rfl⟩⟩));go_ret;exact ⟨by first | rfl | (simp; done) | (simp [*]; done), by repeat (first | exact QM.refl _ | apply QM.step)⟩
  ·rw [if_neg c14] at H;have c14b0 : decide (65 ≤ a0) = false := decide_eq_false c14;clear c14;replace H := Option.bind_eq_some_iff.mp H;obtain ⟨t105, A200, H⟩ := H;(try dsimp only at H);have A20 := Q0.mk A200;clear A200;by_cases c21 : t105 = true
   ·subst c21;rw [if_pos rfl] at H;obtain rfl := Option.some.inj H
    go_enter Try.func62, Try.ntmps62
    go_wp2_with (first | (go_at_call 63; (with_reducible refine (QZ.calls a0 true _ A20.out).mono ?_); rintro e w' ⟨rfl, ⟨nd, rfl⟩⟩));go_ret;exact ⟨by first | rfl | (simp; done) | (simp [*]; done), by repeat (first | exact QM.refl _ | apply QM.step)⟩
   ·replace c21 := Bool.eq_false_iff.mpr c21;subst c21;rw [if_neg (show ¬ (false = true) by decide)] at H;by_cases c22 : a0 = 46
    ·rw [if_pos c22] at H;have c22b0 : (a0 == 46) = true := beq_iff_eq.mpr c22;have c22b1 : (a0 != 46) = false := bne_eq_false_iff_eq.mpr c22;clear c22;obtain rfl := Option.some.inj H
     go_enter Try.func62, Try.ntmps62
     go_wp2_with (first | (go_at_call 63; (with_reducible refine (QZ.calls a0 false _ A20.out).mono ?_); rintro e w' ⟨rfl, ⟨nd, rfl⟩⟩));go_ret;exact ⟨by first | rfl | (simp; done) | (simp [*]; done), by repeat (first | exact QM.refl _ | apply QM.step)⟩
    ·rw [if_neg c22] at H;have c22b0 : (a0 == 46) = false := beq_eq_false_iff_ne.mpr c22;have c22b1 : (a0 != 46) = true := bne_iff_ne.mpr c22;by_cases c23 : a0 = 95
     ·rw [if_pos c23] at H;have c23b0 : (a0 == 95) = true := beq_iff_eq.mpr c23;have c23b1 : (a0 != 95) = false := bne_eq_false_iff_eq.mpr c23;clear c23;obtain rfl := Option.some.inj H
      go_enter Try.func62, Try.ntmps62
      go_wp2_with (first | (go_at_call 63; (with_reducible refine (QZ.calls a0 false _ A20.out).mono ?_); rintro e w' ⟨rfl, ⟨nd, rfl⟩⟩));go_ret;exact ⟨by first | rfl | (simp; done) | (simp [*]; done), by repeat (first | exact QM.refl _ | apply QM.step)⟩
     ·rw [if_neg c23] at H;have c23b0 : (a0 == 95) = false := beq_eq_false_iff_ne.mpr c23;have c23b1 : (a0 != 95) = true := bne_iff_ne.mpr c23;obtain rfl := Option.some.inj H
      go_enter Try.func62, Try.ntmps62
      go_wp2_with (first | (go_at_call 63; (with_reducible refine (QZ.calls a0 false _ A20.out).mono ?_); rintro e w' ⟨rfl, ⟨nd, rfl⟩⟩));go_ret;exact ⟨by first | rfl | (simp; done) | (simp [*]; done), by repeat (first | exact QM.refl _ | apply QM.step)⟩
end Go.Proofs.Ytakabkjhnncbhaa.PX
namespace Go.Proofs.Ytakabkjhnncbhaa.PX
open Go.RowKit Go.Proofs.YtakabkjhnncbhaaW.PrintWords Go.Proofs.YtakabkjhnncbhaaW.PrintLast Go.Proofs.YtakabkjhnncbhaaW.PrintMore
attribute [local go_sem] Xl Xj Xu Xt X7 X6 Xk Xi   -- for this text's walks alone
set_option linter.unusedVariables false
set_option linter.unusedSimpArgs false
def Qo.l0 : Nat → ByteArray → Int → Int → Option (Bool)
 | 0, _, _, _ => none
 | k + 1, x0, x5, x6 => if x6 < x5 then (if 0 ≤ x6 then (if x6 < (x0.size : Int) then ((XH.f (bt x0 x6)).bind fun t106 => (if t106 = true then (if x6 = 0 then ((QZ.f (bt x0 x6)).bind fun t107 => (if t107 = true then (some false) else (Qo.l0 k x0 x5 (wrap64 (x6 + 1))))) else (Qo.l0 k x0 x5 (wrap64 (x6 + 1)))) else (some false))) else (none)) else (none)) else (if (x0.size : Int) ≥ 1 then (some (decide ((x0.size : Int) ≤ 16))) else (some false))
def Qo.f (k : Nat) (a0 : ByteArray) : Option (Bool) := Qo.l0 k a0 (a0.size : Int) 0
theorem Qo.Xo : ∀ k, (∀ y0 y1 y2, LeO (Qo.l0 k y0 y1 y2) (Qo.l0 (k + 1) y0 y1 y2))
 | 0 => fun _ _ _ r h => by simp [Qo.l0] at h
 | k + 1 => by
  have ih0 := Qo.Xo k
  ·intro y0 y1 y2;unfold Qo.l0
   repeat' first
   | (with_reducible exact ih0 _ _ _)
   | (with_reducible exact LeO.refl _)
   | (with_reducible exact LeO.none _)
   | (with_reducible refine LeO.ite ?_ ?_)
   | (with_reducible refine LeO.bind ?_ (fun _ => ?_))
theorem Qo.mono : ∀ a0 k, LeO (Qo.f k a0) (Qo.f (k + 1) a0) := by
 intro a0 k;have ih0 := Qo.Xo k;unfold Qo.f
 repeat' first
   | (with_reducible exact ih0 _ _ _)
   | (with_reducible exact LeO.refl _)
   | (with_reducible exact LeO.none _)
   | (with_reducible refine LeO.ite ?_ ?_)
   | (with_reducible refine LeO.bind ?_ (fun _ => ?_))
set_option maxHeartbeats 8000000 in
set_option maxRecDepth 100000 in
theorem Qo.calls (k : Nat) (a0 : ByteArray) (r : Bool) (w : World) (h : Qo.f k a0 = some r) :
  Calls Try.prog 43 #[.string a0] w fun e w' => e = .returned (.bool r) ∧ QM w w' := by
 have H := h;clear h;unfold Qo.f at H;(try dsimp only at H);have H' := Q0.mk H;clear H
 go_enter Try.func43, Try.ntmps43
 go_wp2
 go_loopg [6] k (fun kq v6 w' => ∃ (x6_1 : Int), v6 = .int .i64 x6_1 ∧ Q0 (Qo.l0 kq a0 (a0.size : Int) x6_1 = some r) ∧ Q0 (kq ≤ k) ∧ QM w w')
 case atStart => exact ⟨(0), (by first | rfl | (simp [*]; done)), H', ⟨Nat.le_refl _⟩, by repeat (first | exact QM.refl _ | apply QM.step)⟩
 case round =>
  clear H';obtain ⟨x6_1, rfl, HA, HK1, ⟨m1, rfl⟩⟩ := hrel
  cases gk with
  | zero => exact absurd HA.out (by simp [Qo.l0])
  | succ k1 =>
   have H := HA.out;clear HA;simp only [Qo.l0] at H;by_cases c2 : x6_1 < (a0.size : Int)
   ·rw [if_pos c2] at H;have c2b0 : decide (x6_1 < (a0.size : Int)) = true := decide_eq_true c2;clear c2;by_cases c3 : 0 ≤ x6_1
    ·rw [if_pos c3] at H;have c3b0 : decide (0 ≤ x6_1) = true := decide_eq_true c3;clear c3;by_cases c4 : x6_1 < (a0.size : Int)
     ·rw [if_pos c4] at H;have c4b0 : decide (x6_1 < (a0.size : Int)) = true := decide_eq_true c4;clear c4;replace H := Option.bind_eq_some_iff.mp H;obtain ⟨t106, A60, H⟩ := H;(try dsimp only at H);have A6 := Q0.mk A60;clear A60;by_cases c7 : t106 = true
      ·subst c7;rw [if_pos rfl] at H;by_cases c8 : x6_1 = 0
       ·rw [if_pos c8] at H;have c8b0 : (x6_1 == 0) = true := beq_iff_eq.mpr c8;have c8b1 : (x6_1 != 0) = false := bne_eq_false_iff_eq.mpr c8;clear c8;replace H := Option.bind_eq_some_iff.mp H;obtain ⟨t107, A100, H⟩ := H;(try dsimp only at H);have A10 := Q0.mk A100;clear A100;by_cases c11 : t107 = true
        ·subst c11;rw [if_pos rfl] at H;obtain rfl := Option.some.inj H;have p5 : 0 ≤ (x6_1 : Int) := of_decide_eq_true ‹_›;have q5 : x6_1 < (a0.size : Int) := of_decide_eq_true ‹_›;have hx5 := bt_at a0 x6_1;replace p5 := eq_true p5;replace q5 := eq_true q5;go_wp2_with (first | ((with_reducible refine Qx (f := 62) rfl ?_); refine Xb (some 12) rfl rfl Try.func62 (by kernel_rfl) rfl #[.int .u8 (bt a0 x6_1)] rfl (by (try simp only [List.map_toArray, List.map_cons, List.map_nil]); first | done | rfl | (simp only [List.length_drop, List.length_take]; rfl)) ?_; (with_reducible refine (XH.calls (bt a0 x6_1) true _ A6.out).mono ?_); rintro e w' ⟨rfl, ⟨nd, rfl⟩⟩; refine ⟨_, rfl, ?_⟩; have p9 : 0 ≤ (x6_1 : Int) := of_decide_eq_true ‹_›; have q9 : x6_1 < (a0.size : Int) := of_decide_eq_true ‹_›; have hx9 := bt_at a0 x6_1; replace p9 := eq_true p9; replace q9 := eq_true q9) | (go_at_call 63; (with_reducible refine (QZ.calls (bt a0 x6_1) true _ A10.out).mono ?_); rintro e w' ⟨rfl, ⟨nd, rfl⟩⟩));go_ret;exact ⟨by first | rfl | (simp; done) | (simp [*]; done), by repeat (first | exact QM.refl _ | apply QM.step)⟩
        ·replace c11 := Bool.eq_false_iff.mpr c11;subst c11;rw [if_neg (show ¬ (false = true) by decide)] at H;have H' := Q0.mk H;clear H;have p5 : 0 ≤ (x6_1 : Int) := of_decide_eq_true ‹_›;have q5 : x6_1 < (a0.size : Int) := of_decide_eq_true ‹_›;have hx5 := bt_at a0 x6_1;replace p5 := eq_true p5;replace q5 := eq_true q5;go_wp2_with (first | ((with_reducible refine Qx (f := 62) rfl ?_); refine Xb (some 12) rfl rfl Try.func62 (by kernel_rfl) rfl #[.int .u8 (bt a0 x6_1)] rfl (by (try simp only [List.map_toArray, List.map_cons, List.map_nil]); first | done | rfl | (simp only [List.length_drop, List.length_take]; rfl)) ?_; (with_reducible refine (XH.calls (bt a0 x6_1) true _ A6.out).mono ?_); rintro e w' ⟨rfl, ⟨nd, rfl⟩⟩; refine ⟨_, rfl, ?_⟩; have p9 : 0 ≤ (x6_1 : Int) := of_decide_eq_true ‹_›; have q9 : x6_1 < (a0.size : Int) := of_decide_eq_true ‹_›; have hx9 := bt_at a0 x6_1; replace p9 := eq_true p9; replace q9 := eq_true q9) | (go_at_call 63; (with_reducible refine (QZ.calls (bt a0 x6_1) false _ A10.out).mono ?_); rintro e w' ⟨rfl, ⟨nd, rfl⟩⟩))
         go_roundg k1
         (case measure => have := HK1.out; omega);case rel => exact ⟨(wrap64 (x6_1 + 1)), (by first | rfl | (simp [*]; done)), H', ⟨by have := HK1.out; omega⟩, by repeat (first | exact QM.refl _ | apply QM.step)⟩
       ·rw [if_neg c8] at H;have c8b0 : (x6_1 == 0) = false := beq_eq_false_iff_ne.mpr c8;have c8b1 : (x6_1 != 0) = true := bne_iff_ne.mpr c8;have H' := Q0.mk H;clear H;have p5 : 0 ≤ (x6_1 : Int) := of_decide_eq_true ‹_›;have q5 : x6_1 < (a0.size : Int) := of_decide_eq_true ‹_›;have hx5 := bt_at a0 x6_1;replace p5 := eq_true p5;replace q5 := eq_true q5;go_wp2_with (first | ((with_reducible refine Qx (f := 62) rfl ?_); refine Xb (some 12) rfl rfl Try.func62 (by kernel_rfl) rfl #[.int .u8 (bt a0 x6_1)] rfl (by (try simp only [List.map_toArray, List.map_cons, List.map_nil]); first | done | rfl | (simp only [List.length_drop, List.length_take]; rfl)) ?_; (with_reducible refine (XH.calls (bt a0 x6_1) true _ A6.out).mono ?_); rintro e w' ⟨rfl, ⟨nd, rfl⟩⟩; refine ⟨_, rfl, ?_⟩))
        go_roundg k1
        (case measure => have := HK1.out; omega);case rel => exact ⟨(wrap64 (x6_1 + 1)), (by first | rfl | (simp [*]; done)), H', ⟨by have := HK1.out; omega⟩, by repeat (first | exact QM.refl _ | apply QM.step)⟩
      ·replace c7 := Bool.eq_false_iff.mpr c7;subst c7;rw [if_neg (show ¬ (false = true) by decide)] at H;obtain rfl := Option.some.inj H;have p5 : 0 ≤ (x6_1 : Int) := of_decide_eq_true ‹_›;have q5 : x6_1 < (a0.size : Int) := of_decide_eq_true ‹_›;have hx5 := bt_at a0 x6_1;replace p5 := eq_true p5;replace q5 := eq_true q5;go_wp2_with (first | ((with_reducible refine Qx (f := 62) rfl ?_); refine Xb (some 12) rfl rfl Try.func62 (by kernel_rfl) rfl #[.int .u8 (bt a0 x6_1)] rfl (by (try simp only [List.map_toArray, List.map_cons, List.map_nil]); first | done | rfl | (simp only [List.length_drop, List.length_take]; rfl)) ?_; (with_reducible refine (XH.calls (bt a0 x6_1) false _ A6.out).mono ?_); rintro e w' ⟨rfl, ⟨nd, rfl⟩⟩; refine ⟨_, rfl, ?_⟩));go_ret;exact ⟨by first | rfl | (simp; done) | (simp [*]; done), by repeat (first | exact QM.refl _ | apply QM.step)⟩
     ·rw [if_neg c4] at H;exact absurd H (by simp)
    ·rw [if_neg c3] at H;exact absurd H (by simp)
   ·rw [if_neg c2] at H;have c2b0 : decide (x6_1 < (a0.size : Int)) = false := decide_eq_false c2;clear c2;by_cases c12 : (a0.size : Int) ≥ 1
    ·rw [if_pos c12] at H;have c12b0 : decide (1 ≤ (a0.size : Int)) = true := decide_eq_true c12;have c12b1 : decide (1 ≤ a0.size) = true := decide_eq_true (by omega);clear c12;obtain rfl := Option.some.inj H;go_wp2;go_ret;exact ⟨by first | rfl | (simp; done) | (simp [*]; done), by repeat (first | exact QM.refl _ | apply QM.step)⟩
    ·rw [if_neg c12] at H;have c12b0 : decide (1 ≤ (a0.size : Int)) = false := decide_eq_false c12;have c12b1 : decide (1 ≤ a0.size) = false := decide_eq_false (by omega);clear c12;obtain rfl := Option.some.inj H;go_wp2;go_ret;exact ⟨by first | rfl | (simp; done) | (simp [*]; done), by repeat (first | exact QM.refl _ | apply QM.step)⟩
end Go.Proofs.Ytakabkjhnncbhaa.PX
namespace Go.Proofs.Ytakabkjhnncbhaa.PX
open Go.RowKit Go.Proofs.YtakabkjhnncbhaaW.PrintWords Go.Proofs.YtakabkjhnncbhaaW.PrintLast Go.Proofs.YtakabkjhnncbhaaW.PrintMore
attribute [local go_sem] Xl Xj Xu Xt X7 X6 Xk Xi   -- for this text's walks alone
set_option linter.unusedVariables false
set_option linter.unusedSimpArgs false
def XL.f (a0_0 : ByteArray) (l0_1 : List (S89)) (l0_2 : List (S61)) (l0_3 : List (S49)) (l0_4 : List ByteArray) (l0_5 : List (S122)) : Option (Bool) := if (l0_1.length : Int) > 16 then (some true) else (if (l0_2.length : Int) > 60 then (some true) else (if (l0_3.length : Int) > 8 then (some true) else (some (decide ((l0_4.length : Int) > 8)))))
set_option maxHeartbeats 8000000 in
set_option maxRecDepth 100000 in
theorem XL.calls (a0_0 : ByteArray) (A0_1 : Option Addr) (c0_1 : Nat) (l0_1 : List (S89)) (A0_2 : Option Addr) (c0_2 : Nat) (l0_2 : List (S61)) (A0_3 : Option Addr) (c0_3 : Nat) (l0_3 : List (S49)) (A0_4 : Option Addr) (c0_4 : Nat) (l0_4 : List ByteArray) (A0_5 : Option Addr) (c0_5 : Nat) (l0_5 : List (S122)) (r : Bool) (w : World) (hr0_1 : Kd.C k89 w A0_1 l0_1.length l0_1) (hc0_1 : l0_1.length ≤ c0_1) (hr0_2 : Kd.C k61 w A0_2 l0_2.length l0_2) (hc0_2 : l0_2.length ≤ c0_2) (hr0_3 : Kd.C k49 w A0_3 l0_3.length l0_3) (hc0_3 : l0_3.length ≤ c0_3) (hr0_4 : Kd.C Kd.string w A0_4 l0_4.length l0_4) (hc0_4 : l0_4.length ≤ c0_4) (hr0_5 : Kd.C k122 w A0_5 l0_5.length l0_5) (hc0_5 : l0_5.length ≤ c0_5) (h : XL.f a0_0 l0_1 l0_2 l0_3 l0_4 l0_5 = some r) :
  Calls Try.prog 44 #[.agg #[.string a0_0, .slice A0_1 l0_1.length c0_1, .slice A0_2 l0_2.length c0_2, .slice A0_3 l0_3.length c0_3, .slice A0_4 l0_4.length c0_4, .slice A0_5 l0_5.length c0_5]] w fun e w' => e = .returned (.bool r) ∧ Below w.heap.size w w' := by
 have hu46 := Try.underlying46;have HR0_1 := Q0.mk hr0_1;have HC0_1 := Q0.mk hc0_1;clear hr0_1 hc0_1;have HR0_2 := Q0.mk hr0_2;have HC0_2 := Q0.mk hc0_2;clear hr0_2 hc0_2;have HR0_3 := Q0.mk hr0_3;have HC0_3 := Q0.mk hc0_3;clear hr0_3 hc0_3;have HR0_4 := Q0.mk hr0_4;have HC0_4 := Q0.mk hc0_4;clear hr0_4 hc0_4;have HR0_5 := Q0.mk hr0_5;have HC0_5 := Q0.mk hc0_5;clear hr0_5 hc0_5;have HB := Q0.mk (Below.refl w.heap.size w);have H := h;clear h;unfold XL.f at H;(try dsimp only at H);by_cases c2 : (l0_1.length : Int) > 16
 ·rw [if_pos c2] at H;have c2b0 : decide (16 < (l0_1.length : Int)) = true := decide_eq_true c2;have c2b1 : decide (16 < l0_1.length) = true := decide_eq_true (by omega);clear c2;obtain rfl := Option.some.inj H
  go_enter Try.func44, Try.ntmps44
  go_wp2_with (first | ((with_reducible refine QP (N := 1) rfl ?_); (try (refine XB (by rfl) ?_; dsimp only)); refine QL ?hg (N := 1) ?hd (cs := #[.string a0_0, .slice A0_1 l0_1.length c0_1, .slice A0_2 l0_2.length c0_2, .slice A0_3 l0_3.length c0_3, .slice A0_4 l0_4.length c0_4, .slice A0_5 l0_5.length c0_5]) (t := 46) ?hr ?_; (case hd => rfl); (case hg => rfl); (case hr => first | (go_simp; done) | (go_simp; rfl)); intro gb108 hg w3 hbox hb; have BK108 := Q0.mk (hbox); have GW108 := Q0.mk ((by rw [hg]; exact (Qi HB.out) : w.heap.size ≤ gb108)); have GE108 := Q0.mk ((by rw [hg]; exact (Qi HB.out) : w.heap.size ≤ gb108)); replace HB := Q0.mk (Ql HB.out hb); clear hb hbox hg; obtain ⟨hcz4_0, hcz4_1, hcz4_2, hcz4_3, hcz4_4, hcz4_5⟩ := QF BK108.out; obtain ⟨hfz4_0, hfz4_1, hfz4_2, hfz4_3, hfz4_4, hfz4_5⟩ := QT BK108.out));go_ret;exact ⟨by first | rfl | (simp [*]; done), by repeat (first | exact HB.out | apply Q5 | apply Q2 | apply Q6 | refine Q1 ?_ GE108.out)⟩
 ·rw [if_neg c2] at H;have c2b0 : decide (16 < (l0_1.length : Int)) = false := decide_eq_false c2;have c2b1 : decide (16 < l0_1.length) = false := decide_eq_false (by omega);clear c2;by_cases c5 : (l0_2.length : Int) > 60
  ·rw [if_pos c5] at H;have c5b0 : decide (60 < (l0_2.length : Int)) = true := decide_eq_true c5;have c5b1 : decide (60 < l0_2.length) = true := decide_eq_true (by omega);clear c5;obtain rfl := Option.some.inj H
   go_enter Try.func44, Try.ntmps44
   go_wp2_with (first | ((with_reducible refine QP (N := 1) rfl ?_); (try (refine XB (by rfl) ?_; dsimp only)); refine QL ?hg (N := 1) ?hd (cs := #[.string a0_0, .slice A0_1 l0_1.length c0_1, .slice A0_2 l0_2.length c0_2, .slice A0_3 l0_3.length c0_3, .slice A0_4 l0_4.length c0_4, .slice A0_5 l0_5.length c0_5]) (t := 46) ?hr ?_; (case hd => rfl); (case hg => rfl); (case hr => first | (go_simp; done) | (go_simp; rfl)); intro gb108 hg w6 hbox hb; have BK108 := Q0.mk (hbox); have GW108 := Q0.mk ((by rw [hg]; exact (Qi HB.out) : w.heap.size ≤ gb108)); have GE108 := Q0.mk ((by rw [hg]; exact (Qi HB.out) : w.heap.size ≤ gb108)); replace HB := Q0.mk (Ql HB.out hb); clear hb hbox hg; obtain ⟨hcz7_0, hcz7_1, hcz7_2, hcz7_3, hcz7_4, hcz7_5⟩ := QF BK108.out; obtain ⟨hfz7_0, hfz7_1, hfz7_2, hfz7_3, hfz7_4, hfz7_5⟩ := QT BK108.out));go_ret;exact ⟨by first | rfl | (simp [*]; done), by repeat (first | exact HB.out | apply Q5 | apply Q2 | apply Q6 | refine Q1 ?_ GE108.out)⟩
  ·rw [if_neg c5] at H;have c5b0 : decide (60 < (l0_2.length : Int)) = false := decide_eq_false c5;have c5b1 : decide (60 < l0_2.length) = false := decide_eq_false (by omega);clear c5;by_cases c8 : (l0_3.length : Int) > 8
   ·rw [if_pos c8] at H;have c8b0 : decide (8 < (l0_3.length : Int)) = true := decide_eq_true c8;have c8b1 : decide (8 < l0_3.length) = true := decide_eq_true (by omega);clear c8;obtain rfl := Option.some.inj H
    go_enter Try.func44, Try.ntmps44
    go_wp2_with (first | ((with_reducible refine QP (N := 1) rfl ?_); (try (refine XB (by rfl) ?_; dsimp only)); refine QL ?hg (N := 1) ?hd (cs := #[.string a0_0, .slice A0_1 l0_1.length c0_1, .slice A0_2 l0_2.length c0_2, .slice A0_3 l0_3.length c0_3, .slice A0_4 l0_4.length c0_4, .slice A0_5 l0_5.length c0_5]) (t := 46) ?hr ?_; (case hd => rfl); (case hg => rfl); (case hr => first | (go_simp; done) | (go_simp; rfl)); intro gb108 hg w9 hbox hb; have BK108 := Q0.mk (hbox); have GW108 := Q0.mk ((by rw [hg]; exact (Qi HB.out) : w.heap.size ≤ gb108)); have GE108 := Q0.mk ((by rw [hg]; exact (Qi HB.out) : w.heap.size ≤ gb108)); replace HB := Q0.mk (Ql HB.out hb); clear hb hbox hg; obtain ⟨hcz10_0, hcz10_1, hcz10_2, hcz10_3, hcz10_4, hcz10_5⟩ := QF BK108.out; obtain ⟨hfz10_0, hfz10_1, hfz10_2, hfz10_3, hfz10_4, hfz10_5⟩ := QT BK108.out));go_ret;exact ⟨by first | rfl | (simp [*]; done), by repeat (first | exact HB.out | apply Q5 | apply Q2 | apply Q6 | refine Q1 ?_ GE108.out)⟩
   ·rw [if_neg c8] at H;have c8b0 : decide (8 < (l0_3.length : Int)) = false := decide_eq_false c8;have c8b1 : decide (8 < l0_3.length) = false := decide_eq_false (by omega);clear c8;obtain rfl := Option.some.inj H
    go_enter Try.func44, Try.ntmps44
    go_wp2_with (first | ((with_reducible refine QP (N := 1) rfl ?_); (try (refine XB (by rfl) ?_; dsimp only)); refine QL ?hg (N := 1) ?hd (cs := #[.string a0_0, .slice A0_1 l0_1.length c0_1, .slice A0_2 l0_2.length c0_2, .slice A0_3 l0_3.length c0_3, .slice A0_4 l0_4.length c0_4, .slice A0_5 l0_5.length c0_5]) (t := 46) ?hr ?_; (case hd => rfl); (case hg => rfl); (case hr => first | (go_simp; done) | (go_simp; rfl)); intro gb108 hg w11 hbox hb; have BK108 := Q0.mk (hbox); have GW108 := Q0.mk ((by rw [hg]; exact (Qi HB.out) : w.heap.size ≤ gb108)); have GE108 := Q0.mk ((by rw [hg]; exact (Qi HB.out) : w.heap.size ≤ gb108)); replace HB := Q0.mk (Ql HB.out hb); clear hb hbox hg; obtain ⟨hcz12_0, hcz12_1, hcz12_2, hcz12_3, hcz12_4, hcz12_5⟩ := QF BK108.out; obtain ⟨hfz12_0, hfz12_1, hfz12_2, hfz12_3, hfz12_4, hfz12_5⟩ := QT BK108.out));go_ret;exact ⟨by first | rfl | (simp [*]; done), by repeat (first | exact HB.out | apply Q5 | apply Q2 | apply Q6 | refine Q1 ?_ GE108.out)⟩
end Go.Proofs.Ytakabkjhnncbhaa.PX
namespace Go.Proofs.Ytakabkjhnncbhaa.PX
open Go.RowKit Go.Proofs.YtakabkjhnncbhaaW.PrintWords Go.Proofs.YtakabkjhnncbhaaW.PrintLast Go.Proofs.YtakabkjhnncbhaaW.PrintMore
attribute [local go_sem] Xl Xj Xu Xt X7 X6 Xk Xi   -- for this text's walks alone
set_option linter.unusedVariables false
set_option linter.unusedSimpArgs false
def Qu.l0 : Nat → List ByteArray → ByteArray → Int → Int → Option (Int)
 | 0, _, _, _, _ => none
 | k + 1, x0, x1, x7, x8 => if x8 < x7 then (if 0 ≤ x8 then (if x8 < (x0.length : Int) then (if x1.toList = (rdOf ByteArray.empty x0 x8).toList then (some x8) else (Qu.l0 k x0 x1 x7 (wrap64 (x8 + 1)))) else (none)) else (none)) else (some (-1))
def Qu.f (k : Nat) (l0 : List ByteArray) (a1 : ByteArray) : Option (Int) := Qu.l0 k l0 a1 (l0.length : Int) 0
theorem Qu.Xo : ∀ k, (∀ y0 y1 y2 y3, LeO (Qu.l0 k y0 y1 y2 y3) (Qu.l0 (k + 1) y0 y1 y2 y3))
 | 0 => fun _ _ _ _ r h => by simp [Qu.l0] at h
 | k + 1 => by
  have ih0 := Qu.Xo k
  ·intro y0 y1 y2 y3;unfold Qu.l0
   repeat' first
   | (with_reducible exact ih0 _ _ _ _)
   | (with_reducible exact LeO.refl _)
   | (with_reducible exact LeO.none _)
   | (with_reducible refine LeO.ite ?_ ?_)
   | (with_reducible refine LeO.bind ?_ (fun _ => ?_))
theorem Qu.mono : ∀ a0 a1 k, LeO (Qu.f k a0 a1) (Qu.f (k + 1) a0 a1) := by
 intro a0 a1 k;have ih0 := Qu.Xo k;unfold Qu.f
 repeat' first
   | (with_reducible exact ih0 _ _ _ _)
   | (with_reducible exact LeO.refl _)
   | (with_reducible exact LeO.none _)
   | (with_reducible refine LeO.ite ?_ ?_)
   | (with_reducible refine LeO.bind ?_ (fun _ => ?_))
set_option maxHeartbeats 8000000 in
set_option maxRecDepth 100000 in
theorem Qu.calls (k : Nat) (A0 : Option Addr) (c0 : Nat) (l0 : List ByteArray) (a1 : ByteArray) (r : Int) (w : World) (hr0 : Kd.C Kd.string w A0 l0.length l0) (hc0 : l0.length ≤ c0) (h : Qu.f k l0 a1 = some r) :
  Calls Try.prog 64 #[.slice A0 l0.length c0, .string a1] w fun e w' => e = .returned (.int .i64 r) ∧ QM w w' := by
 have HR0 := Q0.mk hr0;have HC0 := Q0.mk hc0;clear hr0 hc0;have H := h;clear h;unfold Qu.f at H;(try dsimp only at H);have H' := Q0.mk H;clear H
 go_enter Try.func64, Try.ntmps64
 go_wp2
 go_loopg [8] k (fun kq v8 w' => ∃ (x8_1 : Int), v8 = .int .i64 x8_1 ∧ Q0 (Qu.l0 kq l0 a1 (l0.length : Int) x8_1 = some r) ∧ Q0 (kq ≤ k) ∧ QM w w')
 case atStart => exact ⟨(0), (by first | rfl | (simp [*]; done)), H', ⟨Nat.le_refl _⟩, by repeat (first | exact QM.refl _ | apply QM.step)⟩
 case round =>
  clear H';(try clear p2);obtain ⟨x8_1, rfl, HA, HK1, ⟨m1, rfl⟩⟩ := hrel
  cases gk with
  | zero => exact absurd HA.out (by simp [Qu.l0])
  | succ k1 =>
   have H := HA.out;clear HA;simp only [Qu.l0] at H;by_cases c3 : x8_1 < (l0.length : Int)
   ·rw [if_pos c3] at H;have c3b0 : decide (x8_1 < (l0.length : Int)) = true := decide_eq_true c3;clear c3;by_cases c4 : 0 ≤ x8_1
    ·rw [if_pos c4] at H;have c4b0 : decide (0 ≤ x8_1) = true := decide_eq_true c4;clear c4;by_cases c5 : x8_1 < (l0.length : Int)
     ·rw [if_pos c5] at H;have c5b0 : decide (x8_1 < (l0.length : Int)) = true := decide_eq_true c5;clear c5;by_cases c6 : a1.toList = (rdOf ByteArray.empty l0 x8_1).toList
      ·rw [if_pos c6] at H;have c6b0 : (a1.toList == (rdOf ByteArray.empty l0 x8_1).toList) = true := beq_iff_eq.mpr c6;have c6b1 : (a1.toList != (rdOf ByteArray.empty l0 x8_1).toList) = false := bne_eq_false_iff_eq.mpr c6;clear c6;obtain rfl := Option.some.inj H;have p109 : 0 ≤ (x8_1 : Int) := of_decide_eq_true ‹_›;have q109 : x8_1 < (l0.length : Int) := of_decide_eq_true ‹_›;obtain ⟨ad109, e109, hx109_0⟩ := Kd.at_string HR0.out x8_1 p109 q109
       cases e109
       replace p109 := eq_true p109;replace q109 := eq_true q109;go_wp2;go_ret;exact ⟨by first | rfl | (simp; done) | (simp [*]; done), by repeat (first | exact QM.refl _ | apply QM.step)⟩
      ·rw [if_neg c6] at H;have c6b0 : (a1.toList == (rdOf ByteArray.empty l0 x8_1).toList) = false := beq_eq_false_iff_ne.mpr c6;have c6b1 : (a1.toList != (rdOf ByteArray.empty l0 x8_1).toList) = true := bne_iff_ne.mpr c6;have H' := Q0.mk H;clear H;have p109 : 0 ≤ (x8_1 : Int) := of_decide_eq_true ‹_›;have q109 : x8_1 < (l0.length : Int) := of_decide_eq_true ‹_›;obtain ⟨ad109, e109, hx109_0⟩ := Kd.at_string HR0.out x8_1 p109 q109
       cases e109
       replace p109 := eq_true p109;replace q109 := eq_true q109;go_wp2
       go_roundg k1
       (case measure => have := HK1.out; omega);case rel => exact ⟨(wrap64 (x8_1 + 1)), (by first | rfl | (simp [*]; done)), H', ⟨by have := HK1.out; omega⟩, by repeat (first | exact QM.refl _ | apply QM.step)⟩
     ·rw [if_neg c5] at H;exact absurd H (by simp)
    ·rw [if_neg c4] at H;exact absurd H (by simp)
   ·rw [if_neg c3] at H;have c3b0 : decide (x8_1 < (l0.length : Int)) = false := decide_eq_false c3;clear c3;obtain rfl := Option.some.inj H;go_wp2;go_ret;exact ⟨by first | rfl | (simp; done) | (simp [*]; done), by repeat (first | exact QM.refl _ | apply QM.step)⟩
end Go.Proofs.Ytakabkjhnncbhaa.PX
namespace Go.Proofs.Ytakabkjhnncbhaa.PX
open Go.RowKit Go.Proofs.YtakabkjhnncbhaaW.PrintWords Go.Proofs.YtakabkjhnncbhaaW.PrintLast Go.Proofs.YtakabkjhnncbhaaW.PrintMore
attribute [local go_sem] Xl Xj Xu Xt X7 X6 Xk Xi   -- for this text's walks alone
set_option linter.unusedVariables false
set_option linter.unusedSimpArgs false
def QW.f (k : Nat) (l0 : List ByteArray) (a1 : ByteArray) : Option (Bool) := (Qu.f k l0 a1).bind fun t110 => (some (decide (t110 ≥ 0)))
theorem QW.mono : ∀ a0 a1 k, LeO (QW.f k a0 a1) (QW.f (k + 1) a0 a1) := by
 intro a0 a1 k;unfold QW.f
 repeat' first
   | (with_reducible exact Qu.mono _ _ _)
   | (with_reducible exact LeO.refl _)
   | (with_reducible exact LeO.none _)
   | (with_reducible refine LeO.ite ?_ ?_)
   | (with_reducible refine LeO.bind ?_ (fun _ => ?_))
set_option maxHeartbeats 8000000 in
set_option maxRecDepth 100000 in
theorem QW.calls (k : Nat) (A0 : Option Addr) (c0 : Nat) (l0 : List ByteArray) (a1 : ByteArray) (r : Bool) (w : World) (hr0 : Kd.C Kd.string w A0 l0.length l0) (hc0 : l0.length ≤ c0) (h : QW.f k l0 a1 = some r) :
  Calls Try.prog 45 #[.slice A0 l0.length c0, .string a1] w fun e w' => e = .returned (.bool r) ∧ QM w w' := by
 have HR0 := Q0.mk hr0;have HC0 := Q0.mk hc0;clear hr0 hc0;have H := h;clear h;unfold QW.f at H;(try dsimp only at H);replace H := Option.bind_eq_some_iff.mp H;obtain ⟨t110, A30, H⟩ := H;(try dsimp only at H);have A3 := Q0.mk A30;clear A30;obtain rfl := Option.some.inj H
 go_enter Try.func45, Try.ntmps45
 go_wp2_with (first | ((with_reducible refine Qx (f := 64) rfl ?_); refine Xb (some 7) rfl rfl Try.func64 (by kernel_rfl) rfl #[.slice A0 l0.length c0, .string a1] rfl (by (try simp only [List.map_toArray, List.map_cons, List.map_nil]); first | done | rfl | (simp only [List.length_drop, List.length_take]; rfl)) ?_; (with_reducible refine (Qu.calls k _ _ l0 a1 t110 _ ?side1 ?side2 A3.out).mono ?_); (case side1 => repeat (first | exact HR0.out | (with_reducible refine Kd.QS ?_ _) | (with_reducible refine Kd.QR ?_ _) | (with_reducible refine Kd.X5 ?_))); (case side2 => exact HC0.out); rintro e w' ⟨rfl, ⟨nd, rfl⟩⟩; refine ⟨_, rfl, ?_⟩));go_ret;exact ⟨by first | rfl | (simp; done) | (simp [*]; done), by repeat (first | exact QM.refl _ | apply QM.step)⟩
end Go.Proofs.Ytakabkjhnncbhaa.PX
namespace Go.Proofs.Ytakabkjhnncbhaa.PX
open Go.RowKit Go.Proofs.YtakabkjhnncbhaaW.PrintWords Go.Proofs.YtakabkjhnncbhaaW.PrintLast Go.Proofs.YtakabkjhnncbhaaW.PrintMore
attribute [local go_sem] Xl Xj Xu Xt X7 X6 Xk Xi   -- for this text's walks alone
set_option linter.unusedVariables false
set_option linter.unusedSimpArgs false
def fidx {α : Type} (p : α → Bool) (l : List α) : Int := match l.findIdx? p with
  | some i => (i : Int)
  | none => -1
theorem fidx_hit {α : Type} {p : α → Bool} {l : List α} {d : α} {k : Nat} (hk : k < l.length) (hp : p (l.getD k d) = true) (hn : ∀ j, j < k → p (l.getD j d) = false) : fidx p l = k := by
  have h : l.findIdx? p = some k := by
    rw [List.findIdx?_eq_some_iff_getElem];refine ⟨hk, by simpa [List.getD_eq_getElem?_getD, List.getElem?_eq_getElem hk] using hp, fun j hj => ?_⟩;have := hn j hj
    simpa [List.getD_eq_getElem?_getD, List.getElem?_eq_getElem (Nat.lt_trans hj hk)] using this
  unfold fidx; rw [h]
theorem fidx_miss {α : Type} {p : α → Bool} {l : List α} {d : α} (hn : ∀ j, j < l.length → p (l.getD j d) = false) : fidx p l = -1 := by
  have h : l.findIdx? p = none := by
    rw [List.findIdx?_eq_none_iff];intro x hx;obtain ⟨j, hj, rfl⟩ := List.mem_iff_getElem.1 hx;have := hn j hj
    simpa [List.getD_eq_getElem?_getD, List.getElem?_eq_getElem hj] using this
  unfold fidx; rw [h]
theorem fidx_any {α : Type} (p : α → Bool) (l : List α) : decide (fidx p l ≥ 0) = l.any p := by
  unfold fidx
  cases h : l.findIdx? p with
  | none =>
    rw [List.findIdx?_eq_none_iff] at h;have : l.any p = false := by rw [List.any_eq_false]; intro x hx; simp [h x hx]
    rw [this]; rfl
  | some i =>
    rw [List.findIdx?_eq_some_iff_getElem] at h;obtain ⟨hi, hp, _⟩ := h;have : l.any p = true := List.any_eq_true.2 ⟨_, List.getElem_mem hi, hp⟩;rw [this]; exact decide_eq_true (by show (0 : Int) ≤ (i : Int); omega)
set_option maxHeartbeats 2000000 in
theorem ix137.calls (A : Option Addr) (c : Nat) (l : List S137) (g : Nat) (lb : Array Value) (p : S137 → Bool) (eg : ∀ args w, (callFunc g args).run Try.prog w = .ok (.enter g args) w) (w : World) (hr : Kd.C k137 w A l.length l)
    (hp : ∀ W (x : S137) cs, Below w.heap.size w W → k137.K W x cs → Calls Try.prog g (#[.agg cs.toArray] ++ lb) W fun e w' => e = .returned (.bool (p x)) ∧ Below W.heap.size W w') :
    Calls Try.prog 98 #[.slice A l.length c, .func (.func g) #[] lb] w fun e w' => e = .returned (.int .i64 (fidx p l)) ∧ Below w.heap.size w w' := by
  have hbig : l.length ≤ 9223372036854775807 := hr.2.1;have HR := Q0.mk hr;have HP := Q0.mk hp;clear hr hp
  go_enter Try.func98, Try.ntmps98
  go_wp2
  go_loopg [5, 8] l.length (fun gg _ s8 wr => ∃ kk : Nat, kk ≤ l.length ∧ l.length - kk ≤ gg ∧ s8 = .int .i64 kk ∧ Q0 (Below w.heap.size w wr) ∧ Q0 (∀ j, j < kk → p (l.getD j z137) = false))
  case atStart => exact ⟨0, Nat.zero_le _, by omega, rfl, ⟨Below.refl _ w⟩, ⟨fun j hj => absurd hj (Nat.not_lt_zero _)⟩⟩
  case round =>
    obtain ⟨kk, hkk, hg, rfl, HB, HA⟩ := hrel;by_cases hlt : kk < l.length
    · (have hltz : (kk : Int) < (l.length : Int) := by omega);obtain ⟨ad, e, hx0, hx1, hx2⟩ := at_T137 (Kd.Qy HR.out HB.out) (kk : Int) (by omega) hltz
      cases e
      have hcall := HP.out wr (QH l kk) _ HB.out (k137_mk wr (QH l kk))
      skip
      (have hd : QH l kk = l.getD kk z137 := by unfold QH; rw [Int.toNat_natCast]);have HD := Q0.mk hd;clear hd;simp only [Int.toNat_natCast] at hx0 hx1 hx2;generalize hy : QH l kk = y at hx0 hx1 hx2 hcall HD;have HY := Q0.mk hy;clear hy
      cases hq : p y with
      | true =>
        rw [hq] at hcall;have HQ := Q0.mk hq;clear hq;go_wp2_with (go_at_fn g; refine hcall.mono ?_; rintro e w' ⟨rfl, hb'⟩);go_ret;refine ⟨?_, Ql HB.out hb'⟩;rw [fidx_hit (d := z137) hlt (by rw [← HD.out]; exact HQ.out) HA.out]
        rfl
      | false =>
        rw [hq] at hcall;have HQ := Q0.mk hq;clear hq;go_wp2_with (go_at_fn g; refine hcall.mono ?_; rintro e w' ⟨rfl, hb'⟩)
        go_roundg (l.length - (kk + 1))
        case measure => omega
        case rel =>
          refine ⟨kk + 1, by omega, by omega, by go_num, ⟨Ql HB.out hb'⟩, ⟨fun j hj => ?_⟩⟩;by_cases e : j = kk
          · subst e;rw [← HD.out]; exact HQ.out
          · exact HA.out j (by omega)
    · (have hltz : ¬ (kk : Int) < (l.length : Int) := by omega);(have : kk = l.length := by omega);subst this;go_wp2;go_ret;refine ⟨?_, HB.out⟩;rw [fidx_miss (d := z137) HA.out];rfl
set_option maxHeartbeats 2000000 in
theorem cf137.calls (A : Option Addr) (c : Nat) (l : List S137) (g : Nat) (lb : Array Value) (p : S137 → Bool) (eg : ∀ args w, (callFunc g args).run Try.prog w = .ok (.enter g args) w) (w : World) (hr : Kd.C k137 w A l.length l)
    (hp : ∀ W (x : S137) cs, Below w.heap.size w W → k137.K W x cs → Calls Try.prog g (#[.agg cs.toArray] ++ lb) W fun e w' => e = .returned (.bool (p x)) ∧ Below W.heap.size W w') :
    Calls Try.prog 95 #[.slice A l.length c, .func (.func g) #[] lb] w fun e w' => e = .returned (.bool (l.any p)) ∧ Below w.heap.size w w' := by
  rw [← fidx_any p l];have HX := Q0.mk (ix137.calls A c l g lb p eg w hr hp);clear hr hp
  go_enter Try.func95, Try.ntmps95
  go_wp2_with (go_at_call 98; refine HX.out.mono ?_; rintro e w' ⟨rfl, hb'⟩);go_ret;exact ⟨rfl, hb'⟩
theorem cl_field.one (x : S137) (gb : Nat) (nm : ByteArray) (W : World) (hbk : ∃ cs, W.heap[gb]? = some (.cells cs 137 (0,0)) ∧ cs[0]? = some (.string nm)) :
    Calls Try.prog 96 #[.agg #[.string x.f0, .int .i64 x.f1, .int .i64 x.f2], .pointer (some ⟨gb,0,none⟩)] W fun e w' => e = .returned (.bool (x.f0.toList == nm.toList)) ∧ Below W.heap.size W w' := by
  obtain ⟨cs, hb, hn⟩ := hbk;have hc0 : W.cell? ⟨gb, 0, none⟩ = some (.string nm) := (Qz hb 0).trans hn;have hc1 : (W.alloc (.cells #[.string x.f0, .int .i64 x.f1, .int .i64 x.f2] 137)).cell? ⟨gb, 0, none⟩ = some (.string nm) := XZ (Q5 (Below.refl _ _) _) hc0;clear hb hn hc0
  go_enter Try.func96, Try.ntmps96
  go_wp2;go_ret;exact ⟨rfl, Q5 (Below.refl _ _) _⟩
def cl_field.f (l : List S137) (nm : ByteArray) : Option Bool := some (l.any fun x => x.f0.toList == nm.toList)
theorem cl_field.calls (A : Option Addr) (c : Nat) (l : List S137) (gb : Nat) (nm : ByteArray) (r : Bool) (w : World) (hr : Kd.C k137 w A l.length l) (_hc : l.length ≤ c) (hbk : ∃ cs, w.heap[gb]? = some (.cells cs 137 (0,0)) ∧ cs[0]? = some (.string nm)) (h : cl_field.f l nm = some r) :
    Calls Try.prog 95 #[.slice A l.length c, .func (.func 96) #[] #[.pointer (some ⟨gb, 0, none⟩)]] w fun e w' => e = .returned (.bool r) ∧ Below w.heap.size w w' := by
  have h := Option.some.inj h;subst h;refine cf137.calls A c l 96 _ (fun x => x.f0.toList == nm.toList) (enters_of Try.func96 (by kernel_rfl) rfl) w hr (fun W x cs hb hK => ?_);obtain rfl := k137_open hK;obtain ⟨cs0, h0, h1⟩ := hbk;exact cl_field.one x gb nm W ⟨cs0, Qc h0 hb, h1⟩
end Go.Proofs.Ytakabkjhnncbhaa.PX
namespace Go.Proofs.Ytakabkjhnncbhaa.PX
open Go.RowKit Go.Proofs.YtakabkjhnncbhaaW.PrintWords Go.Proofs.YtakabkjhnncbhaaW.PrintLast Go.Proofs.YtakabkjhnncbhaaW.PrintMore
attribute [local go_sem] Xl Xj Xu Xt X7 X6 Xk Xi   -- for this text's walks alone
set_option linter.unusedVariables false
set_option linter.unusedSimpArgs false
mutual
def QG.j0 : Nat → List (S122) → Int → Int → Int → Int → ByteArray → Int → Int → Int → List (S137) → ByteArray → Int → Int → Option (Int)
 | 0, _, _, _, _, _, _, _, _, _, _, _, _, _ => none
 | k + 1, x0, x1, x2, x9, x113000, x113001, x113002, x113003, x113004, x113005, x115000, x115001, x115002 => (Qo.f k x115000).bind fun t118 => (if t118 = true then (if 0 ≤ x2 then (if x2 ≤ (x113005.length : Int) then ((cl_field.f (x113005.take (x2 : Int).toNat) x115000).bind fun t123 => (if t123 = true then (some 7) else (if x115001 < 0 then (QG.j1 k x0 x9 true x113000 x113001 x113002 x113003 x113004 x113005 x115000 x115001 x115002) else (QG.j1 k x0 x9 (decide (x115001 ≥ x1)) x113000 x113001 x113002 x113003 x113004 x113005 x115000 x115001 x115002)))) else (none)) else (none)) else (some 12))
def QG.j1 : Nat → List (S122) → Int → Bool → Int → ByteArray → Int → Int → Int → List (S137) → ByteArray → Int → Int → Option (Int)
 | 0, _, _, _, _, _, _, _, _, _, _, _, _ => none
 | k + 1, x0, x9, x49, x113000, x113001, x113002, x113003, x113004, x113005, x115000, x115001, x115002 => if x49 = true then (some 3) else (if x115002 < x9 then (some 5) else (if x115002 > x113002 then (some 5) else (if 0 ≤ x115001 then (if x115001 < (x0.length : Int) then (if (wrap64 (x115002 + ((Q7 x0 x115001).f2))) > x113002 then (some 5) else (some 0)) else (none)) else (none))))
end
def QG.f (k : Nat) (l0 : List (S122)) (a1 : Int) (a2 : Int) : Option (Int) := if 0 ≤ a1 then (if a1 < (l0.length : Int) then (if 0 ≤ a2 then (if a2 < (((Q7 l0 a1).f5).length : Int) then (if a2 > 0 then (if 0 ≤ (wrap64 (a2 - 1)) then (if (wrap64 (a2 - 1)) < (((Q7 l0 a1).f5).length : Int) then (if 0 ≤ ((QH ((Q7 l0 a1).f5) (wrap64 (a2 - 1))).f1) then (if ((QH ((Q7 l0 a1).f5) (wrap64 (a2 - 1))).f1) < (l0.length : Int) then (QG.j0 k l0 a1 a2 (wrap64 (((QH ((Q7 l0 a1).f5) (wrap64 (a2 - 1))).f2) + ((Q7 l0 ((QH ((Q7 l0 a1).f5) (wrap64 (a2 - 1))).f1)).f2))) ((Q7 l0 a1).f0) ((Q7 l0 a1).f1) ((Q7 l0 a1).f2) ((Q7 l0 a1).f3) ((Q7 l0 a1).f4) ((Q7 l0 a1).f5) ((QH ((Q7 l0 a1).f5) a2).f0) ((QH ((Q7 l0 a1).f5) a2).f1) ((QH ((Q7 l0 a1).f5) a2).f2)) else (none)) else (none)) else (none)) else (none)) else (QG.j0 k l0 a1 a2 0 ((Q7 l0 a1).f0) ((Q7 l0 a1).f1) ((Q7 l0 a1).f2) ((Q7 l0 a1).f3) ((Q7 l0 a1).f4) ((Q7 l0 a1).f5) ((QH ((Q7 l0 a1).f5) a2).f0) ((QH ((Q7 l0 a1).f5) a2).f1) ((QH ((Q7 l0 a1).f5) a2).f2))) else (none)) else (none)) else (none)) else (none)
theorem QG.Xo : ∀ k, (∀ y0 y1 y2 y3 y4 y5 y6 y7 y8 y9 y10 y11 y12, LeO (QG.j0 k y0 y1 y2 y3 y4 y5 y6 y7 y8 y9 y10 y11 y12) (QG.j0 (k + 1) y0 y1 y2 y3 y4 y5 y6 y7 y8 y9 y10 y11 y12)) ∧ (∀ y0 y1 y2 y3 y4 y5 y6 y7 y8 y9 y10 y11, LeO (QG.j1 k y0 y1 y2 y3 y4 y5 y6 y7 y8 y9 y10 y11) (QG.j1 (k + 1) y0 y1 y2 y3 y4 y5 y6 y7 y8 y9 y10 y11))
 | 0 => ⟨fun _ _ _ _ _ _ _ _ _ _ _ _ _ r h => by simp [QG.j0] at h, fun _ _ _ _ _ _ _ _ _ _ _ _ r h => by simp [QG.j1] at h⟩
 | k + 1 => by
  obtain ⟨ih0, ih1⟩ := QG.Xo k;refine ⟨?_, ?_⟩
  ·intro y0 y1 y2 y3 y4 y5 y6 y7 y8 y9 y10 y11 y12;unfold QG.j0
   repeat' first
   | (with_reducible exact ih0 _ _ _ _ _ _ _ _ _ _ _ _ _)
   | (with_reducible exact ih1 _ _ _ _ _ _ _ _ _ _ _ _)
   | (with_reducible exact Qo.mono _ _)
   | (with_reducible exact LeO.refl _)
   | (with_reducible exact LeO.none _)
   | (with_reducible refine LeO.ite ?_ ?_)
   | (with_reducible refine LeO.bind ?_ (fun _ => ?_))
  ·intro y0 y1 y2 y3 y4 y5 y6 y7 y8 y9 y10 y11;unfold QG.j1
   repeat' first
   | (with_reducible exact ih0 _ _ _ _ _ _ _ _ _ _ _ _ _)
   | (with_reducible exact ih1 _ _ _ _ _ _ _ _ _ _ _ _)
   | (with_reducible exact Qo.mono _ _)
   | (with_reducible exact LeO.refl _)
   | (with_reducible exact LeO.none _)
   | (with_reducible refine LeO.ite ?_ ?_)
   | (with_reducible refine LeO.bind ?_ (fun _ => ?_))
theorem QG.mono : ∀ a0 a1 a2 k, LeO (QG.f k a0 a1 a2) (QG.f (k + 1) a0 a1 a2) := by
 intro a0 a1 a2 k;obtain ⟨ih0, ih1⟩ := QG.Xo k;unfold QG.f
 repeat' first
   | (with_reducible exact ih0 _ _ _ _ _ _ _ _ _ _ _ _ _)
   | (with_reducible exact ih1 _ _ _ _ _ _ _ _ _ _ _ _)
   | (with_reducible exact Qo.mono _ _)
   | (with_reducible exact LeO.refl _)
   | (with_reducible exact LeO.none _)
   | (with_reducible refine LeO.ite ?_ ?_)
   | (with_reducible refine LeO.bind ?_ (fun _ => ?_))
set_option maxHeartbeats 8000000 in
set_option maxRecDepth 100000 in
theorem QG.calls (k : Nat) (A0 : Option Addr) (c0 : Nat) (l0 : List (S122)) (a1 : Int) (a2 : Int) (r : Int) (w : World) (hr0 : Kd.C k122 w A0 l0.length l0) (hc0 : l0.length ≤ c0) (h : QG.f k l0 a1 a2 = some r) :
  Calls Try.prog 86 #[.slice A0 l0.length c0, .int .i64 a1, .int .i64 a2] w fun e w' => e = .returned (.int .i64 r) ∧ Below w.heap.size w w' := by
 have hu122 := Try.underlying122;have hu137 := Try.underlying137;have HR0 := Q0.mk hr0;have HC0 := Q0.mk hc0;clear hr0 hc0;have HB := Q0.mk (Below.refl w.heap.size w);have H := h;clear h;unfold QG.f at H;(try dsimp only at H);by_cases c4 : 0 ≤ a1
 ·rw [if_pos c4] at H;have c4b0 : decide (0 ≤ a1) = true := decide_eq_true c4;clear c4;by_cases c5 : a1 < (l0.length : Int)
  ·rw [if_pos c5] at H;have c5b0 : decide (a1 < (l0.length : Int)) = true := decide_eq_true c5;clear c5;by_cases c6 : 0 ≤ a2
   ·rw [if_pos c6] at H;have c6b0 : decide (0 ≤ a2) = true := decide_eq_true c6;clear c6;by_cases c7 : a2 < (((Q7 l0 a1).f5).length : Int)
    ·rw [if_pos c7] at H;have c7b0 : decide (a2 < (((Q7 l0 a1).f5).length : Int)) = true := decide_eq_true c7;clear c7;have HC8 := Q0.mk H;clear H;have p111 : 0 ≤ (a1 : Int) := of_decide_eq_true ‹_›;have q111 : a1 < (l0.length : Int) := of_decide_eq_true ‹_›;obtain ⟨ad111, A111_5, c111_5, e111, hx111_0, hx111_1, hx111_2, hx111_3, hx111_4, hx111_5, hl111_5, hi111_5⟩ := at_T122 HR0.out a1 p111 q111
     cases e111
     have HR111_5 := Q0.mk hi111_5;have HC111_5 := Q0.mk hl111_5;clear hi111_5 hl111_5;replace p111 := eq_true p111;replace q111 := eq_true q111
     go_enter Try.func86, Try.ntmps86
     (go_upto_if 21 with (first | ((with_reducible refine QP (N := 7) rfl ?_); refine QL ?hg (N := 7) ?hd (cs := #[.int .i64 0, .string (⟨#[]⟩ : ByteArray), .int .i64 0, .int .i64 0, .int .i64 0, .slice none 0 0]) (t := 122) ?hr ?_; (case hd => rfl); (case hg => rfl); (case hr => first | (go_simp; done) | (go_simp; rfl)); intro gb112 hg w9 hbox hb; have BK112 := Q0.mk (hbox); have GW112 := Q0.mk ((by rw [hg]; exact (Qi HB.out) : w.heap.size ≤ gb112)); have GE112 := Q0.mk ((by rw [hg]; exact (Qi HB.out) : w.heap.size ≤ gb112)); replace HB := Q0.mk (Ql HB.out hb); clear hb hbox hg; obtain ⟨hcz10_0, hcz10_1, hcz10_2, hcz10_3, hcz10_4, hcz10_5⟩ := QF BK112.out; obtain ⟨hfz10_0, hfz10_1, hfz10_2, hfz10_3, hfz10_4, hfz10_5⟩ := QT BK112.out) | ((with_reducible refine QE (t := 122) (p := 7) rfl ?_); (try (rw [Yc w9]; generalize hq_ : World.drewN w9 _ = w9; replace BK112 := Q0.mk (Yk hq_ BK112.out); replace HB := Q0.mk (Yu hq_ HB.out); clear hq_)); refine Qw (t := 122) (p := 7) (v := ?vo_w11) (w1 := ((((((w9.setCell ⟨gb112, 0, none⟩ (.int .i64 ((Q7 l0 a1).f0))).setCell ⟨gb112, 1, none⟩ (.string ((Q7 l0 a1).f1))).setCell ⟨gb112, 2, none⟩ (.int .i64 ((Q7 l0 a1).f2))).setCell ⟨gb112, 3, none⟩ (.int .i64 ((Q7 l0 a1).f3))).setCell ⟨gb112, 4, none⟩ (.int .i64 ((Q7 l0 a1).f4))).setCell ⟨gb112, 5, none⟩ (.slice A111_5 ((Q7 l0 a1).f5).length c111_5))) ?hg ?ho ?hn ?hr ?_; (case ho => rfl); (case hg => rfl); (case hn => rfl); (case hr => first | (go_simp; done) | (go_simp; rfl)); intro w11 hw; replace BK112 := Q0.mk (put6 hw BK112.out); replace HB := Q0.mk (bel6 hw HB.out GE112.out); clear hw; obtain ⟨hcz12_0, hcz12_1, hcz12_2, hcz12_3, hcz12_4, hcz12_5⟩ := QF BK112.out; obtain ⟨hfz12_0, hfz12_1, hfz12_2, hfz12_3, hfz12_4, hfz12_5⟩ := QT BK112.out; have p113 : 0 ≤ (a2 : Int) := of_decide_eq_true ‹_›; have q113 : a2 < (((Q7 l0 a1).f5).length : Int) := of_decide_eq_true ‹_›; obtain ⟨ad113, e113, hx113_0, hx113_1, hx113_2⟩ := at_T137 HR111_5.out a2 p113 q113; cases e113; replace hx113_0 := cup HB.out hx113_0; replace hx113_1 := cup HB.out hx113_1; replace hx113_2 := cup HB.out hx113_2; replace p113 := eq_true p113; replace q113 := eq_true q113) | ((with_reducible refine QP (N := 8) rfl ?_); refine QL ?hg (N := 8) ?hd (cs := #[.string (⟨#[]⟩ : ByteArray), .int .i64 0, .int .i64 0]) (t := 137) ?hr ?_; (case hd => rfl); (case hg => rfl); (case hr => first | (go_simp; done) | (go_simp; rfl)); intro gb114 hg w13 hbox hb; have BK114 := Q0.mk (hbox); have GW114 := Q0.mk ((by rw [hg]; exact (Qi HB.out) : w.heap.size ≤ gb114)); have GE114 := Q0.mk ((by rw [hg]; exact (Qi HB.out) : w.heap.size ≤ gb114)); have NB112_114 := Q0.mk ((by rw [hg]; exact Nat.ne_of_lt (QB BK112.out) : gb112 ≠ gb114)); have NB114_112 := Q0.mk ((by rw [hg]; exact Nat.ne_of_gt (QB BK112.out) : gb114 ≠ gb112)); replace BK112 := Q0.mk (Qc BK112.out hb); replace HB := Q0.mk (Ql HB.out hb); clear hb hbox hg; have hnb14 := NB114_112.out; have hnc14 := NB112_114.out; obtain ⟨hcz15_0, hcz15_1, hcz15_2⟩ := cells3 BK114.out; obtain ⟨hfz15_0, hfz15_1, hfz15_2⟩ := frozen3 BK114.out) | ((with_reducible refine QE (t := 137) (p := 8) rfl ?_); (try (rw [Yc w13]; generalize hq_ : World.drewN w13 _ = w13; replace BK112 := Q0.mk (Yk hq_ BK112.out); replace BK114 := Q0.mk (Yk hq_ BK114.out); replace HB := Q0.mk (Yu hq_ HB.out); clear hq_)); refine Qw (t := 137) (p := 8) (v := ?vo_w16) (w1 := (((w13.setCell ⟨gb114, 0, none⟩ (.string ((QH ((Q7 l0 a1).f5) a2).f0))).setCell ⟨gb114, 1, none⟩ (.int .i64 ((QH ((Q7 l0 a1).f5) a2).f1))).setCell ⟨gb114, 2, none⟩ (.int .i64 ((QH ((Q7 l0 a1).f5) a2).f2)))) ?hg ?ho ?hn ?hr ?_; (case ho => rfl); (case hg => rfl); (case hn => rfl); (case hr => first | (go_simp; done) | (go_simp; rfl)); intro w16 hw; replace BK112 := Q0.mk (far3 hw BK112.out NB112_114.out); replace BK114 := Q0.mk (put3 hw BK114.out); replace HB := Q0.mk (bel3 hw HB.out GE114.out); clear hw)));repeat (go_quiet (fail); go_upto_if 21 with (fail))
     (try simp only [Act.put, List.setIfInBounds_toArray, List.set_cons_zero, List.set_cons_succ])
     go_cut [9] (fun v9 wc => ∃ (kq : Nat) (x9_7 : Int), v9 = .int .i64 x9_7 ∧ Q0 (QG.j0 kq l0 a1 a2 x9_7 ((Q7 l0 a1).f0) ((Q7 l0 a1).f1) ((Q7 l0 a1).f2) ((Q7 l0 a1).f3) ((Q7 l0 a1).f4) ((Q7 l0 a1).f5) ((QH ((Q7 l0 a1).f5) a2).f0) ((QH ((Q7 l0 a1).f5) a2).f1) ((QH ((Q7 l0 a1).f5) a2).f2) = some r) ∧ Q0 (kq ≤ k) ∧ Q0 (wc.heap[gb112]? = some (.cells #[.int .i64 ((Q7 l0 a1).f0), .string ((Q7 l0 a1).f1), .int .i64 ((Q7 l0 a1).f2), .int .i64 ((Q7 l0 a1).f3), .int .i64 ((Q7 l0 a1).f4), (.slice (some ad113) ((Q7 l0 a1).f5).length c111_5)] 122 (0, 0))) ∧ Q0 (wc.heap[gb114]? = some (.cells #[.string ((QH ((Q7 l0 a1).f5) a2).f0), .int .i64 ((QH ((Q7 l0 a1).f5) a2).f1), .int .i64 ((QH ((Q7 l0 a1).f5) a2).f2)] 137 (0, 0))) ∧ Q0 (Below w.heap.size w wc))
     case first =>
      have H := HC8.out;clear HC8;by_cases c17 : a2 > 0
      ·rw [if_pos c17] at H;have c17b0 : decide (0 < a2) = true := decide_eq_true c17;clear c17
       (first | rw [c17b0] | (simp only [QN, QO]; rw [c17b0]) | skip)
       obtain ⟨ji18, hji18⟩ : ∃ j_ : Int, (wrap64 (a2 - 1)) = j_ := ⟨_, rfl⟩;(replace H : (if 0 ≤ (ji18) then (if (ji18) < (((Q7 l0 a1).f5).length : Int) then (if 0 ≤ ((QH ((Q7 l0 a1).f5) (ji18)).f1) then (if ((QH ((Q7 l0 a1).f5) (ji18)).f1) < (l0.length : Int) then (QG.j0 k l0 a1 a2 (wrap64 (((QH ((Q7 l0 a1).f5) (ji18)).f2) + ((Q7 l0 ((QH ((Q7 l0 a1).f5) (ji18)).f1)).f2))) ((Q7 l0 a1).f0) ((Q7 l0 a1).f1) ((Q7 l0 a1).f2) ((Q7 l0 a1).f3) ((Q7 l0 a1).f4) ((Q7 l0 a1).f5) ((QH ((Q7 l0 a1).f5) a2).f0) ((QH ((Q7 l0 a1).f5) a2).f1) ((QH ((Q7 l0 a1).f5) a2).f2)) else (none)) else (none)) else (none)) else (none)) = some r := by first | (rw [hji18] at H; exact H) | (simp only [hji18] at H ⊢; exact H));have hji18w : (IntKind.i64.wrap (a2 - 1)) = ji18 := (QN _).trans hji18;by_cases c19 : 0 ≤ (ji18)
       ·rw [if_pos c19] at H;have c19b0 : decide (0 ≤ (ji18)) = true := decide_eq_true c19;clear c19;by_cases c20 : (ji18) < (((Q7 l0 a1).f5).length : Int)
        ·rw [if_pos c20] at H;have c20b0 : decide ((ji18) < (((Q7 l0 a1).f5).length : Int)) = true := decide_eq_true c20;clear c20;by_cases c21 : 0 ≤ ((QH ((Q7 l0 a1).f5) (ji18)).f1)
         ·rw [if_pos c21] at H;have c21b0 : decide (0 ≤ ((QH ((Q7 l0 a1).f5) (ji18)).f1)) = true := decide_eq_true c21;clear c21;by_cases c22 : ((QH ((Q7 l0 a1).f5) (ji18)).f1) < (l0.length : Int)
          ·rw [if_pos c22] at H;have c22b0 : decide (((QH ((Q7 l0 a1).f5) (ji18)).f1) < (l0.length : Int)) = true := decide_eq_true c22;clear c22;have H' := Q0.mk H;clear H;have hnb23 := NB112_114.out;have hnc23 := NB114_112.out;obtain ⟨hcz24_0, hcz24_1, hcz24_2, hcz24_3, hcz24_4, hcz24_5⟩ := QF BK112.out;have p115 : 0 ≤ ((ji18) : Int) := of_decide_eq_true ‹_›;have q115 : (ji18) < (((Q7 l0 a1).f5).length : Int) := of_decide_eq_true ‹_›;obtain ⟨ad115, e115, hx115_0, hx115_1, hx115_2⟩ := at_T137 HR111_5.out (ji18) p115 q115;obtain rfl : ad113 = ad115 := (by injection e115);replace hx115_0 := cup HB.out hx115_0;replace hx115_1 := cup HB.out hx115_1;replace hx115_2 := cup HB.out hx115_2;replace p115 := eq_true p115;replace q115 := eq_true q115;go_wp2_with (first | ((with_reducible refine QP (N := 10) rfl ?_); refine QL ?hg (N := 10) ?hd (cs := #[.string (⟨#[]⟩ : ByteArray), .int .i64 0, .int .i64 0]) (t := 137) ?hr ?_; (case hd => rfl); (case hg => rfl); (case hr => first | (go_simp; done) | (go_simp; rfl)); intro gb116 hg w25 hbox hb; have BK116 := Q0.mk (hbox); have GW116 := Q0.mk ((by rw [hg]; exact (Qi HB.out) : w.heap.size ≤ gb116)); have GE116 := Q0.mk ((by rw [hg]; exact (Qi HB.out) : w.heap.size ≤ gb116)); have NB112_116 := Q0.mk ((by rw [hg]; exact Nat.ne_of_lt (QB BK112.out) : gb112 ≠ gb116)); have NB116_112 := Q0.mk ((by rw [hg]; exact Nat.ne_of_gt (QB BK112.out) : gb116 ≠ gb112)); have NB114_116 := Q0.mk ((by rw [hg]; exact Nat.ne_of_lt (QB BK114.out) : gb114 ≠ gb116)); have NB116_114 := Q0.mk ((by rw [hg]; exact Nat.ne_of_gt (QB BK114.out) : gb116 ≠ gb114)); replace BK112 := Q0.mk (Qc BK112.out hb); replace BK114 := Q0.mk (Qc BK114.out hb); replace HB := Q0.mk (Ql HB.out hb); clear hb hbox hg; have hnb26 := NB116_112.out; have hnc26 := NB112_116.out; have hnb27 := NB116_114.out; have hnc27 := NB114_116.out; obtain ⟨hcz28_0, hcz28_1, hcz28_2⟩ := cells3 BK116.out; obtain ⟨hfz28_0, hfz28_1, hfz28_2⟩ := frozen3 BK116.out) | ((with_reducible refine QE (t := 137) (p := 10) rfl ?_); (try (rw [Yc w25]; generalize hq_ : World.drewN w25 _ = w25; replace BK112 := Q0.mk (Yk hq_ BK112.out); replace BK114 := Q0.mk (Yk hq_ BK114.out); replace BK116 := Q0.mk (Yk hq_ BK116.out); replace HB := Q0.mk (Yu hq_ HB.out); clear hq_)); refine Qw (t := 137) (p := 10) (v := ?vo_w29) (w1 := (((w25.setCell ⟨gb116, 0, none⟩ (.string ((QH ((Q7 l0 a1).f5) (ji18)).f0))).setCell ⟨gb116, 1, none⟩ (.int .i64 ((QH ((Q7 l0 a1).f5) (ji18)).f1))).setCell ⟨gb116, 2, none⟩ (.int .i64 ((QH ((Q7 l0 a1).f5) (ji18)).f2)))) ?hg ?ho ?hn ?hr ?_; (case ho => rfl); (case hg => rfl); (case hn => rfl); (case hr => first | (go_simp; done) | (go_simp; rfl)); intro w29 hw; replace BK112 := Q0.mk (far3 hw BK112.out NB112_116.out); replace BK114 := Q0.mk (far3 hw BK114.out NB114_116.out); replace BK116 := Q0.mk (put3 hw BK116.out); replace HB := Q0.mk (bel3 hw HB.out GE116.out); clear hw; obtain ⟨hcz30_0, hcz30_1, hcz30_2⟩ := cells3 BK116.out; obtain ⟨hfz30_0, hfz30_1, hfz30_2⟩ := frozen3 BK116.out; have p117 : 0 ≤ (((QH ((Q7 l0 a1).f5) (ji18)).f1) : Int) := of_decide_eq_true ‹_›; have q117 : ((QH ((Q7 l0 a1).f5) (ji18)).f1) < (l0.length : Int) := of_decide_eq_true ‹_›; obtain ⟨ad117, A117_5, c117_5, e117, hx117_0, hx117_1, hx117_2, hx117_3, hx117_4, hx117_5, hl117_5, hi117_5⟩ := at_T122 HR0.out ((QH ((Q7 l0 a1).f5) (ji18)).f1) p117 q117; obtain rfl : ad111 = ad117 := (by injection e117); replace hx117_0 := cup HB.out hx117_0; replace hx117_1 := cup HB.out hx117_1; replace hx117_2 := cup HB.out hx117_2; replace hx117_3 := cup HB.out hx117_3; replace hx117_4 := cup HB.out hx117_4; replace hx117_5 := cup HB.out hx117_5; have HR117_5 := Q0.mk hi117_5; have HC117_5 := Q0.mk hl117_5; clear hi117_5 hl117_5; replace p117 := eq_true p117; replace q117 := eq_true q117));(repeat (go_quiet (fail); try go_wp2));go_meet;case rel => exact ⟨_, (wrap64 (((QH ((Q7 l0 a1).f5) (ji18)).f2) + ((Q7 l0 ((QH ((Q7 l0 a1).f5) (ji18)).f1)).f2))), (by first | rfl | (simp; done) | (simp only [← hji18] <;> (first | rfl | simp)) | (simp [*]; done)), H', ⟨by first | omega | exact Nat.le_refl _⟩, ⟨by (with_reducible repeat (first | refine Q8 ?_ _ | refine Qb ?_ | refine Q9 ?_ _)); exact BK112.out⟩, ⟨by (with_reducible repeat (first | refine Q8 ?_ _ | refine Qb ?_ | refine Q9 ?_ _)); exact BK114.out⟩, ⟨by repeat (first | exact HB.out | apply Q5 | apply Q2 | apply Q6 | refine Q1 ?_ GE112.out | refine Q1 ?_ GE114.out | refine Q1 ?_ GE116.out)⟩⟩
          ·rw [if_neg c22] at H;exact absurd H (by simp)
         ·rw [if_neg c21] at H;exact absurd H (by simp)
        ·rw [if_neg c20] at H;exact absurd H (by simp)
       ·rw [if_neg c19] at H;exact absurd H (by simp)
      ·rw [if_neg c17] at H;have c17b0 : decide (0 < a2) = false := decide_eq_false c17;clear c17
       (first | rw [c17b0] | (simp only [QN, QO]; rw [c17b0]) | skip)
       have H' := Q0.mk H;clear H;go_wp2;(repeat (go_quiet (fail); try go_wp2));go_meet;case rel => exact ⟨_, (0), (by first | rfl | (simp [*]; done)), H', ⟨by first | omega | exact Nat.le_refl _⟩, ⟨by (with_reducible repeat (first | refine Q8 ?_ _ | refine Qb ?_ | refine Q9 ?_ _)); exact BK112.out⟩, ⟨by (with_reducible repeat (first | refine Q8 ?_ _ | refine Qb ?_ | refine Q9 ?_ _)); exact BK114.out⟩, ⟨by repeat (first | exact HB.out | apply Q5 | apply Q2 | apply Q6 | refine Q1 ?_ GE112.out | refine Q1 ?_ GE114.out)⟩⟩
     case rest =>
      clear HC8;(try clear c1);(try clear p1);(try clear q1);(try clear hx1);(try clear c2);(try clear p2);(try clear c4);(try clear c4b0);(try clear c5);(try clear c5b0);(try clear c6);(try clear c6b0);(try clear p6);(try clear c7);(try clear c7b0);(try clear c8);(try clear c11);(try clear p11);(try clear q11);(try clear hx11);(try clear c14);(try clear c17);(try clear c17b0);(try clear c19);(try clear c19b0);(try clear c20);(try clear c20b0);(try clear c21);(try clear c21b0);(try clear c22);(try clear c22b0);(try clear c23);(try clear c26);(try clear c27);(try clear hx111_0);(try clear hx111_1);(try clear hx111_2);(try clear hx111_3);(try clear hx111_4);(try clear hx111_5);(try clear hx113_0);(try clear hx113_1);(try clear hx113_2);(try clear hx115_0);(try clear hx115_1);(try clear hx115_2);(try clear hx117_0);(try clear hx117_1);(try clear hx117_2);(try clear hx117_3);(try clear hx117_4);(try clear hx117_5);(try clear p111);(try clear p113);(try clear p115);(try clear p117);(try clear q111);(try clear q113);(try clear q115);(try clear q117);obtain ⟨kq, x9_7, rfl, HA, HJ7, BK112, BK114, HB⟩ := hcut
      cases kq with
      | zero => exact absurd HA.out (by simp [QG.j0])
      | succ kj7 =>
       have H := HA.out;clear HA;simp only [QG.j0] at H;replace H := Option.bind_eq_some_iff.mp H;obtain ⟨t118, A310, H⟩ := H;(try dsimp only at H);have A31 := Q0.mk A310;clear A310;by_cases c32 : t118 = true
       ·subst c32;rw [if_pos rfl] at H;by_cases c33 : 0 ≤ a2
        ·rw [if_pos c33] at H;have c33b0 := eq_true c33;have c33b1 : decide (0 ≤ a2) = true := decide_eq_true c33;clear c33;by_cases c34 : a2 ≤ (((Q7 l0 a1).f5).length : Int)
         ·rw [if_pos c34] at H;have c34b0 := eq_true c34;have c34b1 : decide (a2 ≤ (((Q7 l0 a1).f5).length : Int)) = true := decide_eq_true c34;clear c34;obtain ⟨y119, hy119⟩ : ∃ y_ : List (S137), y_ = (((Q7 l0 a1).f5).take (a2 : Int).toNat) := ⟨_, rfl⟩;(replace H : ((cl_field.f y119 ((QH ((Q7 l0 a1).f5) a2).f0)).bind fun t123 => (if t123 = true then (some 7) else (if ((QH ((Q7 l0 a1).f5) a2).f1) < 0 then (QG.j1 kj7 l0 x9_7 true ((Q7 l0 a1).f0) ((Q7 l0 a1).f1) ((Q7 l0 a1).f2) ((Q7 l0 a1).f3) ((Q7 l0 a1).f4) ((Q7 l0 a1).f5) ((QH ((Q7 l0 a1).f5) a2).f0) ((QH ((Q7 l0 a1).f5) a2).f1) ((QH ((Q7 l0 a1).f5) a2).f2)) else (QG.j1 kj7 l0 x9_7 (decide (((QH ((Q7 l0 a1).f5) a2).f1) ≥ a1)) ((Q7 l0 a1).f0) ((Q7 l0 a1).f1) ((Q7 l0 a1).f2) ((Q7 l0 a1).f3) ((Q7 l0 a1).f4) ((Q7 l0 a1).f5) ((QH ((Q7 l0 a1).f5) a2).f0) ((QH ((Q7 l0 a1).f5) a2).f1) ((QH ((Q7 l0 a1).f5) a2).f2))))) = some r := by first | (rw [hy119]; with_reducible exact H) | (have H2_ := (Option.bind_some _ _).symm.trans H; rw [hy119]; with_reducible exact H2_) | (have H2_ := (Option.bind_some _ _).symm.trans H; with_reducible exact H2_) | with_reducible exact H | (rw [hy119]; exact H) | exact H);have Ny119 := Q0.mk hy119;clear hy119;replace H := Option.bind_eq_some_iff.mp H;obtain ⟨t123, A350, H⟩ := H;(try dsimp only at H);have A35 := Q0.mk A350;clear A350;by_cases c36 : t123 = true
          ·subst c36;rw [if_pos rfl] at H;obtain rfl := Option.some.inj H;have hnb37 := NB114_112.out;have hnc37 := NB112_114.out;obtain ⟨hcz38_0, hcz38_1, hcz38_2⟩ := cells3 BK114.out;go_wp2_with (first | (go_at_call 43; (with_reducible refine (Qo.calls kj7 ((QH ((Q7 l0 a1).f5) a2).f0) true _ A31.out).mono ?_); rintro e w' ⟨rfl, ⟨nd, rfl⟩⟩; (try first | exact ⟨rfl, _, World.drewN_drewN _ _ _⟩ | exact ⟨rfl, _, Eq.trans (World.drewN_drewN _ _ _) (congrArg (World.drewN _) (Nat.add_assoc _ _ _))⟩); obtain ⟨hcz39_0, hcz39_1, hcz39_2, hcz39_3, hcz39_4, hcz39_5⟩ := QF BK112.out; obtain ⟨hfz39_0, hfz39_1, hfz39_2, hfz39_3, hfz39_4, hfz39_5⟩ := QT BK112.out; have q40 : (a2 : Int) ≤ ((((Q7 l0 a1).f5).length : Int) : Int) := of_decide_eq_true ‹_›; obtain ⟨i040, hi040, _, hsz40, _⟩ := info_parts info137; have hroom40 : ((Q7 l0 a1).f5).length ≤ c111_5 := HC111_5.out; have hC40 : Kd.C k137 _ (some ad113) ((Q7 l0 a1).f5).length ((Q7 l0 a1).f5) := HR111_5.out; have hcut40 := cut_to (P := Try.prog) 120 137 .i64 Try.underlying120 hi040 (some ad113) ((Q7 l0 a1).f5).length c111_5 a2 (of_decide_eq_true ‹_›) q40 hroom40; have hr40 := Kd.C_take (m := (a2 : Int).toNat) hC40 (by omega); have hy40 : y119.length = (a2 : Int).toNat := (by rw [Ny119.out, List.length_take]; omega); rw [← Ny119.out] at hr40; rw [← hy40] at hcut40; have HR122 := Q0.mk hr40; have HC122 := Q0.mk (show y119.length ≤ c111_5 from by omega); clear hr40 hC40 hroom40 hi040 hsz40; have KY40 := Q0.mk hy40; clear hy40; replace q40 := eq_true q40) | (go_at_call 95; (with_reducible refine (cl_field.calls _ _ y119 gb114 ((QH ((Q7 l0 a1).f5) a2).f0) true _ ?side1 ?side2 ?side3 A35.out).mono ?_); (case side1 => repeat (first | exact (Kd.Qy HR122.out (by repeat (first | exact HB.out | apply Q5 | apply Q2 | apply Q6 | refine Q1 ?_ GE112.out | refine Q1 ?_ GE114.out))) | (with_reducible refine Kd.QS ?_ _) | (with_reducible refine Kd.QR ?_ _) | (with_reducible refine Kd.X5 ?_))); (case side2 => exact HC122.out); (case side3 => exact ⟨_, (by (with_reducible repeat (first | refine Q8 ?_ _ | refine Qb ?_ | refine Q9 ?_ _)); exact BK114.out), rfl⟩); rintro e w41 ⟨rfl, hb⟩; replace BK112 := Q0.mk (Qc (g := gb112) (o := .cells #[.int .i64 ((Q7 l0 a1).f0), .string ((Q7 l0 a1).f1), .int .i64 ((Q7 l0 a1).f2), .int .i64 ((Q7 l0 a1).f3), .int .i64 ((Q7 l0 a1).f4), .slice (some ad113) ((Q7 l0 a1).f5).length c111_5] 122 (0, 0)) (by (with_reducible repeat (first | refine Q8 ?_ _ | refine Qb ?_ | refine Q9 ?_ _)); exact BK112.out) hb); replace BK114 := Q0.mk (Qc (g := gb114) (o := .cells #[.string ((QH ((Q7 l0 a1).f5) a2).f0), .int .i64 ((QH ((Q7 l0 a1).f5) a2).f1), .int .i64 ((QH ((Q7 l0 a1).f5) a2).f2)] 137 (0, 0)) (by (with_reducible repeat (first | refine Q8 ?_ _ | refine Qb ?_ | refine Q9 ?_ _)); exact BK114.out) hb); replace HB := Q0.mk (Ql (by repeat (first | exact HB.out | apply Q5 | apply Q2 | apply Q6 | refine Q1 ?_ GE112.out | refine Q1 ?_ GE114.out)) hb)));(repeat (go_quiet (fail); try go_wp2));go_ret;exact ⟨by first | rfl | (simp [*]; done), by repeat (first | exact HB.out | apply Q5 | apply Q2 | apply Q6 | refine Q1 ?_ GE112.out | refine Q1 ?_ GE114.out)⟩
          ·replace c36 := Bool.eq_false_iff.mpr c36;subst c36;rw [if_neg (show ¬ (false = true) by decide)] at H;have HC42 := Q0.mk H;clear H;have hnb43 := NB114_112.out;have hnc43 := NB112_114.out;obtain ⟨hcz44_0, hcz44_1, hcz44_2⟩ := cells3 BK114.out;(go_upto_region 11 with (first | (go_at_call 43; (with_reducible refine (Qo.calls kj7 ((QH ((Q7 l0 a1).f5) a2).f0) true _ A31.out).mono ?_); rintro e w' ⟨rfl, ⟨nd, rfl⟩⟩; (try first | exact ⟨rfl, _, World.drewN_drewN _ _ _⟩ | exact ⟨rfl, _, Eq.trans (World.drewN_drewN _ _ _) (congrArg (World.drewN _) (Nat.add_assoc _ _ _))⟩); obtain ⟨hcz45_0, hcz45_1, hcz45_2, hcz45_3, hcz45_4, hcz45_5⟩ := QF BK112.out; obtain ⟨hfz45_0, hfz45_1, hfz45_2, hfz45_3, hfz45_4, hfz45_5⟩ := QT BK112.out; have q46 : (a2 : Int) ≤ ((((Q7 l0 a1).f5).length : Int) : Int) := of_decide_eq_true ‹_›; obtain ⟨i046, hi046, _, hsz46, _⟩ := info_parts info137; have hroom46 : ((Q7 l0 a1).f5).length ≤ c111_5 := HC111_5.out; have hC46 : Kd.C k137 _ (some ad113) ((Q7 l0 a1).f5).length ((Q7 l0 a1).f5) := HR111_5.out; have hcut46 := cut_to (P := Try.prog) 120 137 .i64 Try.underlying120 hi046 (some ad113) ((Q7 l0 a1).f5).length c111_5 a2 (of_decide_eq_true ‹_›) q46 hroom46; have hr46 := Kd.C_take (m := (a2 : Int).toNat) hC46 (by omega); have hy46 : y119.length = (a2 : Int).toNat := (by rw [Ny119.out, List.length_take]; omega); rw [← Ny119.out] at hr46; rw [← hy46] at hcut46; have HR122 := Q0.mk hr46; have HC122 := Q0.mk (show y119.length ≤ c111_5 from by omega); clear hr46 hC46 hroom46 hi046 hsz46; have KY46 := Q0.mk hy46; clear hy46; replace q46 := eq_true q46) | (go_at_call 95; (with_reducible refine (cl_field.calls _ _ y119 gb114 ((QH ((Q7 l0 a1).f5) a2).f0) false _ ?side1 ?side2 ?side3 A35.out).mono ?_); (case side1 => repeat (first | exact (Kd.Qy HR122.out (by repeat (first | exact HB.out | apply Q5 | apply Q2 | apply Q6 | refine Q1 ?_ GE112.out | refine Q1 ?_ GE114.out))) | (with_reducible refine Kd.QS ?_ _) | (with_reducible refine Kd.QR ?_ _) | (with_reducible refine Kd.X5 ?_))); (case side2 => exact HC122.out); (case side3 => exact ⟨_, (by (with_reducible repeat (first | refine Q8 ?_ _ | refine Qb ?_ | refine Q9 ?_ _)); exact BK114.out), rfl⟩); rintro e w47 ⟨rfl, hb⟩; replace BK112 := Q0.mk (Qc (g := gb112) (o := .cells #[.int .i64 ((Q7 l0 a1).f0), .string ((Q7 l0 a1).f1), .int .i64 ((Q7 l0 a1).f2), .int .i64 ((Q7 l0 a1).f3), .int .i64 ((Q7 l0 a1).f4), .slice (some ad113) ((Q7 l0 a1).f5).length c111_5] 122 (0, 0)) (by (with_reducible repeat (first | refine Q8 ?_ _ | refine Qb ?_ | refine Q9 ?_ _)); exact BK112.out) hb); replace BK114 := Q0.mk (Qc (g := gb114) (o := .cells #[.string ((QH ((Q7 l0 a1).f5) a2).f0), .int .i64 ((QH ((Q7 l0 a1).f5) a2).f1), .int .i64 ((QH ((Q7 l0 a1).f5) a2).f2)] 137 (0, 0)) (by (with_reducible repeat (first | refine Q8 ?_ _ | refine Qb ?_ | refine Q9 ?_ _)); exact BK114.out) hb); replace HB := Q0.mk (Ql (by repeat (first | exact HB.out | apply Q5 | apply Q2 | apply Q6 | refine Q1 ?_ GE112.out | refine Q1 ?_ GE114.out)) hb))));repeat (go_quiet (fail); go_upto_region 11 with (fail))
           (try simp only [Act.put, List.setIfInBounds_toArray, List.set_cons_zero, List.set_cons_succ])
           go_cut [49] (fun v49 wc => ∃ (kq : Nat) (x49_41 : Bool), v49 = .bool x49_41 ∧ Q0 (QG.j1 kq l0 x9_7 x49_41 ((Q7 l0 a1).f0) ((Q7 l0 a1).f1) ((Q7 l0 a1).f2) ((Q7 l0 a1).f3) ((Q7 l0 a1).f4) ((Q7 l0 a1).f5) ((QH ((Q7 l0 a1).f5) a2).f0) ((QH ((Q7 l0 a1).f5) a2).f1) ((QH ((Q7 l0 a1).f5) a2).f2) = some r) ∧ Q0 (kq ≤ kj7) ∧ Q0 (wc.heap[gb112]? = some (.cells #[.int .i64 ((Q7 l0 a1).f0), .string ((Q7 l0 a1).f1), .int .i64 ((Q7 l0 a1).f2), .int .i64 ((Q7 l0 a1).f3), .int .i64 ((Q7 l0 a1).f4), (.slice (some ad113) ((Q7 l0 a1).f5).length c111_5)] 122 (0, 0))) ∧ Q0 (wc.heap[gb114]? = some (.cells #[.string ((QH ((Q7 l0 a1).f5) a2).f0), .int .i64 ((QH ((Q7 l0 a1).f5) a2).f1), .int .i64 ((QH ((Q7 l0 a1).f5) a2).f2)] 137 (0, 0))) ∧ Q0 (Below w.heap.size w wc))
           case first =>
            have H := HC42.out;clear HC42;by_cases c48 : ((QH ((Q7 l0 a1).f5) a2).f1) < 0
            ·rw [if_pos c48] at H;have c48b0 : decide (((QH ((Q7 l0 a1).f5) a2).f1) < 0) = true := decide_eq_true c48;clear c48
             (first | rw [c48b0] | (simp only [QN, QO]; rw [c48b0]) | skip)
             have H' := Q0.mk H;clear H;have hnb49 := NB114_112.out;have hnc49 := NB112_114.out;obtain ⟨hcz50_0, hcz50_1, hcz50_2⟩ := cells3 BK114.out;go_wp2;(repeat (go_quiet (fail); try go_wp2));go_meet;case rel => exact ⟨_, (true), (by first | rfl | (simp [*]; done)), H', ⟨by have := HJ7.out; first | omega | exact Nat.le_refl _⟩, ⟨by (with_reducible repeat (first | refine Q8 ?_ _ | refine Qb ?_ | refine Q9 ?_ _)); exact BK112.out⟩, ⟨by (with_reducible repeat (first | refine Q8 ?_ _ | refine Qb ?_ | refine Q9 ?_ _)); exact BK114.out⟩, ⟨by repeat (first | exact HB.out | apply Q5 | apply Q2 | apply Q6 | refine Q1 ?_ GE112.out | refine Q1 ?_ GE114.out)⟩⟩
            ·rw [if_neg c48] at H;have c48b0 : decide (((QH ((Q7 l0 a1).f5) a2).f1) < 0) = false := decide_eq_false c48;clear c48
             (first | rw [c48b0] | (simp only [QN, QO]; rw [c48b0]) | skip)
             have H' := Q0.mk H;clear H;have hnb51 := NB114_112.out;have hnc51 := NB112_114.out;obtain ⟨hcz52_0, hcz52_1, hcz52_2⟩ := cells3 BK114.out;go_wp2;(repeat (go_quiet (fail); try go_wp2));go_meet;case rel => exact ⟨_, (decide (((QH ((Q7 l0 a1).f5) a2).f1) ≥ a1)), (by first | rfl | (simp [*]; done)), H', ⟨by have := HJ7.out; first | omega | exact Nat.le_refl _⟩, ⟨by (with_reducible repeat (first | refine Q8 ?_ _ | refine Qb ?_ | refine Q9 ?_ _)); exact BK112.out⟩, ⟨by (with_reducible repeat (first | refine Q8 ?_ _ | refine Qb ?_ | refine Q9 ?_ _)); exact BK114.out⟩, ⟨by repeat (first | exact HB.out | apply Q5 | apply Q2 | apply Q6 | refine Q1 ?_ GE112.out | refine Q1 ?_ GE114.out)⟩⟩
           case rest =>
            clear HC42;(try clear c1);(try clear p1);(try clear q1);(try clear hx1);(try clear c2);(try clear p2);(try clear c3);(try clear c4);(try clear c4b0);(try clear q4);(try clear c5);(try clear c5b0);(try clear c6);(try clear c6b0);(try clear p6);(try clear c7);(try clear c7b0);(try clear c8);(try clear c11);(try clear p11);(try clear q11);(try clear hx11);(try clear c14);(try clear c17);(try clear c17b0);(try clear c19);(try clear c19b0);(try clear c20);(try clear c20b0);(try clear c21);(try clear c21b0);(try clear c22);(try clear c22b0);(try clear c23);(try clear c26);(try clear c27);(try clear c32);(try clear c33);(try clear c33b0);(try clear c33b1);(try clear c34);(try clear c34b0);(try clear c34b1);(try clear c36);(try clear c37);(try clear q40);(try clear c43);(try clear q46);(try clear c48);(try clear c48b0);(try clear c49);(try clear c51);(try clear hx111_0);(try clear hx111_1);(try clear hx111_2);(try clear hx111_3);(try clear hx111_4);(try clear hx111_5);(try clear hx113_0);(try clear hx113_1);(try clear hx113_2);(try clear hx115_0);(try clear hx115_1);(try clear hx115_2);(try clear hx117_0);(try clear hx117_1);(try clear hx117_2);(try clear hx117_3);(try clear hx117_4);(try clear hx117_5);(try clear p1);(try clear p11);(try clear p111);(try clear p113);(try clear p115);(try clear p117);(try clear p2);(try clear p6);(try clear q1);(try clear q11);(try clear q111);(try clear q113);(try clear q115);(try clear q117);(try clear q40);(try clear q46);obtain ⟨kq, x49_41, rfl, HA, HJ41, BK112, BK114, HB⟩ := hcut
            cases kq with
            | zero => exact absurd HA.out (by simp [QG.j1])
            | succ kj41 =>
             have H := HA.out;clear HA;simp only [QG.j1] at H;by_cases c53 : x49_41 = true
             ·subst c53;rw [if_pos rfl] at H;obtain rfl := Option.some.inj H;go_wp2;(repeat (go_quiet (fail); try go_wp2));go_ret;exact ⟨by first | rfl | (simp [*]; done), by repeat (first | exact HB.out | apply Q5 | apply Q2 | apply Q6 | refine Q1 ?_ GE112.out | refine Q1 ?_ GE114.out)⟩
             ·replace c53 := Bool.eq_false_iff.mpr c53;subst c53;rw [if_neg (show ¬ (false = true) by decide)] at H;by_cases c54 : ((QH ((Q7 l0 a1).f5) a2).f2) < x9_7
              ·rw [if_pos c54] at H;have c54b0 : decide (((QH ((Q7 l0 a1).f5) a2).f2) < x9_7) = true := decide_eq_true c54;clear c54;obtain rfl := Option.some.inj H;have hnb55 := NB114_112.out;have hnc55 := NB112_114.out;obtain ⟨hcz56_0, hcz56_1, hcz56_2⟩ := cells3 BK114.out;go_wp2;(repeat (go_quiet (fail); try go_wp2));go_ret;exact ⟨by first | rfl | (simp [*]; done), by repeat (first | exact HB.out | apply Q5 | apply Q2 | apply Q6 | refine Q1 ?_ GE112.out | refine Q1 ?_ GE114.out)⟩
              ·rw [if_neg c54] at H;have c54b0 : decide (((QH ((Q7 l0 a1).f5) a2).f2) < x9_7) = false := decide_eq_false c54;clear c54;by_cases c57 : ((QH ((Q7 l0 a1).f5) a2).f2) > ((Q7 l0 a1).f2)
               ·rw [if_pos c57] at H;have c57b0 : decide (((Q7 l0 a1).f2) < ((QH ((Q7 l0 a1).f5) a2).f2)) = true := decide_eq_true c57;clear c57;obtain rfl := Option.some.inj H;have hnb58 := NB114_112.out;have hnc58 := NB112_114.out;obtain ⟨hcz59_0, hcz59_1, hcz59_2⟩ := cells3 BK114.out;obtain ⟨hcz60_0, hcz60_1, hcz60_2, hcz60_3, hcz60_4, hcz60_5⟩ := QF BK112.out;go_wp2;(repeat (go_quiet (fail); try go_wp2));go_ret;exact ⟨by first | rfl | (simp [*]; done), by repeat (first | exact HB.out | apply Q5 | apply Q2 | apply Q6 | refine Q1 ?_ GE112.out | refine Q1 ?_ GE114.out)⟩
               ·rw [if_neg c57] at H;have c57b0 : decide (((Q7 l0 a1).f2) < ((QH ((Q7 l0 a1).f5) a2).f2)) = false := decide_eq_false c57;clear c57;by_cases c61 : 0 ≤ ((QH ((Q7 l0 a1).f5) a2).f1)
                ·rw [if_pos c61] at H;have c61b0 : decide (0 ≤ ((QH ((Q7 l0 a1).f5) a2).f1)) = true := decide_eq_true c61;clear c61;by_cases c62 : ((QH ((Q7 l0 a1).f5) a2).f1) < (l0.length : Int)
                 ·rw [if_pos c62] at H;have c62b0 : decide (((QH ((Q7 l0 a1).f5) a2).f1) < (l0.length : Int)) = true := decide_eq_true c62;clear c62;by_cases c63 : (wrap64 (((QH ((Q7 l0 a1).f5) a2).f2) + ((Q7 l0 ((QH ((Q7 l0 a1).f5) a2).f1)).f2))) > ((Q7 l0 a1).f2)
                  ·rw [if_pos c63] at H;have c63b0 : decide (((Q7 l0 a1).f2) < (wrap64 (((QH ((Q7 l0 a1).f5) a2).f2) + ((Q7 l0 ((QH ((Q7 l0 a1).f5) a2).f1)).f2)))) = true := decide_eq_true c63;clear c63;obtain rfl := Option.some.inj H;have hnb64 := NB114_112.out;have hnc64 := NB112_114.out;obtain ⟨hcz65_0, hcz65_1, hcz65_2⟩ := cells3 BK114.out;obtain ⟨hcz66_0, hcz66_1, hcz66_2, hcz66_3, hcz66_4, hcz66_5⟩ := QF BK112.out;have p124 : 0 ≤ (((QH ((Q7 l0 a1).f5) a2).f1) : Int) := of_decide_eq_true ‹_›;have q124 : ((QH ((Q7 l0 a1).f5) a2).f1) < (l0.length : Int) := of_decide_eq_true ‹_›;obtain ⟨ad124, A124_5, c124_5, e124, hx124_0, hx124_1, hx124_2, hx124_3, hx124_4, hx124_5, hl124_5, hi124_5⟩ := at_T122 HR0.out ((QH ((Q7 l0 a1).f5) a2).f1) p124 q124;obtain rfl : ad111 = ad124 := (by injection e124);replace hx124_0 := cup HB.out hx124_0;replace hx124_1 := cup HB.out hx124_1;replace hx124_2 := cup HB.out hx124_2;replace hx124_3 := cup HB.out hx124_3;replace hx124_4 := cup HB.out hx124_4;replace hx124_5 := cup HB.out hx124_5;have HR124_5 := Q0.mk hi124_5;have HC124_5 := Q0.mk hl124_5;clear hi124_5 hl124_5;replace p124 := eq_true p124;replace q124 := eq_true q124;go_wp2;(repeat (go_quiet (fail); try go_wp2));go_ret;exact ⟨by first | rfl | (simp [*]; done), by repeat (first | exact HB.out | apply Q5 | apply Q2 | apply Q6 | refine Q1 ?_ GE112.out | refine Q1 ?_ GE114.out)⟩
                  ·rw [if_neg c63] at H;have c63b0 : decide (((Q7 l0 a1).f2) < (wrap64 (((QH ((Q7 l0 a1).f5) a2).f2) + ((Q7 l0 ((QH ((Q7 l0 a1).f5) a2).f1)).f2)))) = false := decide_eq_false c63;clear c63;obtain rfl := Option.some.inj H;have hnb67 := NB114_112.out;have hnc67 := NB112_114.out;obtain ⟨hcz68_0, hcz68_1, hcz68_2⟩ := cells3 BK114.out;obtain ⟨hcz69_0, hcz69_1, hcz69_2, hcz69_3, hcz69_4, hcz69_5⟩ := QF BK112.out;have p124 : 0 ≤ (((QH ((Q7 l0 a1).f5) a2).f1) : Int) := of_decide_eq_true ‹_›;have q124 : ((QH ((Q7 l0 a1).f5) a2).f1) < (l0.length : Int) := of_decide_eq_true ‹_›;obtain ⟨ad124, A124_5, c124_5, e124, hx124_0, hx124_1, hx124_2, hx124_3, hx124_4, hx124_5, hl124_5, hi124_5⟩ := at_T122 HR0.out ((QH ((Q7 l0 a1).f5) a2).f1) p124 q124;obtain rfl : ad111 = ad124 := (by injection e124);replace hx124_0 := cup HB.out hx124_0;replace hx124_1 := cup HB.out hx124_1;replace hx124_2 := cup HB.out hx124_2;replace hx124_3 := cup HB.out hx124_3;replace hx124_4 := cup HB.out hx124_4;replace hx124_5 := cup HB.out hx124_5;have HR124_5 := Q0.mk hi124_5;have HC124_5 := Q0.mk hl124_5;clear hi124_5 hl124_5;replace p124 := eq_true p124;replace q124 := eq_true q124;go_wp2;(repeat (go_quiet (fail); try go_wp2));go_ret;exact ⟨by first | rfl | (simp [*]; done), by repeat (first | exact HB.out | apply Q5 | apply Q2 | apply Q6 | refine Q1 ?_ GE112.out | refine Q1 ?_ GE114.out)⟩
                 ·rw [if_neg c62] at H;exact absurd H (by simp)
                ·rw [if_neg c61] at H;exact absurd H (by simp)
         ·rw [if_neg c34] at H;exact absurd H (by simp)
        ·rw [if_neg c33] at H;exact absurd H (by simp)
       ·replace c32 := Bool.eq_false_iff.mpr c32;subst c32;rw [if_neg (show ¬ (false = true) by decide)] at H;obtain rfl := Option.some.inj H;have hnb70 := NB114_112.out;have hnc70 := NB112_114.out;obtain ⟨hcz71_0, hcz71_1, hcz71_2⟩ := cells3 BK114.out;go_wp2_with (first | (go_at_call 43; (with_reducible refine (Qo.calls kj7 ((QH ((Q7 l0 a1).f5) a2).f0) false _ A31.out).mono ?_); rintro e w' ⟨rfl, ⟨nd, rfl⟩⟩; (try first | exact ⟨rfl, _, World.drewN_drewN _ _ _⟩ | exact ⟨rfl, _, Eq.trans (World.drewN_drewN _ _ _) (congrArg (World.drewN _) (Nat.add_assoc _ _ _))⟩)));(repeat (go_quiet (fail); try go_wp2));go_ret;exact ⟨by first | rfl | (simp [*]; done), by repeat (first | exact HB.out | apply Q5 | apply Q2 | apply Q6 | refine Q1 ?_ GE112.out | refine Q1 ?_ GE114.out)⟩
    ·rw [if_neg c7] at H;exact absurd H (by simp)
   ·rw [if_neg c6] at H;exact absurd H (by simp)
  ·rw [if_neg c5] at H;exact absurd H (by simp)
 ·rw [if_neg c4] at H;exact absurd H (by simp)
end Go.Proofs.Ytakabkjhnncbhaa.PX
