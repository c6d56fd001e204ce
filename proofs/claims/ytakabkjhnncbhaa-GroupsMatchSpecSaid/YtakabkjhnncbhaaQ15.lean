-- Written by this session's own programs (wip/printx.py, gen_*.py, assemble.py) and by hand.
import Derived.Test.YtakabkjhnncbhaaQ14
import Derived.ChangeArms
import Derived.DataReads
import Derived.SliceStrings
namespace Go.Proofs.Ytakabkjhnncbhaa.PX
open Go.RowKit Go.Proofs.YtakabkjhnncbhaaW.PrintWords Go.Proofs.YtakabkjhnncbhaaW.PrintLast Go.Proofs.YtakabkjhnncbhaaW.PrintMore
set_option linter.unusedVariables false
set_option linter.unusedSimpArgs false
theorem groups_match (l : List (S46)) (nm : ByteArray) (hz : ∀ i : Int, SzM (Q3 l i)) (hl : l.length ≤ 9223372036854775807) : Ev (fun k => Qm.f k l nm) true := by
  obtain ⟨⟨w1, w2⟩, hc, hlf, hgood⟩ := tot_lists l hz hl
  unfold Qm.f
  refine Ev.bind hlf ?_
  by_cases c : w1 = 0
  · obtain ⟨c2, hG⟩ := hgood c
    have c2 : w2 = 0 := c2
    subst c c2
    refine Ev.bind (choose_good l hG) ?_
    refine Ev.bind (owner_good l nm hG) ?_
    refine Ev.bind chooses_true ?_
    refine Ev.yes rfl (Ev.no (show ¬ ((!((0 : Int) == 0) || !((0 : Int) == 0)) = true) from by decide) ?_)
    refine Ev.step (fun k => by rw [Qm.j0]) ?_
    refine Ev.no (by decide) ?_
    obtain ⟨r, hr, hev⟩ := tot_GroupOf l nm hl (ngrpAll hz)
    subst hr
    refine Ev.bind hev ?_
    have h3 := (firstG_fresh l nm l.length 0).2.2
    by_cases h : (XT l nm l.length 0).1 < 0
    · simp only [if_pos h]
      refine Ev.bind (linked_good l hG) ?_
      refine Ev.bind (same_T2 hG _) ?_
      exact Ev.now _
    · simp only [if_neg h]
      refine Ev.bind (linked_good l hG) ?_
      refine Ev.bind (same_T2 hG _) ?_
      refine Ev.yes (by first | trivial | rfl) (Ev.yes (by first | trivial | rfl) (Ev.yes (by first | trivial | rfl) ?_))
      simp only [beq_self_eq_true]
      exact Ev.now _
  · refine Ev.bind (choose_bad l (w1, w2) hc c) ?_
    refine Ev.bind (owner_bad l nm (w1, w2) hc c) ?_
    refine Ev.bind chooses_true ?_
    refine Ev.yes rfl (Ev.no (by simp) ?_)
    refine Ev.step (fun k => by rw [Qm.j0]) ?_
    refine Ev.yes (bne_iff_ne.2 c) ?_
    refine Ev.bind chooses_true ?_
    refine Ev.yes rfl (Ev.yes (by simp) (Ev.yes (by simp) ?_))
    refine Ev.yes (by first | trivial | rfl | simp) (Ev.yes (by first | trivial | rfl | simp) ?_)
    exact Ev.now _
end Go.Proofs.Ytakabkjhnncbhaa.PX
namespace Go.Proofs.Ytakabkjhnncbhaa.PX
open Go.RowKit Go.Proofs.YtakabkjhnncbhaaW.PrintWords Go.Proofs.YtakabkjhnncbhaaW.PrintLast Go.Proofs.YtakabkjhnncbhaaW.PrintMore
open Go.ChangeShapes Go.WideShapes
set_option linter.unusedVariables false
set_option linter.unusedSimpArgs false
theorem addr_add_add (a : Addr) (m n : Nat) : (a.add m).add n = a.add (m + n) := by
  unfold Addr.add
  by_cases hm : m = 0
  · subst hm; simp
  · by_cases hn : n = 0
    · subst hn; simp
    · simp [hm, hn, Nat.add_assoc]
structure Op {α : Type} (d : Kd α) (t : TypeId) (Sz : α → Prop) : Prop where
  cells : Try.prog.cellsOf t = d.sz
  opens : ∀ {H : Type} {enc : TypeId × Value → H} {W : World} {base : Nat} {sp : Nat → Bool} {held : Bool} {fuel : Nat} {cs : List Value} {x : DataW H × List MemPlace}, DataW.trod enc Try.prog W base sp held fuel t cs = some x → ∃ a, d.K W a cs ∧ Sz a
theorem XR {k : IntKind} {t : TypeId} (ht : Try.prog.underlying t = some (.int k)) (hc : Try.prog.cellsOf t = 1) : Op (Kd.int k) t (fun _ => True) :=
  ⟨hc, fun h => by obtain ⟨n, rfl, _, _⟩ := DataW.trod_int ht h; exact ⟨n, rfl, trivial⟩⟩
theorem op_bool {t : TypeId} (ht : Try.prog.underlying t = some .bool) (hc : Try.prog.cellsOf t = 1) : Op Kd.bool t (fun _ => True) :=
  ⟨hc, fun h => by obtain ⟨n, rfl, _⟩ := DataW.trod_bool ht h; exact ⟨n, rfl, trivial⟩⟩
theorem Ym {t : TypeId} (ht : Try.prog.underlying t = some .string) (hc : Try.prog.cellsOf t = 1) : Op Kd.string t OkS :=
  ⟨hc, fun h => by obtain ⟨n, rfl, _, hs⟩ := DataW.trod_string ht h; exact ⟨n, rfl, hs⟩⟩
def sl {α : Type} (P : α → Prop) (l : List α) : Prop := l.length ≤ 9223372036854775807 ∧ ∀ x ∈ l, P x
theorem Yc {α : Type} {d : Kd α} {e t : TypeId} {Sz : α → Prop} (ho : Op d e Sz) (ht : Try.prog.underlying t = some (.slice e)) (hc : Try.prog.cellsOf t = 1) : Op (Kd.slice e d) t (sl Sz) := by
  refine ⟨hc, fun {_ enc W base sp held fuel cs x} h => ?_⟩
  rcases DataW.trod_slice ht h with ⟨rfl, _⟩ | ⟨a, len, cap, elems, rest, n, _, rfl, _, hb, hl, hm, hlen, hel, _, _⟩
  · exact ⟨[], ⟨none, 0, rfl, Nat.le_refl _, rfl, Nat.zero_le _, fun h => absurd h (Nat.lt_irrefl _)⟩, Nat.zero_le _, fun x hx => absurd hx (List.not_mem_nil)⟩
  · have hq : ∀ i : Fin len, ∃ y : α, Sz y ∧ ∃ c, c.length = d.sz ∧ d.K W y c ∧ ∀ j u, c[j]? = some u → W.cell? (a.add (i.val * d.sz + j)) = some u := by
      intro i
      have h1 := hel i.val i.isLt
      rw [List.getElem?_eq_getElem (by omega : i.val < elems.length), Option.bind_eq_some_iff] at h1
      obtain ⟨c, hcs, hy⟩ := h1
      obtain ⟨y, hK, hS⟩ := ho.opens hy
      refine ⟨y, hS, c, d.K_len hK, hK, fun j u hu => ?_⟩
      rw [ho.cells] at hcs
      obtain ⟨_, _, hcell⟩ := World.cells?_some hcs
      have hj : j < d.sz := by have := (List.getElem?_eq_some_iff.1 hu).1; rw [d.K_len hK] at this; exact this
      have := hcell j hj
      rw [hu] at this
      rw [addr_add_add] at this
      exact this
    obtain ⟨f, hf⟩ := Classical.axiomOfChoice hq
    have hmax : len ≤ 9223372036854775807 := Nat.le_trans hl (by simpa [maxLen] using hm)
    have hll : (List.ofFn f).length = len := List.length_ofFn
    refine ⟨List.ofFn f, ⟨some a, cap, by rw [hll], by rw [hll]; exact hl, rfl, by rw [hll]; exact hmax, fun _ => ⟨a, rfl, fun j p hp => ?_⟩⟩, by rw [hll]; exact hmax, fun y hy => ?_⟩
    · obtain ⟨hj, rfl⟩ := List.getElem?_eq_some_iff.1 hp
      rw [List.getElem_ofFn]
      obtain ⟨_, c, h1, h2, h3⟩ := hf ⟨j, by rw [hll] at hj; exact hj⟩
      exact ⟨c, h1, h2, h3⟩
    · obtain ⟨i, rfl⟩ := List.mem_ofFn.1 hy
      exact (hf i).1
theorem Xb {α : Type} {d : Kd α} {ft : TypeId} {Sz : α → Prop} (ho : Op d ft Sz) {H : Type} {enc : TypeId × Value → H} {W : World} {base : Nat} {sp : Nat → Bool} {held : Bool} {n : Nat} {fs : Array Field} {cs : List Value} {xs : List (DataW H × List MemPlace)}
    (hf : ∀ (i : Nat) (f : Field), fs[i]? = some f → DataW.trod enc Try.prog W base sp held n f.type ((cs.drop f.offset).take (Try.prog.cellsOf f.type)) = xs[i]?) (hn : xs.length = fs.size) (i : Nat) {f : Field} (hi : fs[i]? = some f) (ht : f.type = ft) {o : Nat} (hofs : f.offset = o) :
    ∃ a, d.K W a ((cs.drop o).take d.sz) ∧ Sz a := by
  have h := hf i f hi
  have hlt : i < xs.length := by rw [hn]; exact (Array.getElem?_eq_some_iff.1 hi).1
  rw [List.getElem?_eq_getElem hlt, ht, hofs, ho.cells] at h
  exact ho.opens h
theorem Xq {α β : Type} {a : Kd α} {b : Kd β} {W : World} {x : α} {y : β} {cs : List Value} {o o' : Nat} (ha : a.K W x ((cs.drop o).take a.sz)) (hb : b.K W y ((cs.drop o').take b.sz)) (h : o' = o + a.sz := by rfl) : (Kd.pair a b).K W (x, y) ((cs.drop o).take (Kd.pair a b).sz) := by
  subst h
  refine ⟨_, _, ?_, ha, hb⟩
  show (cs.drop o).take (a.sz + b.sz) = _
  rw [List.take_add, List.drop_drop]
theorem sl_rd {α : Type} {P : α → Prop} {l : List α} (h : sl P l) (z : α) (hz : P z) (i : Nat) : P (l.getD i z) := by
  by_cases hi : i < l.length
  · rw [List.getD_eq_getElem?_getD, List.getElem?_eq_getElem hi]
    exact h.2 _ (List.getElem_mem hi)
  · rw [List.getD_eq_getElem?_getD, List.getElem?_eq_none (by omega)]
    exact hz
def s97 (x : S97) : Prop := (fun _ => True) x.f0 ∧ (fun _ => True) x.f1 ∧ (fun _ => True) x.f2 ∧ (fun _ => True) x.f3
theorem op97 : Op k97 97 s97 := by
  refine ⟨by kernel_rfl, fun {_ _ W _ _ _ fuel cs x} h => ?_⟩
  obtain ⟨xs, n, rfl, _, hl, hn, hf⟩ := DataW.trod_struct Try.underlying97 h
  obtain ⟨a0, K0, s0⟩ := Xb (XR Try.underlying3 (by kernel_rfl)) hf hn 0 rfl rfl (o := 0) rfl
  obtain ⟨a1, K1, s1⟩ := Xb (XR Try.underlying3 (by kernel_rfl)) hf hn 1 rfl rfl (o := 1) rfl
  obtain ⟨a2, K2, s2⟩ := Xb (XR Try.underlying3 (by kernel_rfl)) hf hn 2 rfl rfl (o := 2) rfl
  obtain ⟨a3, K3, s3⟩ := Xb (XR Try.underlying3 (by kernel_rfl)) hf hn 3 rfl rfl (o := 3) rfl
  have hK := (Xq K0 (Xq K1 (Xq K2 K3)))
  refine ⟨⟨a0, a1, a2, a3⟩, ?_, ⟨s0, s1, s2, s3⟩⟩
  have hlen : cs.length = 4 := hl.trans (by kernel_rfl)
  rw [List.drop_zero, List.take_of_length_le (by rw [hlen]; exact Nat.le_refl _)] at hK
  exact hK
def s126 (x : S126) : Prop := (fun _ => True) x.f0 ∧ (fun _ => True) x.f1 ∧ (fun _ => True) x.f2
theorem op126 : Op k126 126 s126 := by
  refine ⟨by kernel_rfl, fun {_ _ W _ _ _ fuel cs x} h => ?_⟩
  obtain ⟨xs, n, rfl, _, hl, hn, hf⟩ := DataW.trod_struct Try.underlying126 h
  obtain ⟨a0, K0, s0⟩ := Xb (XR Try.underlying3 (by kernel_rfl)) hf hn 0 rfl rfl (o := 0) rfl
  obtain ⟨a1, K1, s1⟩ := Xb (XR Try.underlying3 (by kernel_rfl)) hf hn 1 rfl rfl (o := 1) rfl
  obtain ⟨a2, K2, s2⟩ := Xb (XR Try.underlying3 (by kernel_rfl)) hf hn 2 rfl rfl (o := 2) rfl
  have hK := (Xq K0 (Xq K1 K2))
  refine ⟨⟨a0, a1, a2⟩, ?_, ⟨s0, s1, s2⟩⟩
  have hlen : cs.length = 3 := hl.trans (by kernel_rfl)
  rw [List.drop_zero, List.take_of_length_le (by rw [hlen]; exact Nat.le_refl _)] at hK
  exact hK
def s128 (x : S128) : Prop := (fun _ => True) x.f0 ∧ (fun _ => True) x.f1 ∧ (fun _ => True) x.f2 ∧ (fun _ => True) x.f3
theorem op128 : Op k128 128 s128 := by
  refine ⟨by kernel_rfl, fun {_ _ W _ _ _ fuel cs x} h => ?_⟩
  obtain ⟨xs, n, rfl, _, hl, hn, hf⟩ := DataW.trod_struct Try.underlying128 h
  obtain ⟨a0, K0, s0⟩ := Xb (XR Try.underlying3 (by kernel_rfl)) hf hn 0 rfl rfl (o := 0) rfl
  obtain ⟨a1, K1, s1⟩ := Xb (XR Try.underlying3 (by kernel_rfl)) hf hn 1 rfl rfl (o := 1) rfl
  obtain ⟨a2, K2, s2⟩ := Xb (XR Try.underlying3 (by kernel_rfl)) hf hn 2 rfl rfl (o := 2) rfl
  obtain ⟨a3, K3, s3⟩ := Xb (XR Try.underlying3 (by kernel_rfl)) hf hn 3 rfl rfl (o := 3) rfl
  have hK := (Xq K0 (Xq K1 (Xq K2 K3)))
  refine ⟨⟨a0, a1, a2, a3⟩, ?_, ⟨s0, s1, s2, s3⟩⟩
  have hlen : cs.length = 4 := hl.trans (by kernel_rfl)
  rw [List.drop_zero, List.take_of_length_le (by rw [hlen]; exact Nat.le_refl _)] at hK
  exact hK
def s89 (x : S89) : Prop := OkS x.f0 ∧ (fun _ => True) x.f1 ∧ (fun _ => True) x.f2 ∧ (sl (fun _ => True)) x.f3 ∧ (fun _ => True) x.f4 ∧ (fun _ => True) x.f5 ∧ (sl s97) x.f6 ∧ (sl s126) x.f7 ∧ (sl s128) x.f8
theorem op89 : Op k89 89 s89 := by
  refine ⟨by kernel_rfl, fun {_ _ W _ _ _ fuel cs x} h => ?_⟩
  obtain ⟨xs, n, rfl, _, hl, hn, hf⟩ := DataW.trod_struct Try.underlying89 h
  obtain ⟨a0, K0, s0⟩ := Xb (Ym Try.underlying9 (by kernel_rfl)) hf hn 0 rfl rfl (o := 0) rfl
  obtain ⟨a1, K1, s1⟩ := Xb (XR Try.underlying3 (by kernel_rfl)) hf hn 1 rfl rfl (o := 1) rfl
  obtain ⟨a2, K2, s2⟩ := Xb (XR Try.underlying3 (by kernel_rfl)) hf hn 2 rfl rfl (o := 2) rfl
  obtain ⟨a3, K3, s3⟩ := Xb (Yc (XR Try.underlying5 (by kernel_rfl)) Try.underlying84 (by kernel_rfl)) hf hn 3 rfl rfl (o := 3) rfl
  obtain ⟨a4, K4, s4⟩ := Xb (XR Try.underlying3 (by kernel_rfl)) hf hn 4 rfl rfl (o := 4) rfl
  obtain ⟨a5, K5, s5⟩ := Xb (op_bool Try.underlying4 (by kernel_rfl)) hf hn 5 rfl rfl (o := 5) rfl
  obtain ⟨a6, K6, s6⟩ := Xb (Yc op97 Try.underlying85 (by kernel_rfl)) hf hn 6 rfl rfl (o := 6) rfl
  obtain ⟨a7, K7, s7⟩ := Xb (Yc op126 Try.underlying86 (by kernel_rfl)) hf hn 7 rfl rfl (o := 7) rfl
  obtain ⟨a8, K8, s8⟩ := Xb (Yc op128 Try.underlying87 (by kernel_rfl)) hf hn 8 rfl rfl (o := 8) rfl
  have hK := (Xq K0 (Xq K1 (Xq K2 (Xq K3 (Xq K4 (Xq K5 (Xq K6 (Xq K7 K8))))))))
  refine ⟨⟨a0, a1, a2, a3, a4, a5, a6, a7, a8⟩, ?_, ⟨s0, s1, s2, s3, s4, s5, s6, s7, s8⟩⟩
  have hlen : cs.length = 9 := hl.trans (by kernel_rfl)
  rw [List.drop_zero, List.take_of_length_le (by rw [hlen]; exact Nat.le_refl _)] at hK
  exact hK
def s61 (x : S61) : Prop := OkS x.f0 ∧ OkS x.f1 ∧ (fun _ => True) x.f2 ∧ (fun _ => True) x.f3 ∧ (fun _ => True) x.f4 ∧ (fun _ => True) x.f5 ∧ (fun _ => True) x.f6 ∧ (fun _ => True) x.f7 ∧ (fun _ => True) x.f8
theorem op61 : Op k61 61 s61 := by
  refine ⟨by kernel_rfl, fun {_ _ W _ _ _ fuel cs x} h => ?_⟩
  obtain ⟨xs, n, rfl, _, hl, hn, hf⟩ := DataW.trod_struct Try.underlying61 h
  obtain ⟨a0, K0, s0⟩ := Xb (Ym Try.underlying9 (by kernel_rfl)) hf hn 0 rfl rfl (o := 0) rfl
  obtain ⟨a1, K1, s1⟩ := Xb (Ym Try.underlying9 (by kernel_rfl)) hf hn 1 rfl rfl (o := 1) rfl
  obtain ⟨a2, K2, s2⟩ := Xb (op_bool Try.underlying4 (by kernel_rfl)) hf hn 2 rfl rfl (o := 2) rfl
  obtain ⟨a3, K3, s3⟩ := Xb (op_bool Try.underlying4 (by kernel_rfl)) hf hn 3 rfl rfl (o := 3) rfl
  obtain ⟨a4, K4, s4⟩ := Xb (XR Try.underlying3 (by kernel_rfl)) hf hn 4 rfl rfl (o := 4) rfl
  obtain ⟨a5, K5, s5⟩ := Xb (XR Try.underlying3 (by kernel_rfl)) hf hn 5 rfl rfl (o := 5) rfl
  obtain ⟨a6, K6, s6⟩ := Xb (XR Try.underlying3 (by kernel_rfl)) hf hn 6 rfl rfl (o := 6) rfl
  obtain ⟨a7, K7, s7⟩ := Xb (XR Try.underlying3 (by kernel_rfl)) hf hn 7 rfl rfl (o := 7) rfl
  obtain ⟨a8, K8, s8⟩ := Xb (XR Try.underlying3 (by kernel_rfl)) hf hn 8 rfl rfl (o := 8) rfl
  have hK := (Xq K0 (Xq K1 (Xq K2 (Xq K3 (Xq K4 (Xq K5 (Xq K6 (Xq K7 K8))))))))
  refine ⟨⟨a0, a1, a2, a3, a4, a5, a6, a7, a8⟩, ?_, ⟨s0, s1, s2, s3, s4, s5, s6, s7, s8⟩⟩
  have hlen : cs.length = 9 := hl.trans (by kernel_rfl)
  rw [List.drop_zero, List.take_of_length_le (by rw [hlen]; exact Nat.le_refl _)] at hK
  exact hK
def s49 (x : S49) : Prop := OkS x.f0 ∧ (sl (fun _ => True)) x.f1
theorem op49 : Op k49 49 s49 := by
  refine ⟨by kernel_rfl, fun {_ _ W _ _ _ fuel cs x} h => ?_⟩
  obtain ⟨xs, n, rfl, _, hl, hn, hf⟩ := DataW.trod_struct Try.underlying49 h
  obtain ⟨a0, K0, s0⟩ := Xb (Ym Try.underlying9 (by kernel_rfl)) hf hn 0 rfl rfl (o := 0) rfl
  obtain ⟨a1, K1, s1⟩ := Xb (Yc (XR Try.underlying3 (by kernel_rfl)) Try.underlying47 (by kernel_rfl)) hf hn 1 rfl rfl (o := 1) rfl
  have hK := (Xq K0 K1)
  refine ⟨⟨a0, a1⟩, ?_, ⟨s0, s1⟩⟩
  have hlen : cs.length = 2 := hl.trans (by kernel_rfl)
  rw [List.drop_zero, List.take_of_length_le (by rw [hlen]; exact Nat.le_refl _)] at hK
  exact hK
def s137 (x : S137) : Prop := OkS x.f0 ∧ (fun _ => True) x.f1 ∧ (fun _ => True) x.f2
theorem op137 : Op k137 137 s137 := by
  refine ⟨by kernel_rfl, fun {_ _ W _ _ _ fuel cs x} h => ?_⟩
  obtain ⟨xs, n, rfl, _, hl, hn, hf⟩ := DataW.trod_struct Try.underlying137 h
  obtain ⟨a0, K0, s0⟩ := Xb (Ym Try.underlying9 (by kernel_rfl)) hf hn 0 rfl rfl (o := 0) rfl
  obtain ⟨a1, K1, s1⟩ := Xb (XR Try.underlying3 (by kernel_rfl)) hf hn 1 rfl rfl (o := 1) rfl
  obtain ⟨a2, K2, s2⟩ := Xb (XR Try.underlying3 (by kernel_rfl)) hf hn 2 rfl rfl (o := 2) rfl
  have hK := (Xq K0 (Xq K1 K2))
  refine ⟨⟨a0, a1, a2⟩, ?_, ⟨s0, s1, s2⟩⟩
  have hlen : cs.length = 3 := hl.trans (by kernel_rfl)
  rw [List.drop_zero, List.take_of_length_le (by rw [hlen]; exact Nat.le_refl _)] at hK
  exact hK
def s122 (x : S122) : Prop := (fun _ => True) x.f0 ∧ OkS x.f1 ∧ (fun _ => True) x.f2 ∧ (fun _ => True) x.f3 ∧ (fun _ => True) x.f4 ∧ (sl s137) x.f5
theorem op122 : Op k122 122 s122 := by
  refine ⟨by kernel_rfl, fun {_ _ W _ _ _ fuel cs x} h => ?_⟩
  obtain ⟨xs, n, rfl, _, hl, hn, hf⟩ := DataW.trod_struct Try.underlying122 h
  obtain ⟨a0, K0, s0⟩ := Xb (XR Try.underlying3 (by kernel_rfl)) hf hn 0 rfl rfl (o := 0) rfl
  obtain ⟨a1, K1, s1⟩ := Xb (Ym Try.underlying9 (by kernel_rfl)) hf hn 1 rfl rfl (o := 1) rfl
  obtain ⟨a2, K2, s2⟩ := Xb (XR Try.underlying3 (by kernel_rfl)) hf hn 2 rfl rfl (o := 2) rfl
  obtain ⟨a3, K3, s3⟩ := Xb (XR Try.underlying3 (by kernel_rfl)) hf hn 3 rfl rfl (o := 3) rfl
  obtain ⟨a4, K4, s4⟩ := Xb (XR Try.underlying3 (by kernel_rfl)) hf hn 4 rfl rfl (o := 4) rfl
  obtain ⟨a5, K5, s5⟩ := Xb (Yc op137 Try.underlying120 (by kernel_rfl)) hf hn 5 rfl rfl (o := 5) rfl
  have hK := (Xq K0 (Xq K1 (Xq K2 (Xq K3 (Xq K4 K5)))))
  refine ⟨⟨a0, a1, a2, a3, a4, a5⟩, ?_, ⟨s0, s1, s2, s3, s4, s5⟩⟩
  have hlen : cs.length = 6 := hl.trans (by kernel_rfl)
  rw [List.drop_zero, List.take_of_length_le (by rw [hlen]; exact Nat.le_refl _)] at hK
  exact hK
def s46 (x : S46) : Prop := OkS x.f0 ∧ (sl s89) x.f1 ∧ (sl s61) x.f2 ∧ (sl s49) x.f3 ∧ (sl OkS) x.f4 ∧ (sl s122) x.f5
theorem op46 : Op k46 46 s46 := by
  refine ⟨by kernel_rfl, fun {_ _ W _ _ _ fuel cs x} h => ?_⟩
  obtain ⟨xs, n, rfl, _, hl, hn, hf⟩ := DataW.trod_struct Try.underlying46 h
  obtain ⟨a0, K0, s0⟩ := Xb (Ym Try.underlying9 (by kernel_rfl)) hf hn 0 rfl rfl (o := 0) rfl
  obtain ⟨a1, K1, s1⟩ := Xb (Yc op89 Try.underlying40 (by kernel_rfl)) hf hn 1 rfl rfl (o := 1) rfl
  obtain ⟨a2, K2, s2⟩ := Xb (Yc op61 Try.underlying41 (by kernel_rfl)) hf hn 2 rfl rfl (o := 2) rfl
  obtain ⟨a3, K3, s3⟩ := Xb (Yc op49 Try.underlying42 (by kernel_rfl)) hf hn 3 rfl rfl (o := 3) rfl
  obtain ⟨a4, K4, s4⟩ := Xb (Yc (Ym Try.underlying9 (by kernel_rfl)) Try.underlying43 (by kernel_rfl)) hf hn 4 rfl rfl (o := 4) rfl
  obtain ⟨a5, K5, s5⟩ := Xb (Yc op122 Try.underlying44 (by kernel_rfl)) hf hn 5 rfl rfl (o := 5) rfl
  have hK := (Xq K0 (Xq K1 (Xq K2 (Xq K3 (Xq K4 K5)))))
  refine ⟨⟨a0, a1, a2, a3, a4, a5⟩, ?_, ⟨s0, s1, s2, s3, s4, s5⟩⟩
  have hlen : cs.length = 6 := hl.trans (by kernel_rfl)
  rw [List.drop_zero, List.take_of_length_le (by rw [hlen]; exact Nat.le_refl _)] at hK
  exact hK
end Go.Proofs.Ytakabkjhnncbhaa.PX
namespace Go.Proofs.Ytakabkjhnncbhaa.PX
open Go.RowKit Go.Proofs.YtakabkjhnncbhaaW.PrintWords Go.Proofs.YtakabkjhnncbhaaW.PrintLast Go.Proofs.YtakabkjhnncbhaaW.PrintMore
set_option linter.unusedVariables false
set_option linter.unusedSimpArgs false
theorem zz97 : s97 z97 := ⟨trivial, trivial, trivial, trivial⟩
theorem zz126 : s126 z126 := ⟨trivial, trivial, trivial⟩
theorem zz128 : s128 z128 := ⟨trivial, trivial, trivial, trivial⟩
theorem sl_nil {α : Type} (P : α → Prop) : sl P [] := ⟨Nat.zero_le _, fun x hx => absurd hx (List.not_mem_nil)⟩
theorem ok_nil : OkS ⟨#[]⟩ := Nat.zero_le _
theorem zz89 : s89 z89 := ⟨ok_nil, trivial, trivial, sl_nil _, trivial, trivial, sl_nil _, sl_nil _, sl_nil _⟩
theorem zz61 : s61 z61 := ⟨ok_nil, ok_nil, trivial, trivial, trivial, trivial, trivial, trivial, trivial⟩
theorem zz49 : s49 z49 := ⟨ok_nil, sl_nil _⟩
theorem zz137 : s137 z137 := ⟨ok_nil, trivial, trivial⟩
theorem zz122 : s122 z122 := ⟨trivial, ok_nil, trivial, trivial, trivial, sl_nil _⟩
theorem zz46 : s46 z46 := ⟨ok_nil, sl_nil _, sl_nil _, sl_nil _, sl_nil _, sl_nil _⟩
theorem szM_of {x : S46} (h : s46 x) : SzM x := by
  obtain ⟨h0, h1, h2, h3, h4, h5⟩ := h
  exact ⟨h0, fun i => (sl_rd h1 _ zz89 i.toNat).1, fun i => ⟨(sl_rd h2 _ zz61 i.toNat).1, (sl_rd h2 _ zz61 i.toNat).2.1⟩, fun i => (sl_rd h3 _ zz49 i.toNat).1, fun i => sl_rd h4 _ ok_nil i, fun i => (sl_rd h5 _ zz122 i.toNat).2.1,
    fun i k => (sl_rd (sl_rd h5 _ zz122 i.toNat).2.2.2.2.2 _ zz137 k.toNat).1, h1.1, h2.1, h3.1, h4.1, fun i => (sl_rd h3 _ zz49 i.toNat).2.1⟩
theorem szL {l : List (S46)} (h : sl s46 l) : ∀ i : Int, SzM (Q3 l i) := fun i => szM_of (sl_rd h _ zz46 i.toNat)
end Go.Proofs.Ytakabkjhnncbhaa.PX
