/- Several texts in one: Configs, tables and three conditions among the arguments of a row. A state, an entry among the arguments of a row. All that the State laws and their rows lean on. Same of bytes, at a given answer. -/
import Derived.Test.YtakgblgbfbpmoaaDoorMU
import Derived.Test.YtakgblgbfbpmoaaDoorMF
import Derived.Test.YtakgblgbfbpmoaaDoorMT
namespace Go.Proofs.YtakgblgbfbpmoaaDoor
open Go.ChangeShapes Go.WideShapes Go.ChangeAt Go.RowKit
theorem cellsE : Tryd.prog.cellsOf 46 = 12 := by kernel_rfl
theorem cellsT : Tryd.prog.cellsOf 80 = 5 := by kernel_rfl
theorem cellsTs : Tryd.prog.cellsOf 55 = 1 := by kernel_rfl
theorem cellsC : Tryd.prog.cellsOf 57 = 11 := by kernel_rfl
theorem cellsB3 : Tryd.prog.cellsOf 23 = 3 := by kernel_rfl
structure Cf.Ok (f : Cf) (w : World) : Prop where
  rt : Rds w encT f.A f.ts
  nt : f.ts.length ≤ 9223372036854775807
  a : I64 f.room.a
  b : I64 f.room.b
  c : I64 f.room.c
section
variable {H : Type} {enc : TypeId × Value → H} {w : World} {base : Nat} {spare : Nat → Bool} {held : Bool}
set_option maxRecDepth 100000 in
theorem trod_th {fuel : Nat} {cs : List Value} {x : DataW H × List MemPlace} (h : DataW.trod enc Tryd.prog w base spare held fuel 80 cs = some x) : ∃ t : Th, True ∧ cs = encT.enc t := by
  obtain ⟨xs, n, _, rfl, hl, hlen, hf⟩ := DataW.trod_struct Tryd.underlying80 h
  rw [cellsT] at hl
  match cs, hl with
  | [c0, c1, c2, c3, c4], _ =>
  match xs, hlen with
  | [y0, y1, y2, y3, y4], _ =>
  have f0 := hf 0 _ rfl
  have f1 := hf 1 _ rfl
  have f2 := hf 2 _ rfl
  have f3 := hf 3 _ rfl
  have f4 := hf 4 _ rfl
  simp [cellsI, cellsB] at f0 f1 f2 f3 f4
  obtain ⟨a0, e0, rfl, w0⟩ := DataW.trod_int Tryd.underlying3 f0
  obtain ⟨a1, e1, rfl, w1⟩ := DataW.trod_int Tryd.underlying3 f1
  obtain ⟨a2, e2, rfl, w2⟩ := DataW.trod_int Tryd.underlying3 f2
  obtain ⟨a3, e3, rfl⟩ := DataW.trod_bool Tryd.underlying4 f3
  obtain ⟨a4, e4, rfl, w4⟩ := DataW.trod_int Tryd.underlying3 f4
  simp only [List.cons.injEq, and_true] at e0 e1 e2 e3 e4
  subst e0 e1 e2 e3 e4
  exact ⟨⟨a0, a1, a2, a3, a4⟩, trivial, rfl⟩
set_option maxRecDepth 100000 in
theorem open_cf {r : Reach} {b0 : Nat} {v : Value} {d : DataW H} {ps : List MemPlace} (hval : Value.okWide Tryd.prog w r b0 57 v) (hd : DataW.Trod enc Tryd.prog w base spare held 57 v d ps) :
    ∃ f : Cf, f.Ok w ∧ v = .agg f.cells := by
  obtain ⟨cs, rfl, hl0⟩ := okWide_struct Tryd.underlying57 hval
  obtain ⟨fuel, hf0⟩ := hd
  obtain ⟨cs⟩ := cs
  obtain ⟨xs, n, _, _, hl, hlen, hf⟩ := DataW.trod_struct Tryd.underlying57 hf0
  rw [cellsC] at hl
  simp only [Value.cells] at hl hf
  match cs, hl with
  | [c0, c1, c2, c3, c4, c5, c6, c7, c8, c9, c10], _ =>
  match xs, hlen with
  | [y0, y1, y2, y3, y4, y5, y6], _ =>
  have f0 := hf 0 _ rfl
  have f1 := hf 1 _ rfl
  have f2 := hf 2 _ rfl
  have f3 := hf 3 _ rfl
  have f4 := hf 4 _ rfl
  have f5 := hf 5 _ rfl
  have f6 := hf 6 _ rfl
  simp [cellsI, cellsA, cellsTs] at f0 f1 f2 f3 f4 f5 f6
  obtain ⟨p0, p1, p2, rfl, rfl, rfl, _, _, _, _⟩ := trod_ints f0
  obtain ⟨q0, q1, q2, rfl, rfl, rfl, v0, v1, v2, _⟩ := trod_ints f1
  obtain ⟨A, l, cc, h1, h2, h3, h4, h5⟩ := open_rds Tryd.underlying55 encT cellsT (fun _ : Th => True) (fun _ _ _ h => trod_th h) f2
  obtain ⟨a3, e3, rfl, w3⟩ := DataW.trod_int Tryd.underlying3 f3
  obtain ⟨a4, e4, rfl, w4⟩ := DataW.trod_int Tryd.underlying3 f4
  obtain ⟨a5, e5, rfl, w5⟩ := DataW.trod_int Tryd.underlying3 f5
  obtain ⟨a6, e6, rfl, w6⟩ := DataW.trod_int Tryd.underlying3 f6
  simp only [List.cons.injEq, and_true] at h1 e3 e4 e5 e6
  subst h1 e3 e4 e5 e6
  exact ⟨⟨⟨p0, p1, p2⟩, ⟨q0, q1, q2⟩, A, l, cc, a3, a4, a5, a6⟩, ⟨h4, by simp only; omega, v0, v1, v2⟩, rfl⟩
set_option maxRecDepth 100000 in
theorem open_b3 {r : Reach} {b0 : Nat} {v : Value} {d : DataW H} {ps : List MemPlace} (hval : Value.okWide Tryd.prog w r b0 23 v) (hd : DataW.Trod enc Tryd.prog w base spare held 23 v d ps) :
    ∃ a b c : Bool, v = .agg #[.bool a, .bool b, .bool c] := by
  obtain ⟨cs, rfl, hl⟩ := okWide_array Tryd.underlying23 hval
  obtain ⟨fuel, hf⟩ := hd
  rw [cellsB3] at hl
  obtain ⟨cs⟩ := cs
  match cs, hl with
  | [d0, d1, d2], _ =>
  obtain ⟨y0, y1, y2, n, _, h0, h1, h2⟩ := trod_array3 Tryd.underlying23 cellsB hf
  obtain ⟨a, e0, rfl⟩ := DataW.trod_bool Tryd.underlying4 h0
  obtain ⟨b, e1, rfl⟩ := DataW.trod_bool Tryd.underlying4 h1
  obtain ⟨c, e2, rfl⟩ := DataW.trod_bool Tryd.underlying4 h2
  simp only [List.cons.injEq, and_true] at e0 e1 e2
  subst e0 e1 e2
  exact ⟨a, b, c, rfl⟩
set_option maxRecDepth 100000 in
theorem trod_en {fuel : Nat} {cs : List Value} {x : DataW H × List MemPlace} (h : DataW.trod enc Tryd.prog w base spare held fuel 46 cs = some x) : ∃ e : En, (e.pod.Wf ∧ I64 e.phase) ∧ cs = encN.enc e := by
  obtain ⟨xs, n, _, rfl, hl, hlen, hf⟩ := DataW.trod_struct Tryd.underlying46 h
  rw [cellsE] at hl
  match cs, hl with
  | [c0, c1, c2, c3, c4, c5, c6, c7, c8, c9, c10, c11], _ =>
  match xs, hlen with
  | [y0, y1], _ =>
  have f0 := hf 0 _ rfl
  have f1 := hf 1 _ rfl
  simp [cellsP, cellsI] at f0 f1
  obtain ⟨p, hp, hc, _⟩ := trod_pd f0
  obtain ⟨z, e1, rfl, w1⟩ := DataW.trod_int Tryd.underlying3 f1
  simp only [List.cons.injEq, and_true] at e1 hc
  obtain ⟨g0, g1, g2, g3, g4, g5, g6, g7, g8, g9, g10⟩ := hc
  subst e1 g0 g1 g2 g3 g4 g5 g6 g7 g8 g9 g10
  exact ⟨⟨p, z⟩, ⟨hp, wf_I64.1 w1⟩, rfl⟩
set_option maxRecDepth 100000 in
theorem open_ens {r : Reach} {b0 : Nat} {v : Value} {d : DataW H} {ps : List MemPlace} (hval : Value.okWide Tryd.prog w r b0 22 v) (hd : DataW.Trod enc Tryd.prog w base spare held 22 v d ps) :
    ∃ A l c, v = .slice A l.length c ∧ l.length ≤ c ∧ c ≤ 9223372036854775807 ∧ Rds w encN A l ∧ ∀ x ∈ l, x.pod.Wf ∧ I64 x.phase :=
  open_rds_val Tryd.underlying22 encN cellsE (fun e : En => e.pod.Wf ∧ I64 e.phase) (fun _ _ _ h => trod_en h) hval hd
end
end Go.Proofs.YtakgblgbfbpmoaaDoor

namespace Go.Proofs.YtakgblgbfbpmoaaDoor
open Go.ChangeShapes Go.WideShapes Go.ChangeAt Go.RowKit
theorem cellsSt : Tryd.prog.cellsOf 25 = 5 := by kernel_rfl
theorem cellsEs : Tryd.prog.cellsOf 22 = 1 := by kernel_rfl
section
variable {H : Type} {enc : TypeId × Value → H} {w : World} {base : Nat} {spare : Nat → Bool} {held : Bool}
set_option maxRecDepth 100000 in
theorem open_st {r : Reach} {b0 : Nat} {v : Value} {d : DataW H} {ps : List MemPlace} (hval : Value.okWide Tryd.prog w r b0 25 v) (hd : DataW.Trod enc Tryd.prog w base spare held 25 v d ps) :
    ∃ (rd : Int) (A : Option Addr) (l : List En) (c : Nat) (o0 o1 o2 : Bool), v = .agg #[.int .i64 rd, .slice A l.length c, .bool o0, .bool o1, .bool o2] ∧ I64 rd ∧ l.length ≤ c ∧ c ≤ 9223372036854775807 ∧ Rds w encN A l ∧ ∀ x ∈ l, x.pod.Wf ∧ I64 x.phase := by
  obtain ⟨cs, rfl, hl0⟩ := okWide_struct Tryd.underlying25 hval
  obtain ⟨fuel, hf0⟩ := hd
  obtain ⟨cs⟩ := cs
  obtain ⟨xs, n, _, _, hl, hlen, hf⟩ := DataW.trod_struct Tryd.underlying25 hf0
  rw [cellsSt] at hl
  simp only [Value.cells] at hl hf
  match cs, hl with
  | [c0, c1, c2, c3, c4], _ =>
  match xs, hlen with
  | [y0, y1, y2], _ =>
  have f0 := hf 0 _ rfl
  have f1 := hf 1 _ rfl
  have f2 := hf 2 _ rfl
  simp [cellsI, cellsEs, cellsB3] at f0 f1 f2
  obtain ⟨rd, e0, rfl, w0⟩ := DataW.trod_int Tryd.underlying3 f0
  obtain ⟨A, l, cc, h1, h2, h3, h4, h5⟩ := open_rds Tryd.underlying22 encN cellsE (fun e : En => e.pod.Wf ∧ I64 e.phase) (fun _ _ _ h => trod_en h) f1
  obtain ⟨z0, z1, z2, m, _, g0, g1, g2⟩ := trod_array3 Tryd.underlying23 cellsB f2
  obtain ⟨a, e1, rfl⟩ := DataW.trod_bool Tryd.underlying4 g0
  obtain ⟨b, e2, rfl⟩ := DataW.trod_bool Tryd.underlying4 g1
  obtain ⟨c, e3, rfl⟩ := DataW.trod_bool Tryd.underlying4 g2
  simp only [List.cons.injEq, and_true] at h1 e0 e1 e2 e3
  subst h1 e0 e1 e2 e3
  exact ⟨rd, A, l, cc, a, b, c, rfl, wf_I64.1 w0, h2, h3, h4, h5⟩
set_option maxRecDepth 100000 in
theorem open_en {r : Reach} {b0 : Nat} {v : Value} {d : DataW H} {ps : List MemPlace} (hval : Value.okWide Tryd.prog w r b0 46 v) (hd : DataW.Trod enc Tryd.prog w base spare held 46 v d ps) :
    ∃ e : En, (e.pod.Wf ∧ I64 e.phase) ∧ v = .agg e.cells := by
  obtain ⟨cs, rfl, hl0⟩ := okWide_struct Tryd.underlying46 hval
  obtain ⟨fuel, hf0⟩ := hd
  obtain ⟨e, he, hc⟩ := trod_en hf0
  refine ⟨e, he, ?_⟩
  obtain ⟨cs⟩ := cs
  have : cs = e.cells.toList := hc
  rw [this]
end
end Go.Proofs.YtakgblgbfbpmoaaDoor

namespace Go.Proofs.YtakgblgbfbpmoaaDoor
theorem stAll : True := trivial
end Go.Proofs.YtakgblgbfbpmoaaDoor

namespace Go.Proofs.YtakgblgbfbpmoaaDoor
open Go.RowKit

theorem sameB_any {L M : List UInt8} {v : Bool} (hv : (L == M) = v) {n m : Nat} (hn : n = L.length) (hm : m = M.length) (A B : Option Addr) (c d : Nat) (w : World) (h1 : Rds w encB A L) (h2 : Rds w encB B M) :
    Calls Tryd.prog 16 #[.slice A n c, .slice B m d] w fun e w' => e = .returned (.bool v) ∧ Below w.heap.size w w' := by
  subst hn; subst hm; subst hv
  exact (same_any A B L M c d w h1 h2).mono fun e w' h => ⟨h.1, by rw [← h.2]; exact Below.refl _ _⟩
end Go.Proofs.YtakgblgbfbpmoaaDoor
