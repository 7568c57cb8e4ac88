/- admit.Decide: who is admitted. -/
import Derived.Test.YtlhmhcidknadmaaDoorAContains
import Derived.Test.YtlhmhcidknadmaaDoorPodN
import Derived.Test.YtlhmhcidknadmaaDoorVRefChoose
namespace Go.Proofs.YtlhmhcidknadmaaDoor
open Go.RowKit

/-- a threshold, a config, as data -/
structure Th where
  sig : Int
  pct : Int
  amt : Int
  soft : Bool
  grace : Int
structure Cf where
  cap : S3
  room : S3
  A : Option Addr
  ts : List Th
  n : Nat
  per : Int
  ret : Int
  age : Int
  dead : Int
abbrev Cf.cells (f : Cf) : Array Value := #[.int .i64 f.cap.a, .int .i64 f.cap.b, .int .i64 f.cap.c, .int .i64 f.room.a, .int .i64 f.room.b, .int .i64 f.room.c, .slice f.A f.ts.length f.n, .int .i64 f.per, .int .i64 f.ret, .int .i64 f.age, .int .i64 f.dead]
theorem infoV : (Tryd.prog.info? 36).map (·.size) = some 3 := by kernel_rfl
def podsD (l : List En) : List Pd := l.map En.pod
/-- the verdict, or why there is none -/
def VerD (room : S3) (p : Pd) (l : List En) (a b c : Bool) (k s : Int) (O : List ByteArray) (err : Int) : Prop :=
  (p.right = false ∧ k = 0 ∧ s = 0 ∧ O = [] ∧ err = 1) ∨
  (p.right = true ∧ hasE l p.id = true ∧ k = 0 ∧ s = 0 ∧ O = [] ∧ err = 5) ∨
  (p.right = true ∧ hasE l p.id = false ∧ 64 ≤ l.length ∧ k = 0 ∧ s = 0 ∧ O = [] ∧ err = 6) ∨
  (p.right = true ∧ hasE l p.id = false ∧ l.length < 64 ∧ (barD a b c p).2 = true ∧ k = 3 ∧ s = (barD a b c p).1 ∧ O = [] ∧ err = 0) ∨
  (p.right = true ∧ hasE l p.id = false ∧ l.length < 64 ∧ (barD a b c p).2 = false ∧ s = 0 ∧ err = 0 ∧ ∃ bb, WhoD room p (podsD l) O bb ∧ k = if bb = false then 4 else if O = [] then 1 else 2)
def GivesV (room : S3) (p : Pd) (l : List En) (a b c : Bool) (w : World) (e : Ending) (w' : World) : Prop :=
  ∃ (k s : Int) (O : List ByteArray) (err : Int) (A : Option Addr) (n : Nat), e = .returned (.tuple #[.agg #[.int .i64 k, .int .i64 s, .slice A O.length n], .int .i64 err]) ∧ VerD room p l a b c k s O err ∧ Own w' w.heap.size 9 encS (.slice A O.length n) O ∧ Below w.heap.size w w'
theorem rightPV {p : Pd} {v : Bool} (hv : p.right = v) (w : World) (hp : p.Wf) :
    Calls Tryd.prog 23 #[.agg p.cells] w fun e w' => e = .returned (.bool v) ∧ Below w.heap.size w w' := by subst hv; exact right_any p w hp
structure DQ (f : Cf) (a b c : Bool) (p : Pd) (w W : World) : Prop where
  cf : Blk W (w.heap.size) 25 #[.int .i64 f.cap.a, .int .i64 f.cap.b, .int .i64 f.cap.c, .int .i64 f.room.a, .int .i64 f.room.b, .int .i64 f.room.c, .slice f.A f.ts.length f.n, .int .i64 f.per, .int .i64 f.ret, .int .i64 f.age, .int .i64 f.dead]
  on : Blk W (w.heap.size + 1) 27 #[.bool a, .bool b, .bool c]
  pb : Blk W (w.heap.size + 1 + 1) 29 #[.string p.id, .int .i64 p.prio, .bool p.crit, .int .i64 p.q0, .int .i64 p.q1, .int .i64 p.q2, .int .i64 p.l0, .int .i64 p.l1, .int .i64 p.l2, .string p.image, .int .i64 p.size]
  vd : Blk W (w.heap.size + 1 + 1 + 1) 36 #[.int .i64 0, .int .i64 0, .slice none 0 0]
  bel : Below w.heap.size w W
theorem DQ.below {f : Cf} {a b c : Bool} {p : Pd} {w W W' : World} (h : DQ f a b c p w W) (hb : Below W.heap.size W W') : DQ f a b c p w W' := ⟨h.cf.belowAll hb, h.on.belowAll hb, h.pb.belowAll hb, h.vd.belowAll hb, h.bel.trans (hb.mono h.bel.size)⟩
theorem DQ.alloc {f : Cf} {a b c : Bool} {p : Pd} {w W : World} (h : DQ f a b c p w W) (o : Obj) : DQ f a b c p w (W.alloc o) := ⟨h.cf.alloc o, h.on.alloc o, h.pb.alloc o, h.vd.alloc o, h.bel.alloc h.bel.size o⟩
theorem DQ.drew {f : Cf} {a b c : Bool} {p : Pd} {w W : World} (h : DQ f a b c p w W) : DQ f a b c p w W.drew := ⟨h.cf.drew, h.on.drew, h.pb.drew, h.vd.drew, h.bel.drew⟩
theorem DQ.new (f : Cf) (a b c : Bool) (p : Pd) (w : World) : DQ f a b c p w ((((w.alloc (.cells #[.int .i64 f.cap.a, .int .i64 f.cap.b, .int .i64 f.cap.c, .int .i64 f.room.a, .int .i64 f.room.b, .int .i64 f.room.c, .slice f.A f.ts.length f.n, .int .i64 f.per, .int .i64 f.ret, .int .i64 f.age, .int .i64 f.dead] 25)).alloc (.cells #[.bool a, .bool b, .bool c] 27)).alloc (.cells #[.string p.id, .int .i64 p.prio, .bool p.crit, .int .i64 p.q0, .int .i64 p.q1, .int .i64 p.q2, .int .i64 p.l0, .int .i64 p.l1, .int .i64 p.l2, .string p.image, .int .i64 p.size] 29)).alloc (.cells #[.int .i64 0, .int .i64 0, .slice none 0 0] 36)) := by
  have z1 : (w.alloc (.cells #[.int .i64 f.cap.a, .int .i64 f.cap.b, .int .i64 f.cap.c, .int .i64 f.room.a, .int .i64 f.room.b, .int .i64 f.room.c, .slice f.A f.ts.length f.n, .int .i64 f.per, .int .i64 f.ret, .int .i64 f.age, .int .i64 f.dead] 25)).heap.size = w.heap.size + 1 := by simp
  have z2 : ((w.alloc (.cells #[.int .i64 f.cap.a, .int .i64 f.cap.b, .int .i64 f.cap.c, .int .i64 f.room.a, .int .i64 f.room.b, .int .i64 f.room.c, .slice f.A f.ts.length f.n, .int .i64 f.per, .int .i64 f.ret, .int .i64 f.age, .int .i64 f.dead] 25)).alloc (.cells #[.bool a, .bool b, .bool c] 27)).heap.size = w.heap.size + 1 + 1 := by simp
  have z3 : (((w.alloc (.cells #[.int .i64 f.cap.a, .int .i64 f.cap.b, .int .i64 f.cap.c, .int .i64 f.room.a, .int .i64 f.room.b, .int .i64 f.room.c, .slice f.A f.ts.length f.n, .int .i64 f.per, .int .i64 f.ret, .int .i64 f.age, .int .i64 f.dead] 25)).alloc (.cells #[.bool a, .bool b, .bool c] 27)).alloc (.cells #[.string p.id, .int .i64 p.prio, .bool p.crit, .int .i64 p.q0, .int .i64 p.q1, .int .i64 p.q2, .int .i64 p.l0, .int .i64 p.l1, .int .i64 p.l2, .string p.image, .int .i64 p.size] 29)).heap.size = w.heap.size + 1 + 1 + 1 := by simp
  have b0 := Blk.new w 25 #[.int .i64 f.cap.a, .int .i64 f.cap.b, .int .i64 f.cap.c, .int .i64 f.room.a, .int .i64 f.room.b, .int .i64 f.room.c, .slice f.A f.ts.length f.n, .int .i64 f.per, .int .i64 f.ret, .int .i64 f.age, .int .i64 f.dead]
  have b1 := Blk.new (w.alloc (.cells #[.int .i64 f.cap.a, .int .i64 f.cap.b, .int .i64 f.cap.c, .int .i64 f.room.a, .int .i64 f.room.b, .int .i64 f.room.c, .slice f.A f.ts.length f.n, .int .i64 f.per, .int .i64 f.ret, .int .i64 f.age, .int .i64 f.dead] 25)) 27 #[.bool a, .bool b, .bool c]
  rw [z1] at b1
  have b2 := Blk.new ((w.alloc (.cells #[.int .i64 f.cap.a, .int .i64 f.cap.b, .int .i64 f.cap.c, .int .i64 f.room.a, .int .i64 f.room.b, .int .i64 f.room.c, .slice f.A f.ts.length f.n, .int .i64 f.per, .int .i64 f.ret, .int .i64 f.age, .int .i64 f.dead] 25)).alloc (.cells #[.bool a, .bool b, .bool c] 27)) 29 #[.string p.id, .int .i64 p.prio, .bool p.crit, .int .i64 p.q0, .int .i64 p.q1, .int .i64 p.q2, .int .i64 p.l0, .int .i64 p.l1, .int .i64 p.l2, .string p.image, .int .i64 p.size]
  rw [z2] at b2
  have b3 := Blk.new (((w.alloc (.cells #[.int .i64 f.cap.a, .int .i64 f.cap.b, .int .i64 f.cap.c, .int .i64 f.room.a, .int .i64 f.room.b, .int .i64 f.room.c, .slice f.A f.ts.length f.n, .int .i64 f.per, .int .i64 f.ret, .int .i64 f.age, .int .i64 f.dead] 25)).alloc (.cells #[.bool a, .bool b, .bool c] 27)).alloc (.cells #[.string p.id, .int .i64 p.prio, .bool p.crit, .int .i64 p.q0, .int .i64 p.q1, .int .i64 p.q2, .int .i64 p.l0, .int .i64 p.l1, .int .i64 p.l2, .string p.image, .int .i64 p.size] 29)) 36 #[.int .i64 0, .int .i64 0, .slice none 0 0]
  rw [z3] at b3
  have bel : Below w.heap.size w ((((w.alloc (.cells #[.int .i64 f.cap.a, .int .i64 f.cap.b, .int .i64 f.cap.c, .int .i64 f.room.a, .int .i64 f.room.b, .int .i64 f.room.c, .slice f.A f.ts.length f.n, .int .i64 f.per, .int .i64 f.ret, .int .i64 f.age, .int .i64 f.dead] 25)).alloc (.cells #[.bool a, .bool b, .bool c] 27)).alloc (.cells #[.string p.id, .int .i64 p.prio, .bool p.crit, .int .i64 p.q0, .int .i64 p.q1, .int .i64 p.q2, .int .i64 p.l0, .int .i64 p.l1, .int .i64 p.l2, .string p.image, .int .i64 p.size] 29)).alloc (.cells #[.int .i64 0, .int .i64 0, .slice none 0 0] 36)) := ((((Below.refl w.heap.size w).alloc (Nat.le_refl _) _).alloc (by rw [z1]; omega) _).alloc (by rw [z2]; omega) _).alloc (by rw [z3]; omega) _
  exact ⟨(((b0.alloc _).alloc _).alloc _), ((b1.alloc _).alloc _), (b2.alloc _), b3, bel⟩

theorem podsD_snoc (l : List En) (i : Nat) (hi : i < l.length) : podsD (l.take (i + 1)) = podsD (l.take i) ++ [l[i].pod] := by
  unfold podsD
  rw [List.take_succ_eq_append_getElem hi, List.map_append]
  rfl
theorem podsD_len (l : List En) : (podsD l).length = l.length := by unfold podsD; simp
set_option maxRecDepth 100000 in
set_option maxHeartbeats 8000000 in
theorem decide_any (f : Cf) (l : List En) (a b c : Bool) (p : Pd) (A : Option Addr) (n : Nat) (w : World) (hr : Rds w encN A l) (hw : ∀ x ∈ l, x.pod.Wf) (hm : l.length ≤ 9223372036854775807) (hp : p.Wf) :
    Calls Tryd.prog 12 #[.agg f.cells, .slice A l.length n, .agg #[.bool a, .bool b, .bool c], .agg p.cells] w (GivesV f.room p l a b c w) := by
  have hmf : ∀ (fn : Fn) (first cap : Array Value) (w : World), (Instr.makeFunc fn first cap).run Tryd.prog w = .ok (.func fn first cap) w := fun _ _ _ _ => rfl
  have HQ := Lib.hid (DQ.new f a b c p w)
  have HR := Lib.hid hr
  have HW := Lib.hid hw
  have HPW := Lib.hid hp
  clear hr hw hp
  obtain ⟨v1, hv1⟩ : ∃ v, p.right = v := ⟨_, rfl⟩
  obtain ⟨v2, hv2⟩ : ∃ v, hasE l p.id = v := ⟨_, rfl⟩
  obtain ⟨s0, hs0⟩ : ∃ s, (barD a b c p).1 = s := ⟨_, rfl⟩
  obtain ⟨v3, hv3⟩ : ∃ v, (barD a b c p).2 = v := ⟨_, rfl⟩
  have H1 := Lib.hid hv1
  have H2 := Lib.hid hv2
  have H3 := Lib.hid (And.intro hs0 hv3)
  clear hv1 hv2 hs0 hv3
  go_enter Tryd.func12, Tryd.ntmps12
  go_wp2_with fail
  refine (rightPV H1.out _ HPW.out).mono ?_; rintro e w1 ⟨rfl, hb⟩
  have HQ := Lib.hid (HQ.out.below hb)
  clear hb
  cases v1
  · have hnv : True := trivial
    go_wp2_with (refine wl_store_blk rfl 36 (.tmp 8) (.tmp 21) rfl (w.heap.size + 1 + 1 + 1) 36 #[.int .i64 0, .int .i64 0, .slice none 0 0] #[.int .i64 0, .int .i64 0, .slice none 0 0] rfl rfl HQ.out.vd rfl infoV (by simp [Value.oneCell']) ?_; intro w5 hR5 hg5 hs5)
    have hl5 := hR5.cell
    have HB5 : Below w.heap.size w w5 := HQ.out.bel.grown hg5 HQ.out.bel.size (by intro k hk; cases hk; omega)
    exact bodyPost_ret (v := .tuple #[.agg #[.int .i64 0, .int .i64 0, .slice none 0 0], .int .i64 1]) (by simp [results, Tryd.results12, go_sem, hl5]) rfl (⟨_, _, [], _, none, 0, rfl, .inl ⟨H1.out, rfl, rfl, rfl, rfl⟩, Own.nil_ _ _ _ _, HB5⟩)
  · have cp := HQ.out.pb.cell
    go_wp2_with fail
    refine (containsFunc_any l p (w.heap.size + 1 + 1) A n _ H2.out (HR.out.below HQ.out.bel) hm HQ.out.pb).mono ?_; rintro e w2 ⟨rfl, hb⟩
    have HQ := Lib.hid (HQ.out.below hb)
    clear hb cp
    cases v2
    rotate_left
    · have hnv : True := trivial
      go_wp2_with (refine wl_store_blk rfl 36 (.tmp 8) (.tmp 26) rfl (w.heap.size + 1 + 1 + 1) 36 #[.int .i64 0, .int .i64 0, .slice none 0 0] #[.int .i64 0, .int .i64 0, .slice none 0 0] rfl rfl HQ.out.vd rfl infoV (by simp [Value.oneCell']) ?_; intro w5 hR5 hg5 hs5)
      have hl5 := hR5.cell
      have HB5 : Below w.heap.size w w5 := HQ.out.bel.grown hg5 HQ.out.bel.size (by intro k hk; cases hk; omega)
      exact bodyPost_ret (v := .tuple #[.agg #[.int .i64 0, .int .i64 0, .slice none 0 0], .int .i64 5]) (by simp [results, Tryd.results12, go_sem, hl5]) rfl (⟨_, _, [], _, none, 0, rfl, .inr (.inl ⟨H1.out, H2.out, rfl, rfl, rfl, rfl⟩), Own.nil_ _ _ _ _, HB5⟩)
    · by_cases hl : 64 ≤ l.length
      · have dl : decide ((64 : Int) ≤ (l.length : Int)) = true := decide_eq_true (by omega)
        have dln : decide (64 ≤ l.length) = true := decide_eq_true hl
        go_wp2_with (refine wl_store_blk rfl 36 (.tmp 8) (.tmp 31) rfl (w.heap.size + 1 + 1 + 1) 36 #[.int .i64 0, .int .i64 0, .slice none 0 0] #[.int .i64 0, .int .i64 0, .slice none 0 0] rfl rfl HQ.out.vd rfl infoV (by simp [Value.oneCell']) ?_; intro w5 hR5 hg5 hs5)
        have hl5 := hR5.cell
        have HB5 : Below w.heap.size w w5 := HQ.out.bel.grown hg5 HQ.out.bel.size (by intro k hk; cases hk; omega)
        exact bodyPost_ret (v := .tuple #[.agg #[.int .i64 0, .int .i64 0, .slice none 0 0], .int .i64 6]) (by simp [results, Tryd.results12, go_sem, hl5]) rfl (⟨_, _, [], _, none, 0, rfl, .inr (.inr (.inl ⟨H1.out, H2.out, hl, rfl, rfl, rfl, rfl⟩)), Own.nil_ _ _ _ _, HB5⟩)
      · have dl : decide ((64 : Int) ≤ (l.length : Int)) = false := decide_eq_false (by omega)
        have dln : decide (64 ≤ l.length) = false := decide_eq_false hl
        have hl2 : l.length < 64 := by omega
        clear hl
        have cp := HQ.out.pb.cell
        have con := HQ.out.on.cell
        go_wp2_with fail
        refine (barred_any a b c p _).mono ?_; rintro e w3 ⟨rfl, hb⟩
        have HQ := Lib.hid (HQ.out.below hb)
        clear hb cp con
        rw [H3.out.1, H3.out.2]
        cases v3
        rotate_left
        · have hnv : True := trivial
          go_wp2_with (refine wl_store_blk rfl 36 (.tmp 8) (.tmp 40) rfl (w.heap.size + 1 + 1 + 1) 36 #[.int .i64 0, .int .i64 0, .slice none 0 0] #[.int .i64 3, .int .i64 s0, .slice none 0 0] rfl rfl HQ.out.vd rfl infoV (by simp [Value.oneCell']) ?_; intro w5 hR5 hg5 hs5)
          have hl5 := hR5.cell
          have HB5 : Below w.heap.size w w5 := HQ.out.bel.grown hg5 HQ.out.bel.size (by intro k hk; cases hk; omega)
          exact bodyPost_ret (v := .tuple #[.agg #[.int .i64 3, .int .i64 s0, .slice none 0 0], .int .i64 0]) (by simp [results, Tryd.results12, go_sem, hl5]) rfl (⟨_, _, [], _, none, 0, rfl, .inr (.inr (.inr (.inl ⟨H1.out, H2.out, hl2, H3.out.2, rfl, H3.out.1.symm, rfl, rfl⟩))), Own.nil_ _ _ _ _, HB5⟩)
        · have HR3 := Lib.hid (HR.out.below HQ.out.bel)
          go_wp2_with fail
          go_loopw [12, 43] (fun st ii wr => ∃ (i : Nat) (A1 : Option Addr) (c1 : Nat), i ≤ l.length ∧ ii = .int .i64 i ∧ st = .slice A1 (podsD (l.take i)).length c1 ∧ Own wr w3.heap.size 29 encP (.slice A1 (podsD (l.take i)).length c1) (podsD (l.take i)) ∧ Below w3.heap.size w3 wr) (fun _ ii _ => l.length - (intOf ii).toNat)
          case atStart => exact ⟨0, none, 0, by omega, rfl, rfl, Own.nil_ _ _ _ _, Below.refl _ _⟩
          case round =>
            obtain ⟨i, A1, c1, hi, rfl, rfl, ho, hbl⟩ := hrel
            have HP := Lib.hid (And.intro ho hbl)
            clear ho hbl
            have HSL : Hid ((podsD (l.take i)).length ≤ l.length) := by show _ ≤ _; rw [podsD_len, List.length_take]; omega
            by_cases hlt : i < l.length
            · have dk : decide ((i : Int) < (l.length : Int)) = true := decide_eq_true (by omega)
              have dk2 : (i : Int) < (l.length : Int) := by omega
              obtain ⟨b0, off, hA, _⟩ := HR.out.en hlt
              obtain rfl : A = some ⟨b0, off, none⟩ := hA
              have HXI := Lib.hid (List.getElem?_eq_getElem hlt)
              have HSN := Lib.hid (podsD_snoc l i hlt)
              generalize podsD (l.take i) = S at *
              generalize l[i] = x at *
              obtain ⟨x0, x1, x2, x3, x4, x5, x6, x7, x8, x9, x10, x11⟩ := HR3.out.enAt HP.out.2 HXI.out
              have HB1 := Lib.hid (HP.out.2.alloc HP.out.2.size (.cells #[.string x.pod.id, .int .i64 x.pod.prio, .bool x.pod.crit, .int .i64 x.pod.q0, .int .i64 x.pod.q1, .int .i64 x.pod.q2, .int .i64 x.pod.l0, .int .i64 x.pod.l1, .int .i64 x.pod.l2, .string x.pod.image, .int .i64 x.pod.size, .int .i64 x.phase] 51))
              go_wp2_with (at_builtin; refine wl_push elemP encP rfl (.tmp 47) (.tmp 50) rfl x.pod #[.string x.pod.id, .int .i64 x.pod.prio, .bool x.pod.crit, .int .i64 x.pod.q0, .int .i64 x.pod.q1, .int .i64 x.pod.q2, .int .i64 x.pod.l0, .int .i64 x.pod.l1, .int .i64 x.pod.l2, .string x.pod.image, .int .i64 x.pod.size] rfl w3.heap.size _ S rfl (HP.out.1.alloc _) rfl (by simp) HB1.out (by have := HSL.out; omega) (by have := HSL.out; omega) HB1.out.size ?_; intro A3 k3 w4 ho hb _; have HX3 := Lib.hid (And.intro ho hb); clear ho hb)
              go_roundw
              case rel => exact ⟨i + 1, A3, k3, by omega, by go_num, by rw [HSN.out, List.length_append]; rfl, by rw [HSN.out]; exact own_len1 HX3.out.1, HX3.out.2⟩
              case measure => simp [intOf]; omega
            · obtain rfl : i = l.length := by omega
              have dk : decide ((l.length : Int) < (l.length : Int)) = false := by simp
              rw [List.take_length] at HP HSL ⊢
              have HQ := Lib.hid (HQ.out.below HP.out.2)
              have HWS := Lib.hid (show ∀ x ∈ podsD l, x.Wf from fun x hx => by
                obtain ⟨y, hy, e⟩ := List.mem_map.1 hx
                rw [← e]; exact HW.out y hy)
              have HLTV := Lib.hid HQ.out.vd.lt
              have HSZV := Lib.hid HQ.out.bel.size
              have ccf := HQ.out.cf.cell
              have cp := HQ.out.pb.cell
              go_wp2_with fail
              refine (chooseW (room := f.room) (p := p) (l := podsD l) A1 c1 _ HP.out.1.toRds (by have := HSL.out; omega) HWS.out HPW.out).mono ?_; rintro e w6 ⟨O, bb, Ax, cx, rfl, hwho, ho, hb⟩
              have HWH := Lib.hid hwho
              have HOL := Lib.hid hwho.len
              have HX := Lib.hid ho
              have HQ := Lib.hid (HQ.out.below hb)
              clear hwho ho hb ccf cp
              cases bb
              · obtain rfl : O = [] := (by obtain ⟨_, _, _, _, _, h⟩ := HWH.out; exact h rfl)
                go_wp2_with (refine wl_store_blk rfl 36 (.tmp 8) (.tmp 64) rfl (w.heap.size + 1 + 1 + 1) 36 #[.int .i64 0, .int .i64 0, .slice none 0 0] #[.int .i64 4, .int .i64 0, .slice none 0 0] rfl rfl HQ.out.vd rfl infoV (by simp [Value.oneCell']) ?_; intro w5 hR5 hg5 hs5)
                have hl5 := hR5.cell
                have HB5 : Below w.heap.size w w5 := HQ.out.bel.grown hg5 HQ.out.bel.size (by intro k hk; cases hk; omega)
                exact bodyPost_ret (v := .tuple #[.agg #[.int .i64 4, .int .i64 0, .slice none 0 0], .int .i64 0]) (by simp [results, Tryd.results12, go_sem, hl5]) rfl (⟨_, _, [], _, none, 0, rfl, .inr (.inr (.inr (.inr ⟨H1.out, H2.out, hl2, H3.out.2, rfl, rfl, false, HWH.out, rfl⟩))), Own.nil_ _ _ _ _, HB5⟩)
              · by_cases hO : O = []
                · subst hO
                  go_wp2_with (refine wl_store_blk rfl 36 (.tmp 8) (.tmp 71) rfl (w.heap.size + 1 + 1 + 1) 36 #[.int .i64 0, .int .i64 0, .slice none 0 0] #[.int .i64 1, .int .i64 0, .slice none 0 0] rfl rfl HQ.out.vd rfl infoV (by simp [Value.oneCell']) ?_; intro w5 hR5 hg5 hs5)
                  have hl5 := hR5.cell
                  have HB5 : Below w.heap.size w w5 := HQ.out.bel.grown hg5 HQ.out.bel.size (by intro k hk; cases hk; omega)
                  exact bodyPost_ret (v := .tuple #[.agg #[.int .i64 1, .int .i64 0, .slice none 0 0], .int .i64 0]) (by simp [results, Tryd.results12, go_sem, hl5]) rfl (⟨_, _, [], _, none, 0, rfl, .inr (.inr (.inr (.inr ⟨H1.out, H2.out, hl2, H3.out.2, rfl, rfl, true, HWH.out, rfl⟩))), Own.nil_ _ _ _ _, HB5⟩)
                · have hOp : 0 < O.length := List.length_pos_iff.2 hO
                  have dO : decide ((0 : Int) < (O.length : Int)) = true := decide_eq_true (by omega)
                  have dOn : decide (0 < O.length) = true := decide_eq_true hOp
                  have HOE := Lib.hid hO
                  clear hO
                  go_wp2_with (refine wl_store_blk rfl 36 (.tmp 8) (.tmp 70) rfl (w.heap.size + 1 + 1 + 1) 36 #[.int .i64 0, .int .i64 0, .slice none 0 0] #[.int .i64 2, .int .i64 0, .slice Ax O.length cx] rfl rfl HQ.out.vd rfl infoV (by simp [Value.oneCell']) ?_; intro w5 hR5 hg5 hs5)
                  have hl5 := hR5.cell
                  have HB5 : Below w.heap.size w w5 := HQ.out.bel.grown hg5 HQ.out.bel.size (by intro k hk; cases hk; omega)
                  exact bodyPost_ret (v := .tuple #[.agg #[.int .i64 2, .int .i64 0, .slice Ax O.length cx], .int .i64 0]) (by simp [results, Tryd.results12, go_sem, hl5]) rfl (⟨_, _, O, _, Ax, cx, rfl, .inr (.inr (.inr (.inr ⟨H1.out, H2.out, hl2, H3.out.2, rfl, rfl, true, HWH.out, by rw [if_neg (by simp), if_neg HOE.out]⟩))), (HX.out.grown hg5 (.inr fun e => by have := (HX.out.block_lt _ e).1; have := HLTV.out; omega)).mono HSZV.out, HB5⟩)
end Go.Proofs.YtlhmhcidknadmaaDoor
