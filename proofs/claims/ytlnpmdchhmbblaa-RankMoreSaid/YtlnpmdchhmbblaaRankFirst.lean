/- slices.MinFunc at keys; rank.First. -/
import Derived.Test.YtlnpmdchhmbblaaRankOrder
namespace Go.Proofs.Ytlnpmdchhmbblaa
open Go.RowKit

/-- no key goes ahead of this one, and it is one of them -/
def IsMin (l : List Ky) (M : Ky) : Prop := M ∈ l ∧ ∀ y ∈ l, klt y M = false
theorem isMin_one (x : Ky) : IsMin [x] x := ⟨by simp, fun y hy => by have e : y = x := (by simpa using hy); rw [e]; exact klt_irrefl x⟩
theorem isMin_snoc_no {l : List Ky} {M x : Ky} (h : IsMin l M) (hx : klt x M = false) : IsMin (l ++ [x]) M := ⟨by simp [h.1], fun y hy => by
  rcases List.mem_append.1 hy with h2 | h2
  · exact h.2 y h2
  · have e : y = x := by simpa using h2
    rw [e]; exact hx⟩
theorem klt_asymm {x y : Ky} (h : klt x y = true) : klt y x = false := by
  cases h2 : klt y x
  · rfl
  · have := klt_trans h h2; rw [klt_irrefl] at this; cases this
theorem isMin_snoc_yes {l : List Ky} {M x : Ky} (h : IsMin l M) (hx : klt x M = true) : IsMin (l ++ [x]) x := ⟨by simp, fun y hy => by
  rcases List.mem_append.1 hy with h2 | h2
  · cases h3 : klt y x
    · rfl
    · have := h.2 y h2
      rw [klt_trans h3 hx] at this; cases this
  · have e : y = x := by simpa using h2
    rw [e]; exact klt_irrefl x⟩
def GivesMin (l : List Ky) (w : World) (e : Ending) (w' : World) : Prop := ∃ M : Ky, IsMin l M ∧ e = .returned (.agg #[.int .i64 M.within, .int .i64 M.prio, .int .i64 M.excess, .string M.id]) ∧ Below w.heap.size w w'
theorem compareN {x y : Ky} {n : Int} (hn : cfK x y = n) (W : World) : Calls Try.prog 33 #[.agg #[.int .i64 x.within, .int .i64 x.prio, .int .i64 x.excess, .string x.id], .agg #[.int .i64 y.within, .int .i64 y.prio, .int .i64 y.excess, .string y.id]] W fun e w' => e = .returned (.int .i64 n) ∧ Below W.heap.size W w' := by subst hn; exact compareK_b x y W
theorem Rds.kyAt {w : World} {b off : Nat} {l : List Ky} (h : Rds w encK (some ⟨b, off, none⟩) l) {i : Nat} {x : Ky} (hx : l[i]? = some x) :
    w.cell? ⟨b, off + i * 4, none⟩ = some (.int .i64 x.within) ∧ w.cell? ⟨b, off + i * 4 + 1, none⟩ = some (.int .i64 x.prio) ∧ w.cell? ⟨b, off + i * 4 + 2, none⟩ = some (.int .i64 x.excess) ∧ w.cell? ⟨b, off + i * 4 + 3, none⟩ = some (.string x.id) := by
  obtain ⟨hi, rfl⟩ := List.getElem?_eq_some_iff.1 hx
  obtain ⟨b2, o2, e, _, hc⟩ := h.ky hi
  injection e with e
  injection e with e1 e2
  subst e1
  subst e2
  exact hc
set_option maxRecDepth 100000 in
set_option maxHeartbeats 16000000 in
theorem minK_any (l : List Ky) (A : Option Addr) (c : Nat) (w : World) (hr : Rds w encK A l) (hne : 0 < l.length) (hl : l.length ≤ 100000) :
    Calls Try.prog 40 #[.slice A l.length c, .func (.func 33) #[] #[]] w (GivesMin l w) := by
  have mixed : Try.prog.follows Departure.mixedOrders = true := by kernel_rfl
  obtain ⟨bb, oo, hA, hbb, d0, d1, d2, d3⟩ := hr.ky hne
  have HB0 := Lib.hid (((Below.refl w.heap.size w).alloc (Nat.le_refl _) (.cells #[.int .i64 0, .int .i64 0, .int .i64 0, .string ⟨#[]⟩] 66)).alloc (by simp) (.cells (l[0]'hne).cells 66))
  have HZ := Lib.hid ((Blk.new w 66 #[.int .i64 0, .int .i64 0, .int .i64 0, .string ⟨#[]⟩]).alloc (.cells (l[0]'hne).cells 66))
  have hx := Blk.new (w.alloc (.cells #[.int .i64 0, .int .i64 0, .int .i64 0, .string ⟨#[]⟩] 66)) 66 (l[0]'hne).cells
  have hz1 : (w.alloc (.cells #[.int .i64 0, .int .i64 0, .int .i64 0, .string ⟨#[]⟩] 66)).heap.size = w.heap.size + 1 := by simp
  rw [hz1] at hx
  have HX0 := Lib.hid hx
  have HR := Lib.hid hr
  have HM0 : Hid (IsMin (l.take 1) (l[0]'hne)) := by
    have : l.take 1 = [l[0]'hne] := by rw [List.take_succ_eq_append_getElem hne]; rfl
    show IsMin _ _
    rw [this]; exact isMin_one _
  have hne2 : (0 : Int) < (l.length : Int) := by omega
  have dne : decide ((l.length : Int) < 1) = false := decide_eq_false (by omega)
  subst hA
  clear hr hz1 hx
  obtain ⟨x0, hx0⟩ : ∃ x0, x0 = l[0]'hne := ⟨_, rfl⟩
  rw [← hx0] at HB0 HZ HX0 HM0 d0 d1 d2 d3
  clear hx0
  have e0 : ∀ t, oo + 0 * 4 + t = oo + t := fun t => by omega
  rw [e0] at d1 d2 d3
  have e1 : oo + 0 * 4 = oo := by omega
  rw [e1] at d0
  clear e0 e1
  go_enter Try.func40, Try.ntmps40
  go_wp2_with fail
  clear d0 d1 d2 d3
  go_loopw [6] (fun ii wr => ∃ (n : Nat) (M : Ky), 1 ≤ n ∧ n ≤ l.length ∧ ii = .int .i64 n ∧ IsMin (l.take n) M ∧ Blk wr (w.heap.size + 1) 66 M.cells ∧ Blk wr w.heap.size 66 #[.int .i64 0, .int .i64 0, .int .i64 0, .string ⟨#[]⟩] ∧ Below w.heap.size w wr) (fun ii _ => l.length - (intOf ii).toNat)
  case atStart => exact ⟨1, x0, by omega, by omega, rfl, HM0.out, HX0.out, HZ.out, HB0.out⟩
  case round =>
    clear HM0 HX0 HZ HB0
    obtain ⟨n, M, h1, hn, rfl, hM, hBM, hBZ, hB⟩ := hrel
    have HM := Lib.hid hM
    have HP := Lib.hid (And.intro hBM (And.intro hBZ hB))
    clear hM hBM hBZ hB
    by_cases hlt : n < l.length
    · obtain ⟨b0, off, hA2, hb0, c0, c1, c2, c3⟩ := (HR.out.below HP.out.2.2).ky hlt
      obtain ⟨rfl, rfl⟩ : bb = b0 ∧ oo = off := by injection hA2 with h; injection h with h1 h2; exact ⟨h1, h2⟩
      clear hA2
      have dk : decide ((n : Int) < (l.length : Int)) = true := decide_eq_true (by omega)
      have dk2 : (n : Int) < (l.length : Int) := by omega
      have HT := Lib.hid (show l.take (n + 1) = l.take n ++ [l[n]] from List.take_succ_eq_append_getElem hlt)
      have HLX := Lib.hid (List.getElem?_eq_getElem hlt)
      generalize l[n] = x at *
      clear c0 c1 c2 c3
      obtain ⟨c0, c1, c2, c3⟩ := (HR.out.below HP.out.2.2).kyAt HLX.out
      obtain ⟨z, HZ⟩ : ∃ z, Hid (cfK x M = z) := ⟨_, Lib.hid rfl⟩
      have m0 := HP.out.1.cell 0
      have m1 := HP.out.1.cell 1
      have m2 := HP.out.1.cell 2
      have m3 := HP.out.1.cell 3
      simp only [List.getElem?_toArray, List.getElem?_cons_zero, List.getElem?_cons_succ] at m0 m1 m2 m3
      have hkx : Hid (klt x M = decide (z < 0)) := by show _ = _; rw [← cfK_lt, ← HZ.out]; rfl
      have HQ := Lib.hid HP.out.2.2.drew
      have HBM := Lib.hid (And.intro HP.out.1.drew HP.out.2.1.drew)
      go_wp2_with fail
      go_region_held3 (fun w' => w'.cell? ⟨w.heap.size + 1, 0, none⟩ = some (.int .i64 M.within) ∧ w'.cell? ⟨w.heap.size + 1, 1, none⟩ = some (.int .i64 M.prio) ∧ w'.cell? ⟨w.heap.size + 1, 2, none⟩ = some (.int .i64 M.excess) ∧ w'.cell? ⟨w.heap.size + 1, 3, none⟩ = some (.string M.id) ∧ w'.cell? ⟨bb, oo + n * 4, none⟩ = some (.int .i64 x.within) ∧ w'.cell? ⟨bb, oo + n * 4 + 1, none⟩ = some (.int .i64 x.prio) ∧ w'.cell? ⟨bb, oo + n * 4 + 2, none⟩ = some (.int .i64 x.excess) ∧ w'.cell? ⟨bb, oo + n * 4 + 3, none⟩ = some (.string x.id)) (first | exact ⟨m0, m1, m2, m3, c0, c1, c2, c3⟩ | exact And.intro (HBM.out.1.cell 0) (And.intro (HBM.out.1.cell 1) (And.intro (HBM.out.1.cell 2) (And.intro (HBM.out.1.cell 3) ((HR.out.below HQ.out).kyAt HLX.out)))))
       (first
         | (go_at_call 33; refine (compareN HZ.out _).mono ?_; rintro e v1 ⟨rfl, hb⟩; have HQ := Lib.hid (HQ.out.trans (hb.mono HQ.out.size)); have HBM := Lib.hid (And.intro (HBM.out.1.belowAll hb) (HBM.out.2.belowAll hb)); clear hb))
      all_goals
        clear m0 m1 m2 m3 c0 c1 c2 c3 HP
        by_cases hz : z < 0
        · have dz : decide (z < 0) = true := decide_eq_true hz
          have HMN : Hid (IsMin (l.take (n + 1)) x) := by show IsMin _ _; rw [HT.out]; exact isMin_snoc_yes HM.out (by rw [hkx.out]; exact dz)
          clear HM HT hkx HZ
          obtain ⟨c0, c1, c2, c3⟩ := (HR.out.below HQ.out).kyAt HLX.out
          go_wp2_with (refine wl_store_blk rfl 66 (.tmp 5) (.tmp 31) rfl (w.heap.size + 1) 66 M.cells x.cells rfl rfl HBM.out.1 rfl szK (ky_one _) ?_; intro w5 hR5 hg5 hs5)
          have hbz := HBM.out.2.grown hg5 (by intro e; injection e with e; omega)
          have hb5 := HQ.out.grown hg5 HQ.out.size (by intro k hk; cases hk; omega)
          go_roundw
          case rel => exact ⟨n + 1, x, by omega, by omega, by go_num, HMN.out, hR5, hbz, hb5⟩
          case measure => simp [intOf]; omega
        · have dz : decide (z < 0) = false := decide_eq_false hz
          have hz2 : 0 ≤ z := by omega
          have HMN : Hid (IsMin (l.take (n + 1)) M) := by show IsMin _ _; rw [HT.out]; exact isMin_snoc_no HM.out (by rw [hkx.out]; exact dz)
          clear HM HT hkx HZ
          go_wp2_with fail
          go_roundw
          case rel => exact ⟨n + 1, M, by omega, by omega, by go_num, HMN.out, HBM.out.1, HBM.out.2, HQ.out⟩
          case measure => simp [intOf]; omega
    · obtain rfl : n = l.length := by omega
      have dk : decide ((l.length : Int) < (l.length : Int)) = false := by simp
      rw [List.take_length] at HM
      have m0 := HP.out.1.cell
      go_wp2_with (refine wl_store_blk rfl 66 (.tmp 4) (.tmp 32) rfl w.heap.size 66 #[.int .i64 0, .int .i64 0, .int .i64 0, .string ⟨#[]⟩] M.cells rfl rfl HP.out.2.1 rfl szK (ky_one _) ?_; intro w5 hR5 hg5 hs5)
      have hl5 := hR5.cell
      exact bodyPost_ret (v := .agg M.cells) (by simp [results, Try.results40, go_sem, hl5]) rfl ⟨M, HM.out, rfl, HP.out.2.2.grown hg5 HP.out.2.2.size (by intro k hk; cases hk; omega)⟩

theorem fldK (x0 x1 x2 x3 : Value) (w : World) : (Instr.field 66 (.agg #[x0, x1, x2, x3]) 3).run Try.prog w = .ok x3 w := by kernel_rfl
/-- what First answers over these keys -/
inductive FirstOf (ks : List Ky) : ByteArray → Bool → Prop where
  | none : ks = [] → FirstOf ks ⟨#[]⟩ false
  | some (M : Ky) : IsMin ks M → FirstOf ks M.id true
def GivesF (ks : List Ky) (w : World) (e : Ending) (w' : World) : Prop := ∃ s b, FirstOf ks s b ∧ e = .returned (.tuple #[.string s, .bool b]) ∧ Below w.heap.size w w'
theorem minK_ne (l : List Ky) (A : Option Addr) (c : Nat) (w : World) (hr : Rds w encK A l) (hne : l ≠ []) (hl : l.length ≤ 100000) :
    Calls Try.prog 40 #[.slice A l.length c, .func (.func 33) #[] #[]] w (GivesMin l w) := minK_any l A c w hr (List.length_pos_iff.2 hne) hl
set_option maxRecDepth 100000 in
set_option maxHeartbeats 4000000 in
theorem first_any (k : Int) (hk : k = 0 ∨ k = 1 ∨ k = 2) (l : List En) (A : Option Addr) (c : Nat) (s : Sp) (w : World) (hr : Rds w encU s.A s.uses) (hl : s.uses.length ≤ 100000) (hs : SortedU s.uses) (hrn : Rds w encN A l) (hln : l.length ≤ 100000) (hx : ∀ x ∈ l, ExOk k x.pod s.uses) :
    Calls Try.prog 27 #[.int .i64 k, .slice A l.length c, .agg s.cells] w (GivesF (keysD k l s.uses) w) := by
  have hkl := keysD_len k l s.uses
  obtain ⟨ks, HKS⟩ : ∃ ks, Hid (keysD k l s.uses = ks) := ⟨_, Lib.hid rfl⟩
  rw [HKS.out] at hkl
  have hkl2 : ks.length ≤ 100000 := by omega
  clear hkl
  have HB0 := Lib.hid ((Below.refl w.heap.size w).alloc (Nat.le_refl _) (.cells s.cells 36))
  have cs := (Blk.new w 36 s.cells).cell
  have HC := Lib.hid (keysV_any k hk l ks A c s HKS.out _ (hr.below HB0.out) hl hs (hrn.below HB0.out) hln hx)
  rw [HKS.out]
  clear hr hrn hs hx hk HKS
  go_enter Try.func27, Try.ntmps27
  go_wp2_with fail
  refine HC.out.mono ?_; rintro e w1 ⟨A1, c1, rfl, hO, hB⟩
  have HP1 := Lib.hid (And.intro hO.toRds (HB0.out.trans (hB.mono (by simp))))
  clear hO hB HC cs HB0
  by_cases hn : ks = []
  · subst hn
    have dz : (((([] : List Ky).length : Nat) : Int) == 0) = true := rfl
    go_wp2_with fail
    exact bodyPost_ret (v := .tuple #[.string ⟨#[]⟩, .bool false]) (by simp [results, Try.results27, go_sem]) rfl ⟨_, _, .none rfl, rfl, HP1.out.2⟩
  · have dz : ((ks.length : Int) == 0) = false := beq_eq_false_iff_ne.2 (by have := List.length_pos_iff.2 hn; omega)
    have dz2 : ¬ ks.length = 0 := by have := List.length_pos_iff.2 hn; omega
    have HNE := Lib.hid hn
    clear hn
    go_wp2_with fail
    refine (minK_ne ks A1 c1 _ HP1.out.1 HNE.out hkl2).mono ?_; rintro e w2 ⟨M, hM, rfl, hb⟩
    have HP2 := Lib.hid (And.intro hM (HP1.out.2.trans (hb.mono HP1.out.2.size)))
    clear hM hb HP1
    have hfld := fldK (.int .i64 M.within) (.int .i64 M.prio) (.int .i64 M.excess) (.string M.id) w2
    go_wp2_with fail
    exact bodyPost_ret (v := .tuple #[.string M.id, .bool true]) (by simp [results, Try.results27, go_sem]) rfl ⟨_, _, .some M HP2.out.1, rfl, HP2.out.2⟩
end Go.Proofs.Ytlnpmdchhmbblaa
