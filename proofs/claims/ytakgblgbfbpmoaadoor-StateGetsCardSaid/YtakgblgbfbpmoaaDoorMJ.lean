/- Several texts in one: slices.Insert of one entry into a row of one's own. slices.Delete of one image out of a row of one's own; slices.Clone. -/
import Derived.Lib.Overlaps
import Derived.Laws.Externs
import Derived.Outline
import Derived.Test.YtakgblgbfbpmoaaDoorMI
import Derived.Test.YtakgblgbfbpmoaaDoorMG
namespace Go.Proofs.YtakgblgbfbpmoaaDoor
open Go.RowKit

def insI (l : List En) (i : Nat) (x : En) : List En := l.take i ++ x :: l.drop i
theorem insI_len (l : List En) (i : Nat) (x : En) (hi : i ≤ l.length) : (insI l i x).length = l.length + 1 := by unfold insI; simp; omega
def Inserts (l : List En) (i : Nat) (x : En) (A : Option Addr) (c base : Nat) (w : World) (e : Ending) (w' : World) : Prop :=
  ∃ A' c', e = .returned (.slice A' (l.length + 1) c') ∧ Own w' base 46 encN (.slice A' (l.length + 1) c') (insI l i x) ∧ w.grownBy w' (Value.slice A l.length c).ownBlock
theorem grown_of_below {w w' : World} (hb : Below w.heap.size w w') (row : Option Nat) : w.grownBy w' row := ⟨hb.os, hb.tape, hb.output, hb.size, fun k hk _ => hb.block k hk⟩
theorem own_all {α : Type} {size : Nat} {E : Enc α size} {w : World} {base : Nat} {e : TypeId} {l : List α} {g c : Nat} (h : Own w base e E (.slice (some ⟨g, 0, none⟩) l.length c) l) (j : Nat) (u : Value) (hu : (E.all l)[j]? = some u) : w.cell? ⟨g, j, none⟩ = some u := by
  obtain ⟨b, off, e1, _, hc⟩ := h.toRds (by intro e; subst e; simp [Enc.all] at hu)
  injection e1 with e1
  injection e1 with e1 e2
  subst e1
  subst e2
  have := hc j u hu
  rwa [Nat.zero_add] at this
theorem all_drop_at {α : Type} {size : Nat} (E : Enc α size) (l : List α) (i j : Nat) (hi : i ≤ l.length) : (E.all (l.drop i))[j]? = (E.all l)[i * size + j]? := by
  rw [E.all_drop l i hi, List.getElem?_drop]
theorem insI_all (l : List En) (i : Nat) (x : En) : encN.all (insI l i x) = encN.all (l.take i) ++ encN.enc x ++ encN.all (l.drop i) := by
  unfold insI
  rw [encN.all_append, encN.all_cons, List.append_assoc]
theorem zI_one : ∀ v ∈ (Value.agg #[.string ⟨#[]⟩, .int .i64 0, .bool false, .int .i64 0, .int .i64 0, .int .i64 0, .int .i64 0, .int .i64 0, .int .i64 0, .string ⟨#[]⟩, .int .i64 0, .int .i64 0]).cells.toList, v.oneCell' = true := by
  intro v hv
  have : (Value.agg #[.string ⟨#[]⟩, .int .i64 0, .bool false, .int .i64 0, .int .i64 0, .int .i64 0, .int .i64 0, .int .i64 0, .int .i64 0, .string ⟨#[]⟩, .int .i64 0, .int .i64 0]).cells = #[.string ⟨#[]⟩, .int .i64 0, .bool false, .int .i64 0, .int .i64 0, .int .i64 0, .int .i64 0, .int .i64 0, .int .i64 0, .string ⟨#[]⟩, .int .i64 0, .int .i64 0] := rfl
  rw [this] at hv
  simp only [List.mem_cons, List.not_mem_nil, or_false] at hv
  rcases hv with h | h | h | h | h | h | h | h | h | h | h | h <;> subst h <;> rfl
theorem infoIm : ∃ i0, Tryd.prog.info? 46 = some i0 ∧ i0.zero = some (.agg #[.string ⟨#[]⟩, .int .i64 0, .bool false, .int .i64 0, .int .i64 0, .int .i64 0, .int .i64 0, .int .i64 0, .int .i64 0, .string ⟨#[]⟩, .int .i64 0, .int .i64 0]) ∧ i0.size = 12 ∧ i0.bytes = 112 :=
  info_parts (show (Tryd.prog.info? 46).map (fun i => (i.zero, i.size, i.bytes)) = some (some (.agg #[.string ⟨#[]⟩, .int .i64 0, .bool false, .int .i64 0, .int .i64 0, .int .i64 0, .int .i64 0, .int .i64 0, .int .i64 0, .string ⟨#[]⟩, .int .i64 0, .int .i64 0]), 12, 112) by kernel_rfl)

section
variable {l : List En} {i : Nat} {x : En} {A : Option Addr} {c base vb : Nat} {w : World}
set_option maxHeartbeats 4000000 in
set_option maxRecDepth 100000 in
/-- at the end -/
theorem insert_end (hown : Own w base 46 encN (.slice A l.length c) l) (hv : Blk w vb 46 x.cells) (hbase : base ≤ w.heap.size) (hl : l.length ≤ 100000) :
    Calls Tryd.prog 42 #[.slice A l.length c, .int .i64 l.length, .slice (some ⟨vb, 0, none⟩) 1 1] w (Inserts l l.length x A c base w) := by
  have hcap := hown.cap
  have hrv : Rds w encN (some ⟨vb, 0, none⟩) [x] := fun _ => ⟨vb, 0, rfl, hv.lt, fun j u hu => by
    rw [Nat.zero_add, hv.cell]
    rw [Enc.all_one] at hu
    simpa [encN] using hu⟩
  have HO := Lib.hid (And.intro hown hrv)
  have hle : l.length ≤ c := hcap.2.1
  have hc63 : c ≤ 9223372036854775807 := hcap.2.2
  clear hcap hown hrv hv
  have d1 : ((l.length : Int) == (l.length : Int)) = true := by simp
  have HE : Hid (l ++ [x] = insI l l.length x) := by show _ = _; unfold insI; simp
  by_cases hce : c = l.length
  · subst hce
    go_enter Tryd.func42, Tryd.ntmps42
    go_wp2_with (at_builtin; refine wl_app elemN encN rfl (.tmp 23) (.tmp 24) rfl base _ l rfl HO.out.1 _ [x] 1 rfl HO.out.2 (by simp; omega) (by simp; omega) hbase ?_; intro A3 k3 w3 hown3 hgrow3 _; have HX3 := Lib.hid (And.intro hown3 hgrow3); clear hown3 hgrow3)
    go_ret
    exact ⟨A3, k3, rfl, by rw [← HE.out]; exact HX3.out.1, HX3.out.2⟩
  · have hcn : l.length < c := by omega
    go_enter Tryd.func42, Tryd.ntmps42
    go_wp2_with (at_builtin; refine wl_app elemN encN rfl (.tmp 23) (.tmp 24) rfl base _ l rfl HO.out.1 _ [x] 1 rfl HO.out.2 (by simp; omega) (by simp; omega) hbase ?_; intro A3 k3 w3 hown3 hgrow3 _; have HX3 := Lib.hid (And.intro hown3 hgrow3); clear hown3 hgrow3)
    go_ret
    exact ⟨A3, k3, rfl, by rw [← HE.out]; exact HX3.out.1, HX3.out.2⟩

set_option maxHeartbeats 8000000 in
set_option maxRecDepth 100000 in
/-- in the midst, no room: a new row -/
theorem insert_grow (hown : Own w base 46 encN (.slice A l.length l.length) l) (hv : Blk w vb 46 x.cells) (hbase : base ≤ w.heap.size) (hl : l.length ≤ 100000) (hi : i < l.length) :
    Calls Tryd.prog 42 #[.slice A l.length l.length, .int .i64 i, .slice (some ⟨vb, 0, none⟩) 1 1] w (Inserts l i x A l.length base w) := by
  have hne : l ≠ [] := by intro e; subst e; simp at hi
  obtain ⟨g, hA, hge⟩ := own_some hown hne
  subst hA
  have hglt := (hown.block_lt g rfl).2
  obtain ⟨n, hn⟩ : ∃ n, n = l.length := ⟨_, rfl⟩
  have hall := own_all hown
  unfold Inserts
  rw [← hn] at hown hi hl ⊢
  obtain ⟨i0, hi0, hz0, hzs, hzb⟩ := infoIm
  have hvc := hv.cell
  have hvl := hv.lt
  have hol : (encN.all (l.take i)).length = i * 12 := by rw [encN.all_len, List.length_take]; omega
  have hdl : (encN.all (l.drop i)).length = (n - i) * 12 := by rw [encN.all_len, List.length_drop]; omega
  have hxl : x.cells.toList.length = 12 := rfl
  have hik : i + (n + 1 - i) = n + 1 := by omega
  have hkk : (n : Int) + 1 - (i : Int) = ((n + 1 - i : Nat) : Int) := by omega
  have hold : (Builtin.firstCells i0.size i (.slice (some ⟨g, 0, none⟩) i n)).run Tryd.prog w.drew = .ok (encN.all (l.take i)).toArray w.drew := by
    rw [hzs]
    refine run_firstCells_some w.drew 12 i ⟨g, 0, none⟩ i n (encN.all (l.take i)) hol (fun j v hj => ?_)
    rw [add_mk, Nat.zero_add]
    rw [encN.all_take l i (by omega), List.getElem?_take] at hj
    split at hj
    · exact hall j v hj
    · cases hj
  have hrz : (Builtin.append_ #[22, 3] 22 #[.slice (some ⟨g, 0, none⟩) i n, .int .i64 ((n : Int) + 1 - (i : Int))]).run Tryd.prog w =
      .ok (.slice (some ⟨w.heap.size, 0, none⟩) (n + 1) (grownCap w (n + 1) n 46)) (w.drew.alloc (.cells ((encN.all (l.take i)).toArray ++ Builtin.zeroCells (Value.agg #[.string ⟨#[]⟩, .int .i64 0, .bool false, .int .i64 0, .int .i64 0, .int .i64 0, .int .i64 0, .int .i64 0, .int .i64 0, .string ⟨#[]⟩, .int .i64 0, .int .i64 0]).cells (n + 1 - i) ++ Builtin.zeroCells (Value.agg #[.string ⟨#[]⟩, .int .i64 0, .bool false, .int .i64 0, .int .i64 0, .int .i64 0, .int .i64 0, .int .i64 0, .int .i64 0, .string ⟨#[]⟩, .int .i64 0, .int .i64 0]).cells (grownCap w (n + 1) n 46 - (n + 1))) 46)) := by
    have h := Lib.run_append_grow_zeros w 22 3 22 46 i0 _ .i64 .i64 Tryd.underlying22 Tryd.underlying3 hi0 hz0 (some ⟨g, 0, none⟩) i n (encN.all (l.take i)) hold (n + 1 - i) (by omega) (by omega) (by omega) (by omega) (by rw [hzb]; omega) (by rw [hzb, hik]; exact growslice_fits (by omega) (by omega))
    rw [hik] at h
    rw [hkk]
    exact h
  have hGn := grownCap_ge w (n + 1) n 46
  have hGm := grownCap_le_maxLen w (n + 1) n 46 (by unfold maxLen; omega)
  generalize grownCap w (n + 1) n 46 = G at *
  obtain ⟨cur, hcur⟩ : ∃ cur : List Value, cur = encN.all (l.take i) ++ (Builtin.zeroCells (Value.agg #[.string ⟨#[]⟩, .int .i64 0, .bool false, .int .i64 0, .int .i64 0, .int .i64 0, .int .i64 0, .int .i64 0, .int .i64 0, .string ⟨#[]⟩, .int .i64 0, .int .i64 0]).cells (n + 1 - i)).toList ++ (Builtin.zeroCells (Value.agg #[.string ⟨#[]⟩, .int .i64 0, .bool false, .int .i64 0, .int .i64 0, .int .i64 0, .int .i64 0, .int .i64 0, .int .i64 0, .string ⟨#[]⟩, .int .i64 0, .int .i64 0]).cells (G - (n + 1))).toList := ⟨_, rfl⟩
  have hrow : (encN.all (l.take i)).toArray ++ Builtin.zeroCells (Value.agg #[.string ⟨#[]⟩, .int .i64 0, .bool false, .int .i64 0, .int .i64 0, .int .i64 0, .int .i64 0, .int .i64 0, .int .i64 0, .string ⟨#[]⟩, .int .i64 0, .int .i64 0]).cells (n + 1 - i) ++ Builtin.zeroCells (Value.agg #[.string ⟨#[]⟩, .int .i64 0, .bool false, .int .i64 0, .int .i64 0, .int .i64 0, .int .i64 0, .int .i64 0, .int .i64 0, .string ⟨#[]⟩, .int .i64 0, .int .i64 0]).cells (G - (n + 1)) = cur.toArray := by
    rw [hcur]; simp
  rw [hrow] at hrz
  have hcl : cur.length = G * 12 := by
    have hz3 : (Value.agg #[.string ⟨#[]⟩, .int .i64 0, .bool false, .int .i64 0, .int .i64 0, .int .i64 0, .int .i64 0, .int .i64 0, .int .i64 0, .string ⟨#[]⟩, .int .i64 0, .int .i64 0]).cells.size = 12 := rfl
    rw [hcur, List.length_append, List.length_append, hol, Array.length_toList, Array.length_toList, size_zeroCells, size_zeroCells, hz3]
    omega
  have hct : cur.take (i * 12) = encN.all (l.take i) := by
    rw [hcur, List.append_assoc]; exact List.take_left' hol
  clear hrow hcur hold
  have hmax : G ≤ 9223372036854775807 := by simpa only [maxLen] using hGm
  have hB1 : Blk (w.drew.alloc (.cells cur.toArray 46)) w.heap.size 46 cur.toArray := Blk.new w.drew _ _
  have hb1 : Below w.heap.size w (w.drew.alloc (.cells cur.toArray 46)) := ((Below.refl _ _).drew).alloc (Nat.le_refl _) _
  obtain ⟨W1, hW1⟩ : ∃ W1, W1 = w.drew.alloc (.cells cur.toArray 46) := ⟨_, rfl⟩
  rw [← hW1] at hrz hB1 hb1
  clear hW1
  have hsz : (Tryd.prog.info? 46).map (·.size) = some 12 := by rw [hi0]; simp [hzs]
  obtain ⟨W2, hA, hB2, hg2, hs2⟩ := copy_blk W1 22 22 3 46 46 12 w.heap.size (i * 12) (n + 1 - i) (G - i) ⟨vb, 0, none⟩ 1 1 1 cur x.cells.toList hB1 (by rw [hxl, hcl]; omega) Tryd.underlying22 hsz (by simp only [Nat.min_def]; split <;> omega) rfl
    (fun j v hj => by rw [add_mk, Nat.zero_add, (bcell hb1).1 vb j hvl, hvc]; simpa using hj) (fun v hv => encN.one x v hv)
  have hb2 : Below w.heap.size w W2 := hb1.grown hg2 hb1.size (fun k hk => by injection hk with hk; omega)
  obtain ⟨W3, hBb, hB3, hg3, hs3⟩ := copy_blk W2.drew 22 22 3 46 46 12 w.heap.size ((i + 1) * 12) (n + 1 - (i + 1)) (G - (i + 1)) ⟨g, i * 12, none⟩ (n - i) (n - i) (n - i) _ (encN.all (l.drop i)) hB2.drew (by rw [splice_len _ _ _ (by rw [hxl, hcl]; omega), hdl, hcl]; omega) Tryd.underlying22 hsz (by simp only [Nat.min_def]; split <;> omega) hdl
    (fun j v hj => by
      rw [add_mk]
      show W2.cell? _ = _
      rw [(bcell hb2).1 g _ hglt]
      rw [all_drop_at encN l i j (by omega)] at hj
      exact hall _ v hj) (encN.all_oneCell _)
  have hb3 : Below w.heap.size w W3 := (hb2.drew).grown hg3 hb2.size (fun k hk => by injection hk with hk; omega)
  have HP : Hid (Own W3 base 46 encN (.slice (some ⟨w.heap.size, 0, none⟩) (n + 1) G) (insI l i x) ∧ Below w.heap.size w W3) := by
    refine ⟨?_, hb3⟩
    have hil := insI_len l i x (by omega)
    rw [← hn] at hil
    rw [← hil]
    refine ⟨encN.all_len _, .inr ⟨w.heap.size, G, _, rfl, hbase, hB3, by omega, hGm, ?_, ?_⟩⟩
    · rw [List.size_toArray, splice_len, splice_len, hcl]
      · rw [hxl, hcl]; omega
      · rw [splice_len _ _ _ (by rw [hxl, hcl]; omega), hdl, hcl]; omega
    · have h2 := two_up cur x.cells.toList (encN.all (l.drop i)) (i * 12) (by rw [hxl, hdl, hcl]; omega)
      rw [hxl, hdl] at h2
      rw [insI_all l i x, hil]
      rw [show (i + 1) * 12 = i * 12 + 12 by omega, hxl, hdl, show (n + 1) * 12 = i * 12 + 12 + (n - i) * 12 by omega]
      exact h2.trans (by rw [hct]; rfl)
  have HA := Lib.hid hA
  have HBb := Lib.hid hBb
  have HRZ := Lib.hid hrz
  have hz2 : ((i : Int) == (n : Int)) = false := beq_eq_false_iff_ne.2 (by omega)
  have hz3 : decide ((n : Int) < (n : Int) + 1) = true := decide_eq_true (by omega)
  have hz4 : (n : Int) < (n : Int) + 1 := by omega
  have hw0 : IntKind.i64.wrap ((n : Int) + 1) = (n : Int) + 1 := by rw [IntKind.wrap_i64]; omega
  have hw1 : IntKind.i64.wrap ((i : Int) + 1) = (i : Int) + 1 := by rw [IntKind.wrap_i64]; omega
  have hb4 : (0 : Int) ≤ (i : Int) + 1 := by omega
  have htn : ((i : Int) + 1).toNat = i + 1 := by omega
  have hni : ¬ (n = i) := by omega
  have hGi : ¬ (G = i) := by omega
  have hGim : ¬ (G = i + 1) := by omega
  have hin : i ≤ n := by omega
  have hin2 : (i : Int) ≤ (n : Int) := by omega
  clear hall hvc hvl hol hdl hxl hik hkk hi0 hz0 hzs hzb hrz hA hBb hB1 hB2 hB3 hg2 hg3 hs2 hs3 hb1 hb2 hb3 hct hcl hsz hn hown hv
  go_enter Tryd.func42, Tryd.ntmps42
  go_wp2_with (first
    | (at_builtin; refine wl_append_run rfl (.tmp 34) (.tmp 39) 22 3 rfl _ _ rfl rfl HRZ.out ?_)
    | (refine wl_copy_run rfl (.tmp 43) (.tmp 44) 22 22 rfl _ _ rfl rfl HA.out ?_))
  have mixed : Tryd.prog.follows Departure.mixedOrders = true := by kernel_rfl
  go_region_law_o (refine step_copy_run rfl (.tmp 50) (.tmp 53) 22 22 rfl _ _ (by simp [Act.eval, Act.put]) (by simp [Act.eval, Act.put]) HBb.out ?_)
  go_wp2_with fail
  go_ret
  exact ⟨_, _, rfl, HP.out.1, grown_of_below HP.out.2 _⟩
theorem shape_blk {g : Nat} {t : TypeId} {cs : Array Value} (h : Blk w g t cs) : w.shape? g = some (t, cs.size) := by
  unfold Blk at h
  simp [World.shape?, h]
set_option maxHeartbeats 8000000 in
set_option maxRecDepth 100000 in
/-- in the midst, there is room: in place -/
theorem insert_shift (hown : Own w base 46 encN (.slice A l.length c) l) (hv : Blk w vb 46 x.cells) (hvo : some vb ≠ (Value.slice A l.length c).ownBlock) (hl : l.length ≤ 100000) (hi : i < l.length) (hc : l.length < c) :
    Calls Tryd.prog 42 #[.slice A l.length c, .int .i64 i, .slice (some ⟨vb, 0, none⟩) 1 1] w (Inserts l i x A c base w) := by
  have hne : l ≠ [] := by intro e; subst e; simp at hi
  obtain ⟨g, cap, cura, hval, hge, hg, hncap, hmax, hcs, htake⟩ := own_row hown hne
  injection hval with hA _ hcap
  subst hA
  subst hcap
  have hvg : vb ≠ g := fun e => hvo (by rw [e]; rfl)
  have hall := own_all hown
  obtain ⟨n, hn⟩ : ∃ n, n = l.length := ⟨_, rfl⟩
  unfold Inserts
  rw [← hn] at hown hi hl hc hncap htake ⊢
  obtain ⟨cur, hcur⟩ : ∃ cur : List Value, cur = cura.toList := ⟨_, rfl⟩
  have hgc : cura = cur.toArray := by rw [hcur]
  rw [hgc] at hg hcs
  rw [← hcur] at htake
  have hcl : cur.length = c * 12 := by simpa using hcs
  clear hgc hcur hcs
  obtain ⟨i0, hi0, hz0, hzs, hzb⟩ := infoIm
  have hvc := hv.cell
  have hvl := hv.lt
  have hdl : (encN.all (l.drop i)).length = (n - i) * 12 := by rw [encN.all_len, List.length_drop]; omega
  have hxl : x.cells.toList.length = 12 := rfl
  have hct : cur.take (i * 12) = encN.all (l.take i) := by
    rw [encN.all_take l i (by omega), ← htake, List.take_take, Nat.min_eq_left (by omega)]
  have hc63 : c ≤ 9223372036854775807 := by simpa only [maxLen] using hmax
  have hsz : (Tryd.prog.info? 46).map (·.size) = some 12 := by rw [hi0]; simp [hzs]
  have hov : ∀ lb cb, (callFunc 55 #[.slice (some ⟨vb, 0, none⟩) 1 1, .slice (some ⟨g, (i + 1) * 12, none⟩) lb cb]).run Tryd.prog w = .ok (.value (.bool false)) w := fun lb cb => by
    rw [run_callFunc_extern Tryd.func55 (by kernel_rfl) (by kernel_rfl) (by kernel_rfl) (e := Extern.SlicesOverlaps.overlaps #[22, 22] #[4]) (by kernel_rfl),
      Lib.run_overlaps_apart w 22 4 46 Tryd.underlying22 12 (fun w => by simp [sizeOf, typeInfo, hi0, hzs]) ⟨vb, 0, none⟩ ⟨g, (i + 1) * 12, none⟩ 1 1 lb cb hvg _ _ _ _ (shape_blk hv) (shape_blk hg) (by rw [List.size_toArray, hcl]; omega) (hv.frozen 0) (hv.frozen _)]
    rfl
  obtain ⟨W2, hA, hB2, hg2, hs2⟩ := copy_blk w.drew 22 22 3 46 46 12 g ((i + 1) * 12) (n + 1 - (i + 1)) (c - (i + 1)) ⟨g, i * 12, none⟩ (n + 1 - i) (c - i) (n - i) cur (encN.all (l.drop i)) hg.drew (by rw [hdl, hcl]; omega) Tryd.underlying22 hsz (by simp only [Nat.min_def]; split <;> omega) hdl
    (fun j v hj => by
      rw [add_mk]
      show w.cell? _ = _
      rw [all_drop_at encN l i j (by omega)] at hj
      exact hall _ v hj) (encN.all_oneCell _)
  obtain ⟨W3, hBb, hB3, hg3, hs3⟩ := copy_blk W2 22 22 3 46 46 12 g (i * 12) (n + 1 - i) (c - i) ⟨vb, 0, none⟩ 1 1 1 _ x.cells.toList hB2 (by rw [splice_len _ _ _ (by rw [hdl, hcl]; omega), hxl, hcl]; omega) Tryd.underlying22 hsz (by simp only [Nat.min_def]; split <;> omega) rfl
    (fun j v hj => by
      rw [add_mk, Nat.zero_add, (hv.drew.grown hg2 (by intro e; injection e with e; exact hvg e)).cell]
      simpa using hj) (fun v hv => encN.one x v hv)
  have hgr : w.grownBy W3 (some g) := ⟨hg3.os.trans hg2.os, hg3.tape.trans hg2.tape, hg3.output.trans hg2.output, by rw [hs3, hs2]; exact Nat.le_refl _, fun k hk hne => (hg3.block k (by rw [hs2]; exact hk) hne).trans (hg2.block k hk hne)⟩
  have HP : Hid (Own W3 base 46 encN (.slice (some ⟨g, 0, none⟩) (n + 1) c) (insI l i x) ∧ w.grownBy W3 (some g)) := by
    refine ⟨?_, hgr⟩
    have hil := insI_len l i x (by omega)
    rw [← hn] at hil
    rw [← hil]
    refine ⟨encN.all_len _, .inr ⟨g, c, _, rfl, hge, hB3, by omega, hmax, ?_, ?_⟩⟩
    · rw [List.size_toArray, splice_len, splice_len, hcl]
      · rw [hdl, hcl]; omega
      · rw [splice_len _ _ _ (by rw [hdl, hcl]; omega), hxl, hcl]; omega
    · have h2 := two_down cur x.cells.toList (encN.all (l.drop i)) (i * 12) (by rw [hxl, hdl, hcl]; omega)
      rw [hct, hxl, hdl] at h2
      rw [insI_all l i x, hil]
      rw [show (i + 1) * 12 = i * 12 + 12 by omega, hxl, hdl, show (n + 1) * 12 = i * 12 + 12 + (n - i) * 12 by omega]
      exact h2
  have HA := Lib.hid hA
  have HBb := Lib.hid hBb
  have HOV := Lib.hid hov
  have hz2 : ((i : Int) == (n : Int)) = false := beq_eq_false_iff_ne.2 (by omega)
  have hz3 : decide ((c : Int) < (n : Int) + 1) = false := decide_eq_false (by omega)
  have hz4 : (n : Int) + 1 ≤ (c : Int) := by omega
  have hw0 : IntKind.i64.wrap ((n : Int) + 1) = (n : Int) + 1 := by rw [IntKind.wrap_i64]; omega
  have hw1 : IntKind.i64.wrap ((i : Int) + 1) = (i : Int) + 1 := by rw [IntKind.wrap_i64]; omega
  have hb4 : (0 : Int) ≤ (i : Int) + 1 := by omega
  have hb5 : (0 : Int) ≤ (n : Int) + 1 := by omega
  have htn : ((i : Int) + 1).toNat = i + 1 := by omega
  have htn2 : ((n : Int) + 1).toNat = n + 1 := by omega
  have hci : ¬ (c = i) := by omega
  have hcim : ¬ (c = i + 1) := by omega
  have hin : i ≤ n := by omega
  have hin2 : (i : Int) ≤ (n : Int) := by omega
  have hin3 : (i : Int) ≤ (n : Int) + 1 := by omega
  clear hall hvc hvl hdl hxl hi0 hz0 hzs hzb hA hBb hg hB2 hB3 hg2 hg3 hs2 hs3 hgr hct hcl hsz hn hown hv hov htake
  go_enter Tryd.func42, Tryd.ntmps42
  go_wp2_with (simp only [HOV.out])
  have mixed : Tryd.prog.follows Departure.mixedOrders = true := by kernel_rfl
  go_region_law_o (refine step_copy_run rfl (.tmp 73) (.tmp 76) 22 22 rfl _ _ (by simp [Act.eval, Act.put]) (by simp [Act.eval, Act.put]) HA.out ?_)
  go_wp2_with (refine wl_copy_run rfl (.tmp 80) (.tmp 81) 22 22 rfl _ _ rfl rfl HBb.out ?_)
  go_ret
  exact ⟨_, _, rfl, HP.out.1, HP.out.2⟩
/-- slices.Insert of one entry -/
theorem insert_any (hown : Own w base 46 encN (.slice A l.length c) l) (hv : Blk w vb 46 x.cells) (hvo : some vb ≠ (Value.slice A l.length c).ownBlock) (hbase : base ≤ w.heap.size) (hl : l.length ≤ 100000) (hi : i ≤ l.length) :
    Calls Tryd.prog 42 #[.slice A l.length c, .int .i64 i, .slice (some ⟨vb, 0, none⟩) 1 1] w (Inserts l i x A c base w) := by
  rcases Nat.lt_or_ge i l.length with h | h
  · rcases Nat.lt_or_ge l.length c with h2 | h2
    · exact insert_shift hown hv hvo hl h h2
    · have := hown.cap.2.1
      obtain rfl : c = l.length := by omega
      exact insert_grow hown hv hbase hl h
  · obtain rfl : i = l.length := by omega
    exact insert_end hown hv hbase hl
end
end Go.Proofs.YtakgblgbfbpmoaaDoor

namespace Go.Proofs.YtakgblgbfbpmoaaDoor
open Go.RowKit

def delI (l : List En) (i : Nat) : List En := l.take i ++ l.drop (i + 1)
theorem delI_len (l : List En) (i : Nat) (hi : i < l.length) : (delI l i).length = l.length - 1 := by unfold delI; simp; omega
def Deletes (l : List En) (i : Nat) (A : Option Addr) (c base : Nat) (w : World) (e : Ending) (w' : World) : Prop :=
  ∃ A' c', e = .returned (.slice A' (l.length - 1) c') ∧ Own w' base 46 encN (.slice A' (l.length - 1) c') (delI l i) ∧ w.grownBy w' (Value.slice A l.length c).ownBlock
section
variable {l : List En} {i : Nat} {A : Option Addr} {c base : Nat} {w : World}
set_option maxHeartbeats 8000000 in
set_option maxRecDepth 100000 in
theorem delete_any (hown : Own w base 46 encN (.slice A l.length c) l) (hl : l.length ≤ 100000) (hi : i < l.length) :
    Calls Tryd.prog 43 #[.slice A l.length c, .int .i64 i, .int .i64 ((i : Int) + 1)] w (Deletes l i A c base w) := by
  have hne : l ≠ [] := by intro e; subst e; simp at hi
  obtain ⟨g, cap, cura, hval, hge, hg, hncap, hmax, hcs, htake⟩ := own_row hown hne
  injection hval with hA _ hcap
  subst hA
  subst hcap
  have hall := own_all hown
  obtain ⟨n, hn⟩ : ∃ n, n = l.length := ⟨_, rfl⟩
  unfold Deletes
  rw [← hn] at hown hi hl hncap htake ⊢
  obtain ⟨cur, hcur⟩ : ∃ cur : List Value, cur = cura.toList := ⟨_, rfl⟩
  have hgc : cura = cur.toArray := by rw [hcur]
  rw [hgc] at hg hcs
  rw [← hcur] at htake
  have hcl : cur.length = c * 12 := by simpa using hcs
  clear hgc hcur hcs
  obtain ⟨i0, hi0, hz0, hzs, hzb⟩ := infoIm
  have hdl : (encN.all (l.drop (i + 1))).length = (n - (i + 1)) * 12 := by rw [encN.all_len, List.length_drop]; omega
  have hct : cur.take (i * 12) = encN.all (l.take i) := by
    rw [encN.all_take l i (by omega), ← htake, List.take_take, Nat.min_eq_left (by omega)]
  have hc63 : c ≤ 9223372036854775807 := by simpa only [maxLen] using hmax
  obtain ⟨hB2, hg2, hs2⟩ := setCells_blk g 46 (encN.all (l.drop (i + 1))) (i * 12) w.drew cur (by rw [hdl, hcl]; omega) hg.drew
  have hz3 : (Value.agg #[.string ⟨#[]⟩, .int .i64 0, .bool false, .int .i64 0, .int .i64 0, .int .i64 0, .int .i64 0, .int .i64 0, .int .i64 0, .string ⟨#[]⟩, .int .i64 0, .int .i64 0]).cells.size = 12 := rfl
  have hcut : (cur.take (i * 12) ++ encN.all (l.drop (i + 1)) ++ cur.drop (i * 12 + (encN.all (l.drop (i + 1))).length)).length = c * 12 := by rw [splice_len _ _ _ (by rw [hdl, hcl]; omega), hcl]
  obtain ⟨W2, hW2⟩ : ∃ W2, W2 = w.drew.setCells g (i * 12) (encN.all (l.drop (i + 1))) := ⟨_, rfl⟩
  rw [← hW2] at hB2 hg2 hs2
  obtain ⟨W3, zs, hC, hzl, hB3, hg3, hs3⟩ := clear_blk (P := Tryd.prog) W2 22 0 46 46 i0 _ Tryd.underlying22 hi0 hz0 zI_one (by rw [hz3]; omega) g ((n - 1) * 12) 1 (c - (n - 1)) (by omega) _ hB2 (by rw [hcut, hz3]; omega)
  have hgr : w.grownBy W3 (some g) := ⟨hg3.os.trans hg2.os, hg3.tape.trans hg2.tape, hg3.output.trans hg2.output, by rw [hs3, hs2]; exact Nat.le_refl _, fun k hk hne => (hg3.block k (by rw [hs2]; exact hk) hne).trans (hg2.block k hk hne)⟩
  have hrun : (Builtin.append_ #[22, 22] 22 #[.slice (some ⟨g, 0, none⟩) i c, .slice (if c = i + 1 then some ⟨g, 0, none⟩ else some ⟨g, (i + 1) * 12, none⟩) (n - (i + 1)) (c - (i + 1))]).run Tryd.prog w.drew = .ok (.slice (some ⟨g, 0, none⟩) (n - 1) c) W2 := by
    have hsm : i + (n - (i + 1)) = n - 1 := by omega
    have key : ∀ (ad : Addr), (∀ j v, (encN.all (l.drop (i + 1)))[j]? = some v → w.drew.cell? (ad.add j) = some v) → (Builtin.append_ #[22, 22] 22 #[.slice (some ⟨g, 0, none⟩) i c, .slice (some ad) (n - (i + 1)) (c - (i + 1))]).run Tryd.prog w.drew = .ok (.slice (some ⟨g, 0, none⟩) (n - 1) c) W2 := fun ad had => by
      have h := run_append_room_cells (P := Tryd.prog) w.drew 22 22 46 i0 Tryd.underlying22 hi0 g 0 i c ad (n - (i + 1)) (c - (i + 1)) (encN.all (l.drop (i + 1))) (by rw [hdl, hzs]) had (encN.all_oneCell _) (by omega)
        (fun j hj => by
          rw [hdl] at hj
          rw [hg.drew.cell, List.getElem?_toArray, hzs, List.getElem?_eq_getElem (by omega)]; simp) (fun j _ => hg.drew.frozen _)
      rw [hsm, hzs, Nat.zero_add, ← hW2] at h
      exact h
    split
    · refine key _ fun j v hj => ?_
      have : (encN.all (l.drop (i + 1))).length = 0 := by rw [hdl, show n - (i + 1) = 0 by omega]
      have := (List.getElem?_eq_some_iff.1 hj).1
      omega
    · refine key _ fun j v hj => ?_
      rw [add_mk]
      show w.cell? _ = _
      rw [all_drop_at encN l (i + 1) j (by omega)] at hj
      exact hall _ v hj
  have HP : Hid (Own W3 base 46 encN (.slice (some ⟨g, 0, none⟩) (n - 1) c) (delI l i) ∧ w.grownBy W3 (some g)) := by
    refine ⟨?_, hgr⟩
    have hil := delI_len l i (by omega)
    rw [← hn] at hil
    rw [← hil]
    refine ⟨encN.all_len _, .inr ⟨g, c, _, rfl, hge, hB3, by omega, hmax, ?_, ?_⟩⟩
    · rw [List.size_toArray, ← hzl, splice_len, hcut]
      rw [hcut, hzl, hz3]; omega
    · rw [hil]
      have e1 : ∀ (q zs r : List Value) (k : Nat), k ≤ q.length → (q.take k ++ zs ++ r).take k = q.take k := fun q zs r k hk => by
        rw [List.append_assoc, List.take_append_of_le_length (by rw [List.length_take]; omega), List.take_take, Nat.min_self]
      rw [e1 _ _ _ _ (by rw [hcut]; omega), List.take_left' (by rw [List.length_append, List.length_take, hdl, hcl]; omega), hct]
      unfold delI
      rw [encN.all_append]
  have HC := Lib.hid hC
  have HRUN := Lib.hid hrun
  have hw1 : IntKind.i64.wrap ((i : Int) + 1) = (i : Int) + 1 := by rw [IntKind.wrap_i64]; omega
  have hz2 : ((i : Int) == (i : Int) + 1) = false := beq_eq_false_iff_ne.2 (by omega)
  have hb4 : (0 : Int) ≤ (i : Int) + 1 := by omega
  have hb5 : (i : Int) + 1 ≤ (n : Int) := by omega
  have htn : ((i : Int) + 1).toNat = i + 1 := by omega
  have hb6 : n - 1 ≤ n := by omega
  have hb7 : ¬ (c = n - 1) := by omega
  have hb8 : n - (n - 1) = 1 := by omega
  have hb9 : ((n - 1 : Nat) : Int) ≤ (n : Int) := by omega
  have hin : i ≤ n := by omega
  have hic : i ≤ c := by omega
  have hic1 : i + 1 ≤ c := by omega
  have hic2 : (i : Int) ≤ (c : Int) := by omega
  have hnc : n ≤ c := by omega
  clear hall hdl hi0 hz0 hzs hzb hC hg hB2 hB3 hg2 hg3 hs2 hs3 hgr hct hcl hcut hzl hn hown hrun htake hW2
  have mixed : Tryd.prog.follows Departure.mixedOrders = true := by kernel_rfl
  by_cases hce : c = i + 1
  · rw [if_pos hce] at HRUN
    subst hce
    rw [Nat.sub_self] at HRUN
    have hii : (i : Int) ≤ (i : Int) + 1 := by omega
    go_enter Tryd.func43, Tryd.ntmps43
    go_wp2_with fail
    go_region_law_o (refine step_append_run rfl (.tmp 22) (.tmp 25) 22 22 rfl _ _ (by simp [Act.eval, Act.put]) (by simp [Act.eval, Act.put]; omega) HRUN.out ?_)
    go_wp2_with (refine wl_clear_run rfl (.tmp 31) 22 rfl _ rfl HC.out ?_)
    go_ret
    exact ⟨_, _, rfl, HP.out.1, HP.out.2⟩
  · rw [if_neg hce] at HRUN
    go_enter Tryd.func43, Tryd.ntmps43
    go_wp2_with fail
    go_region_law_o (refine step_append_run rfl (.tmp 22) (.tmp 25) 22 22 rfl _ _ (by simp [Act.eval, Act.put]) (by simp [Act.eval, Act.put]) HRUN.out ?_)
    go_wp2_with (refine wl_clear_run rfl (.tmp 31) 22 rfl _ rfl HC.out ?_)
    go_ret
    exact ⟨_, _, rfl, HP.out.1, HP.out.2⟩
end

set_option maxRecDepth 100000 in
/-- slices.Clone -/
theorem clone_any (l : List En) (A : Option Addr) (c : Nat) (w : World) (hr : Rds w encN A l) (hl : l.length ≤ 100000) :
    Calls Tryd.prog 41 #[.slice A l.length c] w fun e w' => ∃ A' c', e = .returned (.slice A' l.length c') ∧ Own w' w.heap.size 46 encN (.slice A' l.length c') l ∧ Below w.heap.size w w' := by
  have HR := Lib.hid hr
  clear hr
  have q22 : ∀ (w : World) (a : Option Addr) (n c n' c' : Nat), (binOp .eql 22 (.slice a n c) (.slice none n' c')).run Tryd.prog w = .ok (.bool a.isNone) w := fun w a n c n' c' => Lib.run_eql_slice_nil w _ _ a n c n' c' Tryd.underlying22
  cases A with
  | none =>
    have hl0 : l = [] := by
      rcases List.eq_nil_or_concat l with h | ⟨l', x, h⟩
      · exact h
      · obtain ⟨b, off, h2, _⟩ := HR.out (by rw [h]; simp)
        cases h2
    subst hl0
    have HO := Lib.hid (Own.nil_ w w.heap.size 46 encN)
    go_enter Tryd.func41, Tryd.ntmps41
    go_wp2_with fail
    go_ret
    exact ⟨none, 0, rfl, HO.out, Below.refl _ _⟩
  | some a =>
    go_enter Tryd.func41, Tryd.ntmps41
    go_wp2_with (at_builtin; refine wl_copy elemN encN rfl (.tmp 5) (.tmp 6) rfl rfl _ l c rfl HR.out (by omega) (by omega) ?_; intro A1 k1 w1 ho hb; have HX := Lib.hid (And.intro ho hb); clear ho hb)
    go_ret
    exact ⟨A1, k1, rfl, HX.out.1, HX.out.2⟩
end Go.Proofs.YtakgblgbfbpmoaaDoor
