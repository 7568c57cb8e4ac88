/- slices.Insert of one image into a row of one's own. -/
import Derived.Test.YtfaklhdafpbkmaaCells
import Derived.Test.YtfaklhdafpbkmaaImgs
import Derived.Lib.Overlaps
import Derived.Laws.Externs
import Derived.Outline
namespace Go.Proofs.Ytfaklhdafpbkmaa
open Go.RowKit

def insI (l : List Im) (i : Nat) (x : Im) : List Im := l.take i ++ x :: l.drop i
theorem insI_len (l : List Im) (i : Nat) (x : Im) (hi : i ≤ l.length) : (insI l i x).length = l.length + 1 := by unfold insI; simp; omega
def Inserts (l : List Im) (i : Nat) (x : Im) (A : Option Addr) (c base : Nat) (w : World) (e : Ending) (w' : World) : Prop :=
  ∃ A' c', e = .returned (.slice A' (l.length + 1) c') ∧ Own w' base 46 encI (.slice A' (l.length + 1) c') (insI l i x) ∧ w.grownBy w' (Value.slice A l.length c).ownBlock
theorem grown_of_below {w w' : World} (hb : Below w.heap.size w w') (row : Option Nat) : w.grownBy w' row := ⟨hb.os, hb.tape, hb.output, hb.size, fun k hk _ => hb.block k hk⟩
theorem own_all {α : Type} {size : Nat} {E : Enc α size} {w : World} {base : Nat} {e : TypeId} {l : List α} {g c : Nat} (h : Own w base e E (.slice (some ⟨g, 0, none⟩) l.length c) l) (j : Nat) (u : Value) (hu : (E.all l)[j]? = some u) : w.cell? ⟨g, j, none⟩ = some u := by
  obtain ⟨b, off, e1, _, hc⟩ := h.toRds (by intro e; subst e; simp [Enc.all] at hu)
  injection e1 with e1
  injection e1 with e1 e2
  subst e1
  subst e2
  have := hc j u hu
  rwa [Nat.zero_add] at this
theorem all_drop_at {α : Type} {size : Nat} (E : Enc α size) (l : List α) (i j : Nat) (hi : i ≤ l.length) : (E.all (l.drop i))[j]? = (E.all l)[i * size + j]? := by
  rw [E.all_drop l i hi, List.getElem?_drop]
theorem insI_all (l : List Im) (i : Nat) (x : Im) : encI.all (insI l i x) = encI.all (l.take i) ++ encI.enc x ++ encI.all (l.drop i) := by
  unfold insI
  rw [encI.all_append, encI.all_cons, List.append_assoc]
theorem zI_one : ∀ v ∈ (Value.agg #[.string ⟨#[]⟩, .int .i64 0, .int .i64 0]).cells.toList, v.oneCell' = true := by
  intro v hv
  have : (Value.agg #[.string ⟨#[]⟩, .int .i64 0, .int .i64 0]).cells = #[.string ⟨#[]⟩, .int .i64 0, .int .i64 0] := rfl
  rw [this] at hv
  simp at hv
  rcases hv with h | h <;> subst h <;> rfl
theorem infoIm : ∃ i0, Try.prog.info? 46 = some i0 ∧ i0.zero = some (.agg #[.string ⟨#[]⟩, .int .i64 0, .int .i64 0]) ∧ i0.size = 3 ∧ i0.bytes = 32 :=
  info_parts (show (Try.prog.info? 46).map (fun i => (i.zero, i.size, i.bytes)) = some (some (.agg #[.string ⟨#[]⟩, .int .i64 0, .int .i64 0]), 3, 32) by kernel_rfl)

section
variable {l : List Im} {i : Nat} {x : Im} {A : Option Addr} {c base vb : Nat} {w : World}
set_option maxHeartbeats 4000000 in
set_option maxRecDepth 100000 in
/-- at the end -/
theorem insert_end (hown : Own w base 46 encI (.slice A l.length c) l) (hv : Blk w vb 46 x.cells) (hbase : base ≤ w.heap.size) (hl : l.length ≤ 100000) :
    Calls Try.prog 60 #[.slice A l.length c, .int .i64 l.length, .slice (some ⟨vb, 0, none⟩) 1 1] w (Inserts l l.length x A c base w) := by
  have hcap := hown.cap
  have hrv : Rds w encI (some ⟨vb, 0, none⟩) [x] := fun _ => ⟨vb, 0, rfl, hv.lt, fun j u hu => by
    rw [Nat.zero_add, hv.cell]
    rw [Enc.all_one] at hu
    simpa [encI] using hu⟩
  have HO := Lib.hid (And.intro hown hrv)
  have hle : l.length ≤ c := hcap.2.1
  have hc63 : c ≤ 9223372036854775807 := hcap.2.2
  clear hcap hown hrv hv
  have d1 : ((l.length : Int) == (l.length : Int)) = true := by simp
  have HE : Hid (l ++ [x] = insI l l.length x) := by show _ = _; unfold insI; simp
  by_cases hce : c = l.length
  · subst hce
    go_enter Try.func60, Try.ntmps60
    go_wp2_with (at_builtin; refine wl_app elemI encI rfl (.tmp 23) (.tmp 24) rfl base _ l rfl HO.out.1 _ [x] 1 rfl HO.out.2 (by simp; omega) (by simp; omega) hbase ?_; intro A3 k3 w3 hown3 hgrow3 _; have HX3 := Lib.hid (And.intro hown3 hgrow3); clear hown3 hgrow3)
    go_ret
    exact ⟨A3, k3, rfl, by rw [← HE.out]; exact HX3.out.1, HX3.out.2⟩
  · have hcn : l.length < c := by omega
    go_enter Try.func60, Try.ntmps60
    go_wp2_with (at_builtin; refine wl_app elemI encI rfl (.tmp 23) (.tmp 24) rfl base _ l rfl HO.out.1 _ [x] 1 rfl HO.out.2 (by simp; omega) (by simp; omega) hbase ?_; intro A3 k3 w3 hown3 hgrow3 _; have HX3 := Lib.hid (And.intro hown3 hgrow3); clear hown3 hgrow3)
    go_ret
    exact ⟨A3, k3, rfl, by rw [← HE.out]; exact HX3.out.1, HX3.out.2⟩

set_option maxHeartbeats 8000000 in
set_option maxRecDepth 100000 in
/-- in the midst, no room: a new row -/
theorem insert_grow (hown : Own w base 46 encI (.slice A l.length l.length) l) (hv : Blk w vb 46 x.cells) (hbase : base ≤ w.heap.size) (hl : l.length ≤ 100000) (hi : i < l.length) :
    Calls Try.prog 60 #[.slice A l.length l.length, .int .i64 i, .slice (some ⟨vb, 0, none⟩) 1 1] w (Inserts l i x A l.length base w) := by
  have hne : l ≠ [] := by intro e; subst e; simp at hi
  obtain ⟨g, hA, hge⟩ := own_some hown hne
  subst hA
  have hglt := (hown.block_lt g rfl).2
  obtain ⟨n, hn⟩ : ∃ n, n = l.length := ⟨_, rfl⟩
  have hall := own_all hown
  unfold Inserts
  rw [← hn] at hown hi hl ⊢
  obtain ⟨i0, hi0, hz0, hzs, hzb⟩ := infoIm
  have hvc := hv.cell
  have hvl := hv.lt
  have hol : (encI.all (l.take i)).length = i * 3 := by rw [encI.all_len, List.length_take]; omega
  have hdl : (encI.all (l.drop i)).length = (n - i) * 3 := by rw [encI.all_len, List.length_drop]; omega
  have hxl : x.cells.toList.length = 3 := rfl
  have hik : i + (n + 1 - i) = n + 1 := by omega
  have hkk : (n : Int) + 1 - (i : Int) = ((n + 1 - i : Nat) : Int) := by omega
  have hold : (Builtin.firstCells i0.size i (.slice (some ⟨g, 0, none⟩) i n)).run Try.prog w.drew = .ok (encI.all (l.take i)).toArray w.drew := by
    rw [hzs]
    refine run_firstCells_some w.drew 3 i ⟨g, 0, none⟩ i n (encI.all (l.take i)) hol (fun j v hj => ?_)
    rw [add_mk, Nat.zero_add]
    rw [encI.all_take l i (by omega), List.getElem?_take] at hj
    split at hj
    · exact hall j v hj
    · cases hj
  have hrz : (Builtin.append_ #[39, 3] 39 #[.slice (some ⟨g, 0, none⟩) i n, .int .i64 ((n : Int) + 1 - (i : Int))]).run Try.prog w =
      .ok (.slice (some ⟨w.heap.size, 0, none⟩) (n + 1) (grownCap w (n + 1) n 46)) (w.drew.alloc (.cells ((encI.all (l.take i)).toArray ++ Builtin.zeroCells (Value.agg #[.string ⟨#[]⟩, .int .i64 0, .int .i64 0]).cells (n + 1 - i) ++ Builtin.zeroCells (Value.agg #[.string ⟨#[]⟩, .int .i64 0, .int .i64 0]).cells (grownCap w (n + 1) n 46 - (n + 1))) 46)) := by
    have h := Lib.run_append_grow_zeros w 39 3 39 46 i0 _ .i64 .i64 Try.underlying39 Try.underlying3 hi0 hz0 (some ⟨g, 0, none⟩) i n (encI.all (l.take i)) hold (n + 1 - i) (by omega) (by omega) (by omega) (by omega) (by rw [hzb]; omega) (by rw [hzb, hik]; exact growslice_fits (by omega) (by omega))
    rw [hik] at h
    rw [hkk]
    exact h
  have hGn := grownCap_ge w (n + 1) n 46
  have hGm := grownCap_le_maxLen w (n + 1) n 46 (by unfold maxLen; omega)
  generalize grownCap w (n + 1) n 46 = G at *
  obtain ⟨cur, hcur⟩ : ∃ cur : List Value, cur = encI.all (l.take i) ++ (Builtin.zeroCells (Value.agg #[.string ⟨#[]⟩, .int .i64 0, .int .i64 0]).cells (n + 1 - i)).toList ++ (Builtin.zeroCells (Value.agg #[.string ⟨#[]⟩, .int .i64 0, .int .i64 0]).cells (G - (n + 1))).toList := ⟨_, rfl⟩
  have hrow : (encI.all (l.take i)).toArray ++ Builtin.zeroCells (Value.agg #[.string ⟨#[]⟩, .int .i64 0, .int .i64 0]).cells (n + 1 - i) ++ Builtin.zeroCells (Value.agg #[.string ⟨#[]⟩, .int .i64 0, .int .i64 0]).cells (G - (n + 1)) = cur.toArray := by
    rw [hcur]; simp
  rw [hrow] at hrz
  have hcl : cur.length = G * 3 := by
    have hz3 : (Value.agg #[.string ⟨#[]⟩, .int .i64 0, .int .i64 0]).cells.size = 3 := rfl
    rw [hcur, List.length_append, List.length_append, hol, Array.length_toList, Array.length_toList, size_zeroCells, size_zeroCells, hz3]
    omega
  have hct : cur.take (i * 3) = encI.all (l.take i) := by
    rw [hcur, List.append_assoc]; exact List.take_left' hol
  clear hrow hcur hold
  have hmax : G ≤ 9223372036854775807 := by simpa only [maxLen] using hGm
  have hB1 : Blk (w.drew.alloc (.cells cur.toArray 46)) w.heap.size 46 cur.toArray := Blk.new w.drew _ _
  have hb1 : Below w.heap.size w (w.drew.alloc (.cells cur.toArray 46)) := ((Below.refl _ _).drew).alloc (Nat.le_refl _) _
  obtain ⟨W1, hW1⟩ : ∃ W1, W1 = w.drew.alloc (.cells cur.toArray 46) := ⟨_, rfl⟩
  rw [← hW1] at hrz hB1 hb1
  clear hW1
  have hsz : (Try.prog.info? 46).map (·.size) = some 3 := by rw [hi0]; simp [hzs]
  obtain ⟨W2, hA, hB2, hg2, hs2⟩ := copy_blk W1 39 39 3 46 46 3 w.heap.size (i * 3) (n + 1 - i) (G - i) ⟨vb, 0, none⟩ 1 1 1 cur x.cells.toList hB1 (by rw [hxl, hcl]; omega) Try.underlying39 hsz (by simp only [Nat.min_def]; split <;> omega) rfl
    (fun j v hj => by rw [add_mk, Nat.zero_add, (bcell hb1).1 vb j hvl, hvc]; simpa using hj) (fun v hv => encI.one x v hv)
  have hb2 : Below w.heap.size w W2 := hb1.grown hg2 hb1.size (fun k hk => by injection hk with hk; omega)
  obtain ⟨W3, hBb, hB3, hg3, hs3⟩ := copy_blk W2.drew 39 39 3 46 46 3 w.heap.size ((i + 1) * 3) (n + 1 - (i + 1)) (G - (i + 1)) ⟨g, i * 3, none⟩ (n - i) (n - i) (n - i) _ (encI.all (l.drop i)) hB2.drew (by rw [splice_len _ _ _ (by rw [hxl, hcl]; omega), hdl, hcl]; omega) Try.underlying39 hsz (by simp only [Nat.min_def]; split <;> omega) hdl
    (fun j v hj => by
      rw [add_mk]
      show W2.cell? _ = _
      rw [(bcell hb2).1 g _ hglt]
      rw [all_drop_at encI l i j (by omega)] at hj
      exact hall _ v hj) (encI.all_oneCell _)
  have hb3 : Below w.heap.size w W3 := (hb2.drew).grown hg3 hb2.size (fun k hk => by injection hk with hk; omega)
  have HP : Hid (Own W3 base 46 encI (.slice (some ⟨w.heap.size, 0, none⟩) (n + 1) G) (insI l i x) ∧ Below w.heap.size w W3) := by
    refine ⟨?_, hb3⟩
    have hil := insI_len l i x (by omega)
    rw [← hn] at hil
    rw [← hil]
    refine ⟨encI.all_len _, .inr ⟨w.heap.size, G, _, rfl, hbase, hB3, by omega, hGm, ?_, ?_⟩⟩
    · rw [List.size_toArray, splice_len, splice_len, hcl]
      · rw [hxl, hcl]; omega
      · rw [splice_len _ _ _ (by rw [hxl, hcl]; omega), hdl, hcl]; omega
    · have h2 := two_up cur x.cells.toList (encI.all (l.drop i)) (i * 3) (by rw [hxl, hdl, hcl]; omega)
      rw [hxl, hdl] at h2
      rw [insI_all l i x, hil]
      rw [show (i + 1) * 3 = i * 3 + 3 by omega, hxl, hdl, show (n + 1) * 3 = i * 3 + 3 + (n - i) * 3 by omega]
      exact h2.trans (by rw [hct]; rfl)
  have HA := Lib.hid hA
  have HBb := Lib.hid hBb
  have HRZ := Lib.hid hrz
  have hz2 : ((i : Int) == (n : Int)) = false := beq_eq_false_iff_ne.2 (by omega)
  have hz3 : decide ((n : Int) < (n : Int) + 1) = true := decide_eq_true (by omega)
  have hz4 : (n : Int) < (n : Int) + 1 := by omega
  have hw0 : IntKind.i64.wrap ((n : Int) + 1) = (n : Int) + 1 := by rw [IntKind.wrap_i64]; omega
  have hw1 : IntKind.i64.wrap ((i : Int) + 1) = (i : Int) + 1 := by rw [IntKind.wrap_i64]; omega
  have hb4 : (0 : Int) ≤ (i : Int) + 1 := by omega
  have htn : ((i : Int) + 1).toNat = i + 1 := by omega
  have hni : ¬ (n = i) := by omega
  have hGi : ¬ (G = i) := by omega
  have hGim : ¬ (G = i + 1) := by omega
  have hin : i ≤ n := by omega
  have hin2 : (i : Int) ≤ (n : Int) := by omega
  clear hall hvc hvl hol hdl hxl hik hkk hi0 hz0 hzs hzb hrz hA hBb hB1 hB2 hB3 hg2 hg3 hs2 hs3 hb1 hb2 hb3 hct hcl hsz hn hown hv
  go_enter Try.func60, Try.ntmps60
  go_wp2_with (first
    | (at_builtin; refine wl_append_run rfl (.tmp 34) (.tmp 39) 39 3 rfl _ _ rfl rfl HRZ.out ?_)
    | (refine wl_copy_run rfl (.tmp 43) (.tmp 44) 39 39 rfl _ _ rfl rfl HA.out ?_))
  have mixed : Try.prog.follows Departure.mixedOrders = true := by kernel_rfl
  go_region_law_o (refine step_copy_run rfl (.tmp 50) (.tmp 53) 39 39 rfl _ _ (by simp [Act.eval, Act.put]) (by simp [Act.eval, Act.put]) HBb.out ?_)
  go_wp2_with fail
  go_ret
  exact ⟨_, _, rfl, HP.out.1, grown_of_below HP.out.2 _⟩
theorem shape_blk {g : Nat} {t : TypeId} {cs : Array Value} (h : Blk w g t cs) : w.shape? g = some (t, cs.size) := by
  unfold Blk at h
  simp [World.shape?, h]
set_option maxHeartbeats 8000000 in
set_option maxRecDepth 100000 in
/-- in the midst, there is room: in place -/
theorem insert_shift (hown : Own w base 46 encI (.slice A l.length c) l) (hv : Blk w vb 46 x.cells) (hvo : some vb ≠ (Value.slice A l.length c).ownBlock) (hl : l.length ≤ 100000) (hi : i < l.length) (hc : l.length < c) :
    Calls Try.prog 60 #[.slice A l.length c, .int .i64 i, .slice (some ⟨vb, 0, none⟩) 1 1] w (Inserts l i x A c base w) := by
  have hne : l ≠ [] := by intro e; subst e; simp at hi
  obtain ⟨g, cap, cura, hval, hge, hg, hncap, hmax, hcs, htake⟩ := own_row hown hne
  injection hval with hA _ hcap
  subst hA
  subst hcap
  have hvg : vb ≠ g := fun e => hvo (by rw [e]; rfl)
  have hall := own_all hown
  obtain ⟨n, hn⟩ : ∃ n, n = l.length := ⟨_, rfl⟩
  unfold Inserts
  rw [← hn] at hown hi hl hc hncap htake ⊢
  obtain ⟨cur, hcur⟩ : ∃ cur : List Value, cur = cura.toList := ⟨_, rfl⟩
  have hgc : cura = cur.toArray := by rw [hcur]
  rw [hgc] at hg hcs
  rw [← hcur] at htake
  have hcl : cur.length = c * 3 := by simpa using hcs
  clear hgc hcur hcs
  obtain ⟨i0, hi0, hz0, hzs, hzb⟩ := infoIm
  have hvc := hv.cell
  have hvl := hv.lt
  have hdl : (encI.all (l.drop i)).length = (n - i) * 3 := by rw [encI.all_len, List.length_drop]; omega
  have hxl : x.cells.toList.length = 3 := rfl
  have hct : cur.take (i * 3) = encI.all (l.take i) := by
    rw [encI.all_take l i (by omega), ← htake, List.take_take, Nat.min_eq_left (by omega)]
  have hc63 : c ≤ 9223372036854775807 := by simpa only [maxLen] using hmax
  have hsz : (Try.prog.info? 46).map (·.size) = some 3 := by rw [hi0]; simp [hzs]
  have hov : ∀ lb cb, (callFunc 75 #[.slice (some ⟨vb, 0, none⟩) 1 1, .slice (some ⟨g, (i + 1) * 3, none⟩) lb cb]).run Try.prog w = .ok (.value (.bool false)) w := fun lb cb => by
    rw [run_callFunc_extern Try.func75 (by kernel_rfl) (by kernel_rfl) (by kernel_rfl) (e := Extern.SlicesOverlaps.overlaps #[39, 39] #[4]) (by kernel_rfl),
      Lib.run_overlaps_apart w 39 4 46 Try.underlying39 3 (fun w => by simp [sizeOf, typeInfo, hi0, hzs]) ⟨vb, 0, none⟩ ⟨g, (i + 1) * 3, none⟩ 1 1 lb cb hvg _ _ _ _ (shape_blk hv) (shape_blk hg) (by rw [List.size_toArray, hcl]; omega) (hv.frozen 0) (hv.frozen _)]
    rfl
  obtain ⟨W2, hA, hB2, hg2, hs2⟩ := copy_blk w.drew 39 39 3 46 46 3 g ((i + 1) * 3) (n + 1 - (i + 1)) (c - (i + 1)) ⟨g, i * 3, none⟩ (n + 1 - i) (c - i) (n - i) cur (encI.all (l.drop i)) hg.drew (by rw [hdl, hcl]; omega) Try.underlying39 hsz (by simp only [Nat.min_def]; split <;> omega) hdl
    (fun j v hj => by
      rw [add_mk]
      show w.cell? _ = _
      rw [all_drop_at encI l i j (by omega)] at hj
      exact hall _ v hj) (encI.all_oneCell _)
  obtain ⟨W3, hBb, hB3, hg3, hs3⟩ := copy_blk W2 39 39 3 46 46 3 g (i * 3) (n + 1 - i) (c - i) ⟨vb, 0, none⟩ 1 1 1 _ x.cells.toList hB2 (by rw [splice_len _ _ _ (by rw [hdl, hcl]; omega), hxl, hcl]; omega) Try.underlying39 hsz (by simp only [Nat.min_def]; split <;> omega) rfl
    (fun j v hj => by
      rw [add_mk, Nat.zero_add, (hv.drew.grown hg2 (by intro e; injection e with e; exact hvg e)).cell]
      simpa using hj) (fun v hv => encI.one x v hv)
  have hgr : w.grownBy W3 (some g) := ⟨hg3.os.trans hg2.os, hg3.tape.trans hg2.tape, hg3.output.trans hg2.output, by rw [hs3, hs2]; exact Nat.le_refl _, fun k hk hne => (hg3.block k (by rw [hs2]; exact hk) hne).trans (hg2.block k hk hne)⟩
  have HP : Hid (Own W3 base 46 encI (.slice (some ⟨g, 0, none⟩) (n + 1) c) (insI l i x) ∧ w.grownBy W3 (some g)) := by
    refine ⟨?_, hgr⟩
    have hil := insI_len l i x (by omega)
    rw [← hn] at hil
    rw [← hil]
    refine ⟨encI.all_len _, .inr ⟨g, c, _, rfl, hge, hB3, by omega, hmax, ?_, ?_⟩⟩
    · rw [List.size_toArray, splice_len, splice_len, hcl]
      · rw [hdl, hcl]; omega
      · rw [splice_len _ _ _ (by rw [hdl, hcl]; omega), hxl, hcl]; omega
    · have h2 := two_down cur x.cells.toList (encI.all (l.drop i)) (i * 3) (by rw [hxl, hdl, hcl]; omega)
      rw [hct, hxl, hdl] at h2
      rw [insI_all l i x, hil]
      rw [show (i + 1) * 3 = i * 3 + 3 by omega, hxl, hdl, show (n + 1) * 3 = i * 3 + 3 + (n - i) * 3 by omega]
      exact h2
  have HA := Lib.hid hA
  have HBb := Lib.hid hBb
  have HOV := Lib.hid hov
  have hz2 : ((i : Int) == (n : Int)) = false := beq_eq_false_iff_ne.2 (by omega)
  have hz3 : decide ((c : Int) < (n : Int) + 1) = false := decide_eq_false (by omega)
  have hz4 : (n : Int) + 1 ≤ (c : Int) := by omega
  have hw0 : IntKind.i64.wrap ((n : Int) + 1) = (n : Int) + 1 := by rw [IntKind.wrap_i64]; omega
  have hw1 : IntKind.i64.wrap ((i : Int) + 1) = (i : Int) + 1 := by rw [IntKind.wrap_i64]; omega
  have hb4 : (0 : Int) ≤ (i : Int) + 1 := by omega
  have hb5 : (0 : Int) ≤ (n : Int) + 1 := by omega
  have htn : ((i : Int) + 1).toNat = i + 1 := by omega
  have htn2 : ((n : Int) + 1).toNat = n + 1 := by omega
  have hci : ¬ (c = i) := by omega
  have hcim : ¬ (c = i + 1) := by omega
  have hin : i ≤ n := by omega
  have hin2 : (i : Int) ≤ (n : Int) := by omega
  have hin3 : (i : Int) ≤ (n : Int) + 1 := by omega
  clear hall hvc hvl hdl hxl hi0 hz0 hzs hzb hA hBb hg hB2 hB3 hg2 hg3 hs2 hs3 hgr hct hcl hsz hn hown hv hov htake
  go_enter Try.func60, Try.ntmps60
  go_wp2_with (simp only [HOV.out])
  have mixed : Try.prog.follows Departure.mixedOrders = true := by kernel_rfl
  go_region_law_o (refine step_copy_run rfl (.tmp 73) (.tmp 76) 39 39 rfl _ _ (by simp [Act.eval, Act.put]) (by simp [Act.eval, Act.put]) HA.out ?_)
  go_wp2_with (refine wl_copy_run rfl (.tmp 80) (.tmp 81) 39 39 rfl _ _ rfl rfl HBb.out ?_)
  go_ret
  exact ⟨_, _, rfl, HP.out.1, HP.out.2⟩
/-- slices.Insert of one image -/
theorem insert_any (hown : Own w base 46 encI (.slice A l.length c) l) (hv : Blk w vb 46 x.cells) (hvo : some vb ≠ (Value.slice A l.length c).ownBlock) (hbase : base ≤ w.heap.size) (hl : l.length ≤ 100000) (hi : i ≤ l.length) :
    Calls Try.prog 60 #[.slice A l.length c, .int .i64 i, .slice (some ⟨vb, 0, none⟩) 1 1] w (Inserts l i x A c base w) := by
  rcases Nat.lt_or_ge i l.length with h | h
  · rcases Nat.lt_or_ge l.length c with h2 | h2
    · exact insert_shift hown hv hvo hl h h2
    · have := hown.cap.2.1
      obtain rfl : c = l.length := by omega
      exact insert_grow hown hv hbase hl h
  · obtain rfl : i = l.length := by omega
    exact insert_end hown hv hbase hl
end
end Go.Proofs.Ytfaklhdafpbkmaa
