/- bilgelaw15.ImageUsed: of whatever images and used names: names twice, turned round, change nothing; what is used by all never goes. -/
import Derived.Test.YtfaklhdafpbkmaaImgLaw
import Derived.Outline
namespace Go.Proofs.Ytfaklhdafpbkmaa
open Go.RowKit

theorem elemT : Elem Try.prog 23 9 1 16 := by
  obtain ⟨i, h1, h2, h3, h4⟩ := info_parts (show (Try.prog.info? 9).map (fun i => (i.zero, i.size, i.bytes)) = some (some (.string ⟨#[]⟩), 1, 16) by kernel_rfl)
  exact ⟨Try.underlying23, i, _, h1, h2, h3, h4, rfl⟩
/-- append of one element that lies in a row of its own, as a step of a region that draws -/
theorem step_push {P : Program} {t e : TypeId} {α : Type} {bytes : Nat} {w W0 : World} (T : Elem P t e 1 bytes) (E : Enc α 1) {ops : Array Oper} {o : Oper} {a : Act} {K : Act → World → Prop} {Q : Exit → Act → World → Prop} {X : Prop} (hgd : o.guard = none) (s x : Operand)
    (ho : o.op = .call { callee := .builtin .append, args := #[s, x], argTypes := #[t, t] }) (u : α) (cv : Value) (hE : E.enc u = [cv])
    (base : Nat) (v : Value) (l : List α) (hs : a.eval s = v) (hown : Own w base e E v l) (N : Nat) (hx : a.eval x = .slice (some ⟨N, 0, none⟩) 1 1) (hc : w.cell? ⟨N, 0, none⟩ = some cv) (hB : Below base W0 w)
    (hb : (l.length + 1) * bytes ≤ 140737488355328) (h63 : l.length + 1 ≤ 9223372036854775807) (hbw : base ≤ w.heap.size)
    (h : ∀ A' c' w', Own w' base e E (.slice A' (l.length + 1) c') (l ++ [u]) → Below base W0 w' → w.grownBy w' v.ownBlock → K (a.put o.dst (.slice A' (l.length + 1) c')) w') :
    if Region.wanted o (yielded ops a.tmps) = true then Oper.wp P o a w K Q else X := by
  have hr : Rds w E (some ⟨N, 0, none⟩) [u] := fun _ => ⟨N, 0, rfl, by
    rcases Nat.lt_or_ge N w.heap.size with hlt | hge
    · exact hlt
    · simp [World.cell?, Array.getElem?_eq_none hge] at hc, fun j v hj => by
    rw [Enc.all_one, hE] at hj
    rw [Nat.zero_add]
    cases j with
    | zero => rw [hc]; simpa using hj
    | succ j => simp at hj⟩
  exact step_app T E hgd s x ho base v l hs hown _ [u] 1 hx hr hb h63 hbw fun A' c' w' h1 h2 _ => h A' c' w' h1 (hown.belowGrown hB h2 (Nat.le_refl _) hbw) h2

def dbl (m : List ByteArray) : List ByteArray := m.flatMap fun s => [s, s]
theorem dbl_snoc (m : List ByteArray) (s : ByteArray) : dbl (m ++ [s]) = (dbl m ++ [s]) ++ [s] := by unfold dbl; simp
theorem dbl_len (m : List ByteArray) : (dbl m).length = 2 * m.length := by
  induction m with
  | nil => rfl
  | cons a m ih =>
    have : dbl (a :: m) = a :: a :: dbl m := rfl
    rw [this, List.length_cons, List.length_cons, ih, List.length_cons]; omega
theorem hasB_dbl (m : List ByteArray) (s : ByteArray) : hasB (dbl m.reverse) s = hasB m s := by
  unfold hasB dbl
  rw [Bool.eq_iff_iff, List.any_eq_true, List.any_eq_true]
  constructor
  · rintro ⟨x, hx, h⟩
    obtain ⟨y, hy, hxy⟩ := List.mem_flatMap.1 hx
    simp at hxy
    subst hxy
    exact ⟨x, List.mem_reverse.1 hy, h⟩
  · rintro ⟨x, hx, h⟩
    exact ⟨x, List.mem_flatMap.2 ⟨x, List.mem_reverse.2 hx, by simp⟩, h⟩
theorem orderOf_same {l : List Im} {u v : List ByteArray} (h : ∀ s, hasB u s = hasB v s) : orderOf l u = orderOf l v := by
  unfold orderOf
  have : isFree u = isFree v := by funext x; unfold isFree; rw [h]
  rw [this]
theorem orderOf_allused (l : List Im) : (orderOf l (l.map Im.name)).length = 0 := by
  have h : (orderOf l (l.map Im.name)).length = (l.filter (isFree (l.map Im.name))).length := sortIm_len _
  rw [h]
  have : l.filter (isFree (l.map Im.name)) = [] := List.filter_eq_nil_iff.2 fun x hx => by
    unfold isFree
    have : hasB (l.map Im.name) x.name = true := by
      unfold hasB; rw [List.any_eq_true]; exact ⟨x.name, List.mem_map_of_mem hx, by simp⟩
    rw [this]; simp
  rw [this]; rfl
theorem orderOf_noused (l : List Im) : (orderOf l []).length = l.length := by
  have h : (orderOf l []).length = (l.filter (isFree [])).length := sortIm_len _
  rw [h]; exact congrArg List.length (List.filter_eq_self.2 fun x _ => rfl)
theorem orderL_any (l : List Im) (us : List ByteArray) (n : Nat) (hn : (orderOf l us).length = n) (A B : Option Addr) (c d : Nat) (w : World) (hr : Rds w encI A l) (hs : Rds w encS B us) (hl : l.length ≤ 100000) (hm : us.length ≤ 9223372036854775807) :
    Calls Try.prog 44 #[.slice A l.length c, .slice B us.length d] w fun e w' => ∃ (A' : Option Addr) (c' : Nat), e = .returned (.slice A' n c') ∧ Below w.heap.size w w' := by
  subst hn
  exact (orderV_any rfl A B c d w hr hs hl hm).mono fun _ _ ⟨A', c', h1, _, h3⟩ => ⟨A', c', h1, h3⟩

set_option maxRecDepth 100000 in
set_option maxHeartbeats 16000000 in
theorem imageUsed_any (l : List Im) (used : List ByteArray) (A B : Option Addr) (c d : Nat) (w : World) (hr : Rds w encI A l) (hu : Rds w encS B used) (hl : l.length ≤ 9223372036854775807) (hm : used.length ≤ 9223372036854775807) :
    Calls Try.prog 13 #[.slice A l.length c, .slice B used.length d] w fun e w' => e = .returned (.bool true) ∧ Below w.heap.size w w' := by
  have HR := Lib.hid hr
  have HU := Lib.hid hu
  clear hr hu
  go_enter Try.func13, Try.ntmps13
  go_wp2_with fail
  refine (awake15_any _).mono ?_; rintro e w0 ⟨rfl, hb0⟩
  have HP0 := Lib.hid (hb0)
  clear hb0
  go_wp2_with fail
  refine (few_b l A c _ (HR.out.below HP0.out) hl).mono ?_; rintro e w1 ⟨rfl, hb1⟩
  have HP1 := Lib.hid (HP0.out.trans (hb1.mono HP0.out.size))
  clear HP0 hb1
  cases hcond : fewIB l
  case false =>
    clear hcond
    go_wp2_with fail
    refine (awake15_any _).mono ?_; rintro e w2 ⟨rfl, hb2⟩
    have HP2 := Lib.hid (HP1.out.trans (hb2.mono HP1.out.size))
    clear HP1 hb2
    go_wp2_with fail
    go_ret
    exact ⟨rfl, HP2.out⟩
  case true =>
    have HF := Lib.hid hcond
    clear hcond
    go_wp2_with fail
    refine (namesT_b used B d _ (HU.out.below HP1.out) hm).mono ?_; rintro e w2 ⟨rfl, hb2⟩
    have HP2 := Lib.hid (HP1.out.trans (hb2.mono HP1.out.size))
    clear HP1 hb2
    cases hcond : namesB used
    case false =>
      clear hcond
      go_wp2_with fail
      refine (awake15_any _).mono ?_; rintro e w3 ⟨rfl, hb3⟩
      have HP3 := Lib.hid (HP2.out.trans (hb3.mono HP2.out.size))
      clear HP2 hb3
      go_wp2_with fail
      go_ret
      exact ⟨rfl, HP3.out⟩
    case true =>
      have HN := Lib.hid hcond
      clear hcond
      go_wp2_with fail
      refine (right_b l A c _ (HR.out.below HP2.out) hl).mono ?_; rintro e w3 ⟨rfl, hb3⟩
      have HP3 := Lib.hid (HP2.out.trans (hb3.mono HP2.out.size))
      clear HP2 hb3
      cases hcond : rightIB l
      case false =>
        clear hcond
        go_wp2_with fail
        refine (awake15_any _).mono ?_; rintro e w4 ⟨rfl, hb4⟩
        have HP4 := Lib.hid (HP3.out.trans (hb4.mono HP3.out.size))
        clear HP3 hb4
        go_wp2_with fail
        go_ret
        exact ⟨rfl, HP4.out⟩
      case true =>
        have HG := Lib.hid hcond
        clear hcond
        have hl1 : l.length ≤ 60 := few_len HF.out
        have hm1 : used.length ≤ 60 := names_len HN.out
        have HSO := Lib.hid (sorted_right HG.out)
        have HP := Lib.hid HP3.out
        clear HP3 HF HN HG
        have e0 : IntKind.i64.wrap ((used.length : Int) - 1) = (used.length : Int) - 1 := by rw [IntKind.wrap_i64]; omega
        go_wp2_with fail
        clear e0
        go_loopw [5, 6] (fun out i wr => ∃ (j : Nat) (m : List ByteArray) (A' : Option Addr) (c' : Nat) (z : Int), j ≤ used.length ∧ i = .int .i64 z ∧ z = (used.length : Int) - j - 1 ∧ m = dbl (used.drop (used.length - j)).reverse ∧ out = .slice A' m.length c' ∧ Own wr w.heap.size 9 encS (.slice A' m.length c') m ∧ Below w.heap.size w wr) (fun _ i _ => (intOf i + 1).toNat)
        case atStart => exact ⟨0, [], none, 0, _, by omega, rfl, by omega, by rw [Nat.sub_zero, List.drop_length]; rfl, rfl, Own.nil_ _ _ _ _, HP.out⟩
        case round =>
          clear HP
          obtain ⟨j, m, A', c', z, hj, rfl, hz, hm', rfl, hO, hB⟩ := hrel
          have hml : m.length ≤ 120 := by rw [hm', dbl_len, List.length_reverse, List.length_drop]; omega
          have HM := Lib.hid hm'
          have HP := Lib.hid (And.intro hO hB)
          clear hm' hO hB
          by_cases hlt : j < used.length
          · obtain ⟨i, hi⟩ : ∃ i : Nat, i = used.length - j - 1 := ⟨_, rfl⟩
            have hiu : i < used.length := by omega
            have hzi : z = (i : Int) := by omega
            clear hz
            subst hzi
            have HN2 := Lib.hid (show dbl (used.drop (used.length - (j + 1))).reverse = (m ++ [used[i]]) ++ [used[i]] from by
              rw [show used.length - (j + 1) = i by omega, List.drop_eq_getElem_cons hiu, List.reverse_cons, dbl_snoc, show i + 1 = used.length - j by omega, ← HM.out])
            obtain ⟨b0, off, hB0, hb0, cw⟩ := HU.out.str hiu
            subst hB0
            generalize used[i] = x at *
            have HCW := Lib.hid (fun (wq : World) (hq : Below w.heap.size w wq) => ((bcell hq).1 b0 (off + i) hb0).trans cw)
            have c0 := HCW.out _ HP.out.2
            have c1 := HCW.out _ (HP.out.2.alloc HP.out.2.size (.cells #[.string x] 9))
            have dk : decide ((0 : Int) ≤ (i : Int)) = true := decide_eq_true (by omega)
            have dk2 : (i : Int) < (used.length : Int) := by omega
            have hw1 : IntKind.i64.wrap ((i : Int) - 1) = (i : Int) - 1 := by rw [IntKind.wrap_i64]; omega
            have mixed : Try.prog.follows Departure.mixedOrders = true := by kernel_rfl
            have HSZ : Hid ((wr.alloc (.cells #[.string x] 9)).heap.size = wr.heap.size + 1) := by show _ = _; simp
            have H9 : Hid (((wr.alloc (.cells #[.string x] 9)).alloc (.cells #[.string x] 9)).cell? ⟨wr.heap.size + 1, 0, none⟩ = some (.string x)) := by
              have h9 := (Blk.new (wr.alloc (.cells #[.string x] 9)) 9 #[.string x]).cell 0
              rw [HSZ.out] at h9
              exact h9
            have HNE := Lib.hid (show some wr.heap.size ≠ (Value.slice A' m.length c').ownBlock from fun e => by have := (HP.out.1.block_lt _ e.symm).2; omega)
            have HNE2 := Lib.hid (show some (wr.heap.size + 1) ≠ (Value.slice A' m.length c').ownBlock from fun e => by have := (HP.out.1.block_lt _ e.symm).2; omega)
            have hij1 : i + j + 1 ≤ used.length := by omega
            have hij2 : used.length ≤ i + j + 1 := by omega
            clear cw hi
            go_wp2_with fail
            go_region_law_o (first
              | (refine step_push elemT encS rfl (.tmp 34) (.tmp 39) rfl x (.string x) rfl w.heap.size (.slice A' m.length c') m (by simp [Act.eval]) (by first | exact (HP.out.1.drew).alloc _ | exact ((HP.out.1.drew).alloc _).alloc _) _ (by simp [Act.eval]; rfl) (by first | exact (Blk.new _ _ _).cell 0 | exact ((Blk.new _ _ _).alloc _).cell 0 | exact H9.out) (by first | exact (HP.out.2.drew).alloc HP.out.2.size _ | exact ((HP.out.2.drew).alloc HP.out.2.size _).alloc (by simp; have := HP.out.2.size; omega) _) (by omega) (by omega) (by simp; have := HP.out.2.size; omega) ?_
                 intro A1 k1 w1 ho hb hg
                 have HX1 := Lib.hid (And.intro ho hb)
                 have cu1 := HCW.out _ hb
                 have cA : w1.cell? ⟨wr.heap.size, 0, none⟩ = some (.string x) := by
                   first
                     | exact (World.cell?_of_block (hg.block wr.heap.size (by first | (simp; done) | (simp; omega)) HNE.out)).trans ((Blk.new wr 9 #[.string x]).cell 0)
                     | exact (World.cell?_of_block (hg.block wr.heap.size (by first | (simp; done) | (simp; omega)) HNE.out)).trans (((Blk.new wr 9 #[.string x]).alloc (.cells #[.string x] 9)).cell 0)
                 try (have cB : w1.cell? ⟨wr.heap.size + 1, 0, none⟩ = some (.string x) := (World.cell?_of_block (hg.block (wr.heap.size + 1) (by simp) HNE2.out)).trans H9.out)
                 clear ho hb hg)
              | (refine step_push elemT encS rfl (.tmp 40) (.tmp 45) rfl x (.string x) rfl w.heap.size (.slice A1 (m.length + 1) k1) (m ++ [x]) (by simp [Act.eval]) (by first | exact HX1.out.1 | exact HX1.out.1.alloc _) _ (by simp [Act.eval]; rfl) (by first | exact (Blk.new _ _ _).cell 0 | exact cA | exact cB) (by first | exact HX1.out.2 | exact HX1.out.2.alloc HX1.out.2.size _) (by simp; omega) (by simp; omega) (by first | exact HX1.out.2.size | (simp; have := HX1.out.2.size; omega)) ?_
                 intro A2 k2 w2 ho hb hg
                 have HX2 := Lib.hid (And.intro ho hb)
                 clear ho hb hg))
            all_goals
              clear c0 c1
              go_wp2_with fail
              go_roundw
              case rel => exact ⟨j + 1, (m ++ [x]) ++ [x], A2, k2, (i : Int) - 1, by omega, rfl, by omega, HN2.out.symm, by simp, own_len1 HX2.out.1, HX2.out.2⟩
              case measure => first | (simp [intOf]; done) | (simp [intOf]; omega)
          · obtain rfl : j = used.length := by omega
            have hz1 : z = -1 := by omega
            clear hz
            subst hz1
            have HOT := Lib.hid (show ∀ s, hasB m s = hasB used s from fun s => by
              have h1 := HM.out
              rw [Nat.sub_self, List.drop_zero] at h1
              rw [h1]; exact hasB_dbl used s)
            clear HM
            go_wp2_with fail
            go_loopw [7, 8] (fun out i wq => ∃ (k : Nat) (q : List ByteArray) (A2 : Option Addr) (c2 : Nat), k ≤ l.length ∧ i = .int .i64 k ∧ q = (l.take k).map Im.name ∧ out = .slice A2 q.length c2 ∧ Own wq wr.heap.size 9 encS (.slice A2 q.length c2) q ∧ Below wr.heap.size wr wq) (fun _ i _ => l.length - (intOf i).toNat)
            case atStart => exact ⟨0, [], none, 0, by omega, rfl, rfl, rfl, Own.nil_ _ _ _ _, Below.refl _ _⟩
            case round =>
              obtain ⟨k, q, A2, c2, hk, rfl, hq', rfl, hO, hB⟩ := hrel
              have hql : q.length ≤ 60 := by rw [hq', List.length_map, List.length_take]; omega
              have HQ := Lib.hid hq'
              have HP2 := Lib.hid (And.intro hO hB)
              clear hq' hO hB
              by_cases hklt : k < l.length
              · have dk : decide ((k : Int) < (l.length : Int)) = true := decide_eq_true (by omega)
                have dk2 : (k : Int) < (l.length : Int) := by omega
                obtain ⟨b0, off, rfl, hb0, c0, _, _⟩ := ((HR.out.below HP.out.2).below HP2.out.2).im hklt
                have HN := Lib.hid (show (l.take (k + 1)).map Im.name = (l.take k).map Im.name ++ [l[k].name] by rw [List.take_succ_eq_append_getElem hklt, List.map_append]; rfl)
                generalize l[k].name = x at *
                go_wp2_with (at_builtin; refine wl_push elemT encS rfl (.tmp 53) (.tmp 59) rfl x #[.string x] rfl _ _ q rfl HP2.out.1 rfl rfl HP2.out.2 (by omega) (by omega) HP2.out.2.size ?_; intro A3 k3 w3 ho hb hg; have HX3 := Lib.hid (And.intro ho hb); clear ho hb hg)
                go_roundw
                case rel => exact ⟨k + 1, q ++ [x], A3, k3, by omega, by go_num, by rw [HN.out, HQ.out], by simp, own_len1 HX3.out.1, HX3.out.2⟩
                case measure => simp [intOf]; omega
              · obtain rfl : k = l.length := by omega
                have dk : decide ((l.length : Int) < (l.length : Int)) = false := by simp
                have HQA := Lib.hid (show (orderOf l q).length = 0 by have h1 := HQ.out; rw [List.take_length] at h1; rw [h1]; exact orderOf_allused l)
                have HPP := Lib.hid (And.intro (HP.out.1.below HP2.out.2 (Nat.le_refl _)) (And.intro HP2.out.1 (HP.out.2.trans (HP2.out.2.mono HP.out.2.size))))
                clear HP HP2 HQ
                obtain ⟨S, HS⟩ : ∃ S, Hid (orderOf l used = S) := ⟨_, Lib.hid rfl⟩
                have HS2 := Lib.hid (show orderOf l m = S from by rw [orderOf_same HOT.out]; exact HS.out)
                have hSl : S.length ≤ 60 := by
                  have h : (orderOf l used).length = (l.filter (isFree used)).length := sortIm_len _
                  rw [← HS.out, h]; exact Nat.le_trans (List.length_filter_le _ _) hl1
                go_wp2_with fail
                refine (orderV_any HS.out A B c d _ (HR.out.below HPP.out.2.2) (HU.out.below HPP.out.2.2) (by omega) hm).mono ?_; rintro e v1 ⟨A5, k5, rfl, hO, hb⟩
                have HQ1 := Lib.hid (And.intro (HPP.out.1.below hb (Nat.le_refl _)) (And.intro (HPP.out.2.1.below hb (Nat.le_refl _)) (And.intro hO.toRds (HPP.out.2.2.trans (hb.mono HPP.out.2.2.size)))))
                clear HPP hO hb
                go_wp2_with fail
                refine (orderV_any HS2.out A A' c c' _ (HR.out.below HQ1.out.2.2.2) HQ1.out.1.toRds (by omega) (by omega)).mono ?_; rintro e v2 ⟨A6, k6, rfl, hO, hb⟩
                have HQ2 := Lib.hid (And.intro (HQ1.out.2.1.below hb (Nat.le_refl _)) (And.intro (HQ1.out.2.2.1.below hb) (And.intro hO.toRds (HQ1.out.2.2.2.trans (hb.mono HQ1.out.2.2.2.size)))))
                clear HQ1 hO hb
                go_wp2_with fail
                refine (sameI_self S A5 A6 k5 k6 _ HQ2.out.2.1 HQ2.out.2.2.1 (by omega)).mono ?_; rintro e v3 ⟨rfl, hb⟩
                have HQ3 := Lib.hid (And.intro (HQ2.out.1.below hb (Nat.le_refl _)) (HQ2.out.2.2.2.trans (hb.mono HQ2.out.2.2.2.size)))
                clear HQ2 hb
                go_wp2_with fail
                refine (orderL_any l q 0 HQA.out A A2 c c2 _ (HR.out.below HQ3.out.2) HQ3.out.1.toRds (by omega) (by omega)).mono ?_; rintro e v4 ⟨A7, k7, rfl, hb⟩
                have HQ4 := Lib.hid (HQ3.out.2.trans (hb.mono HQ3.out.2.size))
                clear HQ3 hb
                go_wp2_with fail
                refine (orderL_any l [] l.length (orderOf_noused l) A none c 0 _ (HR.out.below HQ4.out) (Rds.nil _ _ _) (by omega) (by simp)).mono ?_; rintro e v5 ⟨A8, k8, rfl, hb⟩
                have HQ5 := Lib.hid (HQ4.out.trans (hb.mono HQ4.out.size))
                clear HQ4 hb
                have dll : ((l.length : Int) == (l.length : Int)) = true := by simp
                go_wp2_with fail
                go_ret
                exact ⟨rfl, HQ5.out⟩
end Go.Proofs.Ytfaklhdafpbkmaa
