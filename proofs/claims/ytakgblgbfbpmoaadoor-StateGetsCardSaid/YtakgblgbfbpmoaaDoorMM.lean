/- Several texts in one: state.Put: a state's bytes. pod.text: a text cut off; the reference's number. pod.Cut: a pod cut off. -/
import Derived.BigQuiet
import Derived.Deep.QuietTactic
import Derived.Test.YtakgblgbfbpmoaaDoorMK
import Derived.Test.YtakgblgbfbpmoaaDoorML
import Derived.Test.YtakgblgbfbpmoaaDoorMC
import Derived.Test.YtakgblgbfbpmoaaDoorMB
namespace Go.Proofs.YtakgblgbfbpmoaaDoor
open Go.RowKit

def onTo (a b c : Bool) (k : Nat) : Int := (if (a && decide (0 < k)) = true then 1 else 0) + (if (b && decide (1 < k)) = true then 2 else 0) + (if (c && decide (2 < k)) = true then 4 else 0)
def onB (a b c : Bool) : UInt8 := UInt8.ofNat (onTo a b c 3).toNat
theorem onTo_bd (a b c : Bool) : 0 ≤ onTo a b c 3 ∧ onTo a b c 3 ≤ 7 := by cases a <;> cases b <;> cases c <;> exact ⟨by decide, by decide⟩
theorem onB_nat (a b c : Bool) : ((onB a b c).toNat : Int) = onTo a b c 3 := by cases a <;> cases b <;> cases c <;> rfl
def entB (e : En) : List UInt8 := UInt8.ofNat e.phase.toNat :: e.pod.bytes
def flatB : List En → List UInt8
  | [] => []
  | e :: l => entB e ++ flatB l
theorem flatB_append (l m : List En) : flatB (l ++ m) = flatB l ++ flatB m := by
  induction l with
  | nil => rfl
  | cons e l ih => simp [flatB, ih]
theorem flatB_snoc (l : List En) (i : Nat) (hi : i < l.length) : flatB (l.take (i + 1)) = flatB (l.take i) ++ entB l[i] := by
  rw [List.take_succ_eq_append_getElem hi, flatB_append]; simp [flatB]
def headB (rd : Int) (a b c : Bool) (n : Nat) : List UInt8 := word rd ++ [onB a b c, UInt8.ofNat n]
/-- a state's bytes -/
def putS (rd : Int) (a b c : Bool) (l : List En) : List UInt8 := headB rd a b c l.length ++ flatB l
theorem headB_len (rd : Int) (a b c : Bool) (n : Nat) : (headB rd a b c n).length = 10 := by unfold headB word; rw [List.length_append, wordTo_len]; rfl
theorem bytes_len {p : Pd} (h : p.right = true) : p.bytes.length ≤ 115 ∧ 3 ≤ p.bytes.length := by
  obtain ⟨h0, h1⟩ := p.right_named h
  have e0 : p.id.data.toList.length = p.id.size := Array.length_toList (xs := p.id.data)
  have e1 : p.image.data.toList.length = p.image.size := Array.length_toList (xs := p.image.data)
  unfold Pd.bytes textB
  simp only [List.length_append, List.length_cons, List.length_nil, Pd.numsTo_len, e0, e1]
  omega
theorem flatB_len {l : List En} (h : ∀ x ∈ l, x.pod.right = true) : (flatB l).length ≤ 116 * l.length := by
  induction l with
  | nil => simp [flatB]
  | cons e l ih =>
    have h1 := (bytes_len (h e (by simp))).1
    have h2 := ih fun x hx => h x (by simp [hx])
    simp only [flatB, entB, List.length_append, List.length_cons]
    omega
theorem RightS.each {rd : Int} {l : List En} (h : RightS rd l) : ∀ x ∈ l, x.pod.right = true ∧ 1 ≤ x.phase ∧ x.phase ≤ 3 := fun x hx => by
  obtain ⟨i, hi, rfl⟩ := List.getElem_of_mem hx
  exact rightE_un (h.ok i hi hi).r
theorem word_take (n : Int) (j : Nat) (hj : j < 8) : (word n).take (j + 1) = (word n).take j ++ [byteAt n (7 - j)] := by
  rw [List.take_add_one]
  congr 1
  unfold word
  rw [wordTo_get _ 8 j hj]
  rfl
theorem word_len (n : Int) : (word n).length = 8 := wordTo_len n 8
theorem RightS.iffNo {rd : Int} {l : List En} (h : ¬ RightS rd l) : (false : Bool) = true ↔ RightS rd l := ⟨fun e => (by cases e), fun e => absurd e h⟩
theorem RightS.iffYes {rd : Int} {l : List En} (h : RightS rd l) : (true : Bool) = true ↔ RightS rd l := ⟨fun _ => h, fun _ => rfl⟩
set_option maxRecDepth 100000 in
theorem put24_no (rd : Int) (l : List En) (h : ¬ RightS rd l) (A : Option Addr) (c : Nat) (o0 o1 o2 : Bool) (w : World) (hr : Rds w encN A l) (hw : ∀ x ∈ l, x.pod.Wf) (hm : l.length ≤ 9223372036854775807) :
    Calls Tryd.prog 13 #[.agg #[.int .i64 rd, .slice A l.length c, .bool o0, .bool o1, .bool o2]] w fun e w' => e = .returned (.tuple #[.slice none 0 0, .int .i64 1]) ∧ Below w.heap.size w w' := by
  have HQ := Lib.hid (SQ.new rd A l c o0 o1 o2 w)
  have HR := Lib.hid hr
  have HW := Lib.hid hw
  have HN := Lib.hid h
  clear hr hw h
  go_enter Tryd.func13, Tryd.ntmps13
  have cs := HQ.out.sb.cell
  go_wp2_with fail
  refine (stRightV_any (v := false) (RightS.iffNo HN.out) A c o0 o1 o2 _ (HR.out.below HQ.out.bel) HW.out hm).mono ?_; rintro e w1 ⟨rfl, hb⟩
  have HQ := Lib.hid (HQ.out.below hb)
  clear hb cs
  go_wp2_with fail
  go_ret2
  exact ⟨rfl, HQ.out.bel⟩
def GivesBy (L : List UInt8) (w : World) (e : Ending) (w' : World) : Prop := ∃ (A : Option Addr) (c : Nat), e = .returned (.tuple #[.slice A L.length c, .int .i64 0]) ∧ Own w' w.heap.size 5 encB (.slice A L.length c) L ∧ Below w.heap.size w w'
set_option maxRecDepth 100000 in
set_option maxHeartbeats 16000000 in
theorem put24_yes (rd : Int) (l : List En) (h : RightS rd l) (A : Option Addr) (c : Nat) (o0 o1 o2 : Bool) (w : World) (hr : Rds w encN A l) (hw : ∀ x ∈ l, x.pod.Wf) :
    Calls Tryd.prog 13 #[.agg #[.int .i64 rd, .slice A l.length c, .bool o0, .bool o1, .bool o2]] w (GivesBy (putS rd o0 o1 o2 l) w) := by
  have HQ := Lib.hid (SQ.new rd A l c o0 o1 o2 w)
  have HR := Lib.hid hr
  have HW := Lib.hid hw
  have HN := Lib.hid h
  have HRG := Lib.hid h.each
  have hlen := h.len
  have HRD := Lib.hid (And.intro h.lo h.hi)
  clear hr hw h
  go_enter Tryd.func13, Tryd.ntmps13
  have cs := HQ.out.sb.cell
  go_wp2_with fail
  refine (stRightV_any (v := true) (RightS.iffYes HN.out) A c o0 o1 o2 _ (HR.out.below HQ.out.bel) HW.out (by omega)).mono ?_; rintro e W0 ⟨rfl, hb⟩
  have HQ := Lib.hid (HQ.out.below hb)
  clear hb cs
  have HR0 := Lib.hid (HR.out.below HQ.out.bel)
  have HQ00 := HQ
  have HR00 := HR0
  have HQW := HQ
  have hrd0 : 0 ≤ rd := HRD.out.1
  have hrd1 : rd ≤ 1099511627776 := HRD.out.2
  go_wp2_with fail
  go_loopw [4, 5] (fun b s wq => ∃ (j : Nat) (A1 : Option Addr) (c1 : Nat), j ≤ 8 ∧ s = .int .i64 (56 - 8 * (j : Int)) ∧ b = .slice A1 ((word rd).take j).length c1 ∧ Own wq W0.heap.size 5 encB (.slice A1 ((word rd).take j).length c1) ((word rd).take j) ∧ Below W0.heap.size W0 wq) (fun _ s _ => (intOf s + 8).toNat)
  case atStart => exact ⟨0, none, 0, by omega, rfl, rfl, Own.nil_ _ _ _ _, Below.refl _ _⟩
  case round =>
    obtain ⟨j, A1, c1, hj, rfl, rfl, ho, hbl⟩ := hrel
    have HP := Lib.hid (And.intro ho hbl)
    clear ho hbl
    by_cases hlj : j < 8
    · have dj : decide (8 * (j : Int) ≤ 56) = true := decide_eq_true (by omega)
      have cs := (HQ.out.below HP.out.2).sb.cell
      have HT := Lib.hid (word_take rd j hlj)
      have hl : ((word rd).take j).length ≤ 8 := by rw [List.length_take]; omega
      have HRD2 : Hid (Rds (wr.alloc (.cells #[.int .u8 (rd / 2 ^ (56 - 8 * j) % 256)] 5)) encB (some ⟨wr.heap.size, 0, none⟩) [byteAt rd (7 - j)]) := Rds.made _ _ _ _ _ _ (by rw [encB_all, shr_byte _ _ hlj]; rfl)
      have HO := Lib.hid (HP.out.1.alloc (.cells #[.int .u8 (rd / 2 ^ (56 - 8 * j) % 256)] 5))
      have HB := Lib.hid (HP.out.2.alloc HP.out.2.size (.cells #[.int .u8 (rd / 2 ^ (56 - 8 * j) % 256)] 5))
      generalize (word rd).take j = S at *
      go_wp2_with (at_builtin; refine wl_app elemB encB rfl (.tmp 20) (.tmp 26) rfl W0.heap.size _ S rfl HO.out (some ⟨wr.heap.size, 0, none⟩) [byteAt rd (7 - j)] 1 rfl HRD2.out (by simp; omega) (by simp; omega) HB.out.size ?_; intro A2 c2 w2 ho hg _; have HX := Lib.hid ho; have HBX := Lib.hid (HO.out.belowGrown HB.out hg (Nat.le_refl _) HB.out.size); clear ho hg)
      go_roundw
      case rel => exact ⟨j + 1, A2, c2, by omega, by go_num, by rw [HT.out, List.length_append]; rfl, by rw [HT.out, List.length_append]; exact HX.out, HBX.out⟩
      case measure => simp [intOf]; omega
    · obtain rfl : j = 8 := by omega
      rw [List.take_of_length_le (by rw [word_len]; omega)] at HP ⊢
      have hwl := word_len rd
      have HQ := Lib.hid (HQ.out.below HP.out.2)
      have HR0 := Lib.hid (HR0.out.below HP.out.2)
      have cs := HQ.out.sb.cell
      have b01 : bits .or .i64 0 1 = 1 := by decide
      have b02 : bits .or .i64 0 2 = 2 := by decide
      have b12 : bits .or .i64 1 2 = 3 := by decide
      have b04 : bits .or .i64 0 4 = 4 := by decide
      have b14 : bits .or .i64 1 4 = 5 := by decide
      have b24 : bits .or .i64 2 4 = 6 := by decide
      have b34 : bits .or .i64 3 4 = 7 := by decide
      go_wp2_with fail
      go_loopw [6, 30] (fun on ii wz => ∃ (i : Nat) (z : Int), i ≤ 3 ∧ ii = .int .i64 i ∧ on = .int .i64 z ∧ z = onTo o0 o1 o2 i ∧ Below wr.heap.size wr wz) (fun _ ii _ => 3 - (intOf ii).toNat)
      case atStart => exact ⟨0, 0, by omega, rfl, rfl, by simp [onTo], Below.refl _ _⟩
      case round =>
        obtain ⟨i, z, hi, rfl, rfl, hz, hbl⟩ := hrel
        have HBL := Lib.hid hbl
        clear hbl
        obtain rfl | rfl | rfl | rfl : i = 0 ∨ i = 1 ∨ i = 2 ∨ i = 3 := by omega
        · cases o0
          · obtain rfl : z = 0 := by simpa [onTo] using hz
            clear hz
            go_wp2_with fail
            go_roundw
            case rel => exact ⟨1, 0, by omega, by rfl, rfl, by first | rfl | simp [onTo], HBL.out⟩
            case measure => simp [intOf]
          · obtain rfl : z = 0 := by simpa [onTo] using hz
            clear hz
            go_wp2_with fail
            go_roundw
            case rel => exact ⟨1, 1, by omega, by rfl, rfl, by first | rfl | simp [onTo], HBL.out⟩
            case measure => simp [intOf]
        · cases o0
          · cases o1
            · obtain rfl : z = 0 := by simpa [onTo] using hz
              clear hz
              go_wp2_with fail
              go_roundw
              case rel => exact ⟨2, 0, by omega, by rfl, rfl, by first | rfl | simp [onTo], HBL.out⟩
              case measure => simp [intOf]
            · obtain rfl : z = 0 := by simpa [onTo] using hz
              clear hz
              go_wp2_with fail
              go_roundw
              case rel => exact ⟨2, 2, by omega, by rfl, rfl, by first | rfl | simp [onTo], HBL.out⟩
              case measure => simp [intOf]
          · cases o1
            · obtain rfl : z = 1 := by simpa [onTo] using hz
              clear hz
              go_wp2_with fail
              go_roundw
              case rel => exact ⟨2, 1, by omega, by rfl, rfl, by first | rfl | simp [onTo], HBL.out⟩
              case measure => simp [intOf]
            · obtain rfl : z = 1 := by simpa [onTo] using hz
              clear hz
              go_wp2_with fail
              go_roundw
              case rel => exact ⟨2, 3, by omega, by rfl, rfl, by first | rfl | simp [onTo], HBL.out⟩
              case measure => simp [intOf]
        · cases o0
          · cases o1
            · cases o2
              · obtain rfl : z = 0 := by simpa [onTo] using hz
                clear hz
                go_wp2_with fail
                go_roundw
                case rel => exact ⟨3, 0, by omega, by rfl, rfl, by first | rfl | simp [onTo], HBL.out⟩
                case measure => simp [intOf]
              · obtain rfl : z = 0 := by simpa [onTo] using hz
                clear hz
                go_wp2_with fail
                go_roundw
                case rel => exact ⟨3, 4, by omega, by rfl, rfl, by first | rfl | simp [onTo], HBL.out⟩
                case measure => simp [intOf]
            · cases o2
              · obtain rfl : z = 2 := by simpa [onTo] using hz
                clear hz
                go_wp2_with fail
                go_roundw
                case rel => exact ⟨3, 2, by omega, by rfl, rfl, by first | rfl | simp [onTo], HBL.out⟩
                case measure => simp [intOf]
              · obtain rfl : z = 2 := by simpa [onTo] using hz
                clear hz
                go_wp2_with fail
                go_roundw
                case rel => exact ⟨3, 6, by omega, by rfl, rfl, by first | rfl | simp [onTo], HBL.out⟩
                case measure => simp [intOf]
          · cases o1
            · cases o2
              · obtain rfl : z = 1 := by simpa [onTo] using hz
                clear hz
                go_wp2_with fail
                go_roundw
                case rel => exact ⟨3, 1, by omega, by rfl, rfl, by first | rfl | simp [onTo], HBL.out⟩
                case measure => simp [intOf]
              · obtain rfl : z = 1 := by simpa [onTo] using hz
                clear hz
                go_wp2_with fail
                go_roundw
                case rel => exact ⟨3, 5, by omega, by rfl, rfl, by first | rfl | simp [onTo], HBL.out⟩
                case measure => simp [intOf]
            · cases o2
              · obtain rfl : z = 3 := by simpa [onTo] using hz
                clear hz
                go_wp2_with fail
                go_roundw
                case rel => exact ⟨3, 3, by omega, by rfl, rfl, by first | rfl | simp [onTo], HBL.out⟩
                case measure => simp [intOf]
              · obtain rfl : z = 3 := by simpa [onTo] using hz
                clear hz
                go_wp2_with fail
                go_roundw
                case rel => exact ⟨3, 7, by omega, by rfl, rfl, by first | rfl | simp [onTo], HBL.out⟩
                case measure => simp [intOf]
        · have hzb := onTo_bd o0 o1 o2
          rw [← hz] at hzb
          obtain ⟨hz0, hz7⟩ := hzb
          have HZ := Lib.hid ((onB_nat o0 o1 o2).trans hz.symm)
          clear hz
          obtain ⟨x, hx⟩ : ∃ x, onB o0 o1 o2 = x := ⟨_, rfl⟩
          obtain ⟨y, hy⟩ : ∃ y : UInt8, UInt8.ofNat l.length = y := ⟨_, rfl⟩
          have hyn : (y.toNat : Int) = (l.length : Int) := by rw [← hy, UInt8.toNat_ofNat']; omega
          have hxn : (x.toNat : Int) = z := by rw [← hx]; exact HZ.out
          have f1 : IntKind.u8.wrap z = (x.toNat : Int) := by unfold IntKind.wrap; simp [IntKind.bits, IntKind.signed]; omega
          have f2 : IntKind.u8.wrap (l.length : Int) = (y.toNat : Int) := by unfold IntKind.wrap; simp [IntKind.bits, IntKind.signed]; omega
          have HH : Hid (word rd ++ [x, y] = headB rd o0 o1 o2 l.length) := by show _ = _; unfold headB; rw [hx, hy]
          clear hx hy hyn hxn
          have HQ := Lib.hid (HQ.out.below HBL.out)
          have HP := Lib.hid (And.intro (HP.out.1.below HBL.out (Nat.le_refl _)) (below_rV HP.out.2 HBL.out))
          have HR0 := Lib.hid (HR0.out.below HBL.out)
          clear HBL cs
          have cs := HQ.out.sb.cell
          rename World => wz
          have HRD2 : Hid (Rds (wz.alloc (.cells #[.int .u8 x.toNat, .int .u8 y.toNat] 5)) encB (some ⟨wz.heap.size, 0, none⟩) [x, y]) := Rds.made _ _ _ _ _ _ rfl
          have HO := Lib.hid (HP.out.1.alloc (.cells #[.int .u8 x.toNat, .int .u8 y.toNat] 5))
          have HB := Lib.hid (HP.out.2.alloc HP.out.2.size (.cells #[.int .u8 x.toNat, .int .u8 y.toNat] 5))
          have HQA := Lib.hid (HQ.out.alloc (.cells #[.int .u8 x.toNat, .int .u8 y.toNat] 5))
          have hwl2 : (word rd).length = 8 := word_len rd
          have HHL := Lib.hid (headB_len rd o0 o1 o2 l.length)
          generalize word rd = WD at *
          go_wp2_with (at_builtin; refine wl_app elemB encB rfl (.tmp 40) (.tmp 47) rfl W0.heap.size _ WD rfl HO.out (some ⟨wz.heap.size, 0, none⟩) [x, y] 2 rfl HRD2.out (by simp; omega) (by simp; omega) HB.out.size ?_; intro A2 c2 w2 ho hg _; have HX := Lib.hid ho; have HBX := Lib.hid (HO.out.belowGrown HB.out hg (Nat.le_refl _) HB.out.size); have HQ := Lib.hid (HQ00.out.below HBX.out); clear ho hg cs; have cs := HQ.out.sb.cell)
          rw [HH.out] at HX
          obtain ⟨HD, hHD⟩ : ∃ h, h = headB rd o0 o1 o2 l.length := ⟨_, rfl⟩
          have hHDl : HD.length = 10 := by rw [hHD]; exact HHL.out
          have HHD := Lib.hid hHD
          rw [← hHD] at HX
          have HX2 : Hid (Own w2 W0.heap.size 5 encB (.slice A2 HD.length c2) HD) := by
            have h := HX.out
            rw [hHDl]
            have e : WD.length + [x, y].length = 10 := by rw [hwl2]; rfl
            rw [e] at h
            exact h
          clear hHD HH HX
          go_loopw [4, 52] (fun b ii wv => ∃ (i : Nat) (S : List UInt8) (A3 : Option Addr) (c3 : Nat), i ≤ l.length ∧ ii = .int .i64 i ∧ b = .slice A3 S.length c3 ∧ S = HD ++ flatB (l.take i) ∧ Own wv W0.heap.size 5 encB (.slice A3 S.length c3) S ∧ Below W0.heap.size W0 wv) (fun _ ii _ => l.length - (intOf ii).toNat)
          case atStart => exact ⟨0, HD, A2, c2, by omega, rfl, by first | rfl | (rw [hHDl, hwl2]; rfl) | (simp [hHDl]), by simp [flatB], HX2.out, HBX.out⟩
          case round =>
            obtain ⟨i, S, A3, c3, hi, rfl, rfl, hS, ho, hbl⟩ := hrel
            have hSl : S.length ≤ 8000 := by
              rw [hS, List.length_append, hHDl]
              have := flatB_len (l := l.take i) fun x hx => (HRG.out x (List.mem_of_mem_take hx)).1
              rw [List.length_take] at this
              omega
            have HS := Lib.hid hS
            have HP := Lib.hid (And.intro ho hbl)
            have HQr := Lib.hid (HQ00.out.below hbl)
            have HRr := Lib.hid (HR00.out.below hbl)
            clear hS ho hbl
            have cs := HQr.out.sb.cell
            by_cases hlt : i < l.length
            · obtain ⟨b, off, hA, _⟩ := HR.out.en hlt
              obtain rfl : A = some ⟨b, off, none⟩ := hA
              have dk : decide ((i : Int) < (l.length : Int)) = true := decide_eq_true (by omega)
              have dk2 : (i : Int) < (l.length : Int) := by omega
              have HXI := Lib.hid (List.getElem?_eq_getElem hlt)
              have HSN := Lib.hid (flatB_snoc l i hlt)
              have HWX := Lib.hid (HW.out _ (List.getElem_mem hlt))
              have HRX := Lib.hid (HRG.out _ (List.getElem_mem hlt))
              generalize l[i] = e at *
              obtain ⟨x0, x1, x2, x3, x4, x5, x6, x7, x8, x9, x10, x11⟩ := HRr.out.enAt (Below.refl _ _) HXI.out
              have HE := Lib.hid (Blk.new wr 46 #[.string e.pod.id, .int .i64 e.pod.prio, .bool e.pod.crit, .int .i64 e.pod.q0, .int .i64 e.pod.q1, .int .i64 e.pod.q2, .int .i64 e.pod.l0, .int .i64 e.pod.l1, .int .i64 e.pod.l2, .string e.pod.image, .int .i64 e.pod.size, .int .i64 e.phase])
              have HP := Lib.hid (And.intro (HP.out.1.alloc (.cells #[.string e.pod.id, .int .i64 e.pod.prio, .bool e.pod.crit, .int .i64 e.pod.q0, .int .i64 e.pod.q1, .int .i64 e.pod.q2, .int .i64 e.pod.l0, .int .i64 e.pod.l1, .int .i64 e.pod.l2, .string e.pod.image, .int .i64 e.pod.size, .int .i64 e.phase] 46)) (HP.out.2.alloc HP.out.2.size (.cells #[.string e.pod.id, .int .i64 e.pod.prio, .bool e.pod.crit, .int .i64 e.pod.q0, .int .i64 e.pod.q1, .int .i64 e.pod.q2, .int .i64 e.pod.l0, .int .i64 e.pod.l1, .int .i64 e.pod.l2, .string e.pod.image, .int .i64 e.pod.size, .int .i64 e.phase] 46)))
              go_wp2_with fail
              refine (put_yes e.pod _ HWX.out HRX.out.1).mono ?_; rintro q w3 ⟨A4, c4, rfl, ho4, hb⟩
              have HAP := Lib.hid (Apart.later HP.out.1 ho4)
              have HE := Lib.hid (HE.out.belowAll hb)
              have HP := Lib.hid (And.intro (HP.out.1.below hb (Nat.le_refl _)) (below_rV HP.out.2 hb))
              have HBY := Lib.hid ho4
              have hbyl := (bytes_len HRX.out.1).1
              clear ho4 hb cs x0  x1  x2  x3  x4  x5  x6  x7  x8  x9  x10  x11
              obtain ⟨x, hx⟩ : ∃ x : UInt8, UInt8.ofNat e.phase.toNat = x := ⟨_, rfl⟩
              have f1 : IntKind.u8.wrap e.phase = (x.toNat : Int) := by
                have h1 := HRX.out.2.1
                have h2 := HRX.out.2.2
                have h3 : (x.toNat : Int) = e.phase := by rw [← hx, UInt8.toNat_ofNat']; omega
                rw [h3]; unfold IntKind.wrap; simp [IntKind.bits, IntKind.signed]; omega
              have HN2 : Hid ((S ++ [x]) ++ e.pod.bytes = HD ++ flatB (l.take (i + 1))) := by show _ = _; rw [HSN.out, HS.out]; unfold entB; rw [hx]; simp
              clear hx
              have ce := HE.out.cell
              have HRD2 : Hid (Rds (w3.alloc (.cells #[.int .u8 x.toNat] 5)) encB (some ⟨w3.heap.size, 0, none⟩) [x]) := Rds.made _ _ _ _ _ _ rfl
              have HO := Lib.hid (HP.out.1.alloc (.cells #[.int .u8 x.toNat] 5))
              have HB := Lib.hid (HP.out.2.alloc HP.out.2.size (.cells #[.int .u8 x.toNat] 5))
              have HBY := Lib.hid (HBY.out.alloc (.cells #[.int .u8 x.toNat] 5))
              generalize e.pod.bytes = BY at *
              go_wp2_with (first
                | (at_builtin; refine wl_app elemB encB rfl (.tmp 62) (.tmp 66) rfl W0.heap.size _ S rfl HO.out (some ⟨w3.heap.size, 0, none⟩) [x] 1 rfl HRD2.out (by simp; omega) (by simp; omega) HB.out.size ?_; intro A5 c5 w5 ho hg _; have HX5 := Lib.hid ho; have HB5 := Lib.hid (HO.out.belowGrown HB.out hg (Nat.le_refl _) HB.out.size); have HBY5 := Lib.hid (HBY.out.grown hg HAP.out.ne).toRds; clear ho hg)
                | (at_builtin; refine wl_app elemB encB rfl (.tmp 67) (.tmp 68) rfl W0.heap.size _ (S ++ [x]) rfl HX5.out A4 BY c4 rfl HBY5.out (by simp; omega) (by simp; omega) HB5.out.size ?_; intro A6 c6 w6 ho hg _; have HX6 := Lib.hid ho; have HB6 := Lib.hid (HX5.out.belowGrown HB5.out hg (Nat.le_refl _) HB5.out.size); clear ho hg))
              go_roundw
              case rel => exact ⟨i + 1, (S ++ [x]) ++ BY, A6, c6, by omega, by go_num, by rw [List.length_append, List.length_append]; rfl, HN2.out, by have h := HX6.out; rw [show ((S ++ [x]) ++ BY).length = (S ++ [x]).length + BY.length from List.length_append]; exact h, HB6.out⟩
              case measure => simp [intOf]; omega
            · obtain rfl : i = l.length := by omega
              have dk : decide ((l.length : Int) < (l.length : Int)) = false := by simp
              have HE := Lib.hid (show S = putS rd o0 o1 o2 l by have h := HS.out; rw [List.take_length] at h; rw [h, HHD.out]; rfl)
              go_wp2_with fail
              go_ret2
              exact ⟨A3, c3, by rw [← HE.out]; rfl, by rw [← HE.out]; exact HP.out.1.mono HQ00.out.bel.size, (HQ00.out.below HP.out.2).bel⟩
end Go.Proofs.YtakgblgbfbpmoaaDoor

namespace Go.Proofs.YtakgblgbfbpmoaaDoor
open Go.RowKit

/-- a text and what is left, where there is one -/
def textOf : List UInt8 → Option (List UInt8 × List UInt8)
  | [] => none
  | c :: l => if c.toNat ≤ l.length then some (l.take c.toNat, l.drop c.toNat) else none

theorem text_nil (A : Option Addr) (c : Nat) (w : World) :
    Calls Tryd.prog 60 #[.slice A 0 c] w fun e w' => e = .returned (.tuple #[.string ⟨#[]⟩, .slice none 0 0, .bool false]) ∧ w = w' := by
  go_enter Tryd.func60, Tryd.ntmps60
  go_wp2
  go_ret3
  exact ⟨rfl, rfl⟩

theorem text_no (x : UInt8) (l : List UInt8) (A : Option Addr) (c : Nat) (w : World) (hr : Rds w encB A (x :: l)) (hx : l.length < x.toNat) :
    Calls Tryd.prog 60 #[.slice A (x :: l).length c] w fun e w' => e = .returned (.tuple #[.string ⟨#[]⟩, .slice none 0 0, .bool false]) ∧ w = w' := by
  obtain ⟨b, off, rfl, hb, hcell⟩ := hr (by simp)
  have h0 : w.cell? ⟨b, off, none⟩ = some (.int .u8 x.toNat) := by have := hcell 0 (.int .u8 x.toNat) (by rw [encB_all]; rfl); simpa using this
  simp only [List.length_cons]
  have hx255 : (x.toNat : Int) ≤ 255 := by have := x.toNat_lt; omega
  have hz : (((l.length : Int) + 1 == 0)) = false := by rw [beq_eq_false_iff_ne]; omega
  have hlt : (0 : Int) < (l.length : Int) + 1 := by omega
  have hd : decide ((l.length : Int) + 1 ≤ (x.toNat : Int)) = true := decide_eq_true (by omega)
  clear hcell hr
  go_enter Tryd.func60, Tryd.ntmps60
  go_wp2
  go_ret3
  exact ⟨rfl, rfl⟩

def TextPost (A : Option Addr) (l0 l1 l2 : List UInt8) (w : World) (e : Ending) (w' : World) : Prop :=
  ∃ A' c', e = .returned (.tuple #[.string (str l1), .slice A' l2.length c', .bool true]) ∧ (∀ v : World, Rds v encB A l0 → Rds v encB A' l2) ∧ l2.length ≤ c' ∧ c' ≤ 9223372036854775807 ∧ w' = w.drew

theorem text_yes (x : UInt8) (l : List UInt8) (A : Option Addr) (c : Nat) (w : World) (hr : Rds w encB A (x :: l)) (hc : (x :: l).length ≤ c) (hm : c ≤ 9223372036854775807) (hx : x.toNat ≤ l.length) :
    Calls Tryd.prog 60 #[.slice A (x :: l).length c] w (TextPost A (x :: l) (l.take x.toNat) (l.drop x.toNat) w) := by
  have hcut : ∀ v : World, Rds v encB A (x :: l) → Rds v encB (if c = x.toNat + 1 then A else A.map (·.add ((x.toNat + 1) * 1))) ((x :: l).drop (x.toNat + 1)) := fun v hv => hv.drop (x.toNat + 1) c hc
  have hstr := (hr.drop 1 c hc).take x.toNat
  obtain ⟨b, off, rfl, hb, hcell⟩ := hr (by simp)
  have h0 : w.cell? ⟨b, off, none⟩ = some (.int .u8 x.toNat) := by have := hcell 0 (.int .u8 x.toNat) (by rw [encB_all]; rfl); simpa using this
  simp only [List.length_cons] at hc ⊢
  have hx255 : (x.toNat : Int) ≤ 255 := by have := x.toNat_lt; omega
  have hz : (((l.length : Int) + 1 == 0)) = false := by rw [beq_eq_false_iff_ne]; omega
  have hlt : (0 : Int) < (l.length : Int) + 1 := by omega
  have hd : decide ((l.length : Int) + 1 ≤ (x.toNat : Int)) = false := decide_eq_false (by omega)
  clear hcell hr
  have ecut : (if c = x.toNat + 1 then some (⟨b, off, none⟩ : Addr) else (some (⟨b, off, none⟩ : Addr)).map (·.add ((x.toNat + 1) * 1))) = (if c = x.toNat + 1 then some ⟨b, off, none⟩ else some ⟨b, off + (x.toNat + 1), none⟩) := by
    split <;> simp [add_mk]
  have estr : (if c = 1 then some (⟨b, off, none⟩ : Addr) else (some (⟨b, off, none⟩ : Addr)).map (·.add (1 * 1))) = (if c = 1 then some ⟨b, off, none⟩ else some ⟨b, off + 1, none⟩) := by
    split <;> simp [add_mk]
  rw [ecut] at hcut
  rw [estr] at hstr
  have el : ((x :: l).drop 1).take x.toNat = l.take x.toNat := rfl
  rw [el] at hstr
  have ed : (x :: l).drop (x.toNat + 1) = l.drop x.toNat := rfl
  rw [ed] at hcut
  have hconv := run_strB w.drew _ _ (c - 1) hstr.drew
  rw [List.length_take, Nat.min_eq_left hx] at hconv
  have HC := Lib.hid hcut
  clear hcut hstr ecut estr el ed
  go_enter Tryd.func60, Tryd.ntmps60
  go_wp2
  have f1 : (1 : Int) ≤ (x.toNat : Int) + 1 := by omega
  have f2 : (x.toNat : Int) + 1 ≤ (c : Int) := by omega
  have f3 : (x.toNat : Int) + 1 ≤ (l.length : Int) + 1 := by omega
  have f4 : ((x.toNat : Int) + 1).toNat = x.toNat + 1 := by omega
  have f5 : (0 : Int) ≤ (x.toNat : Int) + 1 := by omega
  have f6 : x.toNat + 1 ≤ c := by omega
  go_region
  generalize (if c = x.toNat + 1 then some (⟨b, off, none⟩ : Addr) else some ⟨b, off + (x.toNat + 1), none⟩) = A' at HC ⊢
  generalize (if c = 1 then some (⟨b, off, none⟩ : Addr) else some ⟨b, off + 1, none⟩) = A1
  clear hconv
  go_wp2
  go_ret3
  exact ⟨A', c - (x.toNat + 1), by rw [List.length_drop]; rfl, HC.out, by rw [List.length_drop]; omega, by omega, rfl⟩

/-- eight bytes' number: the first of them above 127: -1 -/
def beTo (l : List UInt8) : Nat → Int
  | 0 => 0
  | k + 1 => 256 * beTo l k + ((l.getD k 0).toNat : Int)
def numberOf (l : List UInt8) : Int := if 127 < (l.getD 0 0).toNat then -1 else beTo l 8
theorem beTo_bd (l : List UInt8) (k : Nat) : 0 ≤ beTo l k ∧ beTo l k < 256 ^ k := by
  induction k with
  | zero => simp [beTo]
  | succ k ih =>
    have hb := (l.getD k 0).toNat_lt
    rw [beTo, Int.pow_succ]
    omega
theorem beTo_small (l : List UInt8) (h : (l.getD 0 0).toNat ≤ 127) (k : Nat) (hk : k < 8) : beTo l (k + 1) ≤ 9223372036854775807 ∧ beTo l (k + 1) < 128 * 256 ^ k := by
  have key : ∀ k, beTo l (k + 1) < 128 * 256 ^ k := by
    intro k
    induction k with
    | zero => simp [beTo]; simp at h; omega
    | succ k ih =>
      have hb := (l.getD (k + 1) 0).toNat_lt
      rw [beTo, Int.pow_succ]
      omega
  refine ⟨?_, key k⟩
  have := key k
  obtain rfl | rfl | rfl | rfl | rfl | rfl | rfl | rfl : k = 0 ∨ k = 1 ∨ k = 2 ∨ k = 3 ∨ k = 4 ∨ k = 5 ∨ k = 6 ∨ k = 7 := by omega
  all_goals omega

theorem number_neg (l : List UInt8) (A : Option Addr) (c : Nat) (w : World) (hr : Rds w encB A l) (hl : l.length = 8) (h : 127 < (l.getD 0 0).toNat) :
    Calls Tryd.prog 51 #[.slice A 8 c] w fun e w' => e = .returned (.int .i64 (numberOf l)) ∧ w = w' := by
  obtain ⟨b, off, rfl, hb, hcell⟩ := hr (by intro e; subst e; simp at hl)
  have h0 : w.cell? ⟨b, off, none⟩ = some (.int .u8 (l.getD 0 0).toNat) := by
    have := hcell 0 (.int .u8 (l.getD 0 0).toNat) (by rw [encB_all]; simp [List.getD, List.getElem?_eq_getElem (show 0 < l.length by omega)])
    simpa using this
  have hn : numberOf l = -1 := by unfold numberOf; rw [if_pos h]
  have h' : (127 : Int) < (l.getD 0 0).toNat := by omega
  rw [hn]
  generalize (l.getD 0 0) = x at *
  clear hcell hr h
  go_enter Tryd.func51, Tryd.ntmps51
  go_wp2
  go_ret
  exact ⟨rfl, rfl⟩

set_option maxHeartbeats 1000000 in
theorem number_pos (l : List UInt8) (A : Option Addr) (c : Nat) (w : World) (hr : Rds w encB A l) (hl : l.length = 8) (h : (l.getD 0 0).toNat ≤ 127) :
    Calls Tryd.prog 51 #[.slice A 8 c] w fun e w' => e = .returned (.int .i64 (numberOf l)) ∧ w = w' := by
  obtain ⟨b, off, rfl, hb, hcell⟩ := hr (by intro e; subst e; simp at hl)
  have hc : ∀ i, i < 8 → w.cell? ⟨b, off + i, none⟩ = some (.int .u8 (l.getD i 0).toNat) := fun i hi =>
    hcell i _ (by rw [encB_all]; simp [List.getD, List.getElem?_eq_getElem (show i < l.length by omega)])
  have hn : numberOf l = beTo l 8 := by unfold numberOf; rw [if_neg (by omega)]
  have h0 := hc 0 (by omega)
  rw [Nat.add_zero] at h0
  have HC := Lib.hid hc
  have HS := Lib.hid (beTo_small l h)
  have hb7 : ((l.getD 0 0).toNat : Int) ≤ 127 := by omega
  obtain ⟨x0, hx0⟩ : ∃ x0, x0 = l.getD 0 0 := ⟨_, rfl⟩
  rw [← hx0] at h0 hb7
  rw [hn]
  clear hc hcell hr h hx0 hn
  go_enter Tryd.func51, Tryd.ntmps51
  go_wp2
  go_loop [3, 4] (fun n i => ∃ k : Nat, k ≤ 8 ∧ i = .int .i64 k ∧ n = .int .i64 (beTo l k)) (fun _ i => 8 - (intOf i).toNat)
  case atStart => exact ⟨0, by omega, rfl, rfl⟩
  case round =>
    obtain ⟨k, hk, rfl, rfl⟩ := hrel
    by_cases hlt : k < 8
    · have ck := HC.out k hlt
      have hb1 := (beTo_bd l k).1
      have hb2 := (HS.out k hlt).1
      have hy := (l.getD k 0).toNat_lt
      have hst : beTo l (k + 1) = 256 * beTo l k + ((l.getD k 0).toNat : Int) := rfl
      rw [hst] at hb2
      have hb3 : 256 * beTo l k ≤ 9223372036854775807 := by omega
      generalize l.getD k 0 = y at *
      have HST := Lib.hid hst
      clear hst
      go_wp2
      go_round
      case rel => exact ⟨k + 1, by omega, by go_num, by rw [HST.out]⟩
      case measure => simp [intOf]; omega
    · obtain rfl : k = 8 := by omega
      go_wp2
      go_ret
      exact ⟨rfl, rfl⟩

theorem number_calls (l : List UInt8) (A : Option Addr) (c : Nat) (w : World) (hr : Rds w encB A l) (hl : l.length = 8) :
    Calls Tryd.prog 51 #[.slice A 8 c] w fun e w' => e = .returned (.int .i64 (numberOf l)) ∧ w = w' := by
  by_cases h : 127 < (l.getD 0 0).toNat
  · exact number_neg l A c w hr hl h
  · exact number_pos l A c w hr hl (by omega)
end Go.Proofs.YtakgblgbfbpmoaaDoor

namespace Go.Proofs.YtakgblgbfbpmoaaDoor
open Go.RowKit

abbrev cutCells (id im : ByteArray) (f : Nat → Int) : Array Value := #[.string id, .int .i64 (f 0), .bool false, .int .i64 (f 2), .int .i64 (f 3), .int .i64 (f 4), .int .i64 (f 5), .int .i64 (f 6), .int .i64 (f 7), .string im, .int .i64 (f 1)]
def upd (f : Nat → Int) (k : Nat) (v : Int) : Nat → Int := fun i => if i = k then v else f i
theorem cutCells_set (id im : ByteArray) (f : Nat → Int) (k : Nat) (hk : k < 8) (v : Int) : (cutCells id im f).setIfInBounds (offs k) (.int .i64 v) = cutCells id im (upd f k v) := by
  obtain rfl | rfl | rfl | rfl | rfl | rfl | rfl | rfl : k = 0 ∨ k = 1 ∨ k = 2 ∨ k = 3 ∨ k = 4 ∨ k = 5 ∨ k = 6 ∨ k = 7 := by omega
  all_goals simp [cutCells, upd, offs]
theorem cutCells_at (id im : ByteArray) (f : Nat → Int) (k : Nat) (hk : k < 8) : (cutCells id im f)[offs k]? = some (.int .i64 (f k)) := by
  obtain rfl | rfl | rfl | rfl | rfl | rfl | rfl | rfl : k = 0 ∨ k = 1 ∨ k = 2 ∨ k = 3 ∨ k = 4 ∨ k = 5 ∨ k = 6 ∨ k = 7 := by omega
  all_goals rfl

/-- a text could not be cut off -/
def NoText (A : Option Addr) (n c : Nat) (l : List UInt8) (w : World) : Prop := n = l.length ∧ textOf l = none ∧ Rds w encB A l ∧ n ≤ c ∧ c ≤ 9223372036854775807
theorem text_none (A : Option Addr) (n c : Nat) (l : List UInt8) (w : World) (h : NoText A n c l w) :
    Calls Tryd.prog 60 #[.slice A n c] w fun e w' => e = .returned (.tuple #[.string ⟨#[]⟩, .slice none 0 0, .bool false]) ∧ w = w' := by
  obtain ⟨rfl, ht, hr, _, _⟩ := h
  rcases l with _ | ⟨x, l⟩
  · exact text_nil A c w
  · refine text_no x l A c w hr ?_
    simp only [textOf] at ht
    split at ht
    · cases ht
    · omega

/-- the result, read out of its block -/
theorem load_pod {w : World} {g : Nat} {cs : Array Value} (h : Blk w g 44 cs) (hs : cs.size = 11) : (loadVar 44 ⟨g, 0, none⟩).run Tryd.prog w = .ok (.agg cs) w := by
  have := run_loadVar_mid (P := Tryd.prog) w g 0 44 cs.toList _ h.range Tryd.underlying44 rfl (by rw [infoPod, Array.length_toList, hs])
  simpa using this

set_option maxHeartbeats 2000000 in
/-- no first text -/
theorem cut_no1 (A : Option Addr) (c : Nat) (l : List UInt8) (w : World) (hr : Rds w encB A l) (hc : l.length ≤ c) (hm : c ≤ 9223372036854775807) (ht : textOf l = none) :
    Calls Tryd.prog 50 #[.slice A l.length c] w fun e w' => e = .returned (.tuple #[.agg zeroPod, .slice none 0 0, .int .i64 3]) ∧ Below w.heap.size w w' := by
  have hN : NoText A l.length c l ((w.alloc (.cells zeroPod 44)).alloc (.cells zeroPod 44)) := ⟨rfl, ht, (hr.alloc _).alloc _, hc, hm⟩
  have hN2 : NoText none 0 0 [] ((w.alloc (.cells zeroPod 44)).alloc (.cells zeroPod 44)) := ⟨rfl, rfl, Rds.nil _ _ _, by omega, by omega⟩
  have H := Lib.hid hN
  have H2 := Lib.hid hN2
  clear hN hN2 hr ht
  go_enter Tryd.func50, Tryd.ntmps50
  go_wp2_with fail
  refine (text_none _ _ _ l _ H.out).mono ?_; rintro e w1 ⟨rfl, rfl⟩
  go_wp2_with fail
  refine (text_none _ _ _ [] _ H2.out).mono ?_; rintro e w1 ⟨rfl, rfl⟩
  go_wp2_with fail
  refine (numbers_any _ _).mono ?_; rintro e w4 ⟨rfl, hP, hb4, hs4⟩
  have hR : Blk w4 w.heap.size 44 zeroPod := ((Blk.new w 44 zeroPod).alloc (.cells zeroPod 44)).belowAll hb4
  have hB : Below w.heap.size w w4 := (((Below.refl _ _).alloc (Nat.le_refl _) (.cells zeroPod 44)).alloc (by simp) (.cells zeroPod 44)).trans (hb4.mono (by simp; omega))
  have HH := Lib.hid (And.intro hR hB)
  clear hP hb4 hs4 hR hB H H2
  go_wp2_with (refine wl_store_blk rfl 44 (.tmp 2) (.tmp 44) rfl w.heap.size 44 zeroPod zeroPod rfl rfl HH.out.1 rfl infoPod zeroPod_one ?_; intro w5 hR5 hg5 hs5)
  have hl5 := hR5.cell
  exact bodyPost_ret (v := .tuple #[.agg zeroPod, .slice none 0 0, .int .i64 3]) (by simp [results, Tryd.results50, go_sem, hl5]) rfl ⟨rfl, HH.out.2.grown hg5 HH.out.2.size (by intro k hk; cases hk; exact Nat.le_refl _)⟩

set_option maxHeartbeats 2000000 in
/-- no second text -/
theorem cut_no2 (A : Option Addr) (c : Nat) (x : UInt8) (l : List UInt8) (w : World) (hr : Rds w encB A (x :: l)) (hc : (x :: l).length ≤ c) (hm : c ≤ 9223372036854775807) (hx : x.toNat ≤ l.length) (m : List UInt8) (hl : l.drop x.toNat = m) (ht : textOf m = none) :
    Calls Tryd.prog 50 #[.slice A (x :: l).length c] w fun e w' => e = .returned (.tuple #[.agg zeroPod, .slice none 0 0, .int .i64 3]) ∧ Below w.heap.size w w' := by
  have H := Lib.hid ((hr.alloc (.cells zeroPod 44)).alloc (.cells zeroPod 44))
  clear hr
  have H2 := Lib.hid ht
  have HL := Lib.hid hl
  clear ht hl
  go_enter Tryd.func50, Tryd.ntmps50
  go_wp2_with fail
  refine (text_yes x l A c _ H.out hc hm hx).mono ?_; rintro e w1 ⟨A1, c1, rfl, ht1, hc1, hm1, rfl⟩
  have hr1 := ht1 _ H.out
  rw [HL.out] at hr1 hc1 ⊢
  clear ht1
  have H3 : Hid (NoText A1 m.length c1 m ((w.alloc (.cells zeroPod 44)).alloc (.cells zeroPod 44)).drew) := ⟨rfl, H2.out, hr1.drew, hc1, hm1⟩
  clear hr1 H H2 HL
  go_wp2_with fail
  refine (text_none _ _ _ _ _ H3.out).mono ?_; rintro e w1 ⟨rfl, rfl⟩
  go_wp2_with fail
  refine (numbers_any _ _).mono ?_; rintro e w4 ⟨rfl, hP, hb4, hs4⟩
  have hR : Blk w4 w.heap.size 44 zeroPod := (((Blk.new w 44 zeroPod).alloc (.cells zeroPod 44)).drew).belowAll hb4
  have hB : Below w.heap.size w w4 := ((((Below.refl _ _).alloc (Nat.le_refl _) (.cells zeroPod 44)).alloc (by simp) (.cells zeroPod 44)).drew).trans (hb4.mono (by simp; omega))
  have HH := Lib.hid (And.intro hR hB)
  clear hP hb4 hs4 hR hB H3
  go_wp2_with (refine wl_store_blk rfl 44 (.tmp 2) (.tmp 44) rfl w.heap.size 44 zeroPod zeroPod rfl rfl HH.out.1 rfl infoPod zeroPod_one ?_; intro w5 hR5 hg5 hs5)
  have hl5 := hR5.cell
  exact bodyPost_ret (v := .tuple #[.agg zeroPod, .slice none 0 0, .int .i64 3]) (by simp [results, Tryd.results50, go_sem, hl5]) rfl ⟨rfl, HH.out.2.grown hg5 HH.out.2.size (by intro k hk; cases hk; exact Nat.le_refl _)⟩

set_option maxHeartbeats 2000000 in
/-- too few bytes behind the texts -/
theorem cut_short (A : Option Addr) (c : Nat) (x y : UInt8) (l m : List UInt8) (w : World) (hr : Rds w encB A (x :: l)) (hc : (x :: l).length ≤ c) (hm : c ≤ 9223372036854775807) (hx : x.toNat ≤ l.length) (hl : l.drop x.toNat = y :: m) (hy : y.toNat ≤ m.length) (r : List UInt8) (hd2 : m.drop y.toNat = r) (hs : r.length ≤ 64) :
    Calls Tryd.prog 50 #[.slice A (x :: l).length c] w fun e w' => e = .returned (.tuple #[.agg zeroPod, .slice none 0 0, .int .i64 3]) ∧ Below w.heap.size w w' := by
  have H := Lib.hid ((hr.alloc (.cells zeroPod 44)).alloc (.cells zeroPod 44))
  clear hr
  have H2 := Lib.hid hl
  have HD := Lib.hid hd2
  clear hl hd2
  go_enter Tryd.func50, Tryd.ntmps50
  go_wp2_with fail
  refine (text_yes x l A c _ H.out hc hm hx).mono ?_; rintro e w1 ⟨A1, c1, rfl, ht1, hc1, hm1, rfl⟩
  have hr1 := ht1 _ H.out
  rw [H2.out] at ht1 hr1 hc1 ⊢
  have H3 := Lib.hid hr1.drew
  clear hr1 ht1 H H2
  go_wp2_with fail
  refine (text_yes y m A1 c1 _ H3.out hc1 hm1 hy).mono ?_; rintro e w1 ⟨A2, c2, rfl, ht2, hc2, hm2, rfl⟩
  have hr2 := ht2 _ H3.out
  rw [HD.out] at ht2 hr2 hc2 ⊢
  clear hr2 ht2 H3 HD
  go_wp2_with fail
  refine (numbers_any _ _).mono ?_; rintro e w4 ⟨rfl, hP, hb4, hs4⟩
  have hR : Blk w4 w.heap.size 44 zeroPod := (((Blk.new w 44 zeroPod).alloc (.cells zeroPod 44)).drew.drew).belowAll hb4
  have hB : Below w.heap.size w w4 := ((((Below.refl _ _).alloc (Nat.le_refl _) (.cells zeroPod 44)).alloc (by simp) (.cells zeroPod 44)).drew.drew).trans (hb4.mono (by simp; omega))
  have HH := Lib.hid (And.intro hR hB)
  have hle : (r.length : Int) ≤ 64 := by omega
  have hd : decide ((r.length : Int) ≤ 64) = true := decide_eq_true hle
  clear hP hb4 hs4 hR hB
  go_wp2_with (refine wl_store_blk rfl 44 (.tmp 2) (.tmp 44) rfl w.heap.size 44 zeroPod zeroPod rfl rfl HH.out.1 rfl infoPod zeroPod_one ?_; intro w5 hR5 hg5 hs5)
  have hl5 := hR5.cell
  exact bodyPost_ret (v := .tuple #[.agg zeroPod, .slice none 0 0, .int .i64 3]) (by simp [results, Tryd.results50, go_sem, hl5]) rfl ⟨rfl, HH.out.2.grown hg5 HH.out.2.size (by intro k hk; cases hk; exact Nat.le_refl _)⟩
end Go.Proofs.YtakgblgbfbpmoaaDoor
