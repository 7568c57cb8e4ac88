/- A part of the walk. -/
import Derived.Test.YtmmchlfoplcnbaaGreatDoorMA6
import Derived.Test.YtmmchlfoplcnbaaGreatDoorMA5
namespace Go.Proofs.YtmmchlfoplcnbaaGreatDoor
open Go Go.RowKit Tryz
set_option linter.all false
set_option maxRecDepth 100000
set_option maxHeartbeats 4000000
def j1 (x y:cv):Bool:=decide (x.last<y.last)||((x.last==y.last)&&blt x.id y.id)
theorem PO (x y:cv):j1 x y=true↔x.last<y.last\/(x.last=y.last/\blt x.id y.id=true):=by unfold j1;simp
theorem Pt (x:cv):j1 x x=false:=by
 cases h:j1 x x
 ·rfl
 ·rw [PO] at h
  rcases h with h|⟨_,h⟩
  ·omega
  ·rw [ms] at h;cases h
theorem GS {x y z:cv} (h1:j1 x y=true) (ah:j1 y z=true):j1 x z=true:=by
 rw [PO] at *
 rcases h1 with h1|⟨h1,CL⟩ <;> rcases ah with ah|⟨ah,qO⟩
 ·left;omega
 ·left;omega
 ·left;omega
 ·right;exact ⟨af,jY CL qO⟩
theorem Ky {x y:cv} (h1:j1 x y=false) (ah:j1 y x=false):x.last=y.last/\x.id=y.id:=by
 have e:x.last=y.last:=by
  unfold j1 at h1 ah
  simp only [Bool.or_eq_false_iff,An] at h1 ah
  omega
 unfold j1 at h1 ah
 rw [e] at h1 ah
 simp at h1 ah
 exact ⟨e,r8 h1 ah⟩
section
variable {l:List cv} {ax told:List ByteArray} {k:Nat} {z:Int}
end
def px (ax:List ByteArray) (x:cv):Bool:=!(x.state==3)&&!hasB ax x.id
def lenOf:Value->Nat
 | .slice _ n _=>n
 | _=>0
section
open Go.Lib
end
section
variable {α:Type} {size:Nat} {E:cu α size} {w:World} {base:Nat} {e:TypeId} {v:Value} {l:List α}
end
structure cf where
 name:ByteArray
 size:Int
 last:Int
abbrev cf.cells (p:cf):Array Value:=#[.string p.name,.i p.size,.i p.last]
structure cf.fe (p:cf):Prop where
 size:c' p.size
 last:c' p.last
 name:p.name.size<=9223372036854775807
instance:Inhabited cf:=⟨⟨⟨#[]⟩,0,0⟩⟩
def encI:cu cf 3:=⟨fun p=>p.cells.toList,fun _=>rfl,fun p u hu=>by simp at hu;rcases hu with h|h|h <;> subst h <;> rfl,ak⟩
theorem a7.qU {w:World} {A:Option Addr} {l:List cf} (h:a7 w encI A l) {i:Nat} (hi:i<l.length):∃ b off,A=some ⟨b,off,none⟩/\b<w.heap.size /\
  w.cell? ⟨b,off+i*3,none⟩=some (.string l[i].name)/\w.cell? ⟨b,off+i*3+1,none⟩=some (.i l[i].size)/\w.cell? ⟨b,off+i*3+2,none⟩=some (.i l[i].last):=by
 obtain ⟨b,off,e,hb,hc⟩:=h.at_ hi;exact ⟨b,off,e,hb,by have:=hc 0 (.string l[i].name) rfl;simpa using this,hc 1 (.i l[i].size) rfl,hc 2 (.i l[i].last) rfl⟩
theorem Kz:lH prog 79 146 3 32:=by
 obtain ⟨i,h1,ah,aw,bn⟩:=info_parts (show (prog.info? 146).map (fun i=>(i.zero,i.size,i.bytes))=some (some (.agg #[.string ⟨#[]⟩,.i 0,.i 0]),3,32) by kernel_rfl);exact ⟨underlying79,i,_,h1,ah,aw,bn,rfl⟩
def X4 (x y:cf):Bool:=if x.last=y.last then (if x.size=y.size then blt x.name y.name else decide (y.size<x.size)) else decide (x.last<y.last)
def Px (m:List cf) (w:World) (e:Ending) (w':World):Prop :=
 ∃ A c,e=.returned (.slice A m.length c)/\Own w' w.heap.size 146 encI (.slice A m.length c) m/\Below w.heap.size w w'


structure l7 (r:gH) (w W:World):Prop where
 qe:a7 w yL r.A r.uses
 box:ar W w.heap.size 45 r.cells
 aR:Below w.heap.size w W
theorem l7.kp {r:gH} {w W:World} (h:l7 r w W):a7 W yL r.A r.uses:=h.qe.below h.aR
theorem l7.below {r:gH} {w W W':World} (h:l7 r w W) (hb:Below W.heap.size W W'):l7 r w W':=⟨h.qe,h.box.bw hb,h.aR.trans (hb.mono h.aR.size)⟩
theorem l7.new (r:gH) (w:World) (hr:a7 w yL r.A r.uses):l7 r w (w.alloc (.cells r.cells 45)):=⟨hr,ar.new _ _ _,(aO _ _).alloc aF _⟩
structure vU (a b c:Nat):Prop where
 cz:eu a≠1
 dv:eu b≠1
 ed:eu c≠1
structure aav (l:List gW) (i:Nat) (hi:i<l.length):Prop where
 k:vU l[i].f0 l[i].f1 l[i].f2
 d:∀ j (aD:j<i),l[j].id≠l[i].id
 n:named l[i].id.data.toList=true
def A1 (l:List gW) (k:Nat):Prop:=∀ i (hi:i<l.length),i<k->aav l i hi
structure q5 (r:gH):Prop where
 len:r.uses.length<=128
 k:vU r.v0 r.v1 r.v2
 ok:A1 r.uses r.uses.length
theorem A1.snoc {l:List gW} {k:Nat} (hk:k<l.length) (h:A1 l k) (a:vU l[k].f0 l[k].f1 l[k].f2) (b:∀ j (aD:j<k),l[j].id≠l[k].id) (c:named l[k].id.data.toList=true):A1 l (k+1):=fun i hi ah=>by
 rcases gB i k with aw|aw
 ·exact h i hi aw
 ·obtain rfl:i=k:=by omega
  exact ⟨a,b,c⟩
theorem q5.no {r:gH} {v:Bool} (hv:v=true↔q5 r) (h:¬ q5 r):v=false:=by
 cases v
 ·rfl
 ·exact absurd (hv.1 rfl) h
theorem aaw {a b:ByteArray} (h:(a.toList==b.toList)=false):a≠b:=fun e=>by subst e;simp at h
end Go.Proofs.YtmmchlfoplcnbaaGreatDoor
