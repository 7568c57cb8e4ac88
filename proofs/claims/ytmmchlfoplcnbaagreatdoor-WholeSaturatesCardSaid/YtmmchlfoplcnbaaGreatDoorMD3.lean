/- A part of the walk. -/
import Derived.Deep.Cut
import Derived.Test.YtmmchlfoplcnbaaGreatDoorMD1
import Derived.Test.YtmmchlfoplcnbaaGreatDoorMC0
import Derived.Test.YtmmchlfoplcnbaaGreatDoorMC4
import Derived.Test.YtmmchlfoplcnbaaGreatDoorMD2
namespace Go.Proofs.YtmmchlfoplcnbaaGreatDoor
open Go Go.RowKit Tryz
set_option linter.all false
set_option maxRecDepth 100000
set_option maxHeartbeats 4000000
def Pv (l:List cf) (i:Nat):List cf:=l.take i++l.drop (i+1)
section
variable {l:List cf} {i:Nat} {A:Option Addr} {c base:Nat} {w:World}
end
theorem Pw (l:List cf) (A:Option Addr) (c:Nat) (w:World) (hr:a7 w encI A l) (hl:l.length<=100000) :
  Calls prog 98 #[.slice A l.length c] w fun e w'=>∃ br a8,e=.returned (.slice br l.length a8)/\Own w' w.heap.size 146 encI (.slice br l.length a8) l/\Below w.heap.size w w':=by
 have bx:=J hr;clear hr;have Pc:∀ (w:World) (a:Option Addr) (n c jw a8:Nat),(binOp .eql 79 (.slice a n c) (.slice none jw a8)).run prog w=.ok (.bool a.isNone) w:=fun w a n c jw a8=>Lib.run_eql_slice_nil w _ _ a n c jw a8 underlying79
 cases A with
 | none =>
  have eI:l = []:=by
   rcases Kr l with h|⟨eK,x,h⟩
   ·exact h
   ·obtain ⟨b,off,ah,_⟩:=bx.out (by rw [h];simp)
    cases ah
  subst eI;have bJ:=J (Own.e8 w w.heap.size 146 encI)
  go_enter func98,ntmps98
  go_wp2_with fail;go_ret;exact ⟨none,0,rfl,bJ.out,aO _ _⟩
 | some a =>
  go_enter func98,ntmps98
  go_wp2_with (at_builtin;refine Ks Kz encI rfl (.tmp 5) (.tmp 6) rfl rfl _ l c rfl bx af af ?_;intro bz dv aC ho hb;have aB:=J (ae ho hb);clear ho hb)
  go_ret;exact ⟨bz,dv,rfl,aB.1,aB.2⟩
section
open Go.ChangeShapes Go.WideShapes Go.ChangeAt
structure vn.Ok (f:vn) (w:World):Prop where
 rt:a7 w i7 f.A f.ts
 ajS:f.ts.length<=9223372036854775807
 a:c' f.room.a
 b:c' f.room.b
 c:c' f.room.c
section
variable {H:Type} {enc:TypeId×Value->H} {w:World} {base:Nat} {spare:Nat->Bool} {held:Bool}
end
end
structure jm (r:gH) (w W:World):Prop where
 kX:l7 r w W
 fg:ar W (w.heap.size+1) 136 #[.i 0,.i 0,.i 0,.i 0,.slice none 0 0]
theorem l7.cF {r:gH} {w W:World} (h:l7 r w W) {a:Addr} (ha:w.heap.size<a.block) (u:Value):l7 r w (W.setCell a u):=⟨h.qe,h.box.cF af u,h.aR.setCell af u⟩
theorem l7.drew {r:gH} {w W:World} (h:l7 r w W):l7 r w W.drew:=⟨h.qe,h.box.drew,h.aR.drew⟩
theorem l7.alloc {r:gH} {w W:World} (h:l7 r w W) (o:Obj):l7 r w (W.alloc o):=⟨h.qe,h.box.alloc o,h.aR.alloc h.aR.size o⟩
theorem jm.lt {r:gH} {w W:World} (h:jm r w W):w.heap.size+1<W.heap.size:=h.fg.lt
theorem jm.aR {r:gH} {w W:World} (h:jm r w W):Below w.heap.size w W:=h.kX.aR
theorem jm.cF {r:gH} {w W:World} (h:jm r w W) {a:Addr} (ha:w.heap.size+1<a.block) (u:Value):jm r w (W.setCell a u):=⟨h.kX.cF af u,h.fg.cF af u⟩
theorem jm.drew {r:gH} {w W:World} (h:jm r w W):jm r w W.drew:=⟨h.kX.drew,h.fg.drew⟩
theorem jm.alloc {r:gH} {w W:World} (h:jm r w W) (o:Obj):jm r w (W.alloc o):=⟨h.kX.alloc o,h.fg.alloc o⟩
theorem jm.below {r:gH} {w W W':World} (h:jm r w W) (hb:Below W.heap.size W W'):jm r w W':=⟨h.kX.below hb,h.fg.bw hb⟩
theorem jm.cells {r:gH} {w W:World} (h:jm r w W):W.cell? ⟨w.heap.size,0,none⟩=some (.i r.time)/\W.cell? ⟨w.heap.size,1,none⟩=some (.float .f64 r.v0)/\W.cell? ⟨w.heap.size,2,none⟩=some (.float .f64 r.v1)/\W.cell? ⟨w.heap.size,3,none⟩=some (.float .f64 r.v2) :=
 ⟨h.kX.box.cell 0,h.kX.box.cell 1,h.kX.box.cell 2,h.kX.box.cell 3⟩
theorem jm.new (r:gH) (w:World) (hr:a7 w yL r.A r.uses):jm r w ((w.alloc (.cells r.cells 45)).alloc (.cells #[.i 0,.i 0,.i 0,.i 0,.slice none 0 0] 136)):=by
 have bI:(w.alloc (.cells r.cells 45)).heap.size=w.heap.size+1:=av;have hb:=ar.new (w.alloc (.cells r.cells 45)) 136 #[.i 0,.i 0,.i 0,.i 0,.slice none 0 0];rw [bI] at hb
 exact ⟨(l7.new r w hr).alloc _,hb⟩
section
variable {r:gH} {n B:Nat} {fo fp fq:Int} {m:List dJ} {br:Option Addr} {a8:Nat} {w W W':World}
end
theorem aau:lH prog 134 318 4 40:=by
 obtain ⟨i,h1,ah,aw,bn⟩:=info_parts (show (prog.info? 318).map (fun i=>(i.zero,i.size,i.bytes))=some (some (.agg #[.string ⟨#[]⟩,.i 0,.i 0,.i 0]),4,40) by kernel_rfl);exact ⟨underlying134,i,_,h1,ah,aw,bn,rfl⟩
theorem pG:(prog.info? 136).map (·.size)=some 5:=ai
theorem Q1 {a b c:Nat} (h:vU a b c):(kg (eu a)&&(kg (eu b)&&kg (eu c)))=true:=by
 obtain ⟨aI,h1,ah⟩:=h;unfold kg;simp [aI,h1,ah]
theorem Q2 {a b c:Nat} (h:(kg (eu a)&&(kg (eu b)&&kg (eu c)))=true):vU a b c:=by
 unfold kg at h
 simp only [qN,jZ] at h
 exact ⟨h.1,h.2.1,h.2.2⟩
theorem Q3 {f0 f1 f2:Nat} {x y z:Int} (h:f0<18446744073709551616/\f1<18446744073709551616/\f2<18446744073709551616) (hx:dW f0=x/\dW f1=y/\dW f2=z) (hk:(kg (eu f0)&&(kg (eu f1)&&kg (eu f2)))=true) (w:World) :
  Calls prog 208 #[.agg #[.float .f64 f0,.float .f64 f1,.float .f64 f2]] w fun e w'=>e=.returned (.tuple #[.agg #[.i x,.i y,.i z],.bool true])/\Below w.heap.size w w':=by
 have:=Q4 h.1 h.2.1 h.2.2 hx.1 hx.2.1 hx.2.2 rfl rfl rfl w
 rwa [hk] at this
theorem Q5 {f0 f1 f2:Nat} {x y z:Int} (h:f0<18446744073709551616/\f1<18446744073709551616/\f2<18446744073709551616) (hx:dW f0=x/\dW f1=y/\dW f2=z) (hk:(kg (eu f0)&&(kg (eu f1)&&kg (eu f2)))=false) (w:World) :
  Calls prog 208 #[.agg #[.float .f64 f0,.float .f64 f1,.float .f64 f2]] w fun e w'=>e=.returned (.tuple #[.agg #[.i 0,.i 0,.i 0],.bool false])/\Below w.heap.size w w':=by
 have:=Q4 h.1 h.2.1 h.2.2 hx.1 hx.2.1 hx.2.2 rfl rfl rfl w
 rwa [hk] at this
theorem Hy {v:Bool} {p:Prop} (hv:v=true↔p) (h:¬ p):v=false:=by
 cases v
 ·rfl
 ·exact absurd (hv.1 rfl) h
theorem aaH {l:List gW} {k:Nat} (h:A1 l k):qf l k:=fun i hi ah=>⟨(h i hi ah).n,(h i hi ah).d⟩
theorem aaI {l:List gW} (hk:∀ i (hi:i<l.length),i<l.length->vU l[i].f0 l[i].f1 l[i].f2) (h:qf l l.length):A1 l l.length:=fun i hi ah=>⟨hk i hi ah,(h i hi ah).2,(h i hi ah).1⟩
theorem aaJ (l:List dJ) (u:dJ):(pF l u).Perm (u :: l):=by
 induction l with
 | nil=>exact AG _
 | cons x l b6 =>
  unfold pF
  split
  ·exact AG _
  ·exact (b6.cons x).trans (List.Perm.swap u x l)
theorem Q6 (gs:List gW):(kh gs).Perm (gs.map l9):=by
 have h:∀ (gs:List gW) (acc:List dJ),(gs.foldl (fun acc g=>pF acc (l9 g)) acc).Perm (acc++gs.map l9):=by
  intro gs
  induction gs with
  | nil=>intro acc;simp
  | cons g gs b6 =>
   intro acc;refine (b6 _).trans ?_;rw [ny];refine ((aaJ acc (l9 g)).append_right _).trans ?_;exact (Hz (a:=l9 g) (l₁:=acc) (l₂:=gs.map l9)).symm
 exact h gs []
theorem Q7 {l:List gW} (h:A1 l l.length):Hu l:=by
 unfold Hu;rw [tJ];intro i j hi aD gO;exact (h j aD aD).d i gO
theorem aaK {r:gH} (h:q5 r) {L:List dJ} (hp:L.Perm (r.uses.map l9)) (hs:L.Pairwise fun x y=>blt y.id x.id=false):L=kh r.uses:=by
 have hd:=Q7 h.ok;refine List.Perm.eq_of_pairwise (le:=fun x y=>blt y.id x.id=false) (fun a b ha hb h1 ah=>?_) hs ((QY hd).imp fun {x y} h=>?_) (hp.trans (Q6 r.uses).symm)
 ·have e:=r8 ah h1
  have Qv:=hp.mem_iff.1 ha;have oO:b∈r.uses.map l9:=(Q6 r.uses).mem_iff.1 hb;obtain ⟨g,az,rfl⟩:=kM.1 Qv;obtain ⟨g',A0,rfl⟩:=kM.1 oO;obtain ⟨i,hi,rfl⟩:=pj az;obtain ⟨j,aD,rfl⟩:=pj A0;have bE:r.uses[i].id=r.uses[j].id:=e
  rcases HA i j with aw|aw|aw
  ·exact absurd bE ((h.ok j aD aD).d i aw)
  ·subst aw;rfl
  ·exact absurd bE.symm ((h.ok i hi hi).d j aw)
 ·cases aaL:blt y.id x.id
  ·rfl
  ·exact absurd (jY h aaL) (by rw [ms];simp)
theorem l7.fresh {r:gH} {w W W':World} (h:l7 r w W) {o:Obj} (az:(W.alloc o).grownBy W' (some W.heap.size)):l7 r w W' :=
 ⟨h.qe,(h.box.alloc o).grown az (by have:=h.box.lt;intro e;injection e with e;omega),(h.aR.alloc h.aR.size o).grown az (h.aR.alloc h.aR.size o).size (by intro k hk;cases hk;exact h.aR.size)⟩
theorem jm.fresh {r:gH} {w W W':World} (h:jm r w W) {o:Obj} (az:(W.alloc o).grownBy W' (some W.heap.size)):jm r w W' :=
 ⟨h.kX.fresh az,(h.fg.alloc o).grown az (by have:=h.fg.lt;intro e;injection e with e;omega)⟩
structure fc (r:gH) (n:Nat) (fo fp fq:Int) (m:List dJ) (br:Option Addr) (a8:Nat) (w W:World):Prop where
 d:jm r w W
 kw:ar W n 136 #[.i r.time,.i fo,.i fp,.i fq,.slice br m.length a8]
 own:Own W w.heap.size 318 jA (.slice br m.length a8) m
 hn:w.heap.size+1<n
structure HB (r:gH) (n:Nat) (fo fp fq:Int) (v:Value) (w W:World):Prop where
 d:jm r w W
 kw:ar W n 136 #[.i r.time,.i fo,.i fp,.i fq,v]
 hn:w.heap.size+1<n
section
variable {r:gH} {n:Nat} {fo fp fq:Int} {m:List dJ} {br:Option Addr} {a8:Nat} {w W W':World}
theorem fc.start {n:Nat} (h:jm r w W') (hm:ar W' n 136 #[.i r.time,.i fo,.i fp,.i fq,.slice none 0 0]) (hn:w.heap.size+1<n):fc r n fo fp fq [] none 0 w W':=⟨h,hm,Own.e8 _ _ _ _,hn⟩
theorem fc.below (h:fc r n fo fp fq m br a8 w W) (hb:Below W.heap.size W W'):fc r n fo fp fq m br a8 w W':=⟨h.d.below hb,h.kw.bw hb,h.own.below hb aF,h.hn⟩
theorem fc.fresh (h:fc r n fo fp fq m br a8 w W) {o:Obj} (az:(W.alloc o).grownBy W' (some W.heap.size)):fc r n fo fp fq m br a8 w W' :=
 ⟨h.d.fresh az,(h.kw.alloc o).grown az (by have:=h.kw.lt;intro e;injection e with e;omega),(h.own.alloc o).grown az (.inr fun e=>by have:=(h.own.iw _ e).2;omega),h.hn⟩
theorem fc.push (h:fc r n fo fp fq m br a8 w W) {o:Obj} (az:(W.alloc o).grownBy W' (Value.slice br m.length a8).ownBlock) (hb:Below w.heap.size w W'):HB r n fo fp fq (.slice br m.length a8) w W' :=
 ⟨⟨⟨h.d.kX.qe,(h.d.kX.box.alloc o).grown az ((h.own.alloc o).fK (h.d.kX.box.alloc o) ak),hb⟩,(h.d.fg.alloc o).grown az ((h.own.alloc o).fK (h.d.fg.alloc o) ak)⟩,(h.kw.alloc o).grown az ((h.own.alloc o).fK (h.kw.alloc o) ak),h.hn⟩
theorem fc.iq (h:fc r n fo fp fq m br a8 w W) (az:W.grownBy W' (Value.slice br m.length a8).ownBlock):HB r n fo fp fq (.slice br m.length a8) w W' :=
 ⟨⟨⟨h.d.kX.qe,h.d.kX.box.grown az (h.own.fK h.d.kX.box ak),h.own.jX h.d.aR az aF h.d.aR.size⟩,h.d.fg.grown az (h.own.fK h.d.fg ak)⟩,h.kw.grown az (h.own.fK h.kw ak),h.hn⟩
theorem HB.stored {v:Value} {q:List dJ} {b5:Option Addr} {c3:Nat} (h:HB r n fo fp fq v w W) (ho:Own W w.heap.size 318 jA (.slice b5 q.length c3) q):fc r n fo fp fq q b5 c3 w (W.setCell ⟨n,4,none⟩ (.slice b5 q.length c3)) :=
 ⟨h.d.cF (by show _<n;have:=h.hn;omega) _,h.kw.eW 4 _,ho.Ao h.kw ak 4 _,h.hn⟩
end
def Q8 (t fo fp fq:Int) (L:List dJ) (w:World):Bool->Ending->World->Prop
 | true,e,w'=>∃ A c,e=.returned (.tuple #[.agg #[.int .i64 t,.int .i64 fo,.int .i64 fp,.int .i64 fq,.slice A L.length c],.int .i64 0])/\Own w' w.heap.size 318 jA (.slice A L.length c) L/\Below w.heap.size w w'
 | false,e,w'=>e=.returned (.tuple #[.agg #[.int .i64 0,.int .i64 0,.int .i64 0,.int .i64 0,.slice none 0 0],.int .i64 1])/\Below w.heap.size w w'
theorem Q9 {t fo fp fq:Int} {v0 v1 v2 c:Nat} {A:Option Addr} {l:List gW} {v:Bool} (w:World) (hv:v=true↔q5 ⟨t,v0,v1,v2,A,l,c⟩) (hr:gH.fe ⟨t,v0,v1,v2,A,l,c⟩ w) (vW:dW v0=fo) (C5:dW v1=fp) (C6:dW v2=fq) :
  Calls prog 154 #[.agg #[.i t,.float .f64 v0,.float .f64 v1,.float .f64 v2,.slice A l.length c]] w (Q8 t fo fp fq (kh l) w v):=by
 have mixed:prog.follows Departure.mixedOrders=true:=ai;have bq:Hid (jm (⟨t,v0,v1,v2,A,l,c⟩:gH) w ((w.alloc (.cells #[.i t,.float .f64 v0,.float .f64 v1,.float .f64 v2,.slice A l.length c] 45)).alloc (.cells #[.i 0,.i 0,.i 0,.i 0,.slice none 0 0] 136))):=jm.new _ w hr.kp;have bx:=J hr.kp;have aaM:Hid (∀ g∈l,g.fe):=hr.us;have yU:Hid (∀ g∈l,g.id.size<=9223372036854775807):=hr.ids;have fk:Hid (v0<18446744073709551616/\v1<18446744073709551616/\v2<18446744073709551616):=⟨hr.aI,hr.h1,hr.ah⟩
 have bF:Hid (dW v0=fo/\dW v1=fp/\dW v2=fq):=⟨vW,C5,C6⟩
 have yV:=J hv;have A3:=hr.len;have HC:=hr.cap;simp only at A3 HC
 clear hr vW C5 C6 hv;have q6:∀ i,((w.alloc (.cells #[.i t,.float .f64 v0,.float .f64 v1,.float .f64 v2,.slice A l.length c] 45)).alloc (.cells #[.i 0,.i 0,.i 0,.i 0,.slice none 0 0] 136)).cell? ⟨w.heap.size,i,none⟩=(#[.i t,.float .f64 v0,.float .f64 v1,.float .f64 v2,.slice A l.length c]:Array Value)[i]?:=bq.kX.box.cell
 go_enter func154,ntmps154
 go_wp2_with fail;obtain ⟨xq,nV⟩:=aE (kg (eu v0)&&(kg (eu v1)&&kg (eu v2)));have su:=J nV;clear nV
 cases xq
 ·refine (Q5 fk bF su _).mono ?_;rintro e aC ⟨rfl,hb⟩
  have bq:=J (bq.below hb);clear hb q6;have lQ:=J (ar.new aC 23 #[.i 0,.i 0,.i 0]);have yT:=J bq.aR.size;obtain rfl:v=false:=Hy yV.out fun h=>by have:=Q1 h.k;rw [su.out] at this;cases this
  go_wp2_with (first|(refine ch rfl 23 (.tmp 4) (.tmp 15) rfl aC.heap.size 23 #[.i 0,.i 0,.i 0] #[.i 0,.i 0,.i 0] rfl rfl lQ.out rfl xr cc ?_;intro aM lp et c7;have bq:=J (bq.fresh et);have q6:∀ i,aM.cell? ⟨w.heap.size,i,none⟩=(#[.i t,.float .f64 v0,.float .f64 v1,.float .f64 v2,.slice A l.length c]:Array Value)[i]?:=bq.kX.box.cell;clear lp et c7)|(refine ch rfl 136 (.tmp 2) (.tmp 31) rfl (w.heap.size+1) 136 #[.i 0,.i 0,.i 0,.i 0,.slice none 0 0] #[.i 0,.i 0,.i 0,.i 0,.slice none 0 0] rfl rfl bq.fg rfl pG cc ?_;intro bc bS bP dx))
  have dn:∀ i,bc.cell? ⟨w.heap.size+1,i,none⟩=(#[.i 0,.i 0,.i 0,.i 0,.slice none 0 0]:Array Value)[i]?:=bS.cell
  exact cS (v:=.tuple #[.agg #[.i 0,.i 0,.i 0,.i 0,.slice none 0 0],.i 1]) (by simp [results,results154,go_sem,dn]) rfl ⟨rfl,bq.aR.grown bP bq.aR.size dP⟩
 ·refine (Q3 fk bF su _).mono ?_;rintro e aC ⟨rfl,hb⟩
  have bq:=J (bq.below hb);clear hb q6;have lQ:=J (ar.new aC 23 #[.i 0,.i 0,.i 0]);have yT:=J bq.aR.size
  by_cases Ra:128<l.length
  ·have d1:decide ((128:Int)<(l.length:Int))=true:=bO af
   have d2:decide (128<l.length)=true:=bO Ra;obtain rfl:v=false:=Hy yV.out fun h=>by have:=h.len;simp only at this;omega
   go_wp2_with (first|(refine ch rfl 23 (.tmp 4) (.tmp 15) rfl aC.heap.size 23 #[.i 0,.i 0,.i 0] #[.i fo,.i fp,.i fq] rfl rfl lQ.out rfl xr cc ?_;intro aM lp et c7;have bq:=J (bq.fresh et);have q6:∀ i,aM.cell? ⟨w.heap.size,i,none⟩=(#[.i t,.float .f64 v0,.float .f64 v1,.float .f64 v2,.slice A l.length c]:Array Value)[i]?:=bq.kX.box.cell;clear lp et c7)|(refine ch rfl 136 (.tmp 2) (.tmp 31) rfl (w.heap.size+1) 136 #[.i 0,.i 0,.i 0,.i 0,.slice none 0 0] #[.i 0,.i 0,.i 0,.i 0,.slice none 0 0] rfl rfl bq.fg rfl pG cc ?_;intro bc bS bP dx))
   have dn:∀ i,bc.cell? ⟨w.heap.size+1,i,none⟩=(#[.i 0,.i 0,.i 0,.i 0,.slice none 0 0]:Array Value)[i]?:=bS.cell
   exact cS (v:=.tuple #[.agg #[.i 0,.i 0,.i 0,.i 0,.slice none 0 0],.i 1]) (by simp [results,results154,go_sem,dn]) rfl ⟨rfl,bq.aR.grown bP bq.aR.size dP⟩
  ·have d1:decide ((128:Int)<(l.length:Int))=false:=cX af
   have d2:decide (128<l.length)=false:=cX Ra;obtain ⟨va,Rb⟩:∃ va:Bool,va=true↔qf l l.length:=by classical exact ⟨decide (qf l l.length),av⟩
   have HD:=J Rb;clear Rb
   go_wp2_with (refine ch rfl 23 (.tmp 4) (.tmp 15) rfl aC.heap.size 23 #[.i 0,.i 0,.i 0] #[.i fo,.i fp,.i fq] rfl rfl lQ.out rfl xr cc ?_;intro aM lp et c7;have mA:=J lp;have bq:=J (bq.fresh et);have q6:∀ i,aM.cell? ⟨w.heap.size,i,none⟩=(#[.i t,.float .f64 v0,.float .f64 v1,.float .f64 v2,.slice A l.length c]:Array Value)[i]?:=bq.kX.box.cell;clear lp et c7)
   refine (aay HD A c _ (bx.below bq.aR) af A3 yU).mono ?_;rintro e w3 ⟨rfl,hb⟩;have bq:=J (bq.below hb);have mA:=J (mA.bw hb);clear hb q6 d1 d2
   cases va
   ·obtain rfl:v=false:=Hy yV.out fun h=>by have:=HD.2 (aaH h.ok);cases this
    have q6:∀ i,w3.cell? ⟨w.heap.size,i,none⟩=(#[.i t,.float .f64 v0,.float .f64 v1,.float .f64 v2,.slice A l.length c]:Array Value)[i]?:=bq.kX.box.cell
    go_wp2_with (refine ch rfl 136 (.tmp 2) (.tmp 31) rfl (w.heap.size+1) 136 #[.i 0,.i 0,.i 0,.i 0,.slice none 0 0] #[.i 0,.i 0,.i 0,.i 0,.slice none 0 0] rfl rfl bq.fg rfl pG cc ?_;intro bc bS bP dx)
    have dn:∀ i,bc.cell? ⟨w.heap.size+1,i,none⟩=(#[.i 0,.i 0,.i 0,.i 0,.slice none 0 0]:Array Value)[i]?:=bS.cell
    exact cS (v:=.tuple #[.agg #[.i 0,.i 0,.i 0,.i 0,.slice none 0 0],.i 1]) (by simp [results,results154,go_sem,dn]) rfl ⟨rfl,bq.aR.grown bP bq.aR.size dP⟩
   ·have gm:=J (HD.1 rfl)
    have q6:∀ i,w3.cell? ⟨w.heap.size,i,none⟩=(#[.i t,.float .f64 v0,.float .f64 v1,.float .f64 v2,.slice A l.length c]:Array Value)[i]?:=bq.kX.box.cell
    have ks:∀ i,w3.cell? ⟨aC.heap.size,i,none⟩=(#[.i fo,.i fp,.i fq]:Array Value)[i]?:=mA.cell
    have vO:=J (ar.new w3 136 #[.i 0,.i 0,.i 0,.i 0,.slice none 0 0])
    go_wp2_with (refine ch rfl 136 (.tmp 6) (.tmp 35) rfl w3.heap.size 136 #[.i 0,.i 0,.i 0,.i 0,.slice none 0 0] #[.i t,.i fo,.i fp,.i fq,.slice none 0 0] rfl rfl vO.out rfl pG cc ?_;intro eD C7 et c7;have mU:=J bq.fg.lt;have cT:=J (fc.start (bq.fresh et) C7 mU);have q6:∀ i,eD.cell? ⟨w.heap.size,i,none⟩=(#[.i t,.float .f64 v0,.float .f64 v1,.float .f64 v2,.slice A l.length c]:Array Value)[i]?:=cT.d.kX.box.cell;clear C7 et c7)
    clear bq mA lQ vO mU HD;generalize w3.heap.size=n at *
    generalize aC.heap.size=lL at *
    go_loopw [39,3] (fun i e wr=>∃ (k:Nat) (br:Option Addr) (a8:Nat),k<=l.length/\i=.i k/\e=.i 0/\(∀ i (hi:i<l.length),i<k->vU l[i].f0 l[i].f1 l[i].f2)/\fc (⟨t,v0,v1,v2,A,l,c⟩:gH) n fo fp fq ((l.take k).map l9) br a8 w wr) (fun i _ _=>l.length-(intOf i).toNat)
    case atStart=>exact ⟨0,none,0,af,rfl,rfl,fun i _ h=>af,cT.out⟩
    case round =>
     clear cT q6;obtain ⟨k,br,a8,hk,rfl,rfl,nV,Lk⟩:=hrel;obtain ⟨m,hm⟩:=aE ((l.take k).map l9);rw [hm] at Lk
     have ag:=J hm;have cT:=J Lk;have Rc:=J nV;have pw:m.length=k:=by rw [<- hm,lJ,fv];omega
     have nY:=J pw;have r7:m.length<=128:=af;clear hm Lk nV pw
     by_cases aT:k<l.length
     ·have cg:decide ((k:Int)<(l.length:Int))=true:=bO af
      have lG:(k:Int)<(l.length:Int):=af;obtain ⟨b,off,rfl,_,g0,g1,g2,g3⟩:=(bx.below cT.d.aR).yM aT;have HE:=J (aaM.out _ (iO aT));have o7:=J (show (l.take (k+1)).map l9=m++[l9 l[k]] by rw [gS aT,nQ,ag.out];rfl);have yW:=J (fun h:q5 ⟨t,v0,v1,v2,some ⟨b,off,none⟩,l,c⟩=>(h.ok k aT aT).k);have vR:=J (fun h:vU l[k].f0 l[k].f1 l[k].f2=>(fun i hi ah=>by
       rcases gB i k with aw|aw
       ·exact Rc.out i hi aw
       ·obtain rfl:i=k:=by omega
        exact h:∀ i (hi:i<l.length),i<k+1->vU l[i].f0 l[i].f1 l[i].f2))
      generalize l[k]=g at *
      have Re:Hid (g.f0<18446744073709551616/\g.f1<18446744073709551616/\g.f2<18446744073709551616):=⟨HE.aI,HE.h1,HE.ah⟩
      obtain ⟨x,y,z,aB⟩:∃ x y z,Hid (dW g.f0=x/\dW g.f1=y/\dW g.f2=z):=⟨_,_,_,⟨rfl,rfl,rfl⟩⟩
      have oS:=J (show l9 g=⟨g.id,x,y,z⟩ by unfold l9;rw [aB.1,aB.2.1,aB.2.2]);obtain ⟨aaN,Rf⟩:=aE (kg (eu g.f0)&&(kg (eu g.f1)&&kg (eu g.f2)));have HF:=J Rf;clear Rf HE ag;have EJ:=J (ar.new wr 143 vV)
      go_wp2_with (refine ch rfl 143 (.tmp 8) (.tmp 42) rfl wr.heap.size 143 vV g.cells rfl rfl EJ.out rfl Hv (Hw g) ?_;intro bc tS et c7;have cT:=J (cT.fresh et);have hP:=J tS;have yS:∀ i,bc.cell? ⟨wr.heap.size,i,none⟩=(#[.string g.id,.float .f64 g.f0,.float .f64 g.f1,.float .f64 g.f2]:Array Value)[i]?:=hP.cell;clear tS et c7)
      clear EJ g0 g1 g2 g3;generalize wr.heap.size=aaO at *
      cases aaN
      ·refine (Q5 Re aB HF _).mono ?_;rintro e bm ⟨rfl,hb⟩
       have cT:=J (cT.below hb);have hP:=J (hP.bw hb);clear hb yS;have lQ:=J (ar.new bm 23 #[.i 0,.i 0,.i 0]);obtain rfl:v=false:=Hy yV.out fun h=>by have:=Q1 (yW.out h);rw [HF.out] at this;cases this
       go_wp2_with (first|(refine ch rfl 23 (.tmp 9) (.tmp 47) rfl bm.heap.size 23 #[.i 0,.i 0,.i 0] #[.i 0,.i 0,.i 0] rfl rfl lQ.out rfl xr cc ?_;intro bU lp et c7;have cT:=J (cT.fresh et);have bq:=J cT.d;clear lp et c7)|(refine ch rfl 136 (.tmp 2) (.tmp 51) rfl (w.heap.size+1) 136 #[.i 0,.i 0,.i 0,.i 0,.slice none 0 0] #[.i 0,.i 0,.i 0,.i 0,.slice none 0 0] rfl rfl bq.fg rfl pG cc ?_;intro bc bS bP dx))
       have dn:∀ i,bc.cell? ⟨w.heap.size+1,i,none⟩=(#[.i 0,.i 0,.i 0,.i 0,.slice none 0 0]:Array Value)[i]?:=bS.cell
       exact cS (v:=.tuple #[.agg #[.i 0,.i 0,.i 0,.i 0,.slice none 0 0],.i 1]) (by simp [results,results154,go_sem,dn]) rfl ⟨rfl,bq.aR.grown bP bq.aR.size dP⟩
      ·refine (Q3 Re aB HF _).mono ?_;rintro e bm ⟨rfl,hb⟩
       have cT:=J (cT.below hb);have hP:=J (hP.bw hb);clear hb yS;have lQ:=J (ar.new bm 23 #[.i 0,.i 0,.i 0]);have vR:=J (vR.out (Q2 HF))
       go_wp2_with (first|(refine ch rfl 23 (.tmp 9) (.tmp 47) rfl bm.heap.size 23 #[.i 0,.i 0,.i 0] #[.i x,.i y,.i z] rfl rfl lQ.out rfl xr cc ?_;intro bU lp et c7;have cT:=J (cT.fresh et);have hP:=J ((hP.alloc _).grown et (by have:=hP.lt;intro e;injection e with e;omega));have bs:=J lp;have yS:∀ i,bU.cell? ⟨aaO,i,none⟩=(#[.string g.id,.float .f64 g.f0,.float .f64 g.f1,.float .f64 g.f2]:Array Value)[i]?:=hP.cell;have ks:∀ i,bU.cell? ⟨bm.heap.size,i,none⟩=(#[.i x,.i y,.i z]:Array Value)[i]?:=bs.cell;have cs:∀ i,bU.cell? ⟨n,i,none⟩=(#[.i t,.i fo,.i fp,.i fq,.slice br m.length a8]:Array Value)[i]?:=cT.kw.cell;clear lp et c7)|(at_builtin;refine Am aau jA rfl (.tmp 53) (.tmp 58) rfl (⟨g.id,x,y,z⟩:dJ) (⟨g.id,x,y,z⟩:dJ).cells rfl w.heap.size _ m rfl cT.own rfl rfl cT.d.aR af af cT.d.aR.size ?_;intro b5 fP b3 ho hb az;have C8:=J (cT.push az hb);have kV:=J (wX ho);have akl:b3.cell? ⟨n,4,none⟩=some (.slice br m.length a8):=C8.kw.cell 4;have akm:b3.frozen? ⟨n,4,none⟩=false:=C8.kw.frozen 4;clear ho hb az yS ks cs))
       go_roundw
       case rel=>exact ⟨k+1,b5,fP,af,cm,rfl,vR.out,by rw [o7.out,oS.out];have:=C8.stored kV.out;rwa [cd] at this⟩
       case measure=>exact c4
     ·obtain rfl:k=l.length:=by omega
      have cg:decide ((l.length:Int)<(l.length:Int))=false:=av;have C9:=J (show q5 ⟨t,v0,v1,v2,A,l,c⟩ from ⟨by show l.length<=128;omega,Q2 su.out,aaI Rc.out gm.out⟩);obtain rfl:v=true:=yV.2 C9.out;have cs:∀ i,wr.cell? ⟨n,i,none⟩=(#[.i t,.i fo,.i fp,.i fq,.slice br m.length a8]:Array Value)[i]?:=cT.kw.cell
      go_wp2_with fail;refine (aaP m br a8 _ w.heap.size cT.own af).mono ?_;rintro e bm ⟨rfl,aaQ,hp,lK,ho,az⟩;obtain rfl:aaQ=kh l:=aaK C9.out (by rw [kn] at ag;rw [ag.out];exact hp) lK;have fE:=J (show m.length=(kh l).length from hp.length_eq.symm);have yX:=J (cT.iq az);have bJ:=J ho;clear hp lK ho az cs;have cs:∀ i,bm.cell? ⟨n,i,none⟩=(#[.i t,.i fo,.i fp,.i fq,.slice br m.length a8]:Array Value)[i]?:=yX.kw.cell
      go_wp2_with (refine ch rfl 136 (.tmp 2) (.tmp 65) rfl (w.heap.size+1) 136 #[.i 0,.i 0,.i 0,.i 0,.slice none 0 0] #[.i t,.i fo,.i fp,.i fq,.slice br m.length a8] rfl rfl yX.d.fg rfl pG cc ?_;intro bU bS bP dx)
      have dn:∀ i,bU.cell? ⟨w.heap.size+1,i,none⟩=(#[.i t,.i fo,.i fp,.i fq,.slice br m.length a8]:Array Value)[i]?:=bS.cell
      have jS:=J (bJ.grown bP (.inr (bJ.fK yX.d.fg ak).symm));have gf:=J (yX.d.aR.grown bP yX.d.aR.size dP);exact cS (v:=.tuple #[.agg #[.i t,.i fo,.i fp,.i fq,.slice br m.length a8],.i 0]) (by simp [results,results154,go_sem,dn]) rfl ⟨br,a8,by rw [<- fE.out],jS.out,gf.out⟩
theorem aaR {r:gH} {v:Bool} (hv:v=true↔q5 r) (w:World) (hr:r.fe w) :
  Calls prog 154 #[.agg r.cells] w (Q8 r.time (dW r.v0) (dW r.v1) (dW r.v2) (kh r.uses) w v):=Q9 w hv hr rfl rfl rfl
structure jd.aeh (o:jd):Prop where
 lL:1<=o.name.size
 n2:o.name.size<=32
 t1:o.kind=2->1<=o.xR.size
 t2:o.kind=2->o.xR.size<=32
theorem SC (S:Nat->Prop) (aJ:Nat) (fs:di) (o:jd) (bi:o.Ok) (hn:o.aeh) (A:Option Addr) (c:Nat) (w:World) (hs:dw S w) (hA:Plain A) (hr:a7 w cO A o.bytes) (h:jn S w aJ fs) :
  Calls prog 156 #[.pointer (some ⟨aJ,0,none⟩),.agg #[.i o.kind,.string o.name,.string o.xR,.slice A o.bytes.length c]] w fun e w'=>e=.returned (.i 0)/\rr S w' aJ fs [o]/\cB (fun j=>j=aJ) w w':=by
 obtain ⟨aN,hd⟩:=h;have key:Calls prog 156 #[.pointer (some ⟨aJ,0,none⟩),.agg #[.i o.kind,.string o.name,.string o.xR,.slice A o.bytes.length c]] w (MN S aJ aN fs o.kind o.name o.xR o.bytes w):=by
  by_cases ah:o.kind=2
  ·have:=aei S aJ aN fs o.name o.xR o.bytes A c w (hn.t1 ah) (hn.t2 ah) hn.lL hn.n2 bi.len hA hr hd.ab.ab hd.map
   rwa [<- ah] at this
  ·refine aej S aJ aN fs o.kind o.name o.xR o.bytes A c w ?_ hn.lL hn.n2 bi.len hA hr hd.ab.ab hd.map
   rcases bi.kind with h|h|h
   ·exact .inl h
   ·exact absurd h ah
   ·exact .inr h
 refine key.mono ?_;rintro e w' ⟨rfl,A2,c2,hB,dG,hb,ho,hm,hy,aek⟩;exact ⟨rfl,⟨aN,hB,dG,[⟨o.kind,o.name,o.xR,A2,o.bytes.length,c2⟩],⟨⟨hb,hd.ab.ins⟩,hm,⟨⟨bi,rfl,rfl,rfl,rfl,b7.jU hs hy aF⟩,trivial⟩,b7.jU hs ho aF⟩⟩,aek⟩
end Go.Proofs.YtmmchlfoplcnbaaGreatDoor
