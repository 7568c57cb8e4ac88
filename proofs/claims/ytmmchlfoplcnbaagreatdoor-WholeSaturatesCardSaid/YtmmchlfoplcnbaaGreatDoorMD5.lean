/- A part of the walk. -/
import Derived.Test.YtmmchlfoplcnbaaGreatDoorMC6
import Derived.Test.YtmmchlfoplcnbaaGreatDoorMD0
import Derived.Test.YtmmchlfoplcnbaaGreatDoorMD3
namespace Go.Proofs.YtmmchlfoplcnbaaGreatDoor
open Go Go.RowKit Tryz
set_option linter.all false
set_option maxRecDepth 100000
set_option maxHeartbeats 4000000

def XS (used:List ByteArray) (x:cf):Bool:=!hasB used x.name
def PP (x y:cf):Bool:=!X4 y x
def PQ (l:List cf):List cf:=l.mergeSort PP
def Ay (l:List cf) (used:List ByteArray):List cf:=PQ (l.filter (XS used))
theorem Xz (l:List cf):(PQ l).length=l.length:=(AF l PP).length_eq
where ajW {α:Type} {l:List α} (f:α->Bool) (h:l.Nodup):(l.filter f).Nodup:=List.Pairwise.filter f h
def Xy (dS:List Bool) (k:Nat):Bool:=match dS[k]? with|none=>true|some b=>b
def tv (o:List cf) (dS:List Bool):Nat->List ByteArray×Int
 | 0=>([],0)
 | k+1=>match o[k]? with
  | none=>tv o dS k
  | some x=>if Xy dS k=true then ((tv o dS k).1++[x.name],eg (tv o dS k).2 x.size) else tv o dS k
theorem Pr (l:List cf) (used:List ByteArray):(Ay l used).length<=l.length:=by
 unfold Ay;rw [Xz];exact tx _ _
theorem Zh (dK c8 dT hj jt:Value) (w:World):(Instr.field 35 (.agg #[dK,c8,dT,hj,jt]) 1).run prog w=.ok c8 w:=ai
attribute [go_sem] Zh
theorem Zi {l:List bj} (hs:fB l) {k:Nat} (hk:k<l.length):dQ l l[k].aa.id=k :=
 yf _ l k af (fun t ht h=>hs t k h hk) (fun t ht h=>by
  rcases gB k t with h1|h1
  ·cases ah:blt l[t].aa.id l[k].aa.id
   ·rfl
   ·have:=jY ah (hs k t h1 ht)
    rw [ms] at this;cases this
  ·obtain rfl:t=k:=by omega
   exact ms _)
theorem Zj {l:List bj} (hs:fB l) {k:Nat} (hk:k<l.length):ij l l[k].aa.id=true:=by
 unfold ij;rw [Zi hs hk,dF hk];simp
def vJ (l:List bj) (s:ByteArray):List bj:=l.filter fun x=>!(x.aa.id.toList==s.toList)
theorem K4 {l:List bj} {s:ByteArray} (h:∀ x∈l,x.aa.id≠s):vJ l s=l:=List.filter_eq_self.2 fun x hx=>by
 cases e:(x.aa.id.toList==s.toList)
 ·rfl
 ·exact absurd (toList_inj e) (h x hx)
theorem AP {l:List bj} {s:ByteArray} (hs:fB l):vJ l s=im l s:=by
 unfold im
 cases dz:ij l s
 ·rw [bp av]
  refine K4 fun x hx e=>?_
  obtain ⟨i,hi,rfl⟩:=pj hx;subst e;rw [Zj hs hi] at dz;cases dz
 ·rw [bB rfl]
  obtain ⟨hi,he⟩:=yG dz;generalize dQ l s=i at *
  subst he;unfold nz;have e:l=l.take i++l[i] :: l.drop (i+1):=by rw [<- Aq hi,p1]
  have h1:vJ (l.take i) l[i].aa.id=l.take i:=K4 fun x hx bE=>by
   obtain ⟨j,aD,rfl⟩:=K5.1 hx;have:=hs j i af hi;rw [bE,ms] at this;cases this
  have ah:vJ (l.drop (i+1)) l[i].aa.id=l.drop (i+1):=K4 fun x hx bE=>by
   obtain ⟨j,aD,rfl⟩:=K6.1 hx;have:=hs i (i+1+j) af af;rw [bE,ms] at this;cases this
  have aw:vJ l l[i].aa.id=vJ (l.take i) l[i].aa.id++vJ (l[i] :: l.drop (i+1)) l[i].aa.id:=by
   conv=>lhs;arg 1;rw [e]
   unfold vJ;rw [vD]
  rw [aw,h1]
  congr 1
  show List.filter _ _=_
  rw [List.filter_cons_of_neg av];exact ah
def r9:List bj->bj->List bj
 | [],u=>[u]
 | x :: l,u=>if blt u.aa.id x.aa.id=true then u :: x :: l else x :: r9 l u
theorem YU (l:List bj) (u:bj):(r9 l u).length=l.length+1:=by
 induction l with
 | nil=>rfl
 | cons x l b6=>unfold r9;split <;> simp [b6]
theorem Zk {l:List bj} {u:bj} (hs:fB l) (hn:∀ x∈l,x.aa.id≠u.aa.id):r9 l u=nU l (dQ l u.aa.id) u:=by
 induction l with
 | nil=>rfl
 | cons x l b6 =>
  have fY:fB l:=fun i j gO aD=>by have:=hs (i+1) (j+1) af (by simpa using aD);simpa using this
  unfold r9
  cases hb:blt u.aa.id x.aa.id
  ·have Zl:blt x.aa.id u.aa.id=true:=by
    cases ah:blt x.aa.id u.aa.id
    ·exact absurd (r8 ah hb) (hn x av)
    ·rfl
   rw [bp av,b6 fY fun y hy=>hn y (by simp [hy])];have:dQ (x :: l) u.aa.id=dQ l u.aa.id+1:=by unfold dQ;exact Kl (p:=fun z:bj=>blt z.aa.id u.aa.id) Zl
   rw [this];unfold nU;simp
  ·rw [bB rfl]
   have:dQ (x :: l) u.aa.id=0:=by
    unfold dQ;rw [List.countP_eq_zero];intro y hy
    rcases fb.1 hy with rfl|hy
    ·cases ah:blt y.aa.id u.aa.id
     ·simp
     ·have:=jY hb ah;rw [ms] at this;cases this
    ·obtain ⟨t,ht,rfl⟩:=pj hy
     have aw:=hs 0 (t+1) af (by simpa using ht);simp only [yJ,K7] at aw
     cases ah:blt l[t].aa.id u.aa.id
     ·simp
     ·have:=jY (jY hb aw) ah;rw [ms] at this;cases this
   rw [this]
   rfl
theorem Hl {l:List bj} {i t:Nat} (hi:i<l.length) (ht:t<(nz l i).length):∃ t',∃ h:t'<l.length,(nz l i)[t]=l[t']/\t'=if t<i then t else t+1:=by
 have hl:=GJ l i hi;have key:(nz l i)[t]? = l[if t<i then t else t+1]?:=by
  unfold nz;rw [List.getElem?_append,fv,oF af]
  split
  ·rw [GM,bB As]
  ·rw [GL];congr 1;omega
 have hb:(if t<i then t else t+1)<l.length:=by split <;> omega
 refine ⟨_,hb,?_,rfl⟩;rw [dF ht,dF hb] at key
 exact Option.some.inj key
theorem Zm {l:List bj} (hs:fB l) {i:Nat} (hi:i<l.length):fB (nz l i):=fun a b vK hb=>by
 obtain ⟨a',Qv,K8,qd⟩:=Hl hi (by omega:a<(nz l i).length);obtain ⟨b',oO,q0,bY⟩:=Hl hi hb;rw [K8,q0];exact hs a' b' (by split at qd <;> split at bY <;> omega) oO
theorem Hd {l:List bj} (hs:fB l) (s:ByteArray):fB (im l s):=by
 unfold im
 split
 ·rename_i h
  exact Zm hs (yG h).1
 ·exact hs
theorem Qn {l:List bj} (hs:fB l) (s:ByteArray):∀ x∈im l s,x.aa.id≠s:=fun x hx e=>by
 rw [<- AP hs] at hx
 have:=(vI.1 hx).2;rw [e] at this;simp at this
theorem Zn {l:List bj} {i:Nat} (hi:i<l.length) (e:bj):nU (nz l i) i e=l.set i e:=by
 unfold nU nz;rw [KJ,bB hi];have h1:(l.take i).length=i:=by rw [fv];omega
 rw [D7 af,List.drop_append_of_le_length af,vu,Nat.min_self,D3 af]
 rfl
theorem KW {l:List bj} (hs:fB l) (e:bj):r9 (vJ l e.aa.id) e=fZ l e:=by
 rw [AP hs,Zk (Hd hs _) (Qn hs _)];unfold im fZ
 cases dz:ij l e.aa.id
 ·rfl
 ·rw [bB rfl,bB rfl]
  obtain ⟨hi,he⟩:=yG dz;have hl:dQ (nz l (dQ l e.aa.id)) e.aa.id=dQ l e.aa.id:=by
   have hlen:=GJ l (dQ l e.aa.id) hi;generalize dQ l e.aa.id=i at *
   refine yf _ _ i af (fun t ht h=>?_) (fun t ht h=>?_)
   ·obtain ⟨t',Qw,K9,ah⟩:=Hl hi ht
    rw [K9,<- he];exact hs t' i (by rw [bB h] at ah;omega) hi
   ·obtain ⟨t',Qw,K9,ah⟩:=Hl hi ht
    rw [bp af] at ah
    rw [K9]
    cases aw:blt l[t'].aa.id e.aa.id
    ·rfl
    ·have bn:=hs i t' af Qw
     rw [he] at bn
     have:=jY bn aw;rw [ms] at this;cases this
  rw [hl,Zn hi]
theorem Zo (d:Nat) (a b c x y z:Bool) (w:World):(Op.equalIn (d+2) 33 (.agg #[.bool a,.bool b,.bool c]) (.agg #[.bool x,.bool y,.bool z])).run prog w=.ok ((a==x)&&((b==y)&&(c==z))) w:=by
 have hu:=mn (P:=prog) underlying33 w;have hs:(sizeOf 4).run prog w=.ok 1 w:=ai;have key:∀ p q:Bool,(Op.equalIn (d+1) 4 (.bool p) (.bool q)).run prog w=.ok (p==q) w:=fun p q=>run_equalIn_bool' w d _ _ _ underlying4
 unfold Op.equalIn;simp only [kN,hu,pZ,hs];have h5:∀ (u v t:Value),(part 4 #[u,v,t] 0).run prog w=.ok u w:=fun u v t=>ai
 have dc:∀ (u v t:Value),(part 4 #[u,v,t] 1).run prog w=.ok v w:=fun u v t=>ai
 have gl:∀ (u v t:Value),(part 4 #[u,v,t] 2).run prog w=.ok t w:=fun u v t=>ai
 rw [GO];simp only [show Std.Legacy.Range.size [:3]=3 from rfl,List.range',GP,kN,fw,nW,h5,pZ,key]
 cases h1:(a==x)
 ·simp [nv]
 ·cases ah:(b==y)
  ·simp [nv,kN,dc,key,ah]
  ·cases aw:(c==z) <;> simp [nv,kN,dc,gl,key,ah,aw]
theorem Zp (a b c:Bool) (w:World):(binOp .neq 33 (.agg #[.bool a,.bool b,.bool c]) (.agg #[.bool a,.bool b,.bool c])).run prog w=.ok (.bool false) w:=by
 rw [run_neq_struct,Zo 9998];simp
attribute [go_sem high] Zp
section
open Go.ChangeShapes Go.WideShapes Go.ChangeAt
section
variable {H:Type} {enc:TypeId×Value->H} {w:World} {base:Nat} {spare:Nat->Bool} {held:Bool}
end
end

theorem gH.fe.below {r:gH} {w W:World} (h:r.fe w) (hb:Below w.heap.size w W):r.fe W:=⟨h.aI,h.h1,h.ah,h.time,h.kp.below hb,h.us,h.ids,h.len,h.cap⟩
def pH (t last round most:Int):Bool:=decide (t<=last)||(decide (round<t)||decide (most<=round-t))
theorem Rg {t last round most:Int} (h:t<=last):pH t last round most=true:=by unfold pH;simp [h]
theorem Rh {t last round most:Int} (h:round<t):pH t last round most=true:=by unfold pH;simp [h]
theorem aaW {t last round most:Int} (h:most<=round-t):pH t last round most=true:=by unfold pH;simp [h]
theorem aaX {t last round most:Int} (h1:¬ t<=last) (ah:¬ round<t) (aw:¬ most<=round-t):pH t last round most=false:=by unfold pH;simp [h1,ah,aw]
def A4 (v st:Bool):Option Int:=if v=false then some 1 else if st=true then some 8 else none
def aaY (t fo fp fq:Int) (L:List dJ) (w:World):Option Int->Ending->World->Prop
 | none,e,w'=>∃ A c,e=.returned (.tuple #[.agg #[.int .i64 t,.int .i64 fo,.int .i64 fp,.int .i64 fq,.slice A L.length c],.int .i64 0])/\Own w' w.heap.size 318 jA (.slice A L.length c) L/\Below w.heap.size w w'
 | some k,e,w'=>e=.returned (.tuple #[.agg #[.int .i64 0,.int .i64 0,.int .i64 0,.int .i64 0,.slice none 0 0],.int .i64 k])/\Below w.heap.size w w'
theorem HH {t fo fp fq last round most:Int} {v0 v1 v2 c:Nat} {A:Option Addr} {l:List gW} {v:Bool} (w:World) (hv:v=true↔q5 ⟨t,v0,v1,v2,A,l,c⟩) (hr:gH.fe ⟨t,v0,v1,v2,A,l,c⟩ w) (vW:dW v0=fo) (C5:dW v1=fp) (C6:dW v2=fq) (hl : -1<=last) (sw:0<=round) (Ri:round<=1099511627776) (hm:1<=most) (r7:most<=9223372036854775807) :
  Calls prog 94 #[.agg #[.i t,.float .f64 v0,.float .f64 v1,.float .f64 v2,.slice A l.length c],.i last,.i round,.i most] w (aaY t fo fp fq (kh l) w (A4 v (pH t last round most))):=by
 have bq:Hid (jm (⟨t,v0,v1,v2,A,l,c⟩:gH) w ((w.alloc (.cells #[.i t,.float .f64 v0,.float .f64 v1,.float .f64 v2,.slice A l.length c] 45)).alloc (.cells #[.i 0,.i 0,.i 0,.i 0,.slice none 0 0] 136))):=jm.new _ w hr.kp;have hU:Hid (gH.fe (⟨t,v0,v1,v2,A,l,c⟩:gH) ((w.alloc (.cells #[.i t,.float .f64 v0,.float .f64 v1,.float .f64 v2,.slice A l.length c] 45)).alloc (.cells #[.i 0,.i 0,.i 0,.i 0,.slice none 0 0] 136))):=hr.below bq.aR;have yV:=J hv;have cq:Hid (((w.alloc (.cells #[.i t,.float .f64 v0,.float .f64 v1,.float .f64 v2,.slice A l.length c] 45)).alloc (.cells #[.i 0,.i 0,.i 0,.i 0,.slice none 0 0] 136)).heap.size=w.heap.size+1+1):=by show _=_;simp
 have q6:∀ i,((w.alloc (.cells #[.i t,.float .f64 v0,.float .f64 v1,.float .f64 v2,.slice A l.length c] 45)).alloc (.cells #[.i 0,.i 0,.i 0,.i 0,.slice none 0 0] 136)).cell? ⟨w.heap.size,i,none⟩=(#[.i t,.float .f64 v0,.float .f64 v1,.float .f64 v2,.slice A l.length c]:Array Value)[i]?:=bq.kX.box.cell
 have qg:Hid ((-1:Int)<=last/\0<=round/\round<=1099511627776/\1<=most/\most<=9223372036854775807/\c' t):=⟨hl,sw,Ri,hm,r7,hr.time⟩
 have ht:=hr.time;clear hr hv hl sw Ri hm r7
 go_enter func94,ntmps94
 go_wp2_with fail
 cases v
 ·refine (aaR yV _ hU).mono ?_;rintro e aC ⟨rfl,hb⟩
  have bq:=J (bq.below hb);have bq:=J (bq.alloc (.cells #[.i 0,.i 0,.i 0,.i 0,.slice none 0 0] 136));clear hb q6 hU qg ht cq vW C5 C6;have cw:=bq.fg.cell 0;have f0:=bq.fg.frozen 0;have r1:=bq.fg.cell 1;have f1:=bq.fg.frozen 1;have r2:=bq.fg.cell 2;have f2:=bq.fg.frozen 2;have pg:=bq.fg.cell 3;have f3:=bq.fg.frozen 3;have vq:=bq.fg.cell 4;have f4:=bq.fg.frozen 4;simp only [s8,yQ,yC] at cw r1 r2 pg vq
  go_wp2_with fail;have Hn:=(((((bq.aR.setCell (p:=⟨w.heap.size+1,0,none⟩) (qh _) (.i 0)).setCell (p:=⟨w.heap.size+1,1,none⟩) (qh _) (.i 0)).setCell (p:=⟨w.heap.size+1,2,none⟩) (qh _) (.i 0)).setCell (p:=⟨w.heap.size+1,3,none⟩) (qh _) (.i 0)).setCell (p:=⟨w.heap.size+1,4,none⟩) (qh _) (.slice none 0 0))
  have bS:ar (((((((aC.alloc (.cells #[.i 0,.i 0,.i 0,.i 0,.slice none 0 0] 136)).setCell ⟨w.heap.size+1,0,none⟩ (.i 0)).setCell ⟨w.heap.size+1,1,none⟩ (.i 0)).setCell ⟨w.heap.size+1,2,none⟩ (.i 0)).setCell ⟨w.heap.size+1,3,none⟩ (.i 0)).setCell ⟨w.heap.size+1,4,none⟩ (.slice none 0 0))) (w.heap.size+1) 136 #[.i 0,.i 0,.i 0,.i 0,.slice none 0 0]:=by have h:=(((((bq.fg.eW 0 (.i 0)).eW 1 (.i 0)).eW 2 (.i 0)).eW 3 (.i 0)).eW 4 (.slice none 0 0));simpa using h
  have dn:=bS.cell;exact cS (v:=.tuple #[.agg #[.i 0,.i 0,.i 0,.i 0,.slice none 0 0],.i 1]) (by simp [results,results94,go_sem,dn]) rfl ⟨rfl,Hn⟩
 ·refine (Q9 _ yV hU vW C5 C6).mono ?_;rintro e aC ⟨As,cs,rfl,ho,hb⟩
  obtain ⟨tT,kc⟩:=aE ((kh l).length);have xt:=J kc;rw [kc] at ho
  rw [kc];clear kc;have bq:=J (bq.below hb);have lQ:=J (ar.new aC 136 #[.i 0,.i 0,.i 0,.i 0,.slice none 0 0]);have bJ:=J (ho.mono (by have:=cq.out;omega:w.heap.size<=_));clear ho hb q6 vW C5 C6
  by_cases h1:t<=last
  ·have d1:decide (t<=last)=true:=bO h1
   have hT:=J (Rg (last:=last) (round:=round) (most:=most) h1);clear h1
   go_wp2_with (first|(refine ch rfl 136 (.tmp 10) (.tmp 15) rfl aC.heap.size 136 #[.i 0,.i 0,.i 0,.i 0,.slice none 0 0] #[.i t,.i fo,.i fp,.i fq,.slice As tT cs] rfl rfl lQ.out rfl pG cc ?_;intro aM lp et c7;have bJ:=J ((bJ.alloc _).grown et (.inr fun e=>by have:=(bJ.iw _ e).2;omega));have bq:=J (bq.fresh et);have bs:=J lp;have ks:∀ i,aM.cell? ⟨aC.heap.size,i,none⟩=(#[.i t,.i fo,.i fp,.i fq,.slice As tT cs]:Array Value)[i]?:=bs.cell;clear lp et c7)|(refine ch rfl 136 (.tmp 8) (.tmp 39) rfl (w.heap.size+1) 136 #[.i 0,.i 0,.i 0,.i 0,.slice none 0 0] #[.i 0,.i 0,.i 0,.i 0,.slice none 0 0] rfl rfl bq.fg rfl pG cc ?_;intro bU bS bP dx))
   have dn:∀ i,bU.cell? ⟨w.heap.size+1,i,none⟩=(#[.i 0,.i 0,.i 0,.i 0,.slice none 0 0]:Array Value)[i]?:=bS.cell
   have gf:=J (bq.aR.grown bP bq.aR.size (by intro k hk;cases hk;exact qh _));exact cS (v:=.tuple #[.agg #[.i 0,.i 0,.i 0,.i 0,.slice none 0 0],.i 8]) (by simp [results,results94,go_sem,dn]) rfl (by rw [hT.out];exact ⟨rfl,gf.out⟩)
  ·have d1:decide (t<=last)=false:=cX h1
   by_cases ah:round<t
   ·have d2:decide (round<t)=true:=bO ah
    have hT:=J (Rh (last:=last) (most:=most) ah);clear h1 ah
    go_wp2_with (first|(refine ch rfl 136 (.tmp 10) (.tmp 15) rfl aC.heap.size 136 #[.i 0,.i 0,.i 0,.i 0,.slice none 0 0] #[.i t,.i fo,.i fp,.i fq,.slice As tT cs] rfl rfl lQ.out rfl pG cc ?_;intro aM lp et c7;have bJ:=J ((bJ.alloc _).grown et (.inr fun e=>by have:=(bJ.iw _ e).2;omega));have bq:=J (bq.fresh et);have bs:=J lp;have ks:∀ i,aM.cell? ⟨aC.heap.size,i,none⟩=(#[.i t,.i fo,.i fp,.i fq,.slice As tT cs]:Array Value)[i]?:=bs.cell;clear lp et c7)|(refine ch rfl 136 (.tmp 8) (.tmp 39) rfl (w.heap.size+1) 136 #[.i 0,.i 0,.i 0,.i 0,.slice none 0 0] #[.i 0,.i 0,.i 0,.i 0,.slice none 0 0] rfl rfl bq.fg rfl pG cc ?_;intro bU bS bP dx))
    have dn:∀ i,bU.cell? ⟨w.heap.size+1,i,none⟩=(#[.i 0,.i 0,.i 0,.i 0,.slice none 0 0]:Array Value)[i]?:=bS.cell
    have gf:=J (bq.aR.grown bP bq.aR.size (by intro k hk;cases hk;exact qh _));exact cS (v:=.tuple #[.agg #[.i 0,.i 0,.i 0,.i 0,.slice none 0 0],.i 8]) (by simp [results,results94,go_sem,dn]) rfl (by rw [hT.out];exact ⟨rfl,gf.out⟩)
   ·have d2:decide (round<t)=false:=cX ah
    have cG:wrap64 (round-t)=round-t:=by have:=qg.out;unfold wrap64;omega
    by_cases aw:most<=round-t
    ·have d3:decide (most<=round-t)=true:=bO aw
     have hT:=J (aaW (last:=last) aw);clear h1 ah aw
     go_wp2_with (first|(refine ch rfl 136 (.tmp 10) (.tmp 15) rfl aC.heap.size 136 #[.i 0,.i 0,.i 0,.i 0,.slice none 0 0] #[.i t,.i fo,.i fp,.i fq,.slice As tT cs] rfl rfl lQ.out rfl pG cc ?_;intro aM lp et c7;have bJ:=J ((bJ.alloc _).grown et (.inr fun e=>by have:=(bJ.iw _ e).2;omega));have bq:=J (bq.fresh et);have bs:=J lp;have ks:∀ i,aM.cell? ⟨aC.heap.size,i,none⟩=(#[.i t,.i fo,.i fp,.i fq,.slice As tT cs]:Array Value)[i]?:=bs.cell;clear lp et c7)|(refine ch rfl 136 (.tmp 8) (.tmp 39) rfl (w.heap.size+1) 136 #[.i 0,.i 0,.i 0,.i 0,.slice none 0 0] #[.i 0,.i 0,.i 0,.i 0,.slice none 0 0] rfl rfl bq.fg rfl pG cc ?_;intro bU bS bP dx))
     have dn:∀ i,bU.cell? ⟨w.heap.size+1,i,none⟩=(#[.i 0,.i 0,.i 0,.i 0,.slice none 0 0]:Array Value)[i]?:=bS.cell
     have gf:=J (bq.aR.grown bP bq.aR.size (by intro k hk;cases hk;exact qh _));exact cS (v:=.tuple #[.agg #[.i 0,.i 0,.i 0,.i 0,.slice none 0 0],.i 8]) (by simp [results,results94,go_sem,dn]) rfl (by rw [hT.out];exact ⟨rfl,gf.out⟩)
    ·have d3:decide (most<=round-t)=false:=cX aw
     have hT:=J (aaX h1 ah aw);clear h1 ah aw
     go_wp2_with (first|(refine ch rfl 136 (.tmp 10) (.tmp 15) rfl aC.heap.size 136 #[.i 0,.i 0,.i 0,.i 0,.slice none 0 0] #[.i t,.i fo,.i fp,.i fq,.slice As tT cs] rfl rfl lQ.out rfl pG cc ?_;intro aM lp et c7;have bJ:=J ((bJ.alloc _).grown et (.inr fun e=>by have:=(bJ.iw _ e).2;omega));have bq:=J (bq.fresh et);have bs:=J lp;have ks:∀ i,aM.cell? ⟨aC.heap.size,i,none⟩=(#[.i t,.i fo,.i fp,.i fq,.slice As tT cs]:Array Value)[i]?:=bs.cell;clear lp et c7)|(refine ch rfl 136 (.tmp 8) (.tmp 40) rfl (w.heap.size+1) 136 #[.i 0,.i 0,.i 0,.i 0,.slice none 0 0] #[.i t,.i fo,.i fp,.i fq,.slice As tT cs] rfl rfl bq.fg rfl pG cc ?_;intro bU bS bP dx))
     have dn:∀ i,bU.cell? ⟨w.heap.size+1,i,none⟩=(#[.i t,.i fo,.i fp,.i fq,.slice As tT cs]:Array Value)[i]?:=bS.cell
     have gf:=J (bq.aR.grown bP bq.aR.size (by intro k hk;cases hk;exact qh _));have jS:=J (bJ.grown bP (.inr (bJ.fK bq.fg ak).symm));exact cS (v:=.tuple #[.agg #[.i t,.i fo,.i fp,.i fq,.slice As tT cs],.i 0]) (by simp [results,results94,go_sem,dn]) rfl (by rw [hT.out];exact ⟨As,cs,by rw [xt.out],by rw [xt.out];exact jS.out,gf.out⟩)
section
variable {S:Nat->Prop} {w w':World} {aJ aN:Nat} {A:Option Addr} {c:Nat} {fs L4:di} {l:List jd} {R:List pL}
theorem ru.pM {B:Nat} {t:TypeId} {cs:Array Value} (h:ru S w aJ aN A c fs l R) (hb:ar w B t cs):B≠aN:=by
 obtain ⟨es,clock,r7,_⟩:=h.map.ex;exact fun e=>hb.pM r7 e
end
abbrev BB (B aJ:Nat):Array Value:=#[.func (.func 155) #[] #[.pointer (some ⟨B,0,none⟩),.pointer (some ⟨B+1,0,none⟩)],.func (.func 157) #[.pointer (some ⟨aJ,0,none⟩)] #[],.func (.func 158) #[] #[.pointer (some ⟨B,0,none⟩)],.func (.func 159) #[] #[.pointer (some ⟨B,0,none⟩)]]
abbrev Dt (w:World) (ps aJ:Nat) (A:Option Addr) (n c:Nat):World:=((w.alloc (.cells #[.pointer (some ⟨ps,0,none⟩)] 133)).alloc (.cells #[.slice A n c] 87)).alloc (.cells (BB w.heap.size aJ) 1)
theorem SA (ps aJ:Nat) (ew:Int) (A:Option Addr) (n c:Nat) (w:World) (hb:ar w ps 187 #[.pointer (some ⟨aJ,0,none⟩),.i ew]) :
  Calls prog 95 #[.pointer (some ⟨ps,0,none⟩),.slice A n c] w fun e w'=>e=.returned (.slice (some ⟨w.heap.size+2,0,none⟩) 4 4)/\w'=Dt w ps aJ A n c:=by
 have h1:=hb.bw (((aO w.heap.size w).alloc aF (.cells #[.pointer (some ⟨ps,0,none⟩)] 133)));have ah:=h1.bw (((aO _ _).alloc aF (.cells #[.slice A n c] 87)));have eo:=ah.cell;clear hb h1 ah
 go_enter func95,ntmps95
 go_wp2_with fail;go_ret;exact ⟨rfl,rfl⟩
structure oo (B ps aJ:Nat) (ew:Int) (A:Option Addr) (c:Nat) (l:List UInt8) (base:Nat) (W:World):Prop where
 dV:ar W B 133 #[.pointer (some ⟨ps,0,none⟩)]
 eQ:ar W (B+1) 87 #[.slice A l.length c]
 st:ar W ps 187 #[.pointer (some ⟨aJ,0,none⟩),.i ew]
 cg:∃ cs,ar W aJ 161 cs
 BC:Own W base 5 cO (.slice A l.length c) l
section
variable {B ps aJ:Nat} {ew:Int} {A:Option Addr} {c:Nat} {l:List UInt8} {base:Nat} {W W':World}
theorem oo.below (h:oo B ps aJ ew A c l base W) (hb:Below W.heap.size W W'):oo B ps aJ ew A c l base W':=by
 obtain ⟨cs,hd⟩:=h.cg;exact ⟨h.dV.bw hb,h.eQ.bw hb,h.st.bw hb,⟨cs,hd.bw hb⟩,h.BC.below hb aF⟩
theorem oo.drew (h:oo B ps aJ ew A c l base W):oo B ps aJ ew A c l base W.drew:=h.below (Bm W)
theorem oo.only (h:oo B ps aJ ew A c l base W) (ho:cB (fun j=>j=aJ) W W') (hd:∃ cs,ar W' aJ 161 cs):oo B ps aJ ew A c l base W':=by
 obtain ⟨cs,hk⟩:=h.cg;exact ⟨h.dV.only ho fun e=>h.dV.fK hk ak e,h.eQ.only ho fun e=>h.eQ.fK hk ak e,h.st.only ho fun e=>h.st.fK hk ak e,hd,h.BC.only ho fun k oI e=>h.BC.sD hk ak k oI e⟩
end
theorem rr.cg {S:Nat->Prop} {w:World} {aJ:Nat} {fs:di} {l:List jd} (h:rr S w aJ fs l):∃ cs,ar w aJ 161 cs:=by
 obtain ⟨aN,A,c,R,hd⟩:=h;exact ⟨_,hd.ab.ab⟩
abbrev qp:ByteArray:=⟨#[116,101,109,112]⟩
abbrev uf:ByteArray:=⟨#[109,97,105,110]⟩
theorem Iu:1<=qp.size/\qp.size<=32:=ak
theorem SB:1<=uf.size/\uf.size<=32:=ak
theorem ac1 (S:Nat->Prop) (B ps aJ:Nat) (ew:Int) (A:Option Addr) (c:Nat) (l:List UInt8) (hl:l.length<=3000000) (base:Nat) (fs:di) (w:World) (hs:dw S w) (bd:oo B ps aJ ew A c l base w) (hd:jn S w aJ fs) :
  Calls prog 155 #[.pointer (some ⟨B,0,none⟩),.pointer (some ⟨B+1,0,none⟩)] w fun e w'=>e=.returned (.tuple #[])/\rr S w' aJ fs [⟨1,qp,⟨#[]⟩,l⟩]/\oo B ps aJ ew A c l base w'/\cB (fun j=>j=aJ) w w':=by
 have mixed:prog.follows Departure.mixedOrders=true:=ai;have ao:=J bd;have bq:=J (hd.below (Bm w));have Ml:=J (hs.size (w':=w.drew) aF);have nG:=J bd.BC.plain;have cT:=J hl;clear bd hd hs hl
 go_enter func155,ntmps155
 go_wp2_with fail;have ao:=J ao.drew;refine wp_region_held_drew (S:=fun w'=>w'.cell? ⟨B,0,none⟩=some (.pointer (some ⟨ps,0,none⟩))/\w'.cell? ⟨ps,0,none⟩=some (.pointer (some ⟨aJ,0,none⟩))/\w'.cell? ⟨B+1,0,none⟩=some (.slice A l.length c)) ai (ae (ao.dV.cell 0) (ae (ao.st.cell 0) (ao.eQ.cell 0))) (fun hHeld=>?_);obtain ⟨wd,aG⟩:=aE w.drew;rw [aG] at ao bq Ml hHeld ⊢
 have qg:Hid (Below w.heap.size w wd):=by rw [<- aG];exact Bm w
 clear aG;refine aj 0 ?_;refine aj 1 ?_;refine aj 2 ?_;refine aj 3 ?_;refine aj 4 ?_;refine aj 5 ?_;refine dR 6 8 rfl rfl ai aH (fun K hK=>?_);go_simp;refine (SC S aJ fs ⟨1,⟨#[116,101,109,112]⟩,⟨#[]⟩,l⟩ ⟨.inl rfl,cT.out⟩ ⟨Iu.1,Iu.2,fun e=>by simp at e,fun e=>by simp at e⟩ A c wd Ml nG ao.BC.cZ bq).mono ?_;rintro e aM ⟨rfl,mF,e9⟩;have ao:=J (ao.only e9 mF.cg);have iE:=J mF;have jk:=J ((cB.dL (fun j=>j=aJ) qg).trans e9 fun _ _ e=>e);clear mF e9;refine hK _ _ (ae (ao.dV.cell 0) (ae (ao.st.cell 0) (ao.eQ.cell 0))) ?_;clear hK K hHeld;simp only [Act.put,aY,aZ,a1];refine wpAnyH_done ai ?_ _;go_wp2_with fail
 go_end0
 exact ⟨rfl,iE.out,ao.out,jk.out⟩
theorem ac2 (S:Nat->Prop) (B ps aJ:Nat) (ew:Int) (A:Option Addr) (c:Nat) (l:List UInt8) (base:Nat) (fs:di) (w:World) (hs:dw S w) (bd:oo B ps aJ ew A c l base w) (hd:jn S w aJ fs) :
  Calls prog 158 #[.pointer (some ⟨B,0,none⟩)] w fun e w'=>e=.returned (.tuple #[])/\rr S w' aJ fs [⟨2,qp,uf,[]⟩]/\oo B ps aJ ew A c l base w'/\cB (fun j=>j=aJ) w w':=by
 have ao:=J bd;have aq:=J (SC S aJ fs ⟨2,qp,uf,[]⟩ ⟨.inr (.inl rfl),av⟩ ⟨Iu.1,Iu.2,fun _=>SB.1,fun _=>SB.2⟩ none 0 w hs (.inl rfl) (a7.nil _ _ _) hd);have bt:=bd.dV.cell;have c1:=bd.st.cell;clear bd hd hs
 go_enter func158,ntmps158
 go_wp2_with fail;refine aq.mono ?_;rintro e aM ⟨rfl,mF,e9⟩;have ao:=J (ao.only e9 mF.cg);have iE:=J mF;have jk:=J e9;clear mF e9 bt c1;go_wp2_with fail
 go_end0
 exact ⟨rfl,iE.out,ao.out,jk.out⟩
theorem ac3 (S:Nat->Prop) (B ps aJ:Nat) (ew:Int) (hv:0<=ew/\ew<=1000000000) (A:Option Addr) (c:Nat) (l:List UInt8) (base:Nat) (fs:di) (ops:List jd) (ho:ops.length<=100) (w:World) (hs:dw S w) (bd:oo B ps aJ ew A c l base w) (hd:rr S w aJ fs ops) :
  Calls prog 159 #[.pointer (some ⟨B,0,none⟩)] w fun e w'=>e=.returned (.tuple #[])/\jn S w' aJ (nb fs ops)/\oo B ps aJ (ew+1) A c l base w'/\cB (fun j=>j=aJ\/j=ps) w w':=by
 have ao:=J bd;have aq:=J (SD S aJ fs ops w hs hd ho);have bt:=bd.dV.cell;have c1:=bd.st.cell;obtain ⟨QE,nR⟩:=hv;clear bd hd hs ho
 go_enter func159,ntmps159
 go_wp2_with fail;refine aq.mono ?_;rintro e aM ⟨rfl,mF,e9⟩;have ao:=J (ao.only e9 mF.r.cg);have iE:=J mF;have jk:=J e9;clear mF e9 bt c1;have bt:=ao.dV.cell;have c1:=ao.st.cell;have f1:=ao.st.frozen 1;go_wp2_with fail
 go_end0
 have az:=cB.setCell (fun j=>j=ps) aM ps 1 (.i (ew+1)) rfl;obtain ⟨cs,hk⟩:=ao.cg;have SE:aJ≠ps:=fun e=>hk.fK ao.st ak e
 refine ⟨rfl,?_,⟨ao.dV.only az fun e=>ao.dV.fK ao.st ak e,ao.eQ.only az fun e=>ao.eQ.fK ao.st ak e,ao.st.eW 1 _,⟨cs,hk.only az SE⟩,ao.BC.only az fun k oI e=>ao.BC.sD ao.st ak k oI e⟩,(jk.mono (wm:=fun j=>j=aJ\/j=ps) fun j e=>.inl e).trans (az.mono (wm:=fun j=>j=aJ\/j=ps) fun j e=>.inr e) fun _ _ e=>e⟩;obtain ⟨aN,h⟩:=iE.out;obtain ⟨es,clock,hm,he⟩:=h.map.ex;exact ⟨aN,⟨h.ab.ab.only az SE,h.ab.ins⟩,⟨⟨es,clock,az.ur hm fun e=>ao.st.pM hm e.symm,he.k1 fun A c eK hx=>⟨hx.own.only az fun k oI e=>hx.own.sD ao.st ak k oI e,hx.ins⟩⟩,h.map.ins⟩,trivial,b7.e8 _ _ _ _⟩
abbrev Iv (b:List UInt8):jd:=⟨1,qp,⟨#[]⟩,b⟩
abbrev SF:jd:=⟨2,qp,uf,[]⟩
def lS (fs:di) (b:List UInt8):Nat->di×List jd
 | 0=>(fs,[])
 | 1=>(fs,[Iv b])
 | 2=>(nb fs [Iv b],[])
 | 3=>(nb fs [Iv b],[SF])
 | _=>(nb (nb fs [Iv b]) [SF],[])
theorem SG {ps aJ base:Nat} {ew:Int} {A:Option Addr} {c:Nat} {l:List UInt8} {W:World} (dU:ar W ps 187 #[.pointer (some ⟨aJ,0,none⟩),.i ew]) (Mm:∃ cs,ar W aJ 161 cs) (s5:Own W base 5 cO (.slice A l.length c) l) :
  oo W.heap.size ps aJ ew A c l base (Dt W ps aJ A l.length c)/\ar (Dt W ps aJ A l.length c) (W.heap.size+2) 1 (BB W.heap.size aJ)/\Below W.heap.size W (Dt W ps aJ A l.length c):=by
 obtain ⟨cs,Mm⟩:=Mm;have bX:Below W.heap.size W (W.alloc (.cells #[.pointer (some ⟨ps,0,none⟩)] 133)):=(aO _ _).alloc aF _;have cY:=bX.alloc av (.cells #[.slice A l.length c] 87);have pd:=cY.alloc (by simp;omega) (.cells (BB W.heap.size aJ) 1);have aV:=ar.new W 133 #[.pointer (some ⟨ps,0,none⟩)];have bE:=ar.new (W.alloc (.cells #[.pointer (some ⟨ps,0,none⟩)] 133)) 87 #[.slice A l.length c];have cG:=ar.new ((W.alloc (.cells #[.pointer (some ⟨ps,0,none⟩)] 133)).alloc (.cells #[.slice A l.length c] 87)) 1 (BB W.heap.size aJ);simp only [zp] at bE cG
 exact ⟨⟨(aV.alloc _).alloc _,bE.alloc _,dU.bw pd,⟨cs,Mm.bw pd⟩,s5.below pd aF⟩,cG,pd⟩
theorem ac4 (S:Nat->Prop) (w:World) (hs:dw S w):Calls prog 65 #[] w fun e w'=>e=.returned (.i 4)/\Below w.heap.size w w':=by
 have aP:=J hs;clear hs
 go_enter func65,ntmps65
 go_wp2_with fail;refine (SH S w aP).mono ?_;rintro e aC ⟨aJ,rfl,hd,ac5,hb⟩;have bq:=J hd;have ah:Below aC.heap.size aC (aC.alloc (.cells #[.pointer (some ⟨aJ,0,none⟩),.i 0] 187)):=(aO _ _).alloc aF _;have aA:=J (hb.trans (ah.mono hb.size));have hT:=J (ar.new aC 187 #[.pointer (some ⟨aJ,0,none⟩),.i 0]);have ac6:=J (hd.below ah).r.cg;clear hb ah hd ac5;go_wp2_with fail;refine (SA aC.heap.size aJ 0 none 0 0 _ hT).mono ?_;rintro e aM ⟨rfl,rfl⟩;have aw:=(SG (l:=[]) (base:=0) hT ac6 (Own.e8 _ _ _ _)).2.2;have cA:=J (aA.trans (aw.mono aA.size));clear aw;obtain ⟨aM,gx⟩:=aE (Dt (aC.alloc (.cells #[.pointer (some ⟨aJ,0,none⟩),.i 0] 187)) aC.heap.size aJ none 0 0);have e0:Hid (Below w.heap.size w aM):=by rw [<- gx];exact cA.out
 rw [gx];clear gx cA;go_wp2_with fail;go_ret;exact ⟨rfl,e0.out⟩
theorem ac7 (S:Nat->Prop) (aJ:Nat) (fs:di) (w:World) (hs:dw S w) (h:jn S w aJ fs) (aI:fs qp=none) :
  Calls prog 109 #[.pointer (some ⟨aJ,0,none⟩)] w fun e w'=>e=.returned (.tuple #[])/\Below w.heap.size w w':=by
 have aq:=J (SI S aJ fs [] qp w hs h.r av);have rY:=J aI;clear hs h aI
 go_enter func109,ntmps109
 go_wp2_with fail;refine aq.mono ?_;rintro e aC ⟨hb,he⟩;have aA:=J hb;have iz:nb fs [] qp=none:=rY.out;rw [iz] at he
 subst he;clear hb iz;go_wp2_with fail
 go_end0
 exact ⟨rfl,aA.out⟩
structure xD (S:Nat->Prop) (fs:di) (b:List UInt8) (B ps aJ:Nat) (v:Nat) (A:Option Addr) (c base:Nat) (w0:World) (i:Nat) (W:World):Prop where
 q:oo B ps aJ (if i=4 then (v:Int)+1 else v) A c b base W
 d:rr S W aJ (lS fs b i).1 (lS fs b i).2
 n:(i=0\/i=2\/i=4)->jn S W aJ (lS fs b i).1
 row:ar W (B+2) 1 (BB B aJ)
 o:cB (fun j=>j=aJ\/j=ps) w0 W
section
variable {S:Nat->Prop} {fs:di} {b:List UInt8} {B ps aJ v i:Nat} {A:Option Addr} {c base:Nat} {w0 W W':World}
theorem xD.ab (h:xD S fs b B ps aJ v A c base w0 i W) (ho:cB (fun j=>j=aJ\/j=ps) W W'):ar W' (B+2) 1 (BB B aJ)/\cB (fun j=>j=aJ\/j=ps) w0 W':=by
 obtain ⟨cs,hk⟩:=h.q.cg;refine ⟨h.row.only ho ?_,h.o.trans ho fun _ _ e=>e⟩;rintro (e|e)
 ·exact h.row.fK hk ak e
 ·exact h.row.fK h.q.st ak e
theorem xD.below (h:xD S fs b B ps aJ v A c base w0 i W) (hb:Below W.heap.size W W'):xD S fs b B ps aJ v A c base w0 i W' :=
 ⟨h.q.below hb,by obtain ⟨aN,A,c,R,hd⟩:=h.d;exact ⟨aN,A,c,R,hd.below hb⟩,fun e=>(h.n e).below hb,h.row.bw hb,h.o.Du hb⟩
theorem ac8 (h:xD S fs b B ps aJ v A c base w0 i W) (hi:i<4) (hs:dw S W) (hb:b.length<=3000000) (hv:v<=1000000000) :
  ∃ f args Iw,(BB B aJ)[i]? = some (.func (.func f) args Iw)/\Calls prog f (args++Iw) W fun e w'=>e=.returned (.tuple #[])/\xD S fs b B ps aJ v A c base w0 (i+1) w':=by
 have hm:∀ w',cB (fun j=>j=aJ) W w'->cB (fun j=>j=aJ\/j=ps) W w':=fun w' ho=>ho.mono fun _ e=>.inl e
 obtain rfl|rfl|rfl|rfl:i=0\/i=1\/i=2\/i=3:=af
 ·refine ⟨_,_,_,rfl,(ac1 S B ps aJ v A c b hb base fs W hs h.q (h.n (.inl rfl))).mono ?_⟩
  rintro e w' ⟨rfl,hd,bd,ho⟩;obtain ⟨h1,ah⟩:=h.ab (hm _ ho);exact ⟨rfl,⟨bd,hd,fun e=>af,h1,ah⟩⟩
 ·refine ⟨_,_,_,rfl,(SD S aJ fs _ W hs h.d (by simp [lS])).mono ?_⟩
  rintro e w' ⟨rfl,hd,ho⟩;obtain ⟨h1,ah⟩:=h.ab (hm _ ho);exact ⟨rfl,⟨h.q.only ho hd.r.cg,hd.r,fun _=>hd,h1,ah⟩⟩
 ·refine ⟨_,_,_,rfl,(ac2 S B ps aJ v A c b base _ W hs h.q (h.n (.inr (.inl rfl)))).mono ?_⟩
  rintro e w' ⟨rfl,hd,bd,ho⟩;obtain ⟨h1,ah⟩:=h.ab (hm _ ho);exact ⟨rfl,⟨bd,hd,fun e=>af,h1,ah⟩⟩
 ·refine ⟨_,_,_,rfl,(ac3 S B ps aJ v af A c b base _ _ (by simp [lS]) W hs h.q h.d).mono ?_⟩
  rintro e w' ⟨rfl,hd,bd,ho⟩;obtain ⟨h1,ah⟩:=h.ab ho;exact ⟨rfl,⟨bd,hd.r,fun _=>hd,h1,ah⟩⟩
end
theorem ac9 (v:Nat) (l:List UInt8):(k0 v l).length=l.length+16:=by unfold k0 BD;rw [cd,Mn];simp [four]
def ada (S:Nat->Prop) (fs:di) (b:List UInt8) (ps aJ v k:Nat) (w:World) (e:Ending) (w':World):Prop :=
 e=.returned (.i 0)/\rr S w' aJ (lS fs b k).1 (lS fs b k).2/\((k=0\/k=2\/k=4)->jn S w' aJ (lS fs b k).1)/\ar w' ps 187 #[.pointer (some ⟨aJ,0,none⟩),.i (if k=4 then (v:Int)+1 else v)]/\cB (fun j=>j=aJ\/j=ps) w w'
theorem SJ (S:Nat->Prop) (fs:di) (ps aJ v:Nat) (hv:v<=100000000) (l:List UInt8) (hl:l.length<=1048576) (A:Option Addr) (c k:Nat) (hk:k<=4) (w:World) (hs:dw S w) (dU:ar w ps 187 #[.pointer (some ⟨aJ,0,none⟩),.i v]) (hd:jn S w aJ fs) (hr:a7 w cO A l) :
  Calls prog 129 #[.pointer (some ⟨ps,0,none⟩),.slice A l.length c,.i k] w (ada S fs (k0 (v+1) l) ps aJ v k w):=by
 have c1:w.cell? ⟨ps,1,none⟩=some (.i v):=dU.cell 1;have aC:IntKind.i64.wrap ((v:Int)+1)=((v+1:Nat):Int):=by rw [mS];omega
 have bN:=J (adb (v+1) af l hl A c w hr);have gG:=J (show (k0 (v+1) l).length<=3000000 by rw [ac9];omega);have bF:=J hv;have aP:=J hs;have bq:=J hd;have hT:=J dU;have dl:=J hk;obtain ⟨b,hb⟩:=aE (k0 (v+1) l);rw [hb] at bN gG ⊢
 clear dU hd hr hs hl hb hv
 go_enter func129,ntmps129
 go_wp2_with fail;refine bN.mono ?_;rintro e wf ⟨bz,ez,rfl,ho,xE⟩;have xF:=J (bq.below xE);have Mo:=J (hT.bw xE);have iQ:=J ho;have df:=J xE;have fk:=J (SG Mo xF.r.cg iQ);clear ho xE c1;go_wp2_with fail;refine (SA ps aJ v bz b.length ez wf Mo).mono ?_;rintro e aM ⟨rfl,rfl⟩;obtain ⟨ws,EQ⟩:=aE (Dt wf ps aJ bz b.length ez);rw [EQ] at fk ⊢
 have ap:Hid (xD S fs b wf.heap.size ps aJ v bz ez w.heap.size w 0 ws):=⟨fk.1,(xF.below fk.2.2).r,fun _=>xF.below fk.2.2,fk.2.1,cB.dL _ (df.trans (fk.2.2.mono df.size))⟩
 clear EQ;have c8:max (k:Int) 0=(k:Int):=af;have dT:min (k:Int) 4=(k:Int):=af;go_wp2_with fail;clear bN Mo iQ df fk xF c8 dT
 go_loopw [36] (fun ii wr=>∃ (i:Nat),i<=k/\ii=.i i/\xD S fs b wf.heap.size ps aJ v bz ez w.heap.size w i wr) (fun ii _=>k-(intOf ii).toNat)
 case atStart=>exact ⟨0,af,rfl,ap.out⟩
 case round =>
  clear ap;obtain ⟨i,hi,rfl,bd⟩:=hrel;have ao:=J bd;clear bd
  by_cases aT:i<k
  ·have cg:decide ((i:Int)<(k:Int))=true:=bO af
   have kA:(i:Int)<(k:Int):=af;obtain ⟨f,args,Iw,he,hstep⟩:=ac8 ao.out (by have:=dl.out;omega) (aP.size ao.o.size) gG.out (by have:=bF.out;omega);have iv:wr.cell? ⟨wf.heap.size+2,i,none⟩=some (.func (.func f) args Iw):=by rw [ao.row.cell];exact he
   have uu:i=0\/i=1\/i=2\/i=3:=by have:=dl.out;omega
   rcases uu with rfl|rfl|rfl|rfl
   all_goals
    injection he with he
    injection he with aV bE cG
    injection aV with aV
    subst aV;subst bE;subst cG;have Mp:=J hstep;clear hstep;go_wp2_with fail;refine Mp.mono ?_;rintro e dy ⟨rfl,SK⟩;have ade:=J SK;clear SK iv;go_wp2_with fail
    go_roundw
    case rel=>exact ⟨_,af,cm,ade.out⟩
    case measure=>exact c4
  ·obtain rfl:i=k:=by omega
   have cg:decide ((i:Int)<(i:Int))=false:=av;go_wp2_with fail;go_ret;exact ⟨rfl,ao.d,ao.n,ao.q.st,ao.o⟩
structure jC (S:Nat->Prop) (w:World) (ps aJ:Nat) (fs:di) (v:Nat):Prop where
 st:cW w S ps 187 #[.pointer (some ⟨aJ,0,none⟩),.i v]
 d:jn S w aJ fs
structure Dk (S:Nat->Prop) (w:World) (ps aJ:Nat) (fs:di) (l:List jd):Prop where
 st:∃ v:Int,cW w S ps 187 #[.pointer (some ⟨aJ,0,none⟩),.i v]
 d:rr S w aJ fs l
abbrev Bc:List TypeId:=[161,187]
section
variable {S cn:Nat->Prop} {ts:List TypeId} {w w':World} {ps aJ v:Nat} {fs:di}
theorem jC.below (h:jC S w ps aJ fs v) (hb:Below w.heap.size w w'):jC S w' ps aJ fs v:=⟨h.st.below hb,h.d.below hb⟩
theorem jn.adf (h:jn S w aJ fs):∃ aN,cW w S aJ 161 #[.map (some aN),.slice none 0 0]:=by
 obtain ⟨aN,hd⟩:=h;exact ⟨aN,hd.ab⟩
theorem ru.a6 {aN:Nat} {A:Option Addr} {c:Nat} {l:List jd} {R:List pL} (h:ru S w aJ aN A c fs l R) (hc:bh cn ts w w') (h1:161∉ts) (ah:wo∉ts) (aw:5∉ts) (bn:190∉ts):ru S w' aJ aN A c fs l R:=by
 refine ⟨h.ab.a6 hc h1,?_,h.ops.k1 fun _ _ _ ho=>ho.a6 hc aw,h.row.a6 hc bn⟩;obtain ⟨es,clock,hm,he⟩:=h.map.ex;refine ⟨⟨es,clock,hc.ur hm ?_,he.k1 fun _ _ _ ho=>ho.a6 hc aw⟩,h.map.ins⟩;rintro ⟨_,hk⟩
 rcases hk with ⟨hk,_⟩|⟨cs,t,fr,hk,_⟩
 ·exact ah hk
 ·rw [hm] at hk;cases hk
theorem jn.a6 (h:jn S w aJ fs) (hc:bh cn ts w w') (h1:161∉ts) (ah:wo∉ts) (aw:5∉ts) (bn:190∉ts):jn S w' aJ fs:=by
 obtain ⟨aN,hd⟩:=h;exact ⟨aN,hd.a6 hc h1 ah aw bn⟩
theorem jC.a6 (h:jC S w ps aJ fs v) (hc:bh cn ts w w') (aI:187∉ts) (h1:161∉ts) (ah:wo∉ts) (aw:5∉ts) (bn:190∉ts):jC S w' ps aJ fs v:=⟨h.st.a6 hc aI,h.d.a6 hc h1 ah aw bn⟩
theorem ru.iG {aN:Nat} {A:Option Addr} {c:Nat} {l:List jd} {R:List pL} (h:ru S w aJ aN A c fs l R) (hc:bh cn ts w w') (hd:∀ k,S k->¬ cn k):ru S w' aJ aN A c fs l R:=by
 refine ⟨h.ab.iG hc hd,?_,h.ops.k1 fun _ _ _ ho=>ho.iG hc hd,h.row.iG hc hd⟩;obtain ⟨es,clock,hm,he⟩:=h.map.ex;exact ⟨⟨es,clock,hc.ur hm fun hx=>hd aN h.map.ins hx.1,he.k1 fun _ _ _ ho=>ho.iG hc hd⟩,h.map.ins⟩
theorem jn.iG (h:jn S w aJ fs) (hc:bh cn ts w w') (hd:∀ k,S k->¬ cn k):jn S w' aJ fs:=by
 obtain ⟨aN,hx⟩:=h;exact ⟨aN,hx.iG hc hd⟩
theorem jC.iG (h:jC S w ps aJ fs v) (hc:bh cn ts w w') (hd:∀ k,S k->¬ cn k):jC S w' ps aJ fs v:=⟨h.st.iG hc hd,h.d.iG hc hd⟩
theorem jC.SL (h:jC S w ps aJ fs v) (ho:cB (fun j=>j=aJ\/j=ps) w w'):bh S Bc w w':=by
 obtain ⟨aN,hb⟩:=h.d.adf;refine bh.adg ho ?_;rintro k (rfl|rfl)
 ·exact ⟨hb.ins,.inr ⟨_,_,_,hb.ab,av⟩⟩
 ·exact ⟨h.st.ins,.inr ⟨_,_,_,h.st.ab,av⟩⟩
theorem acb (hs:dw S w) (h:jC S w ps aJ fs v) (hv:v<=100000000) (l:List UInt8) (hl:l.length<=1048576) (A:Option Addr) (c k:Nat) (hk:k<=4) (hr:a7 w cO A l) :
  Calls prog 129 #[.pointer (some ⟨ps,0,none⟩),.slice A l.length c,.i k] w fun e w'=>e=.returned (.i 0)/\Dk S w' ps aJ (lS fs (k0 (v+1) l) k).1 (lS fs (k0 (v+1) l) k).2/\bh S Bc w w':=by
 refine (SJ S fs ps aJ v hv l hl A c k hk w hs h.st.ab h.d hr).mono ?_;rintro e w' ⟨rfl,hd,_,dU,ho⟩;exact ⟨rfl,⟨⟨_,dU,h.st.ins⟩,hd⟩,h.SL ho⟩
theorem ab9 (hs:dw S w) (h:jC S w ps aJ fs v) (hv:v<=100000000) (l:List UInt8) (hl:l.length<=1048576) (A:Option Addr) (c:Nat) (hr:a7 w cO A l) :
  Calls prog 130 #[.pointer (some ⟨ps,0,none⟩),.slice A l.length c] w fun e w'=>e=.returned (.i 0)/\jC S w' ps aJ (lS fs (k0 (v+1) l) 4).1 (v+1)/\bh S Bc w w':=by
 have H:=J h;have aP:=J hs;have bx:=J hr;have bF:=J hv;have cT:=J hl;clear h hs hr hv hl
 go_enter func130,ntmps130
 go_wp2_with fail;refine (ac4 S w aP).mono ?_;rintro e aC ⟨rfl,hb⟩;have H1:=J (ae (H.below hb) hb);have Ix:=J (bx.below hb);clear hb;go_wp2_with fail;refine (SJ S fs ps aJ v bF l cT A c 4 af aC (aP.size H1.2.size) H1.1.st.ab H1.1.d Ix).mono ?_;rintro e aM ⟨rfl,_,hd,dU,ho⟩;have aB:=J (ae (hd af) (ae dU ho));clear hd dU ho;go_wp2_with fail;go_ret;exact ⟨rfl,⟨⟨aB.2.1,H1.1.st.ins⟩,aB.1⟩,(bh.dL S Bc H1.2).trans (H1.1.SL aB.2.2)⟩
end
section
variable {S cn:Nat->Prop} {ts:List TypeId} {w w':World} {ps aJ v:Nat} {fs:di}
theorem ach (hs:dw S w) (h:jn S w aJ fs) (aI:fs qp=none) (h1:fs uf=none) :
  Calls prog 76 #[.pointer (some ⟨aJ,0,none⟩)] w fun e w'=>∃ ps,e=.returned (.tuple #[.pointer (some ⟨ps,0,none⟩),.slice none 0 0,.i 4])/\jC S w' ps aJ fs 0/\Below w.heap.size w w'/\w.heap.size<=ps:=by
 have bq:=J h;have aP:=J hs;have rY:=J aI;have H1:=J h1;clear h hs aI h1
 go_enter func76,ntmps76
 go_wp2_with fail;refine (ac7 S aJ fs w aP bq rY).mono ?_;rintro e aC ⟨rfl,hb⟩;have aB:=J (ae (bq.below hb) hb);clear hb;go_wp2_with fail;refine (SI S aJ fs [] uf aC (aP.size aB.2.size) aB.1.r av).mono ?_;rintro e aM ⟨hb,he⟩;have cJ:=J (ae (aB.1.below hb) (aB.2.trans (hb.mono aB.2.size)));have iz:nb fs [] uf=none:=H1.out;rw [iz] at he
 subst he;clear hb iz;have bs:=J (ar.new aM 187 #[.pointer (some ⟨aJ,0,none⟩),.i 0]);have aA:=J ((aO aM.heap.size aM).alloc aF (.cells #[.pointer (some ⟨aJ,0,none⟩),.i 0] 187));go_wp2_with fail;refine cS (v:=.tuple #[.pointer (some ⟨aM.heap.size,0,none⟩),.slice none 0 0,.i 4]) (by simp [results,results76,go_sem]) rfl ?_;exact ⟨_,rfl,⟨⟨bs.out,aP.gJ _ cJ.2.size⟩,cJ.1.below aA.out⟩,cJ.2.trans (aA.mono cJ.2.size),cJ.2.size⟩
end
end Go.Proofs.YtmmchlfoplcnbaaGreatDoor
