/- A part of the walk. -/
import Derived.Carry
import Derived.Test.YtmmchlfoplcnbaaGreatDoorMB2
import Derived.Test.YtmmchlfoplcnbaaGreatDoorMB4
namespace Go.Proofs.YtmmchlfoplcnbaaGreatDoor
open Go Go.RowKit Tryz
set_option linter.all false
set_option maxRecDepth 100000
set_option maxHeartbeats 4000000


def wU (room:cr) (p:aQ) (l:List aQ) (O:List ByteArray) (b:Bool):Prop :=
 ∃ K:List aQ,K.Perm (kx p l)/\(K.Pairwise fun x y=>gI y x=false)/\gp room (fV p l)=b/\(b=true->O.Perm (gR room (fV p l) K).2/\O.Pairwise fun x y=>blt y x=false)/\(b=false->O = [])
theorem wU.len {room:cr} {p:aQ} {l:List aQ} {O:List ByteArray} {b:Bool} (h:wU room p l O b):O.length<=l.length:=by
 obtain ⟨K,hk,_,_,h1,ah⟩:=h
 cases b
 ·rw [ah rfl];simp
 ·rw [(h1 rfl).1.length_eq]
  exact gT (aba _ _ _) (by rw [hk.length_eq];exact Ll p l)
theorem wU.same {room:cr} {p:aQ} {l m:List aQ} {O tU:List ByteArray} {b b':Bool} (hi:∀ x∈l,∀ y∈l,x.id=y.id->x=y) (hp:l.Perm m) (h:wU room p l O b) (cI:wU room p m tU b'):tU=O/\b'=b:=by
 obtain ⟨K,hk,hs,hf,h1,ah⟩:=h;obtain ⟨oc,gP,tW,abP,CL,qO⟩:=cI;have e:b'=b:=by rw [<- hf,<- abP,A9 (RO hp)]
 subst e;refine ⟨?_,rfl⟩
 cases b'
 ·rw [ah rfl,qO rfl]
 ·exact abC hi hp hk hs gP tW (h1 rfl).1 (h1 rfl).2 (CL rfl).1 (CL rfl).2
theorem WV {room:cr} {p:aQ} {l:List aQ} (A:Option Addr) (c:Nat) (w:World) (hr:a7 w gv A l) (hn:l.length<=50000) (q1:∀ x∈l,x.fe) (hp:p.fe) :
  Calls prog 124 #[.agg #[.i room.a,.i room.b,.i room.c],.slice A l.length c,.agg p.cells] w fun e w'=>∃ (O:List ByteArray) (b:Bool) (A:Option Addr) (c:Nat),e=.returned (.tuple #[.slice A O.length c,.bool b])/\wU room p l O b/\Own w' w.heap.size 9 encS (.slice A O.length c) O/\Below w.heap.size w w':=by
 refine (abc room p l A c w hr hn q1 hp).mono ?_;rintro e w' ⟨K,hk,hs,h⟩
 rcases h with ⟨hf,rfl,hb⟩|⟨hf,O,A,c,HZ,q7,rfl,ho,hb⟩
 ·exact ⟨[],false,none,0,rfl,⟨K,hk,hs,hf,fun h=>(by cases h),fun _=>rfl⟩,Own.e8 _ _ _ _,hb⟩
 ·exact ⟨O,true,A,c,rfl,⟨K,hk,hs,hf,fun _=>⟨HZ,q7⟩,fun h=>(by cases h)⟩,ho,hb⟩
theorem pA.later {w w':World} {base:Nat} {e:TypeId} {α β:Type} {s1 s2:Nat} {ft:cu α s1} {fN:cu β s2} {v1 v2:Value} {bl:List α} {aW:List β} {bE:TypeId} (h1:Own w base e ft v1 bl) (ah:Own w' w.heap.size bE fN v2 aW):pA v1 v2:=fun g az e=>by
 have:=(h1.iw g az).2;have:=(ah.iw g e).1;omega
def bL.ws (q:bL):List (List (List UInt8)):=zA q.bt q.c1 q.c2 q.cw q.r1 q.r2 (q.ts.map eH.word) q.b2 q.ret q.c9 q.dead
def bL.text (q:bL):List UInt8:=IJ q.ws
theorem bL.Mv (q:bL):q.ws.length=q.ts.length+6:=by simp [bL.ws,zA]
theorem bL.IE (q:bL):∀ l∈q.ws,l≠[]/\∀ a∈l,Word a:=adV fun t ht=>by
 obtain ⟨x,_,rfl⟩:=kM.1 ht;exact adW _ _ _ _ _
theorem S1:∀ (ws:List (List (List UInt8))) (n:Nat),(∀ l∈ws,l≠[]/\∀ a∈l,Word a)->(mb n (ws.map je++[[]])).map (fun f=>f.map Fd.text)=ws
 | [],n,_=>by show List.map _ (mb n [[]])=_;rw [mb,mb,DB];rfl
 | l :: ws,n,h=>by
  obtain ⟨h1,ah⟩:=h l av;have b6:=S1 ws (n+1) fun x hx=>h x (by simp [hx])
  have hf:=Tg n l 0 ah;have bW:jf n 0 (je l)≠[]:=by intro e;rw [e] at hf;exact h1 hf.symm
  rw [ny,HJ,mb,bp bW,nQ,b6];simp [hf]
theorem Th:∀ (l:List (List UInt8)) (k:Nat),(∀ a∈l,a.length<=k)->(je l).length<=l.length*(k+1)
 | [],k,_=>by simp [je]
 | [a],k,h=>by have:=h a av;simp [je];omega
 | a :: b :: l,k,h=>by
  have b6:=Th (b :: l) k fun x hx=>h x (by simp [fb.1 hx])
  have:=h a av;rw [MC,cd,cy,cy,w1,w2];simp only [cy] at b6 ⊢
  omega
theorem Ti (c:UInt8):∀ (ls:List (List UInt8)) (k:Nat),(∀ l∈ls,l.length<=k)->(glue c ls).length<=ls.length*(k+1)
 | [],k,_=>by simp [glue]
 | a :: ls,k,h=>by
  have b6:=Ti c ls k fun x hx=>h x (by simp [hx])
  have:=h a av;rw [show glue c (a :: ls)=a++c :: glue c ls from rfl,cd,cy,cy,w1,w2];omega
theorem MD {sig cb ck:Int} {soft:Bool} {cE:Int} (h:zB sig cb ck soft cE):(pQ sig cb ck soft cE).length<=40:=by
 have h1:=(BI sig).2.2;have ah:(fJ cb ck).length<=21:=by
  unfold fJ
  split
  ·have hv:cb.toNat<10 ^ 3:=by rcases h.val with ⟨_,ah,_⟩|⟨h1,_,_⟩ <;> omega
   have:=zC 3 hv ak;simp;omega
  ·refine gy ?_
   rcases h.val with ⟨_,_,aw⟩|⟨_,_,aw⟩ <;> omega
 have aw:(if soft then 58 :: dY cE.toNat else []).length<=5:=by
  cases soft with
  | false=>simp
  | true =>
   have az:=h.gr;simp only [ll] at az ⊢
   have:=zC (u:=cE.toNat) 4 af ak;simp;omega
 unfold pQ;rw [cd,cy,cd];omega
theorem bL.adX {q:bL} (bd:q.Ok):∀ l∈q.ws,l.length<=4/\∀ a∈l,a.length<=40:=by
 obtain ⟨aX,ba,nD,m0,m1,m2,m3,sg,xk,Bd,o2,Be,Bf,Bg,Bh,Bi,S0⟩:=bd;have n0:=gy (n:=q.bt) af;have lL:=gy (n:=q.c1) af;have n2:=gy (n:=q.c2) af;have n3:=gy (n:=q.cw) af;have n4:=gy (n:=q.r1) af;have n5:=gy (n:=q.r2) af;have n6:=gy (n:=q.b2) af;have n7:=gy (n:=q.ret) af;have n8:=gy (n:=q.c9) af;have adY:=gy (n:=q.dead) af;have dv:ux.length<=40/\DA.length<=40/\qu.length<=40/\zw.length<=40/\zx.length<=40/\zy.length<=40/\zz.length<=40:=ak;intro l hl;unfold bL.ws zA at hl
 simp only [fb,jl,kM,mr,l1] at hl
 rcases hl with rfl|rfl|⟨t,⟨x,hx,rfl⟩,rfl⟩|rfl|rfl|rfl|rfl
 ·exact ⟨av,fun a ha=>by simp only [fb,mr,l1] at ha;rcases ha with rfl|rfl|rfl|rfl <;> omega⟩
 ·exact ⟨av,fun a ha=>by simp only [fb,mr,l1] at ha;rcases ha with rfl|rfl|rfl|rfl <;> omega⟩
 ·exact ⟨av,fun a ha=>by
   simp only [fb,mr,l1] at ha
   rcases ha with rfl|rfl
   ·omega
   ·exact MD (o2 x hx)⟩
 all_goals exact ⟨av,fun a ha=>by simp only [fb,mr,l1] at ha;rcases ha with rfl|rfl <;> omega⟩
theorem bL.S3 {q:bL} (bd:q.Ok):q.text.length<=3000:=by
 have h1:∀ l∈q.ws.map je,l.length<=164:=fun l hl=>by
  obtain ⟨x,hx,rfl⟩:=kM.1 hl;obtain ⟨h1,ah⟩:=bL.adX bd x hx;have:=Th x 40 ah;omega
 have ah:=Ti 10 (q.ws.map je) 164 h1;have aw:=q.Mv;have bn:=bd.n;unfold bL.text IJ;rw [lJ] at ah
 omega
theorem bL.adH (q:bL):∀ b∈q.text,ME b:=adZ fun l hl=>(q.IE l hl).2
theorem bL.adG (q:bL):∀ L∈q.ws.map je,(10:UInt8)∉L:=fun L eT=>by
 obtain ⟨x,hx,rfl⟩:=kM.1 eT;exact ad0 (q.IE x hx).2
set_option linter.unusedSimpArgs false
def wo:TypeId:=158
def nL (ts:List TypeId) (w:World) (j:Nat):Prop:=(wo∈ts/\∃ es c,w.heap[j]? = some (.map es c))\/∃ cs t fr,w.heap[j]? = some (.cells cs t fr)/\t∈ts
theorem Own.wx {α:Type} {size:Nat} {E:cu α size} {w:World} {base:Nat} {e:TypeId} {v:Value} {l:List α} {ts:List TypeId} (h:Own w base e E v l) (he:e∉ts):∀ k,v.ownBlock=some k->¬ nL ts w k:=fun k hk hx=>by
 rcases h.2 with ⟨rfl,_⟩|⟨g,cap,cur,rfl,_,bQ,_⟩
 ·simp [Value.ownBlock] at hk
 ·have:g=k:=by simpa [Value.ownBlock] using hk
  subst this
  rcases hx with ⟨_,es,c,h1⟩|⟨cs,t,fr,h1,ah⟩
  ·rw [bQ] at h1;cases h1
  ·rw [bQ] at h1
   injection h1 with h1
   injection h1 with _ h1
   exact he (h1 ▸ ah)
theorem Own.kind {α:Type} {size:Nat} {E:cu α size} {w:World} {base:Nat} {e:TypeId} {v:Value} {l:List α} {ts:List TypeId} (h:Own w base e E v l) (he:e∈ts):∀ k,v.ownBlock=some k->nL ts w k:=fun k hk=>by
 rcases h.2 with ⟨rfl,_⟩|⟨g,cap,cur,rfl,_,bQ,_⟩
 ·simp [Value.ownBlock] at hk
 ·have:g=k:=by simpa [Value.ownBlock] using hk
  subst this;exact .inr ⟨_,_,_,bQ,he⟩
def ng (q:bL) (k:Nat) (v:Value):Array Value :=
 #[.i ((if 1<=k then q.bt else 0:Nat):Int),.i ((if 1<=k then q.c1 else 0:Nat):Int),.i ((if 1<=k then q.c2 else 0:Nat):Int),.i ((if 2<=k then q.cw else 0:Nat):Int),.i ((if 2<=k then q.r1 else 0:Nat):Int),.i ((if 2<=k then q.r2 else 0:Nat):Int),v,
  .i ((if q.ts.length+3<=k then q.b2 else 0:Nat):Int),.i ((if q.ts.length+4<=k then q.ret else 0:Nat):Int),.i ((if q.ts.length+5<=k then q.c9 else 0:Nat):Int),.i ((if q.ts.length+6<=k then q.dead else 0:Nat):Int)]
def mL (n k:Nat):List Nat:=if k=0 then [] else if k=1 then [0] else if k<=n+2 then [1,0] else if k=n+3 then [2,1,0] else if k=n+4 then [3,2,1,0] else if k=n+5 then [4,3,2,1,0] else [5,4,3,2,1,0]
structure ID (q:bL) (k gc aN base:Nat) (A:Option Addr) (c:Nat) (ts:List eH) (w0 W:World):Prop where
 done:ts=q.ts.take (k-2)
 ej:ar W gc 26 (ng q k (.slice A ts.length c))
 own:Own W base 90 i7 (.slice A ts.length c) ts
 map:∃ es clock,W.heap[aN]? = some (.map es clock)/\Seen es (mL q.ts.length k)
 aR:Below w0.heap.size w0 W
 Fi:iH w0
 IH:w0.heap.size<=gc
 II:w0.heap.size<=aN
 Mz:w0.heap.size<=base
 MA:base<=W.heap.size
inductive RowK (q:bL) (k:Nat):List (List UInt8)->Prop
 | num (j:Nat) (ns:List Nat) (aD:j<6) (hn:ns.length=(gZ j).length) (hm:∀ n∈ns,n<=9223372036854775807) (vT:j∉mL q.ts.length k) (Te:mL q.ts.length (k+1)=j :: mL q.ts.length k) (hc:∀ v,mf (gZ j) ns (ng q k v)=ng q (k+1) v) (ht:q.ts.take (k+1-2)=q.ts.take (k-2)):RowK q k (Fj j :: ns.map dO)
 | kj (t:eH) (ht:t.Ok) (vT:mL q.ts.length (k+1)=mL q.ts.length k) (hc:∀ v v',(ng q k v).setIfInBounds 6 v'=ng q (k+1) v') (hl:q.ts.take (k+1-2)=q.ts.take (k-2)++[t]) (hn:(q.ts.take (k-2)).length<=12):RowK q k [qu,t.word]
theorem adP (q:bL) (bd:q.Ok) (k:Nat) (hk:k<q.ws.length):RowK q k q.ws[k]:=by
 have hn:=q.Mv;obtain ⟨aX,ba,nD,m0,m1,m2,m3,sg,xk,Bd,o2,Be,Bf,Bg,Bh,Bi,S0⟩:=bd;have hmx:∀ {a b d:Nat},a<=9223372036854775807->b<=9223372036854775807->d<=9223372036854775807->∀ n∈[a,b,d],n<=9223372036854775807:=by
  intro a b d h1 ah aw n hn;simp only [fb,mr,l1] at hn
  rcases hn with rfl|rfl|rfl <;> assumption
 have wu:∀ {a:Nat},a<=9223372036854775807->∀ n∈[a],n<=9223372036854775807:=by
  intro a h1 n hn;simp only [fb,mr,l1] at hn
  subst hn;assumption
 have p7:∀ j,(h:q.ts.length+2+j<q.ws.length)->j<4->q.ws[q.ts.length+2+j] = [[zw,dO q.b2],[zx,dO q.ret],[zy,dO q.c9],[zz,dO q.dead]][j]!:=by
  intro j h aD;have e:q.ws=([ux,dO q.bt,dO q.c1,dO q.c2] :: [DA,dO q.cw,dO q.r1,dO q.r2] :: ((q.ts.map eH.word).map (fun t=>[qu,t])))++[[zw,dO q.b2],[zx,dO q.ret],[zy,dO q.c9],[zz,dO q.dead]]:=by simp [bL.ws,zA]
  have ah:q.ws[q.ts.length+2+j]? = [[zw,dO q.b2],[zx,dO q.ret],[zy,dO q.c9],[zz,dO q.dead]][j]?:=by
   rw [e,Ka av]
   congr 1
   simp
  rw [dF h] at ah
  obtain rfl|rfl|rfl|rfl:j=0\/j=1\/j=2\/j=3:=af
  all_goals simpa using ah
 by_cases aI:k=0
 ·subst aI
  exact RowK.num 0 [q.bt,q.c1,q.c2] ak rfl (hmx m0 m1 m2) (by simp [mL]) (by simp [mL]) (fun v=>by simp [ng,mf,gZ]) av
 by_cases h1:k=1
 ·subst h1
  exact RowK.num 1 [q.cw,q.r1,q.r2] ak rfl (hmx m3 af af) (by simp [mL]) (by simp [mL]) (fun v=>by simp [ng,mf,gZ]) av
 by_cases ah:k<q.ts.length+2
 ·obtain ⟨i,rfl⟩:∃ i,k=i+2:=⟨k-2,af⟩
  have hi:i<q.ts.length:=af;have e:q.ws[i+2] = [qu,(q.ts[i]).word]:=by
   have aw:q.ws[i+2]? = some [qu,(q.ts[i]).word]:=by
    unfold bL.ws zA;rw [yC,yC,J' (by simpa using hi)];simp [hi]
   rw [dF hk] at aw
   injection aw
  rw [e];refine RowK.kj q.ts[i] (o2 _ (iO _)) (by unfold mL;rw [bp af,bp af,bB af,bp af,bp af,bB af]) (fun v v'=>?_) (by rw [show i+2+1-2=i+1 from af,show i+2-2=i from af,gS hi]) (by simp;omega);simp [ng,show ¬ (q.ts.length+3<=i+2+1) from af,show ¬ (q.ts.length+4<=i+2+1) from af,show ¬ (q.ts.length+5<=i+2+1) from af,show ¬ (q.ts.length+6<=i+2+1) from af,show ¬ (q.ts.length+3<=i+2) from af,show ¬ (q.ts.length+4<=i+2) from af,show ¬ (q.ts.length+5<=i+2) from af,show ¬ (q.ts.length+6<=i+2) from af]
 have lL:¬ (q.ts.length+1<=q.ts.length):=af;have n2:¬ (q.ts.length+2<=q.ts.length):=af;have n3:¬ (q.ts.length+3<=q.ts.length):=af;have n4:¬ (q.ts.length+4<=q.ts.length):=af;obtain ⟨j,rfl⟩:∃ j,k=q.ts.length+2+j:=⟨k-(q.ts.length+2),af⟩
 rw [p7 j hk af];obtain rfl|rfl|rfl|rfl:j=0\/j=1\/j=2\/j=3:=af
 ·exact RowK.num 2 [q.b2] ak rfl (wu af) (by simp [mL,lL,n2,n3,n4]) (by simp [mL,lL,n2,n3,n4]) (fun v=>by simp [ng,mf,gZ,lL,n2,n3,n4]) (by simp [pB])
 ·exact RowK.num 3 [q.ret] ak rfl (wu af) (by simp [mL,lL,n2,n3,n4]) (by simp [mL,lL,n2,n3,n4]) (fun v=>by simp [ng,mf,gZ,lL,n2,n3,n4]) (by simp [pB])
 ·exact RowK.num 4 [q.c9] ak rfl (wu af) (by simp [mL,lL,n2,n3,n4]) (by simp [mL,lL,n2,n3,n4]) (fun v=>by simp [ng,mf,gZ,lL,n2,n3,n4]) (by simp [pB])
 ·exact RowK.num 5 [q.dead] ak rfl (wu af) (by simp [mL,lL,n2,n3,n4]) (by simp [mL,lL,n2,n3,n4]) (fun v=>by simp [ng,mf,gZ,lL,n2,n3,n4]) (by simp [pB])
def adQ (q:bL) (k gc aN base:Nat) (w0 W:World) (e:Ending) (w':World):Prop :=
 e=.returned (.i 0)/\(∃ A c ts,ID q (k+1) gc aN base A c ts w0 w')/\cB (fun j=>nL [26,90,wo] W j) W w'
theorem adI (q:bL) (bd:q.Ok) (k:Nat) (hk:k<q.ws.length) (fs:List Fd) (fI:fs.map Fd.text=q.ws[k]) (gc aN b base ej:Nat) (A:Option Addr) (c:Nat) (ts:List eH) (w0 W:World) (h:ID q k gc aN base A c ts w0 W)
  (hr:a7 W ov (some ⟨b,0,none⟩) fs) (BH:b≠gc) (Fg:fs.length<=ej) (HC:ej<=9223372036854775807) :
  Calls prog 73 #[.pointer (some ⟨gc,0,none⟩),.map (some aN),.slice (some ⟨b,0,none⟩) fs.length ej] W (adQ q k gc aN base w0 W):=by
 have p7:=adP q bd k hk;rw [<- fI] at p7
 obtain ⟨es,clock,hm,zv⟩:=h.map;have adR:iH W:=h.Fi.below h.aR;generalize eT:fs.map Fd.text=L at p7
 cases p7 with
 | num j ns aD hn hmx vT Te hc ht =>
  refine (adS j aD _ vT ns hn hmx fs eT gc aN b ej _ es clock W (by simp [ng]) h.ej hr BH hm zv Fg HC).mono ?_;rintro e w' ⟨rfl,hb,⟨rc,MB,nZ,adT⟩,ho⟩;rw [hc] at hb
  have Fk:∀ k,(Value.slice A ts.length c).ownBlock=some k->¬ (k=gc\/k=aN):=fun k hk hx=>by
   rcases hx with rfl|rfl
   ·exact h.own.sD h.ej ak _ hk rfl
   ·exact h.own.Ia hm _ hk rfl
  refine ⟨rfl,⟨A,c,ts,?_,hb,h.own.only ho Fk,⟨rc,MB,nZ,by rw [Te];exact adT⟩,h.aR.trans (ho.below h.aR.size fun j aD hx=>?_),h.Fi,h.IH,h.II,h.Mz,gT h.MA ho.size⟩,ho.mono fun j hx=>?_⟩
  ·rw [ht];exact h.done
  ·have:=h.IH;have:=h.II
   rcases hx with rfl|rfl <;> omega
  ·rcases hx with rfl|rfl
   ·exact .inr ⟨_,_,_,h.ej,av⟩
   ·exact .inl ⟨av,_,_,hm⟩
 | kj t kJ vT hc hl hn =>
  have Tf:=h.done;have Er:fs.length=2:=by have:=pz List.length eT;simpa using this
  rw [Er];refine (adU t kJ ts (by rw [Tf];omega) A c fs eT gc aN b base ej _ W adR h.ej (by simp [ng]) h.own h.MA hr).mono ?_;rintro e w' ⟨rfl,br,a8,hb,j6,ho⟩;rw [hc] at hb
  have wy:¬ (aN=gc\/(Value.slice A ts.length c).ownBlock=some aN):=fun hx=>by
   rcases hx with rfl|hx
   ·exact h.ej.pM hm rfl
   ·exact h.own.Ia hm _ hx rfl
  have jh:q.ts.take (k+1-2)=ts++[t]:=by rw [hl,<- Tf]
  refine ⟨rfl,⟨br,a8,ts++[t],jh.symm,?_,?_,⟨es,clock,ho.ur hm wy,by rw [vT];exact zv⟩,h.aR.trans (ho.below h.aR.size fun j aD hx=>?_),h.Fi,h.IH,h.II,h.Mz,gT h.MA ho.size⟩,ho.mono fun j hx=>?_⟩
  ·rw [cd];exact hb
  ·rw [cd];exact j6
  ·have:=h.IH
   rcases hx with rfl|hx
   ·omega
   ·have:=(h.own.iw j hx).1;have:=h.Mz;omega
  ·rcases hx with rfl|hx
   ·exact .inr ⟨_,_,_,h.ej,av⟩
   ·exact h.own.kind av j hx
theorem nd.at_ {w:World} {base:Nat}:∀ {D:List (List Fd)} {R:List lX} (_:nd w base D R) {k:Nat} {f:List Fd} {r:lX},D[k]? = some f->R[k]? = some r->r.n=f.length/\Own w base 155 ov (.slice r.A f.length r.c) f
 | _ :: _,_ :: _,h,0,f,r,hd,hr=>by
  simp only [yQ,Ff] at hd hr
  subst hd;subst hr;exact h.1
 | _ :: _,_ :: _,h,k+1,f,r,hd,hr=>nd.at_ h.2 (k:=k) (by simpa using hd) (by simpa using hr)
 | [],[],_,k,f,r,hd,hr=>by simp at hd
 | [],_ :: _,h,k,f,r,hd,hr=>h.elim
 | _ :: _,[],h,k,f,r,hd,hr=>h.elim
theorem Own.row {α:Type} {size:Nat} {E:cu α size} {w:World} {base:Nat} {e:TypeId} {A:Option Addr} {n c:Nat} {l:List α} (h:Own w base e E (.slice A n c) l) (bW:l≠[]):∃ g,A=some ⟨g,0,none⟩/\base<=g/\a7 w E (some ⟨g,0,none⟩) l:=by
 have hr:=h.cZ
 rcases h.2 with ⟨_,aI⟩|⟨g,cap,cur,hv,hb,_⟩
 ·exact absurd (Cx aI) bW
 ·injection hv with hA
  subst hA;exact ⟨g,rfl,hb,hr⟩
theorem sH (w:World) (o:Obj):(w.alloc o).heap.size=w.heap.size+1:=av
theorem Mu {w:World} {b off:Nat} {l:List lX} (h:a7 w zt (some ⟨b,off,none⟩) l) {i:Nat} {r:lX} (hi:l[i]? = some r):w.cell? ⟨b,off+i,none⟩=some (.slice r.A r.n r.c):=by
 obtain ⟨hl,e⟩:=jv.1 hi;obtain ⟨b',p2,aV,_,hc⟩:=h.at_ hl;injection aV with aV
 injection aV with aV bE
 subst aV;subst bE;rw [e] at hc
 have:=hc 0 (.slice r.A r.n r.c) rfl
 simpa using this
theorem adB:(prog.info? 26).map (·.size)=some 11:=ai
abbrev k2:Array Value:=#[.i 0,.i 0,.i 0,.i 0,.i 0,.i 0,.slice none 0 0,.i 0,.i 0,.i 0,.i 0]
theorem adC (q:bL):ng q 0 (.slice none 0 0)=k2:=by simp [ng]
theorem adD (q:bL) (A:Option Addr) (c:Nat):ng q (q.ts.length+6) (.slice A q.ts.length c)=q.cells A c:=by
 have h1:1<=q.ts.length+6:=af;have ah:2<=q.ts.length+6:=af;simp [ng,h1,ah]
def adE (q:bL) (w:World) (e:Ending) (w':World):Prop :=
 ∃ (A:Option Addr) (c:Nat),e=.returned (.tuple #[.agg (q.cells A c),.i 0,.i 0])/\Own w' w.heap.size 90 i7 (.slice A q.ts.length c) q.ts/\Below w.heap.size w w'
structure Dx (q:bL) (D:List (List Fd)) (R:List lX) (xI:Option Addr) (bt:Nat) (k gc aN base:Nat) (A:Option Addr) (c:Nat) (ts:List eH) (w w0 W:World):Prop where
 st:ID q k gc aN base A c ts w0 W
 rows:nd W (w.heap.size+1) D R
 own:Own W (w.heap.size+1) 151 zt (.slice xI R.length bt) R
 fg:ar W w.heap.size 26 k2
 b0:Below (w.heap.size+1) (w.alloc (.cells k2 26)) w0
theorem Dx.step {q:bL} {D:List (List Fd)} {R:List lX} {xI:Option Addr} {bt k gc aN base:Nat} {A br:Option Addr} {c a8:Nat} {ts sI:List eH} {w w0 W W':World} (h:Dx q D R xI bt k gc aN base A c ts w w0 W) (hs:ID q (k+1) gc aN base br a8 sI w0 W') (ho:cB (fun j=>nL [26,90,wo] W j) W W'):Dx q D R xI bt (k+1) gc aN base br a8 sI w w0 W':=by
 have bI:=h.b0.size;simp only [World.alloc,Array.size_push] at bI
 refine ⟨hs,h.rows.mono fun _ _ _ j6=>j6.only ho (j6.wx ak),h.own.only ho (h.own.wx ak),?_,h.b0⟩;have h1:ar w0 w.heap.size 26 k2:=((ar.new w 26 k2).bw (h.b0.mono av))
 exact h1.bw hs.aR
theorem R0 (q:bL) (bd:q.Ok) (A:Option Addr) (c:Nat) (w:World) (dE:iH w) (hr:a7 w cO A q.text) :
  Calls prog 49 #[.slice A q.text.length c] w (adE q w):=by
 have cq:=J (ar.new w 26 k2);have aA:=J ((aO w.heap.size w).alloc aF (.cells k2 26));obtain ⟨mx,hmx⟩:=dE.mx;have b4:=J dE;have bq:=J (S1 q.ws 1 q.IE);have cT:Hid (Calls prog 72 #[.slice A q.text.length c] (w.alloc (.cells k2 26)) (S2 (mb 1 (q.ws.map je++[[]])) (w.alloc (.cells k2 26)))) :=
  adF (q.ws.map je) q.text rfl q.adG q.adH (by have:=bL.S3 bd;omega) A c _ (hr.below aA) (mx:=mx) (aA.cell (p:=⟨_,0,none⟩) (Dy hmx) |>.trans hmx)
 generalize mb 1 (q.ws.map je++[[]])=D at *
 have bs:Hid (q.ws.length=q.ts.length+6):=q.Mv;have S4:=bd.n;obtain ⟨N,b8⟩:=aE q.ts.length;rw [b8] at S4
 have ow:=J b8;clear b8;have ao:=J bd;have S5:Hid (D.length=N+6):=by
  show _=_
  have:=pz List.length bq.out;rw [lJ,bs.out,ow.out] at this
  exact this
 clear hr hmx dE bd
 go_enter func49,ntmps49
 go_wp2_with fail;refine cT.mono ?_;rintro e aC ⟨R,xI,bt,rfl,Mw,hO,Mx,hb⟩;rw [sH] at hO Mx hb
 have My:=S5.out;rw [<- Mw] at My ⊢
 have akA:R.length<=18:=af;have xJ:=J My;have kW:=J Mw;have bJ:=J hO;have S6:=J Mx;have df:=J hb;clear Mw hO Mx hb My S5 cT aA;obtain ⟨gc,oH⟩:=aE aC.heap.size;have hT:Hid (Dx q D R xI bt 0 gc (gc+1) gc none 0 [] w aC ((aC.alloc (.cells k2 26)).alloc (.map #[] 0))):=by
  show Dx _ _ _ _ _ _ _ _ _ _ _ _ _ _ _
  have hk:=df.size;rw [sH] at hk
  subst oH;have bV:Below aC.heap.size aC (aC.alloc (.cells k2 26)):=(aO _ _).alloc aF _;have bY:Below (aC.heap.size+1) (aC.alloc (.cells k2 26)) ((aC.alloc (.cells k2 26)).alloc (.map #[] 0)):=(aO _ _).alloc av _;have bu:=bV.trans (bY.mono af);refine ⟨⟨rfl,?_,Own.e8 _ _ _ _,⟨#[],0,?_,⟨fun e he=>by simp at he,rfl,fun e he=>by simp at he,av⟩⟩,bu,(b4.below ((aO w.heap.size w).alloc aF (.cells k2 26))).below (by rw [sH];exact df.out),af,af,af,by simp;omega⟩,S6.mono fun _ _ _ ho=>ho.below bu aF,bJ.below bu aF,?_,df.out⟩
  ·show ar _ _ _ (ng q 0 (.slice none 0 0))
   rw [adC];exact ((ar.new aC 26 k2).bw (bY.mono av))
  ·have:=ya (aC.alloc (.cells k2 26)) (.map #[] 0)
   rwa [sH] at this
  ·exact ((ar.new w 26 k2).bw (df.mono av)).bw bu
 clear df bJ S6 cq;have zu:=run_makeMap (P:=prog) 150 (aC.alloc (.cells k2 26));go_wp2_with fail;clear zu;obtain ⟨wl,sa⟩:=aE ((aC.alloc (.cells k2 26)).alloc (.map #[] 0));rw [sa] at hT ⊢
 clear sa
 go_loopw [24] (fun ii wr=>∃ (k:Nat) (br:Option Addr) (a8:Nat) (ts:List eH),k<=R.length/\ii=.i k/\Dx q D R xI bt k gc (gc+1) gc br a8 ts w aC wr) (fun ii _=>R.length-(intOf ii).toNat)
 case atStart=>exact ⟨0,none,0,[],af,rfl,hT.out⟩
 case round =>
  clear hT;obtain ⟨k,br,a8,ts,hk,rfl,bd⟩:=hrel;have xK:=J bd;clear bd
  by_cases aT:k<R.length
  ·have cg:decide ((k:Int)<(R.length:Int))=true:=bO af
   have l0:decide (k<R.length)=true:=bO aT;have kA:(k:Int)<(R.length:Int):=af;obtain ⟨r,hr⟩:∃ r,R[k]? = some r:=⟨_,dF aT⟩
   obtain ⟨f,hf⟩:∃ f,D[k]? = some f:=⟨_,dF (by have:=kW.out;omega)⟩
   obtain ⟨ga,rfl,_,S7⟩:=xK.own.row (by intro e;rw [e] at aT;simp at aT);have iv:=Mu S7 hr;obtain ⟨vP,ox⟩:=xK.rows.at_ hf hr;have IF:k<q.ws.length:=by rw [bs.out,ow.out];have:=xJ.out;omega
   have IG:f.map Fd.text=q.ws[k]:=by
    have h1:=pz (fun l=>l[k]?) bq.out;simp only [qW,hf,dF IF,G8,Ff] at h1
    exact h1
   have S8:f≠[]:=by intro e;rw [e] at IG;exact (q.IE _ (iO IF)).1 IG.symm
   obtain ⟨gr,fL,_,S9⟩:=ox.row S8;rw [fw,fL,vP] at iv
   rw [fL] at ox
   have jO:=ox.cap;have bW:gr≠gc:=ox.sD xK.st.ej ak gr rfl;have Mp:=J (adI q ao k IF f IG gc (gc+1) gr gc r.c br a8 ts aC _ xK.st S9 bW jO.2.1 jO.2.2);clear hr hf S7 vP ox IF IG S8 fL S9 jO bW;go_wp2_with fail;refine Mp.mono ?_;rintro e aM ⟨rfl,⟨A2,c2,adJ,G2⟩,e9⟩;have jz:=J (xK.step G2 e9);clear G2 e9 iv;go_wp2_with fail
   go_roundw
   case rel=>exact ⟨k+1,A2,c2,adJ,af,cm,jz.out⟩
   case measure=>exact c4
  ·obtain rfl:k=R.length:=by omega
   have cg:decide ((R.length:Int)<(R.length:Int))=false:=av;have dU:=xK.st;have o2:ts=q.ts:=by rw [dU.done,xJ.out,pB (by have:=ow.out;omega)]
   subst o2;have Fg:=dU.ej;rw [xJ.out,<- ow.out,adD] at Fg
   obtain ⟨es,clock,hm,zv⟩:=dU.map;have S':es.size=6:=by
    rw [zv.size,xJ.out,<- ow.out];have h1:¬ (q.ts.length+6<=q.ts.length+2):=af;simp [mL,h1]
   have hlen:=Ta (P:=prog) (t:=150) underlying150 hm 3;rw [S'] at hlen
   have Dz:=J Fg;have rz:=J dU.own;have uw:=J dU.aR;have Fh:=J xK.fg;have gD:=J xK.b0;clear dU Fg hm zv S' xK;go_wp2_with fail;refine (Tb gc _).mono ?_;rintro e aM ⟨adK,adL,adM,rfl,mJ,Tc,bY⟩;have Td:=Ta (P:=prog) (t:=156) underlying156 mJ 3;rw [Tc.size] at Td
   have Dz:=J (Dz.bw bY);have rz:=J (rz.below bY aF);have Fh:=J (Fh.bw bY);have uw:=J (uw.trans (bY.mono uw.size));clear mJ Tc bY hlen;have eo:=Dz.cell;go_wp2_with fail;refine (adx q ao br a8 _ rz.cZ).mono ?_;rintro e w3 ⟨rfl,bu⟩;have Dz:=J (Dz.bw bu);have rz:=J (rz.below bu aF);have Fh:=J (Fh.bw bu);have uw:=J (uw.trans (bu.mono uw.size));clear bu Td eo;have eo:=Dz.cell
   go_wp2_with (refine ch rfl 26 (.tmp 2) (.tmp 52) rfl w.heap.size 26 k2 (q.cells br a8) rfl rfl Fh.out rfl adB cc ?_;intro b3 hR bT dm)
   have hl:=hR.cell;have cH:=gD.size;rw [sH] at cH
   have ep:Below aC.heap.size aC w3:=uw.out;have adN:Below w.heap.size w aC:=((aO w.heap.size w).alloc aF (.cells k2 26)).trans (gD.mono af);have adO:Below w.heap.size w b3:=(adN.trans (ep.mono af)).grown bT (by have:=ep.size;omega) dP;have nh:Own b3 w.heap.size 90 i7 (.slice br q.ts.length a8) q.ts:=(rz.grown bT (.inr fun e=>by have:=(rz.iw _ e).1;omega)).mono af;exact cS (v:=.tuple #[.agg (q.cells br a8),.i 0,.i 0]) (by simp [results,results49,go_sem,hl]) rfl ⟨br,a8,rfl,nh,adO⟩
end Go.Proofs.YtmmchlfoplcnbaaGreatDoor
