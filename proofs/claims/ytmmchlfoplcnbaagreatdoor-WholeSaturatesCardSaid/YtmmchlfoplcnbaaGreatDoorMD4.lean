/- A part of the walk. -/
import Derived.Test.YtmmchlfoplcnbaaGreatDoorMC6
import Derived.Test.YtmmchlfoplcnbaaGreatDoorMD3
namespace Go.Proofs.YtmmchlfoplcnbaaGreatDoor
open Go Go.RowKit Tryz
set_option linter.all false
set_option maxRecDepth 100000
set_option maxHeartbeats 4000000
def p8 (l:List cf):Prop:=∀ (i j:Nat) (_:i<j) (aD:j<l.length),blt (l[i]'af).name l[j].name=true
def jP (l:List cf) (s:ByteArray):Nat:=l.countP fun x=>blt x.name s
def h6 (l:List cf) (s:ByteArray):Bool:=match l[jP l s]? with|some x=>x.name.toList==s.toList|none=>false
theorem XJ (l:List cf) (s:ByteArray):jP l s<=l.length:=Kk
structure r5 (l:List cf) (s:ByteArray) (a b:Nat):Prop where
 le:a<=b
 top:b<=l.length
 lI:∀ (t:Nat) (ht:t<l.length),t<a->blt l[t].name s=true
 hi:∀ (t:Nat) (ht:t<l.length),b<=t->blt l[t].name s=false
theorem r5.start (l:List cf) (s:ByteArray):r5 l s 0 l.length:=⟨p3 _,e3 _,fun t _ h=>af,fun t h ah=>af⟩
theorem r5.up {l:List cf} {s:ByteArray} {a b h:Nat} (hs:p8 l) (hS:r5 l s a b) (hb:h<b) (hl:h<l.length) (hc:blt l[h].name s=true):r5 l s (h+1) b:=by
 refine ⟨af,hS.top,fun t ht aT=>?_,hS.hi⟩
 rcases gB t h with h1|h1
 ·exact jY (hs t h h1 hl) hc
 ·obtain rfl:t=h:=by omega
  exact hc
theorem r5.down {l:List cf} {s:ByteArray} {a b h:Nat} (hs:p8 l) (hS:r5 l s a b) (ha:a<=h) (hb:h<b) (hl:h<l.length) (hc:blt l[h].name s=false):r5 l s a h:=by
 refine ⟨ha,af,hS.lI,fun t ht iy=>?_⟩
 rcases gB h t with h1|h1
 ·cases ah:blt l[t].name s
  ·rfl
  ·rw [jY (hs h t h1 ht) ah] at hc;cases hc
 ·obtain rfl:t=h:=by omega
  exact hc
theorem r5.done {l:List cf} {s:ByteArray} {a:Nat} (hS:r5 l s a a):jP l s=a:=yf _ l a hS.top hS.lI hS.hi
theorem Pz (x:cf) (s:ByteArray) (W:World):Calls prog 301 #[.agg #[.string x.name,.i x.size,.i x.last],.string s] W fun e w'=>e=.returned (.i (Lib.compareBytes x.name.data.toList s.data.toList))/\Below W.heap.size W w':=by
 have ah:=fun W'=>ye x.name s W'
 generalize Lib.compareBytes x.name.data.toList s.data.toList=r2 at *
 have ju:=J ah;clear ah;have aA:=J ((aO W.heap.size W).alloc aF (.cells #[.string x.name,.i x.size,.i x.last] 146))
 go_enter func301,ntmps301
 go_wp2_with fail;refine (ju.out _).mono ?_;rintro e w' ⟨rfl,rfl⟩;go_wp2_with fail;go_ret;exact ⟨rfl,aA.out⟩
theorem XK (l:List cf) (s:ByteArray) (A:Option Addr) (c:Nat) (w:World) (hr:a7 w encI A l) (hm:l.length<=1000000) (hs:p8 l) :
  Calls prog 300 #[.slice A l.length c,.string s,.func (.func 301) #[] #[]] w fun e w'=>e=.returned (.tuple #[.i (jP l s),.bool (h6 l s)])/\Below w.heap.size w w':=by
 have bx:=J hr;have aP:=J hs;clear hr hs
 go_enter func300,ntmps300
 go_wp2_with fail
 go_loopw [9,10] (fun i j wr=>∃ a b:Nat,i=.i a/\j=.i b/\r5 l s a b/\Below w.heap.size w wr) (fun i j _=>((intOf j).toNat-(intOf i).toNat))
 case atStart=>exact ⟨0,l.length,rfl,rfl,r5.start l s,aO _ _⟩
 case round =>
  obtain ⟨a,b,rfl,rfl,hS,bM⟩:=hrel;have hle:=hS.le;have Km:=hS.top;have ao:=J (ae hS bM);clear hS bM
  by_cases aT:a<b
  ·obtain ⟨h,bQ⟩:∃ h:Nat,h=(a+b) / 2:=⟨_,rfl⟩
   have Ar:a<=h:=af;have s9:h<b:=af;have pk:h<l.length:=af;have cg:decide ((a:Int)<(b:Int))=true:=bO af;have l0:decide (a<b)=true:=bO af;have lG:(h:Int)<(l.length:Int):=af;obtain ⟨n,hn⟩:∃ n:Nat,n=a+b:=⟨_,rfl⟩
   have iz:(a:Int)+(b:Int)=(n:Int):=af;have aV:wrap64 ((a:Int)+(b:Int))=(n:Int):=by unfold wrap64;omega
   have bE:IntKind.u64.wrap (n:Int)=(n:Int):=by rw [IntKind.wrap_u64];omega
   have cG:(n:Int) / 2=(h:Int):=af;have po:wrap64 (h:Int)=(h:Int):=by unfold wrap64;omega
   obtain ⟨b0,off,rfl,ff,bt,c1,c2⟩:=(bx.below ao.2).qU pk;have lg:=J (GI l[h].name s);have Au:=J (fun hc=>ao.1.up aP.out s9 pk hc);have vx:=J (fun hc=>ao.1.down aP.out Ar s9 pk hc);generalize l[h]=x at *
   have dN:=J (fun W'=>Pz x s W');generalize Lib.compareBytes x.name.data.toList s.data.toList=r at *
   clear bQ hn
   cases he:blt x.name s
   ·have d0:decide (r<0)=false:=cX (by rw [lg.out,he];simp)
    have bF:=J (vx.out he);clear he;go_wp2_with fail;refine (dN.out _).mono ?_;rintro e w' ⟨rfl,eE⟩;have aA:=J (ao.2.trans (eE.mono ao.2.size));clear eE;go_wp2_with fail
    go_roundw
    case rel=>exact ⟨a,h,rfl,rfl,bF.out,aA.out⟩
    case measure=>exact c4
   ·have d0:decide (r<0)=true:=bO (by rw [lg.out,he])
    have bF:=J (Au.out he);clear he;go_wp2_with fail;refine (dN.out _).mono ?_;rintro e w' ⟨rfl,eE⟩;have aA:=J (ao.2.trans (eE.mono ao.2.size));clear eE;go_wp2_with fail
    go_roundw
    case rel=>exact ⟨h+1,b,cm,rfl,bF.out,aA.out⟩
    case measure=>exact c4
  ·obtain rfl:a=b:=by omega
   have cT:=J (ao.1.done);have cg:decide ((a:Int)<(a:Int))=false:=av
   by_cases qR:a<l.length
   ·have vp:decide ((a:Int)<(l.length:Int))=true:=bO af
    have Kn:(a:Int)<(l.length:Int):=af;obtain ⟨b0,off,rfl,ff,bt,c1,c2⟩:=(bx.below ao.2).qU qR;have fx:=J (show h6 l s=(l[a].name.toList==s.toList) by unfold h6;rw [cT.out,dF qR]);have lg:=J (cmp_eq l[a].name s);generalize l[a]=x at *
    have dN:=J (fun W'=>Pz x s W');generalize Lib.compareBytes x.name.data.toList s.data.toList=r at *
    cases he:(x.name.toList==s.toList)
    ·have d0:(r==0)=false:=ji.2 (fun h=>by rw [lg.out,he] at h;cases h)
     have bF:=J (show h6 l s=false by rw [fx.out,he]);clear he;go_wp2_with fail;refine (dN.out _).mono ?_;rintro e w' ⟨rfl,eE⟩;have aA:=J (ao.2.trans (eE.mono ao.2.size));clear eE;go_wp2_with fail
     go_ret2
     exact ⟨by rw [cT.out,bF.out] <;> rfl,aA.out⟩
    ·have d0:(r==0)=true:=qQ.2 (by rw [lg.out,he])
     have bF:=J (show h6 l s=true by rw [fx.out,he]);clear he;go_wp2_with fail;refine (dN.out _).mono ?_;rintro e w' ⟨rfl,eE⟩;have aA:=J (ao.2.trans (eE.mono ao.2.size));clear eE;go_wp2_with fail
     go_ret2
     exact ⟨by rw [cT.out,bF.out] <;> rfl,aA.out⟩
   ·have vp:decide ((a:Int)<(l.length:Int))=false:=cX af
    have bF:=J (show h6 l s=false by unfold h6;rw [cT.out,td af]);go_wp2_with fail
    go_ret2
    exact ⟨by rw [cT.out,bF.out] <;> rfl,ao.2⟩
section
variable {α:Type} {size:Nat} {E:cu α size} {w:World} {base:Nat} {e:TypeId} {l:List α}
theorem cu.XL (E:cu α size) (l:List α) (i j:Nat) (hi:i<l.length) (aD:j<size) (x:α) (u:Value) (hx:E.enc x=(E.enc l[i]).set j u):E.all (l.set i x)=(E.all l).set (i*size+j) u:=by
 have h1:(i+1)*size<=l.length*size:=vB _ hi;rw [w1,w2] at h1
 have qR:=E.h3 l;have ih:((E.all l).take (i*size)).length=i*size:=by rw [fv];omega
 have XM:E.all l=(E.all l).take (i*size)++(E.enc l[i]++(E.all l).drop (i*size+size)):=by
  have:=E.KC l i l[i] hi;rw [List.set_getElem_self,mq] at this;exact this
 rw [E.KC l i x hi,hx,mq]
 conv=>rhs;rw [XM]
 rw [List.set_append_right _ _ (by rw [ih];omega),ih,Kb,List.set_append_left _ _ (by rw [E.len];exact aD)]
theorem Ei {g n c:Nat} (h:Own w base e E (.slice (some ⟨g,0,none⟩) n c) l) (hn:l.length=n) {i j:Nat} (hi:i<l.length) (aD:j<size) (x:α) (u:Value) (hx:E.enc x=(E.enc l[i]).set j u) :
  Own (w.setCell ⟨g,i*size+j,none⟩ u) base e E (.slice (some ⟨g,0,none⟩) n c) (l.set i x)/\w.grownBy (w.setCell ⟨g,i*size+j,none⟩ u) (some g):=by
 subst hn;obtain ⟨g',cap,cur,hv,hb,az,hn,hm,hcs,ht⟩:=th h (by intro e;subst e;simp at hi);injection hv with hv DW x7
 injection hv with hv
 injection hv with hv
 subst hv;subst x7;have qV:(l.set i x).length=l.length:=tA;refine ⟨?_,w6 _ _ _ _⟩;have key:Own (w.setCell ⟨g,i*size+j,none⟩ u) base e E (.slice (some ⟨g,0,none⟩) (l.set i x).length c) (l.set i x):=⟨E.h3 _,.inr ⟨g,c,_,rfl,hb,az.eW _ u,af,hm,by rw [Array.size_setIfInBounds];exact hcs,?_⟩⟩
 ·rw [qV] at key;exact key
 ·rw [qV,GV,List.take_set,ht,E.XL l i j hi aD x u hx]
end
theorem KD (l:List cf) (s:ByteArray) (A:Option Addr) (c:Nat) (w:World) (hr:a7 w encI A l) (hm:l.length<=1000000) (hs:p8 l) :
  Calls prog 244 #[.slice A l.length c,.string s] w fun e w'=>e=.returned (.tuple #[.i (jP l s),.bool (h6 l s)])/\Below w.heap.size w w':=by
 have bx:=J hr;have aP:=J hs;clear hr hs
 go_enter func244,ntmps244
 go_wp2_with fail;refine (XK l s A c _ bx hm aP).mono ?_;rintro e aC ⟨rfl,hb⟩;have aA:=J hb;clear hb;go_wp2_with fail
 go_ret2
 exact ⟨rfl,aA.out⟩
theorem KE {l:List cf} {s:ByteArray} (h:h6 l s=true):∃ hi:jP l s<l.length,l[jP l s].name=s:=by
 unfold h6 at h
 rcases gB (jP l s) l.length with aT|iy
 ·rw [dF aT] at h
  exact ⟨aT,toList_inj h⟩
 ·rw [td iy] at h;cases h
def late (x:cf) (r:Int):cf:=⟨x.name,x.size,r⟩
def CH (l:List cf) (i:Nat) (r:Int):List cf:=match l[i]? with|some x=>l.set i (late x r)|none=>l
theorem PA {l:List cf} {i:Nat} (hi:i<l.length) (r:Int):CH l i r=l.set i (late l[i] r):=by unfold CH;rw [dF hi]
theorem XN (l:List cf) (i:Nat) (r:Int):(CH l i r).length=l.length:=by unfold CH;split <;> simp
def nX (l:List cf) (s:ByteArray) (size r:Int):List cf:=if h6 l s then CH l (jP l s) r else r6 l (jP l s) ⟨s,size,r⟩
theorem PB {l:List cf} {s:ByteArray} (h:h6 l s=true) (size r:Int):nX l s size r=CH l (jP l s) r:=by unfold nX;rw [bB h]
theorem PC {l:List cf} {s:ByteArray} (h:h6 l s=false) (size r:Int):nX l s size r=r6 l (jP l s) ⟨s,size,r⟩:=by unfold nX;rw [h];rfl
theorem PD (l:List cf) (s:ByteArray) (size r:Int) (A:Option Addr) (c:Nat) (w:World) (hr:a7 w encI A l) (hl:l.length<=100000) (hs:p8 l) :
  Calls prog 207 #[.slice A l.length c,.string s,.i size,.i r] w (Px (nX l s size r) w):=by
 have bx:=J hr;have aP:=J hs;clear hr hs
 go_enter func207,ntmps207
 go_wp2_with fail;refine (KD l s A c _ bx af aP).mono ?_;rintro e aC ⟨rfl,bV⟩;have en:=J (ae (bx.below bV) bV);clear bV;go_wp2_with fail;refine (Pw l A c _ en.1 hl).mono ?_;rintro e aM ⟨A2,c2,rfl,hO,bY⟩;have dh:=J (ae (hO.mono en.2.size) (en.2.trans (bY.mono en.2.size)));clear hO bY en
 cases dz:h6 l s
 ·have AD:=J (PC dz size r)
  have hle:=XJ l s;have kS:=J (show (nX l s size r).length=l.length+1 by rw [AD.out];exact KF l _ _ hle);have fx:=J dz;clear dz;obtain ⟨i,hi⟩:∃ i,i=jP l s:=⟨_,rfl⟩
  rw [<- hi] at hle AD ⊢
  have hX:=J hi;clear hi;have cA:=J (ar.new aM 146 #[.string s,.i size,.i r]);have jk:=J (ae (dh.1.alloc (.cells #[.string s,.i size,.i r] 146)) (dh.2.alloc dh.2.size (.cells #[.string s,.i size,.i r] 146)));have py:=J (show some aM.heap.size≠(Value.slice A2 l.length c2).ownBlock from fun e=>by have:=(dh.1.iw _ e.symm).2;omega);go_wp2_with fail;refine (XO (x:=⟨s,size,r⟩) jk.1 cA py jk.2.size hl hle).mono ?_;rintro e w3 ⟨b5,c3,rfl,yq,er⟩;have iD:=J (ae yq (jk.1.jX jk.2 er aF jk.2.size));clear yq er;go_wp2_with fail;go_ret;exact ⟨b5,c3,by rw [kS.out] <;> rfl,by rw [kS.out,AD.out];exact iD.1,iD.2⟩
 ·obtain ⟨aT,yr⟩:=KE dz
  have AD:=J (PB dz size r);have p0:=J (PA aT r);have kS:=J (show (nX l s size r).length=l.length by rw [AD.out];exact XN _ _ _);have bW:l≠[]:=by intro e;subst e;simp at aT
  clear dz yr;obtain ⟨i,hi⟩:∃ i,i=jP l s:=⟨_,rfl⟩
  have CI:i<l.length:=by rw [hi];exact aT
  have XP:Hid (nX l s size r=l.set i (late l[i] r)):=by subst hi;exact AD.trans p0.out
  clear AD p0;rw [<- hi];clear hi aT;obtain ⟨g,yt,iy⟩:=CF dh.1 bW;subst yt;have z2:=PE dh.1 CI 2 (.i l[i].last) rfl;have XQ:=PF dh.1 rfl bW (i*3+2);have bs:=J (Ei dh.1 rfl CI (by omega:2<3) (late l[i] r) (.i r) rfl);have iu:=J (dh.1.jX dh.2 bs.2 aF dh.2.size);generalize l[i].last=z at *
  have cg:(i:Int)<(l.length:Int):=af;go_wp2_with fail;go_ret;exact ⟨some ⟨g,0,none⟩,c2,by rw [kS.out] <;> rfl,by rw [kS.out,XP.out];exact bs.1,iu.out⟩
def Ej (l:List cf) (s:ByteArray):List cf:=if h6 l s then Pv l (jP l s) else l
def p9:cf:=⟨⟨#[]⟩,0,0⟩
def yu (l:List cf) (s:ByteArray):cf:=if h6 l s then (match l[jP l s]? with|some x=>x|none=>p9) else p9
theorem GW (x:cf):x.cells.all (·.oneCell')=true:=by
 simp [cf.cells,Value.oneCell']
theorem GX:(prog.info? 146).map (·.size)=some 3:=ai
theorem XR (l:List cf) (s:ByteArray) (A:Option Addr) (c:Nat) (w:World) (hr:a7 w encI A l) (hl:l.length<=100000) (hs:p8 l) :
  Calls prog 206 #[.slice A l.length c,.string s] w fun e w'=>e=.returned (.tuple #[.agg (yu l s).cells,.bool (h6 l s)])/\Below w.heap.size w w':=by
 have bx:=J hr;have aP:=J hs;clear hr hs;have gD:=J (ae (bx.alloc (.cells p9.cells 146)) (ae (ar.new w 146 p9.cells) ((aO w.heap.size w).alloc aF (.cells p9.cells 146))))
 go_enter func206,ntmps206
 go_wp2_with fail;refine (KD l s A c _ gD.1 af aP).mono ?_;rintro e aC ⟨rfl,bV⟩;have en:=J (ae (gD.1.below bV) (ae (gD.2.1.bw bV) (gD.2.2.trans (bV.mono gD.2.2.size))));clear bV gD
 cases dz:h6 l s
 ·have bq:=J (show yu l s=p9 by unfold yu;rw [dz];rfl)
  have fx:=J dz;clear dz
  go_wp2_with (refine ch rfl 146 (.tmp 4) (.tmp 16) rfl w.heap.size 146 p9.cells p9.cells rfl rfl en.2.1 rfl GX (GW _) ?_;intro bc bS bP dx)
  have dn:=bS.cell;exact cS (v:=.tuple #[.agg p9.cells,.bool false]) (by simp [results,results206,go_sem,dn]) rfl ⟨by rw [bq.out,fx.out],en.2.2.grown bP en.2.2.size (by intro k hk;cases hk;exact e3 _)⟩
 ·obtain ⟨aT,yr⟩:=KE dz
  have bq:=J (show yu l s=l[jP l s] by unfold yu;rw [bB dz,dF aT]);have fx:=J dz;clear dz yr;obtain ⟨i,hi⟩:∃ i,i=jP l s:=⟨_,rfl⟩
  have CI:i<l.length:=by rw [hi];exact aT
  have iE:Hid (yu l s=l[i]):=by subst hi;exact bq.out
  rw [<- hi];clear hi aT bq;obtain ⟨b,off,rfl,hb,bt,c1,c2⟩:=en.1.qU CI;have cg:(i:Int)<(l.length:Int):=af;generalize l[i]=x at *
  go_wp2_with (refine ch rfl 146 (.tmp 4) (.tmp 20) rfl w.heap.size 146 p9.cells x.cells rfl rfl en.2.1 rfl GX (GW _) ?_;intro bc bS bP dx)
  have dn:=bS.cell;exact cS (v:=.tuple #[.agg x.cells,.bool true]) (by simp [results,results206,go_sem,dn]) rfl ⟨by rw [iE.out,fx.out],en.2.2.grown bP en.2.2.size (by intro k hk;cases hk;exact e3 _)⟩
theorem PG {l m:List cf} (h:m.map cf.name=l.map cf.name) (s:ByteArray):jP m s=jP l s:=by
 have e:∀ q:List cf,jP q s=(q.map cf.name).countP fun t=>blt t s:=fun q=>by unfold jP;rw [List.countP_map];rfl
 rw [e,e,h]
theorem XT {l m:List cf} (h:m.map cf.name=l.map cf.name) (s:ByteArray):h6 m s=h6 l s:=by
 have e:∀ q:List cf,h6 q s=(match (q.map cf.name)[jP q s]? with|some t=>t.toList==s.toList|none=>false):=fun q=>by
  unfold h6;rw [qW];cases q[jP q s]? <;> rfl
 rw [e,e,h,PG h]
theorem XU {l m:List cf} (h:m.map cf.name=l.map cf.name) (hs:p8 l):p8 m:=by
 have hl:m.length=l.length:=by have:=pz List.length h;simpa using this
 have hn:∀ i (hi:i<m.length),m[i].name=(l[i]'af).name:=fun i hi=>by
  have h1:(m.map cf.name)[i]? = (l.map cf.name)[i]?:=by rw [h]
  rw [qW,qW,dF hi,dF af] at h1
  simpa using h1
 intro i j gO aD;rw [hn,hn j aD];exact hs i j gO af
theorem XV {a b:ByteArray} (h:blt a b=true):blt b a=false:=by
 cases ah:blt b a
 ·rfl
 ·have:=jY h ah;rw [ms] at this;cases this
theorem KG {l:List cf} (hs:p8 l) {j:Nat} (aD:j<l.length):jP l l[j].name=j:=by
 refine yf _ l j af (fun t ht aT=>hs t j aT aD) (fun t ht iy=>?_)
 rcases gB j t with h|h
 ·exact XV (hs j t h ht)
 ·obtain rfl:t=j:=by omega
  exact ms _
theorem XW {l:List cf} (hs:p8 l) {x:cf} (hx:x∈l):h6 l x.name=true:=by
 obtain ⟨j,aD,rfl⟩:=pj hx;unfold h6;rw [KG hs aD,dF aD];simp
def kT (l:List cf) (us:List ByteArray) (r:Int):List cf:=l.map fun x=>if hasB us x.name then late x r else x
theorem AE (l:List cf) (us:List ByteArray) (r:Int):(kT l us r).length=l.length:=by unfold kT;simp
theorem XX (l:List cf) (us:List ByteArray) (r:Int):(kT l us r).map cf.name=l.map cf.name:=by
 unfold kT;rw [List.map_map]
 apply GY
 intro x _;simp only [Function.comp]
 split <;> rfl
theorem XY (l:List cf) (r:Int):kT l [] r=l:=by
 unfold kT;have:(fun x:cf=>if hasB [] x.name then late x r else x)=id:=by funext x;rfl
 rw [this,List.map_id]
theorem PH (us:List ByteArray) (s t:ByteArray):hasB (us++[s]) t=(hasB us t||(s.toList==t.toList)):=by unfold hasB;simp
theorem XZ {l:List cf} (hs:p8 l) (us:List ByteArray) (r:Int) {s:ByteArray} (h:h6 l s=false):kT l (us++[s]) r=kT l us r:=by
 unfold kT
 apply GY
 intro x hx;have:(s.toList==x.name.toList)=false:=by
  cases ah:(s.toList==x.name.toList)
  ·rfl
  ·have e:=toList_inj ah
   rw [e,XW hs hx] at h;cases h
 rw [PH,this,Bool.or_false]
theorem X0 {l:List cf} (hs:p8 l) (us:List ByteArray) (r:Int) {i:Nat} (hi:i<l.length) {y:cf} (hy:(kT l us r)[i]? = some y):(kT l us r).set i (late y r)=kT l (us++[l[i].name]) r:=by
 apply GA
 intro j
 rcases gB j l.length with aD|aD
 ·have ajU:j<(kT l us r).length:=by rw [AE];exact aD
  rw [List.getElem?_set];have aV:(kT l us r)[j]? = some (if hasB us l[j].name then late l[j] r else l[j]):=by unfold kT;rw [qW,dF aD];rfl
  have bE:(kT l (us++[l[i].name]) r)[j]? = some (if hasB (us++[l[i].name]) l[j].name then late l[j] r else l[j]):=by unfold kT;rw [qW,dF aD];rfl
  rw [aV,bE,PH]
  by_cases gO:i=j
  ·subst gO
   rw [bB rfl,bB (by rw [AE];exact hi)];rw [aV] at hy
   injection hy with hy
   subst hy;simp only [beq_self_eq_true,Bool.or_true,ll]
   split <;> rfl
  ·rw [bp gO]
   have:(l[i].name.toList==l[j].name.toList)=false:=by
    cases ah:(l[i].name.toList==l[j].name.toList)
    ·rfl
    ·exfalso
     have e:=toList_inj ah;have c6:=KG hs hi;have a2:=KG hs aD;rw [e] at c6
     omega
   rw [this,Bool.or_false]
 ·rw [td (by rw [tA,AE];exact aD),td (by rw [AE];exact aD)]
theorem X1 (l:List cf) (us:List ByteArray) (r:Int) (A B:Option Addr) (c d:Nat) (w:World) (hr:a7 w encI A l) (hu:a7 w encS B us) (hl:l.length<=100000) (hm:us.length<=9223372036854775807) (hs:p8 l) :
  Calls prog 189 #[.slice A l.length c,.slice B us.length d,.i r] w (Px (kT l us r) w):=by
 have bx:=J hr;have hP:=J hu;have aP:=J hs;clear hr hu hs
 go_enter func189,ntmps189
 go_wp2_with fail;refine (Pw l A c _ bx hl).mono ?_;rintro e aM ⟨A2,c2,rfl,hO,bY⟩;have dh:=J (ae hO bY);clear hO bY;go_wp2_with fail
 go_loopw [16] (fun i wr=>∃ k:Nat,k<=us.length/\i=.i k/\Own wr w.heap.size 146 encI (.slice A2 l.length c2) (kT l (us.take k) r)/\Below w.heap.size w wr) (fun i _=>us.length-(intOf i).toNat)
 case atStart=>exact ⟨0,af,rfl,by rw [List.take_zero,XY];exact dh.1,dh.2⟩
 case round =>
  clear dh;obtain ⟨k,hk,rfl,hO,bM⟩:=hrel;have ap:=J (ae hO bM);clear hO bM
  by_cases aT:k<us.length
  ·obtain ⟨b,off,rfl,hb,hc⟩:=(hP.below ap.2).str aT
   have cg:decide ((k:Int)<(us.length:Int))=true:=bO af;have lG:(k:Int)<(us.length:Int):=af;obtain ⟨M,oJ⟩:∃ M,M=kT l (us.take k) r:=⟨_,rfl⟩
   have PI:M.length=l.length:=by rw [oJ];exact AE _ _ _
   have GZ:M.map cf.name=l.map cf.name:=by rw [oJ];exact XX _ _ _
   have nY:=J PI;have X2:=J (XU GZ aP);have PJ:=J (ae (PG GZ us[k]) (XT GZ us[k]));have yv:=J (gS aT);have CJ:=J oJ;rw [<- oJ] at ap
   clear oJ PI GZ;generalize us[k]=s at *
   go_wp2_with fail;have dz:=KD M s A2 c2 _ (by rw [<- nY.out] at ap;exact ap.1.cZ) (by rw [nY.out];omega) X2.out;rw [nY.out,PJ.1,PJ.2] at dz
   refine dz.mono ?_;rintro e w3 ⟨rfl,bu⟩;have iD:=J (ae (ap.1.below bu aF) (ap.2.trans (bu.mono ap.2.size)));clear dz bu ap
   cases dz:h6 l s
   ·have bs:=J (XZ aP (us.take k) r dz)
    clear dz;go_wp2_with fail
    go_roundw
    case rel=>exact ⟨k+1,af,cm,by rw [yv.out,bs.out,<- CJ.out];exact iD.1,iD.2⟩
    case measure=>exact c4
   ·obtain ⟨fC,yr⟩:=KE dz
    clear dz;obtain ⟨i,hi⟩:∃ i,i=jP l s:=⟨_,rfl⟩
    have PK:i<l.length:=by rw [hi];exact fC
    have X3:Hid (l[i].name=s):=by subst hi;exact yr
    rw [<- hi];clear hi fC yr;have Ek:i<M.length:=by rw [nY.out];exact PK
    have cJ:=J (X0 aP (us.take k) r PK (y:=M[i]) (by rw [<- CJ.out];exact dF Ek));rw [X3.out,<- CJ.out] at cJ
    have bW:M≠[]:=by intro e;rw [e] at Ek;simp at Ek
    obtain ⟨g,yt,iy⟩:=CF (by rw [<- nY.out] at iD;exact iD.1) bW;subst yt;have z2:=PE (by rw [<- nY.out] at iD;exact iD.1) Ek 2 (.i M[i].last) rfl;have XQ:=PF iD.1 nY.out bW (i*3+2);have bs:=J (Ei iD.1 nY Ek (by omega:2<3) (late M[i] r) (.i r) rfl);have iu:=J (iD.2.setCell (p:=⟨g,i*3+2,none⟩) iy (.i r));generalize M[i].last=z at *
    have ajV:(i:Int)<(l.length:Int):=af;go_wp2_with fail
    go_roundw
    case rel=>exact ⟨k+1,af,cm,by rw [yv.out,<- cJ.out];exact bs.1,iu.out⟩
    case measure=>exact c4
  ·obtain rfl:k=us.length:=by omega
   have cg:decide ((us.length:Int)<(us.length:Int))=false:=av;have fE:=J (AE l us r);rw [kn] at ap
   go_wp2_with fail;go_ret;exact ⟨A2,c2,by rw [fE.out] <;> rfl,by rw [fE.out];exact ap.1,ap.2⟩
end Go.Proofs.YtmmchlfoplcnbaaGreatDoor
