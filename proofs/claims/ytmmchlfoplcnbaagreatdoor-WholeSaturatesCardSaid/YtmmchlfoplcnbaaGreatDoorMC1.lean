/- A part of the walk. -/
import Derived.Test.YtmmchlfoplcnbaaGreatDoorMB0
namespace Go.Proofs.YtmmchlfoplcnbaaGreatDoor
open Go Go.RowKit Tryz
set_option linter.all false
set_option maxRecDepth 100000
set_option maxHeartbeats 4000000
def fB (l:List bj):Prop:=∀ (i j:Nat) (_:i<j) (aD:j<l.length),blt (l[i]'af).aa.id l[j].aa.id=true
def dQ (l:List bj) (s:ByteArray):Nat:=l.countP fun x=>blt x.aa.id s
def ij (l:List bj) (s:ByteArray):Bool:=match l[dQ l s]? with|some x=>x.aa.id.toList==s.toList|none=>false
theorem Xm (l:List bj) (s:ByteArray):dQ l s<=l.length:=Kk
theorem yf {α:Type} (p:α->Bool):∀ (l:List α) (i:Nat),i<=l.length->(∀ (t:Nat) (ht:t<l.length),t<i->p l[t]=true)->(∀ (t:Nat) (ht:t<l.length),i<=t->p l[t]=false)->l.countP p=i
 | [],i,hi,_,_=>by simp at hi;simp [hi]
 | a :: r,0,_,_,ah=>by
  rw [List.countP_eq_zero];intro x hx;obtain ⟨t,ht,rfl⟩:=pj hx;simp [ah t ht (p3 _)]
 | a :: r,i+1,hi,h1,ah=>by
  have ha:p a=true:=h1 0 av (Nat.succ_pos _);rw [Kl ha,yf p r i (by simpa using hi) (fun t ht h=>h1 (t+1) (by simpa using ht) af) (fun t ht h=>ah (t+1) (by simpa using ht) af)]
structure rZ (l:List bj) (s:ByteArray) (a b:Nat):Prop where
 le:a<=b
 top:b<=l.length
 lI:∀ (t:Nat) (ht:t<l.length),t<a->blt l[t].aa.id s=true
 hi:∀ (t:Nat) (ht:t<l.length),b<=t->blt l[t].aa.id s=false
theorem rZ.start (l:List bj) (s:ByteArray):rZ l s 0 l.length:=⟨p3 _,e3 _,fun t _ h=>af,fun t h ah=>af⟩
theorem rZ.up {l:List bj} {s:ByteArray} {a b h:Nat} (hs:fB l) (hS:rZ l s a b) (hb:h<b) (hl:h<l.length) (hc:blt l[h].aa.id s=true):rZ l s (h+1) b:=by
 refine ⟨af,hS.top,fun t ht aT=>?_,hS.hi⟩
 rcases gB t h with h1|h1
 ·exact jY (hs t h h1 hl) hc
 ·obtain rfl:t=h:=by omega
  exact hc
theorem rZ.down {l:List bj} {s:ByteArray} {a b h:Nat} (hs:fB l) (hS:rZ l s a b) (ha:a<=h) (hb:h<b) (hl:h<l.length) (hc:blt l[h].aa.id s=false):rZ l s a h:=by
 refine ⟨ha,af,hS.lI,fun t ht iy=>?_⟩
 rcases gB h t with h1|h1
 ·cases ah:blt l[t].aa.id s
  ·rfl
  ·rw [jY (hs h t h1 ht) ah] at hc;cases hc
 ·obtain rfl:t=h:=by omega
  exact hc
theorem rZ.done {l:List bj} {s:ByteArray} {a:Nat} (hS:rZ l s a a):dQ l s=a:=yf _ l a hS.top hS.lI hS.hi
theorem GI (a b:ByteArray):(Lib.compareBytes a.data.toList b.data.toList<0)=(blt a b=true):=by
 rw [blt_eq,jZ];exact propext (CD _ _).1
theorem cmp_eq (a b:ByteArray):(Lib.compareBytes a.data.toList b.data.toList=0)=((a.toList==b.toList)=true):=by
 rw [qQ,oG,oG];exact propext (CD _ _).2
theorem Pa (x:bj) (s:ByteArray) (W:World):Calls prog 181 #[.agg #[.string x.aa.id,.i x.aa.prio,.bool x.aa.bo,.i x.aa.bg,.i x.aa.aX,.i x.aa.ba,.i x.aa.bk,.i x.aa.bl,.i x.aa.aW,.string x.aa.bb,.i x.aa.size,.i x.phase],.string s] W fun e w'=>e=.returned (.i (Lib.compareBytes x.aa.id.data.toList s.data.toList))/\Below W.heap.size W w':=by
 have ah:=fun W'=>ye x.aa.id s W'
 generalize Lib.compareBytes x.aa.id.data.toList s.data.toList=r2 at *
 have ju:=J ah;clear ah;have aA:=J ((aO W.heap.size W).alloc aF (.cells #[.string x.aa.id,.i x.aa.prio,.bool x.aa.bo,.i x.aa.bg,.i x.aa.aX,.i x.aa.ba,.i x.aa.bk,.i x.aa.bl,.i x.aa.aW,.string x.aa.bb,.i x.aa.size,.i x.phase] 66))
 go_enter func181,ntmps181
 go_wp2_with fail;refine (ju.out _).mono ?_;rintro e w' ⟨rfl,rfl⟩;go_wp2_with fail;go_ret;exact ⟨rfl,aA.out⟩
theorem Xn (l:List bj) (s:ByteArray) (A:Option Addr) (c:Nat) (w:World) (hr:a7 w cR A l) (hm:l.length<=1000000) (hs:fB l) :
  Calls prog 180 #[.slice A l.length c,.string s,.func (.func 181) #[] #[]] w fun e w'=>e=.returned (.tuple #[.i (dQ l s),.bool (ij l s)])/\Below w.heap.size w w':=by
 have bx:=J hr;have aP:=J hs;clear hr hs
 go_enter func180,ntmps180
 go_wp2_with fail
 go_loopw [9,10] (fun i j wr=>∃ a b:Nat,i=.i a/\j=.i b/\rZ l s a b/\Below w.heap.size w wr) (fun i j _=>((intOf j).toNat-(intOf i).toNat))
 case atStart=>exact ⟨0,l.length,rfl,rfl,rZ.start l s,aO _ _⟩
 case round =>
  obtain ⟨a,b,rfl,rfl,hS,bM⟩:=hrel;have hle:=hS.le;have Km:=hS.top;have ao:=J (ae hS bM);clear hS bM
  by_cases aT:a<b
  ·obtain ⟨h,bQ⟩:∃ h:Nat,h=(a+b) / 2:=⟨_,rfl⟩
   have Ar:a<=h:=af;have s9:h<b:=af;have pk:h<l.length:=af;have cg:decide ((a:Int)<(b:Int))=true:=bO af;have l0:decide (a<b)=true:=bO af;have lG:(h:Int)<(l.length:Int):=af;obtain ⟨n,hn⟩:∃ n:Nat,n=a+b:=⟨_,rfl⟩
   have iz:(a:Int)+(b:Int)=(n:Int):=af;have aV:wrap64 ((a:Int)+(b:Int))=(n:Int):=by unfold wrap64;omega
   have bE:IntKind.u64.wrap (n:Int)=(n:Int):=by rw [IntKind.wrap_u64];omega
   have cG:(n:Int) / 2=(h:Int):=af;have po:wrap64 (h:Int)=(h:Int):=by unfold wrap64;omega
   obtain ⟨b0,off,rfl,ff,bt,c1,c2,c3,fA,c5,dG,fU,i1,ix,i6,wY⟩:=(bx.below ao.2).jM pk;have lg:=J (GI l[h].aa.id s);have Au:=J (fun hc=>ao.1.up aP.out s9 pk hc);have vx:=J (fun hc=>ao.1.down aP.out Ar s9 pk hc);generalize l[h]=x at *
   have dN:=J (fun W'=>Pa x s W');generalize Lib.compareBytes x.aa.id.data.toList s.data.toList=r at *
   clear bQ hn
   cases he:blt x.aa.id s
   ·have d0:decide (r<0)=false:=cX (by rw [lg.out,he];simp)
    have bF:=J (vx.out he);clear he;go_wp2_with fail;refine (dN.out _).mono ?_;rintro e w' ⟨rfl,eE⟩;have aA:=J (ao.2.trans (eE.mono ao.2.size));clear eE;go_wp2_with fail
    go_roundw
    case rel=>exact ⟨a,h,rfl,rfl,bF.out,aA.out⟩
    case measure=>exact c4
   ·have d0:decide (r<0)=true:=bO (by rw [lg.out,he])
    have bF:=J (Au.out he);clear he;go_wp2_with fail;refine (dN.out _).mono ?_;rintro e w' ⟨rfl,eE⟩;have aA:=J (ao.2.trans (eE.mono ao.2.size));clear eE;go_wp2_with fail
    go_roundw
    case rel=>exact ⟨h+1,b,cm,rfl,bF.out,aA.out⟩
    case measure=>exact c4
  ·obtain rfl:a=b:=by omega
   have cT:=J (ao.1.done);have cg:decide ((a:Int)<(a:Int))=false:=av
   by_cases qR:a<l.length
   ·have vp:decide ((a:Int)<(l.length:Int))=true:=bO af
    have Kn:(a:Int)<(l.length:Int):=af;obtain ⟨b0,off,rfl,ff,bt,c1,c2,c3,fA,c5,dG,fU,i1,ix,i6,wY⟩:=(bx.below ao.2).jM qR;have fx:=J (show ij l s=(l[a].aa.id.toList==s.toList) by unfold ij;rw [cT.out,dF qR]);have lg:=J (cmp_eq l[a].aa.id s);generalize l[a]=x at *
    have dN:=J (fun W'=>Pa x s W');generalize Lib.compareBytes x.aa.id.data.toList s.data.toList=r at *
    cases he:(x.aa.id.toList==s.toList)
    ·have d0:(r==0)=false:=ji.2 (fun h=>by rw [lg.out,he] at h;cases h)
     have bF:=J (show ij l s=false by rw [fx.out,he]);clear he;go_wp2_with fail;refine (dN.out _).mono ?_;rintro e w' ⟨rfl,eE⟩;have aA:=J (ao.2.trans (eE.mono ao.2.size));clear eE;go_wp2_with fail
     go_ret2
     exact ⟨by rw [cT.out,bF.out] <;> rfl,aA.out⟩
    ·have d0:(r==0)=true:=qQ.2 (by rw [lg.out,he])
     have bF:=J (show ij l s=true by rw [fx.out,he]);clear he;go_wp2_with fail;refine (dN.out _).mono ?_;rintro e w' ⟨rfl,eE⟩;have aA:=J (ao.2.trans (eE.mono ao.2.size));clear eE;go_wp2_with fail
     go_ret2
     exact ⟨by rw [cT.out,bF.out] <;> rfl,aA.out⟩
   ·have vp:decide ((a:Int)<(l.length:Int))=false:=cX af
    have bF:=J (show ij l s=false by unfold ij;rw [cT.out,td af]);go_wp2_with fail
    go_ret2
    exact ⟨by rw [cT.out,bF.out] <;> rfl,ao.2⟩
structure dJ where
 id:ByteArray
 a0:Int
 c6:Int
 a2:Int
abbrev dJ.cells (p:dJ):Array Value:=#[.string p.id,.i p.a0,.i p.c6,.i p.a2]
instance:Inhabited dJ:=⟨⟨⟨#[]⟩,0,0,0⟩⟩
def jA:cu dJ 4:=⟨fun p=>p.cells.toList,fun _=>rfl,fun p u hu=>by simp at hu;rcases hu with h|h|h|h <;> subst h <;> rfl,ak⟩
theorem a7.us {w:World} {A:Option Addr} {l:List dJ} (h:a7 w jA A l) {i:Nat} (hi:i<l.length):∃ b off,A=some ⟨b,off,none⟩/\b<w.heap.size /\
  w.cell? ⟨b,off+i*4,none⟩=some (.string l[i].id)/\w.cell? ⟨b,off+i*4+1,none⟩=some (.i l[i].a0)/\w.cell? ⟨b,off+i*4+2,none⟩=some (.i l[i].c6)/\w.cell? ⟨b,off+i*4+3,none⟩=some (.i l[i].a2):=by
 obtain ⟨b,off,e,hb,hc⟩:=h.at_ hi;exact ⟨b,off,e,hb,by have:=hc 0 (.string l[i].id) rfl;simpa using this,hc 1 (.i l[i].a0) rfl,hc 2 (.i l[i].c6) rfl,hc 3 (.i l[i].a2) rfl⟩
def oR (l:List dJ):Prop:=∀ (i j:Nat) (_:i<j) (aD:j<l.length),blt (l[i]'af).id l[j].id=true
def xo (l:List dJ) (s:ByteArray):Nat:=l.countP fun x=>blt x.id s
def tQ (l:List dJ) (s:ByteArray):Bool:=match l[xo l s]? with|some x=>x.id.toList==s.toList|none=>false
structure sx (l:List dJ) (s:ByteArray) (a b:Nat):Prop where
 le:a<=b
 top:b<=l.length
 lI:∀ (t:Nat) (ht:t<l.length),t<a->blt l[t].id s=true
 hi:∀ (t:Nat) (ht:t<l.length),b<=t->blt l[t].id s=false
theorem sx.start (l:List dJ) (s:ByteArray):sx l s 0 l.length:=⟨p3 _,e3 _,fun t _ h=>af,fun t h ah=>af⟩
theorem sx.up {l:List dJ} {s:ByteArray} {a b h:Nat} (hs:oR l) (hS:sx l s a b) (hb:h<b) (hl:h<l.length) (hc:blt l[h].id s=true):sx l s (h+1) b:=by
 refine ⟨af,hS.top,fun t ht aT=>?_,hS.hi⟩
 rcases gB t h with h1|h1
 ·exact jY (hs t h h1 hl) hc
 ·obtain rfl:t=h:=by omega
  exact hc
theorem sx.down {l:List dJ} {s:ByteArray} {a b h:Nat} (hs:oR l) (hS:sx l s a b) (ha:a<=h) (hb:h<b) (hl:h<l.length) (hc:blt l[h].id s=false):sx l s a h:=by
 refine ⟨ha,af,hS.lI,fun t ht iy=>?_⟩
 rcases gB h t with h1|h1
 ·cases ah:blt l[t].id s
  ·rfl
  ·rw [jY (hs h t h1 ht) ah] at hc;cases hc
 ·obtain rfl:t=h:=by omega
  exact hc
theorem sx.done {l:List dJ} {s:ByteArray} {a:Nat} (hS:sx l s a a):xo l s=a:=yf _ l a hS.top hS.lI hS.hi
theorem Rj (x:dJ) (s:ByteArray) (W:World):Calls prog 373 #[.agg #[.string x.id,.i x.a0,.i x.c6,.i x.a2],.string s] W fun e w'=>e=.returned (.i (Lib.compareBytes x.id.data.toList s.data.toList))/\Below W.heap.size W w':=by
 have ah:=fun W'=>ye x.id s W'
 generalize Lib.compareBytes x.id.data.toList s.data.toList=r2 at *
 have ju:=J ah;clear ah;have aA:=J ((aO W.heap.size W).alloc aF (.cells #[.string x.id,.i x.a0,.i x.c6,.i x.a2] 318))
 go_enter func373,ntmps373
 go_wp2_with fail;refine (ju.out _).mono ?_;rintro e w' ⟨rfl,rfl⟩;go_wp2_with fail;go_ret;exact ⟨rfl,aA.out⟩
theorem aad (l:List dJ) (s:ByteArray) (A:Option Addr) (c:Nat) (w:World) (hr:a7 w jA A l) (hm:l.length<=1000000) (hs:oR l) :
  Calls prog 372 #[.slice A l.length c,.string s,.func (.func 373) #[] #[]] w fun e w'=>e=.returned (.tuple #[.i (xo l s),.bool (tQ l s)])/\Below w.heap.size w w':=by
 have bx:=J hr;have aP:=J hs;clear hr hs
 go_enter func372,ntmps372
 go_wp2_with fail
 go_loopw [9,10] (fun i j wr=>∃ a b:Nat,i=.i a/\j=.i b/\sx l s a b/\Below w.heap.size w wr) (fun i j _=>((intOf j).toNat-(intOf i).toNat))
 case atStart=>exact ⟨0,l.length,rfl,rfl,sx.start l s,aO _ _⟩
 case round =>
  obtain ⟨a,b,rfl,rfl,hS,bM⟩:=hrel;have hle:=hS.le;have Km:=hS.top;have ao:=J (ae hS bM);clear hS bM
  by_cases aT:a<b
  ·obtain ⟨h,bQ⟩:∃ h:Nat,h=(a+b) / 2:=⟨_,rfl⟩
   have Ar:a<=h:=af;have s9:h<b:=af;have pk:h<l.length:=af;have cg:decide ((a:Int)<(b:Int))=true:=bO af;have l0:decide (a<b)=true:=bO af;have lG:(h:Int)<(l.length:Int):=af;obtain ⟨n,hn⟩:∃ n:Nat,n=a+b:=⟨_,rfl⟩
   have iz:(a:Int)+(b:Int)=(n:Int):=af;have aV:wrap64 ((a:Int)+(b:Int))=(n:Int):=by unfold wrap64;omega
   have bE:IntKind.u64.wrap (n:Int)=(n:Int):=by rw [IntKind.wrap_u64];omega
   have cG:(n:Int) / 2=(h:Int):=af;have po:wrap64 (h:Int)=(h:Int):=by unfold wrap64;omega
   obtain ⟨b0,off,rfl,ff,bt,c1,c2,c3⟩:=(bx.below ao.2).us pk;have lg:=J (GI l[h].id s);have Au:=J (fun hc=>ao.1.up aP.out s9 pk hc);have vx:=J (fun hc=>ao.1.down aP.out Ar s9 pk hc);generalize l[h]=x at *
   have dN:=J (fun W'=>Rj x s W');generalize Lib.compareBytes x.id.data.toList s.data.toList=r at *
   clear bQ hn
   cases he:blt x.id s
   ·have d0:decide (r<0)=false:=cX (by rw [lg.out,he];simp)
    have bF:=J (vx.out he);clear he;go_wp2_with fail;refine (dN.out _).mono ?_;rintro e w' ⟨rfl,eE⟩;have aA:=J (ao.2.trans (eE.mono ao.2.size));clear eE;go_wp2_with fail
    go_roundw
    case rel=>exact ⟨a,h,rfl,rfl,bF.out,aA.out⟩
    case measure=>exact c4
   ·have d0:decide (r<0)=true:=bO (by rw [lg.out,he])
    have bF:=J (Au.out he);clear he;go_wp2_with fail;refine (dN.out _).mono ?_;rintro e w' ⟨rfl,eE⟩;have aA:=J (ao.2.trans (eE.mono ao.2.size));clear eE;go_wp2_with fail
    go_roundw
    case rel=>exact ⟨h+1,b,cm,rfl,bF.out,aA.out⟩
    case measure=>exact c4
  ·obtain rfl:a=b:=by omega
   have cT:=J (ao.1.done);have cg:decide ((a:Int)<(a:Int))=false:=av
   by_cases qR:a<l.length
   ·have vp:decide ((a:Int)<(l.length:Int))=true:=bO af
    have Kn:(a:Int)<(l.length:Int):=af;obtain ⟨b0,off,rfl,ff,bt,c1,c2,c3⟩:=(bx.below ao.2).us qR;have fx:=J (show tQ l s=(l[a].id.toList==s.toList) by unfold tQ;rw [cT.out,dF qR]);have lg:=J (cmp_eq l[a].id s);generalize l[a]=x at *
    have dN:=J (fun W'=>Rj x s W');generalize Lib.compareBytes x.id.data.toList s.data.toList=r at *
    cases he:(x.id.toList==s.toList)
    ·have d0:(r==0)=false:=ji.2 (fun h=>by rw [lg.out,he] at h;cases h)
     have bF:=J (show tQ l s=false by rw [fx.out,he]);clear he;go_wp2_with fail;refine (dN.out _).mono ?_;rintro e w' ⟨rfl,eE⟩;have aA:=J (ao.2.trans (eE.mono ao.2.size));clear eE;go_wp2_with fail
     go_ret2
     exact ⟨by rw [cT.out,bF.out] <;> rfl,aA.out⟩
    ·have d0:(r==0)=true:=qQ.2 (by rw [lg.out,he])
     have bF:=J (show tQ l s=true by rw [fx.out,he]);clear he;go_wp2_with fail;refine (dN.out _).mono ?_;rintro e w' ⟨rfl,eE⟩;have aA:=J (ao.2.trans (eE.mono ao.2.size));clear eE;go_wp2_with fail
     go_ret2
     exact ⟨by rw [cT.out,bF.out] <;> rfl,aA.out⟩
   ·have vp:decide ((a:Int)<(l.length:Int))=false:=cX af
    have bF:=J (show tQ l s=false by unfold tQ;rw [cT.out,td af]);go_wp2_with fail
    go_ret2
    exact ⟨by rw [cT.out,bF.out] <;> rfl,ao.2⟩
end Go.Proofs.YtmmchlfoplcnbaaGreatDoor
