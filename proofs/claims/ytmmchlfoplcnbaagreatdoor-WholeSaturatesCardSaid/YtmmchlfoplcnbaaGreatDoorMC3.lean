/- A part of the walk. -/
import Derived.Laws.Concat
import Derived.Test.YtmmchlfoplcnbaaGreatDoorMB4
import Derived.Test.YtmmchlfoplcnbaaGreatDoorMB1
import Derived.Test.YtmmchlfoplcnbaaGreatDoorMC2
import Derived.Test.YtmmchlfoplcnbaaGreatDoorMB0
import Derived.Test.YtmmchlfoplcnbaaGreatDoorMA4
namespace Go.Proofs.YtmmchlfoplcnbaaGreatDoor
open Go Go.RowKit Tryz
set_option linter.all false
set_option maxRecDepth 100000
set_option maxHeartbeats 4000000
theorem js (w:World) (x y:List UInt8) (h:x.length+y.length<=1000000):(Op.stringOp .add (str x) (str y)).run prog w=.ok (.string (str (x++y))) w :=
 run_string_add_lists w x y af af
def FX (n:Nat) (w:World) (e:Ending) (w':World):Prop:=e=.returned (.string (str (dY n)))/\Below w.heap.size w w'
theorem B9 {n:Nat} (h:n<=9223372036854775807):(dY n).length<=19:=zC 19 af af
theorem FY (n:Nat) (hn:n<=9223372036854775807):∀ w:World,Calls prog 118 #[.i n] w (FX n w):=by
 induction n using Nat.strongRecOn with
 | ind n b6 =>
  intro w
  by_cases h:n<10
  ·have bq:=J (B' h)
   have cg:decide ((n:Int)<10)=true:=bO af;have cU:wrap64 (48+(n:Int))=48+n:=by unfold wrap64;omega
   have gx:(48+(n:Int)) % 256=((UInt8.ofNat (48+n)).toNat:Int):=by rw [tF];omega
   have hc:=O7 (w.alloc (.cells #[.int .u8 ((UInt8.ofNat (48+n)).toNat:Int)] 5)) (some ⟨w.heap.size,0,none⟩) [UInt8.ofNat (48+n)] 1 (a7.made w cO [UInt8.ofNat (48+n)] 5 #[.int .u8 ((UInt8.ofNat (48+n)).toNat:Int)] (0,0) rfl);rw [<- gx,List.length_singleton] at hc
   obtain ⟨t,ht⟩:=aE (str [UInt8.ofNat (48+n)]);rw [ht] at hc
   have cC:=J ht;have aA:=J ((aO w.heap.size w).alloc aF (.cells #[.int .u8 ((48+(n:Int)) % 256)] 5));clear b6 h hn gx ht
   go_enter func118,ntmps118
   go_wp2_with fail;go_ret;exact ⟨by rw [bq.out,cC.out];rfl,aA.out⟩
  ·obtain ⟨m1,wu⟩:=aE (n / 10)
   obtain ⟨m2,mJ⟩:=aE (n % 10);have bq:=J (show dY n=dY m1++dY m2 by rw [FZ h,B' (u:=m2) af,wu,mJ]);have H1:=J (b6 m1 af af);have ju:=J (b6 m2 af af);have cT:=J (show (dY m1).length+(dY m2).length<=1000000 by have:=B9 (n:=m1) af;have:=B9 (n:=m2) af;omega);have cg:decide ((n:Int)<10)=false:=cX af;have bd:wrap64 ((n:Int) / 10)=(m1:Int):=by unfold wrap64;omega
   have hr:(n:Int) % 10=(m2:Int):=af;clear b6 h hn wu mJ
   go_enter func118,ntmps118
   go_wp2_with fail;refine (H1.out w).mono ?_;rintro e aC ⟨rfl,bV⟩;have df:=J bV;clear bV;go_wp2_with fail;refine (ju.out aC).mono ?_;rintro e aM ⟨rfl,bY⟩;have cA:=J (df.trans (bY.mono df.size));have ha:=js aM (dY m1) (dY m2) cT.out;clear bY bd hr;go_wp2_with fail;go_ret;exact ⟨by rw [bq.out];rfl,cA.out⟩
theorem U2 (w:World):Calls prog 116 #[] w fun e w'=>e=.returned (.slice (some ⟨w.heap.size,0,none⟩) 8 8)/\w'=w.alloc (.cells #[.string ⟨#[84,105]⟩,.string ⟨#[84]⟩,.string ⟨#[71,105]⟩,.string ⟨#[71]⟩,.string ⟨#[77,105]⟩,.string ⟨#[77]⟩,.string ⟨#[75,105]⟩,.string ⟨#[107]⟩] 9):=by
 go_enter func116,ntmps116
 go_wp2_with fail;go_ret;exact ⟨rfl,rfl⟩
abbrev DR:Array Value:=#[.string ⟨#[84,105]⟩,.string ⟨#[84]⟩,.string ⟨#[71,105]⟩,.string ⟨#[71]⟩,.string ⟨#[77,105]⟩,.string ⟨#[77]⟩,.string ⟨#[75,105]⟩,.string ⟨#[107]⟩]
def mO (i:Nat):ByteArray:=match i with|0=>⟨#[84,105]⟩|1=>⟨#[84]⟩|2=>⟨#[71,105]⟩|3=>⟨#[71]⟩|4=>⟨#[77,105]⟩|5=>⟨#[77]⟩|6=>⟨#[75,105]⟩|_=>⟨#[107]⟩
def qI (i:Nat):Nat:=match i with|0=>1099511627776|1=>1000000000000|2=>1073741824|3=>1000000000|4=>1048576|5=>1000000|6=>1024|_=>1000
theorem U3:∀ i,i<8->∀ j,j<8->((mO i).toList==(mO j).toList)=(i==j):=by
 simp only [oG]
 decide
theorem NZ:∀ i,i<8->DR[i]? = some (.string (mO i)):=fun i hi=>by
 have h:i=0\/i=1\/i=2\/i=3\/i=4\/i=5\/i=6\/i=7:=af
 rcases h with rfl|rfl|rfl|rfl|rfl|rfl|rfl|rfl <;> rfl
def pW (j k:Nat):Nat:=(if j % 2=0 then 1024 else 1000) ^ k
theorem agX:∀ j,j<8->pW j (4-j / 2)=qI j:=ak
theorem U4:∀ j,j<8->∀ k,k<5->pW j k<=1099511627776:=ak
theorem U5 (j k:Nat):pW j (k+1)=pW j k*(if j % 2=0 then 1024 else 1000):=Nat.pow_succ _ _
def N0 (v:Nat) (w:World) (e:Ending) (w':World):Prop:=e=.returned (.i v)/\Below w.heap.size w w'
theorem agY (w:World):Calls prog 117 #[.string ⟨#[]⟩] w (N0 1 w):=by
 have aA:=J (aO w.heap.size w)
 go_enter func117,ntmps117
 go_wp2_with fail;go_ret;exact ⟨rfl,aA.out⟩
theorem U6 (j:Nat) (aD:j<8) (w:World):Calls prog 117 #[.string (mO j)] w (N0 (qI j) w):=by
 have bI:(mO j).toList.isEmpty=false:=(show ∀ j,j<8->(mO j).toList.isEmpty=false by simp only [oG];decide) j aD;have kb:=J (ae (ar.new w 9 DR) ((aO w.heap.size w).alloc aF (.cells DR 9)));have tO:=J aD;obtain ⟨s,hs⟩:=aE (mO j);have U7:=J hs;rw [hs] at bI ⊢
 clear aD hs
 go_enter func117,ntmps117
 go_wp2_with fail;refine (U2 w).mono ?_;rintro e aC ⟨rfl,cU⟩;rw [<- cU] at kb
 clear cU;go_wp2_with fail
 go_loopw [4] (fun ii wr=>∃ i:Nat,i<=j/\ii=.i i/\aC=wr) (fun ii _=>8-(intOf ii).toNat)
 case atStart=>exact ⟨0,af,rfl,av⟩
 case round =>
  obtain ⟨i,hi,rfl,rfl⟩:=hrel;have wO:=tO.out;have cg:decide ((i:Int)<8)=true:=bO af;have hc:aC.cell? ⟨w.heap.size,i,none⟩=some (.string (mO i)):=by rw [kb.1.cell i];exact NZ i af
  have r0:(i:Int)<8:=af;obtain ⟨t,ht⟩:=aE (mO i);rw [ht] at hc
  by_cases he:i=j
  ·have bd:(t.toList==s.toList)=true:=by rw [<- ht,<- U7.out,U3 i af j wO];simp [he]
   clear ht;subst he;obtain ⟨b,hb⟩:=aE (i / 2);have agZ:wrap64 ((i:Int) / 2)=(b:Int):=by unfold wrap64;omega
   have kl:=J (show b<=4 by omega);have bF:=J (show pW i (4-b)=qI i by rw [<- hb];exact agX i wO);have ald:=J wO;have U8:=J (show (i:Int) / 2=(b:Int) by omega)
   cases U9:(((i:Int) % 2)==0)
   ·have bs:=J (fun k=>(show pW i (k+1)=pW i k*1000 by rw [U5,bp (by simp at U9;omega)]))
    have qg:=J (fun k hk=>U4 i wO k hk);clear hb;go_wp2_with fail
    go_loopw [5,6] (fun N1 xq wr=>∃ k:Nat,b+k<=4/\xq=.i ((b+k:Nat):Int)/\N1=.i (pW i k:Nat)/\aC=wr) (fun _ xq _=>4-(intOf xq).toNat)
    case atStart=>exact ⟨0,kl.out,by rw [U8.out];rfl,rfl,av⟩
    case round =>
     obtain ⟨k,hk,rfl,rfl,rfl⟩:=hrel;obtain ⟨m,hm⟩:=aE (b+k);rw [hm]
     by_cases N2:m<4
     ·have DQ:decide ((m:Int)<4)=true:=bO af
      have hx:=qg.out k af;have hn:=bs.out k;obtain ⟨x,uP⟩:=aE (pW i k);rw [uP] at hx hn ⊢
      have hmul:wrap64 ((x:Int)*1000)=((x*1000:Nat):Int):=by unfold wrap64;omega
      have ow:=J hn;have ag:=J hm;clear hn uP hm;go_wp2_with fail
      go_roundw
      case rel=>exact ⟨k+1,by have:=ag.out;omega,by have:=ag.out;go_num,by rw [ow.out];simp,av⟩
      case measure=>exact c4
     ·obtain rfl:m=4:=by omega
      have DQ:decide (((4:Nat):Int)<4)=false:=av;have dl:=J (show pW i k=qI i by rw [<- bF.out];congr 1;omega);clear hm N2;go_wp2_with fail;go_ret;exact ⟨by rw [dl.out];rfl,kb.2⟩
   ·have bs:=J (fun k=>(show pW i (k+1)=pW i k*1024 by rw [U5,bB (by simp at U9;omega)]))
    have qg:=J (fun k hk=>U4 i wO k hk);clear hb;go_wp2_with fail
    go_loopw [5,6] (fun N1 xq wr=>∃ k:Nat,b+k<=4/\xq=.i ((b+k:Nat):Int)/\N1=.i (pW i k:Nat)/\aC=wr) (fun _ xq _=>4-(intOf xq).toNat)
    case atStart=>exact ⟨0,kl.out,by rw [U8.out];rfl,rfl,av⟩
    case round =>
     obtain ⟨k,hk,rfl,rfl,rfl⟩:=hrel;obtain ⟨m,hm⟩:=aE (b+k);rw [hm]
     by_cases N2:m<4
     ·have DQ:decide ((m:Int)<4)=true:=bO af
      have hx:=qg.out k af;have hn:=bs.out k;obtain ⟨x,uP⟩:=aE (pW i k);rw [uP] at hx hn ⊢
      have hmul:wrap64 ((x:Int)*1024)=((x*1024:Nat):Int):=by unfold wrap64;omega
      have ow:=J hn;have ag:=J hm;clear hn uP hm;go_wp2_with fail
      go_roundw
      case rel=>exact ⟨k+1,by have:=ag.out;omega,by have:=ag.out;go_num,by rw [ow.out];simp,av⟩
      case measure=>exact c4
     ·obtain rfl:m=4:=by omega
      have DQ:decide (((4:Nat):Int)<4)=false:=av;have dl:=J (show pW i k=qI i by rw [<- bF.out];congr 1;omega);clear hm N2;go_wp2_with fail;go_ret;exact ⟨by rw [dl.out];rfl,kb.2⟩
  ·have bd:(t.toList==s.toList)=false:=by rw [<- ht,<- U7.out,U3 i af j wO];simp [he]
   clear ht;go_wp2_with fail
   go_roundw
   case rel=>exact ⟨i+1,af,cm,av⟩
   case measure=>exact c4
theorem U':∀ i,i<8->k6[i]? = some ((mO i).data.toList,qI i):=ak
theorem Va:∀ i,i<8->0<qI i/\qI i<=1099511627776:=ak
def k7 (n k:Nat):Option (List UInt8×Nat):=(k6.drop k).find? fun u=>n % u.2==0
theorem ag0 (n:Nat):k7 n 8=none:=by unfold k7;rw [List.drop_of_length_le ak];rfl
theorem ag1 (n k:Nat) (hk:k<8):k7 n k=if n % qI k=0 then some ((mO k).data.toList,qI k) else k7 n (k+1):=by
 have h:=U' k hk;have hl:k<k6.length:=by simpa [k6] using hk
 rw [dF hl] at h
 injection h with h
 unfold k7;rw [Aq hl,h,List.find?_cons]
 by_cases hm:n % qI k=0
 ·simp [hm]
 ·have hb:(n % qI k==0)=false:=by simpa using hm
  rw [bp hm];simp only [hb]
theorem N3 (n k:Nat) {u:List UInt8×Nat} (h:k7 n k=some u):∃ i,i<8/\u=((mO i).data.toList,qI i):=by
 unfold k7 at h
 have hm:=N4 (M2 h);obtain ⟨i,hi,he⟩:=pj hm;have Vb:i<8:=by simpa [k6] using hi
 have ah:=U' i Vb;rw [dF hi,he] at ah
 exact ⟨i,Vb,by injection ah⟩
def N5 (o:Option (List UInt8×Nat)):ByteArray:=match o with|some u=>str u.1|none=>⟨#[]⟩
def F0 (o:Option (List UInt8×Nat)):Nat:=match o with|some u=>u.2|none=>1
theorem ag2 (n k:Nat) (w:World):Calls prog 117 #[.string (N5 (k7 n k))] w (N0 (F0 (k7 n k)) w):=by
 cases h:k7 n k with
 | none=>exact agY w
 | some u =>
  obtain ⟨i,hi,rfl⟩:=N3 n k h
  show Calls _ _ #[.string (str (mO i).data.toList)] _ _
  rw [show str (mO i).data.toList=mO i from by unfold str;simp];exact U6 i hi w
theorem ag3 (n k:Nat):0<F0 (k7 n k):=by
 cases h:k7 n k with
 | none=>exact Nat.one_pos
 | some u =>
  obtain ⟨i,hi,rfl⟩:=N3 n k h;exact (Va i hi).1
theorem ag4 (n k:Nat):(match k7 n k with|some u=>u.1|none=>([]:List UInt8)).length<=2:=by
 cases h:k7 n k with
 | none=>simp
 | some u =>
  obtain ⟨i,hi,rfl⟩:=N3 n k h;exact (show ∀ i,i<8->(mO i).data.toList.length<=2 by decide) i hi
theorem ag5 (n:Nat) (hn:n≠0):dO n=dY (n / F0 (k7 n 0))++(match k7 n 0 with|some u=>u.1|none=>[]):=by
 unfold dO;rw [bp hn];unfold wP k7 F0;rw [List.drop_zero]
 cases k6.find? fun u=>n % u.2==0 <;> rfl
def o5 (l:List UInt8) (w:World) (e:Ending) (w':World):Prop:=e=.returned (.string (str l))/\Below w.heap.size w w'
theorem sV (n:Nat) (hn:n<=9223372036854775807) (w:World):Calls prog 80 #[.i n] w (o5 (dO n) w):=by
 by_cases aI:n=0
 ·subst aI
  have aA:=J (aO w.heap.size w);have cg:decide (((0:Nat):Int)<=0)=true:=av;clear hn
  go_enter func80,ntmps80
  go_wp2_with fail;go_ret;exact ⟨rfl,aA.out⟩
 ·have ao:=J (ag5 n aI)
  have d0:decide (n=0)=false:=cX aI;have bs:=J (ae aI hn);have cg:decide ((n:Int)<=0)=false:=cX af;have kb:=J (ae (ar.new w 9 DR) ((aO w.heap.size w).alloc aF (.cells DR 9)));clear aI hn
  go_enter func80,ntmps80
  go_wp2_with fail;refine (U2 w).mono ?_;rintro e aC ⟨rfl,cU⟩;rw [<- cU] at kb
  clear cU;go_wp2_with fail
  go_loopw [3,5] (fun eQ ii wr=>∃ k:Nat,k<=8/\ii=.i ((k:Int)-1)/\eQ=.string (N5 (k7 n k))/\(ar wr w.heap.size 9 DR/\Below w.heap.size w wr)) (fun _ ii _=>(intOf ii+1).toNat)
  case atStart=>exact ⟨8,af,rfl,by rw [ag0];rfl,kb.out⟩
  case round =>
   clear kb;obtain ⟨k,hk,rfl,rfl,uC⟩:=hrel;have kb:=J uC;clear uC
   rcases k with _|k
   ·have AX:decide ((0:Int)<=((0:Nat):Int)-1)=false:=by simp
    have hP:=J (ag2 n 0 wr);obtain ⟨V,h2⟩:=aE (F0 (k7 n 0));have vW:0<V:=by rw [<- h2];exact ag3 n 0
    have jz:Hid (dO n=dY (n / V)++(match k7 n 0 with|some u=>u.1|none=>[])):=by show _=_;rw [ao.out,h2]
    have N6:Hid (N5 (k7 n 0)=str (match k7 n 0 with|some u=>u.1|none=>[])):=by show _=_;cases k7 n 0 <;> rfl
    have xQ:=J (ag4 n 0);obtain ⟨t,ht⟩:=aE (match k7 n 0 with|some u=>u.1|none=>([]:List UInt8));rw [ht] at jz N6 xQ
    rw [h2,N6.out] at hP
    rw [N6.out];obtain ⟨m,hm⟩:=aE (n / V);rw [hm] at jz
    have ag:=J (show m<=9223372036854775807 by have:=bs.2;have:=Nat.div_le_self n V;omega);have agZ:wrap64 ((n:Int) / (V:Int))=(m:Int):=by
     have h1:(n:Int) / (V:Int)=((n / V:Nat):Int):=av;rw [h1,hm];have:=ag.out;unfold wrap64;omega
    have bI:((V:Int)==0)=false:=by simp;omega
    have Hx:¬ V=0:=af;clear ao ht h2 vW hm;go_wp2_with fail;refine hP.mono ?_;rintro e aM ⟨rfl,bY⟩;have cA:=J (kb.2.trans (bY.mono kb.2.size));clear bY;go_wp2_with fail;refine (FY m ag aM).mono ?_;rintro e w3 ⟨rfl,bu⟩;have e0:=J (cA.trans (bu.mono cA.size));have ha:=js w3 (dY m) t (by have:=B9 ag.out;have:=xQ.out;omega);clear bu;go_wp2_with fail;go_ret;exact ⟨by rw [jz.out];rfl,e0.out⟩
   ·have AX:decide ((0:Int)<=((k+1:Nat):Int)-1)=true:=bO af
    have hc:wr.cell? ⟨w.heap.size,k,none⟩=some (.string (mO k)):=by rw [kb.1.cell k];exact NZ k af
    have hP:=J (U6 k af wr);have o7:=J (ag1 n k af);obtain ⟨V,h2⟩:=aE (qI k);obtain ⟨t,ht⟩:=aE (mO k);have hT:=J (show str (mO k).data.toList=t by rw [<- ht];unfold str;simp);have vW:0<V:=by rw [<- h2];exact (Va k af).1
    rw [h2] at hP o7
    have Vc:=J (NZ k af);rw [ht] at hP hc Vc
    obtain ⟨m,hm⟩:=aE (n % V);rw [hm] at o7
    have hr:(n:Int) % (V:Int)=(m:Int):=by rw [<- hm];simp
    have bI:((V:Int)==0)=false:=by simp;omega
    have Hx:¬ V=0:=af;have dl:=J (show k<=7 by omega);clear ao ht h2 vW hm;go_wp2_with fail;refine hP.mono ?_;rintro e aM ⟨rfl,bY⟩;have cA:=J (ae (kb.1.bw bY) (kb.2.trans (bY.mono kb.2.size)));have kt:aM.cell? ⟨w.heap.size,k,none⟩=some (.string t):=by rw [cA.1.cell k];exact Vc.out
    clear bY hc
    by_cases mV:m=0
    ·subst mV
     go_wp2_with fail
     go_roundw
     case rel=>exact ⟨k,by have:=dl.out;omega,cm,by rw [o7.out];show _=Value.string (str (mO k).data.toList);rw [hT.out],cA.out⟩
     case measure=>exact ef
    ·have N7:(m==0)=false:=by simpa using mV
     have ale:((m:Int)==0)=false:=by simp;omega
     rw [bp mV] at o7
     clear mV;go_wp2_with fail
     go_roundw
     case rel=>exact ⟨k,by have:=dl.out;omega,cm,by rw [o7.out],cA.out⟩
     case measure=>exact ef
structure eb where
 within:Int
 prio:Int
 eL:Int
 id:ByteArray
abbrev eb.cells (p:eb):Array Value:=#[.i p.within,.i p.prio,.i p.eL,.string p.id]
instance:Inhabited eb:=⟨⟨0,0,0,⟨#[]⟩⟩⟩
def AS:cu eb 4:=⟨fun p=>p.cells.toList,fun _=>rfl,fun p u hu=>by simp at hu;rcases hu with h|h|h|h <;> subst h <;> rfl,ak⟩
theorem a7.Lb {w:World} {A:Option Addr} {l:List eb} (h:a7 w AS A l) {i:Nat} (hi:i<l.length):∃ b off,A=some ⟨b,off,none⟩/\b<w.heap.size /\
  w.cell? ⟨b,off+i*4,none⟩=some (.i l[i].within)/\w.cell? ⟨b,off+i*4+1,none⟩=some (.i l[i].prio)/\w.cell? ⟨b,off+i*4+2,none⟩=some (.i l[i].eL)/\w.cell? ⟨b,off+i*4+3,none⟩=some (.string l[i].id):=by
 obtain ⟨b,off,e,hb,hc⟩:=h.at_ hi;exact ⟨b,off,e,hb,by have:=hc 0 (.i l[i].within) rfl;simpa using this,hc 1 (.i l[i].prio) rfl,hc 2 (.i l[i].eL) rfl,hc 3 (.string l[i].id) rfl⟩
def l8 (x y:eb):Bool:=if x.within=y.within then (if x.prio=y.prio then (if x.eL=y.eL then blt x.id y.id else decide (y.eL<x.eL)) else decide (x.prio<y.prio)) else decide (x.within<y.within)
theorem Hr (x y:eb):l8 x y=true↔x.within<y.within\/(x.within=y.within/\(x.prio<y.prio\/(x.prio=y.prio/\(y.eL<x.eL\/(x.eL=y.eL/\blt x.id y.id=true))))):=by
 unfold l8
 split
 ·rename_i h1
  split
  ·rename_i ah
   split
   ·rename_i aw
    constructor
    ·intro h;exact Or.inr ⟨h1,Or.inr ⟨ah,Or.inr ⟨aw,h⟩⟩⟩
    ·rintro (h|⟨_,h|⟨_,h|⟨_,h⟩⟩⟩)
     ·omega
     ·omega
     ·omega
     ·exact h
   ·rw [jZ]
    constructor
    ·intro h;exact Or.inr ⟨h1,Or.inr ⟨ah,Or.inl h⟩⟩
    ·rintro (h|⟨_,h|⟨_,h|⟨h,_⟩⟩⟩)
     ·omega
     ·omega
     ·exact h
     ·omega
  ·rw [jZ]
   constructor
   ·intro h;exact Or.inr ⟨h1,Or.inl h⟩
   ·rintro (h|⟨_,h|⟨h,_⟩⟩)
    ·omega
    ·exact h
    ·omega
 ·rw [jZ]
  constructor
  ·intro h;exact Or.inl h
  ·rintro (h|⟨h,_⟩)
   ·exact h
   ·omega
theorem Lc (x:eb):l8 x x=false:=by
 cases h:l8 x x
 ·rfl
 ·rw [Hr,ms] at h
  rcases h with h|⟨_,h|⟨_,h|⟨_,h⟩⟩⟩
  ·omega
  ·omega
  ·omega
  ·cases h
theorem QL {x y z:eb} (h1:l8 x y=true) (ah:l8 y z=true):l8 x z=true:=by
 rw [Hr] at *
 rcases h1 with h1|⟨h1,c6|⟨c6,bX|⟨bX,g1⟩⟩⟩ <;> rcases ah with ah|⟨ah,a2|⟨a2,cY|⟨cY,g2⟩⟩⟩ <;> first
  | (left;omega)
  | (right;exact ⟨af,Or.inl af⟩)
  | (right;exact ⟨af,Or.inr ⟨af,Or.inl af⟩⟩)
  | (right;exact ⟨af,Or.inr ⟨af,Or.inr ⟨af,jY g1 g2⟩⟩⟩)
theorem ZN {x y:eb} (h1:l8 x y=false) (ah:l8 y x=false):x=y:=by
 have a:¬ (l8 x y=true):=by rw [h1];simp
 have b:¬ (l8 y x=true):=by rw [ah];simp
 rw [Hr] at a b
 have aV:x.within=y.within:=af;have bE:x.prio=y.prio:=af;have cG:x.eL=y.eL:=af;have c1:blt x.id y.id=false:=by
  cases h:blt x.id y.id
  ·rfl
  ·exact absurd (Or.inr ⟨aV,Or.inr ⟨bE,Or.inr ⟨cG,h⟩⟩⟩) a
 have c2:blt y.id x.id=false:=by
  cases h:blt y.id x.id
  ·rfl
  ·exact absurd (Or.inr ⟨aV.symm,Or.inr ⟨bE.symm,Or.inr ⟨cG.symm,h⟩⟩⟩) b
 cases x
 cases y
 simp only at aV bE cG c1 c2
 rw [aV,bE,cG,r8 c1 c2]
def AU (x y:eb):Int:=lf [Lib.compareInt x.within y.within,Lib.compareInt x.prio y.prio,Lib.compareInt y.eL x.eL,Lib.compareBytes x.id.data.toList y.id.data.toList]
theorem Ld (a b:Int):(Lib.compareInt a b<0↔a<b)/\(Lib.compareInt a b=0↔a=b):=by
 unfold Lib.compareInt
 by_cases h:a<b
 ·rw [bB h];omega
 ·rw [bp h]
  by_cases ah:b<a
  ·rw [bB ah];omega
  ·rw [bp ah];omega
theorem ZO (x y:eb):ltOf AU x y=l8 x y:=by
 unfold ltOf;rw [w8,jZ,Hr];obtain ⟨s1,s2⟩:=CD x.id.data.toList y.id.data.toList;have qX:blt x.id y.id=true↔Lib.compareBytes x.id.data.toList y.id.data.toList<0:=by rw [blt_eq,jZ];exact s1.symm
 rw [qX];obtain ⟨c6,a2⟩:=Ld x.within y.within;obtain ⟨bX,cY⟩:=Ld x.prio y.prio;obtain ⟨c1,c2⟩:=Ld y.eL x.eL;unfold AU;clear s1 s2 qX;generalize Lib.compareBytes x.id.data.toList y.id.data.toList=z at *
 generalize Lib.compareInt x.within y.within=r1 at *
 generalize Lib.compareInt x.prio y.prio=r2 at *
 generalize Lib.compareInt y.eL x.eL=pg at *
 have e:lf [r1,r2,pg,z]=if r1=0 then (if r2=0 then (if pg=0 then (if z=0 then 0 else z) else pg) else r2) else r1:=rfl
 rw [e]
 by_cases h1:r1=0
 ·rw [bB h1]
  by_cases ah:r2=0
  ·rw [bB ah]
   by_cases aw:pg=0
   ·rw [bB aw]
    by_cases bn:z=0
    ·rw [bB bn];omega
    ·rw [bp bn];omega
   ·rw [bp aw];omega
  ·rw [bp ah];omega
 ·rw [bp h1];omega
theorem ZP (x y:eb) (W:World):Calls prog 202 #[.agg #[.i x.within,.i x.prio,.i x.eL,.string x.id],.agg #[.i y.within,.i y.prio,.i y.eL,.string y.id]] W fun e w'=>e=.returned (.i (AU x y))/\∃ q AA,w'=Sort.grow (W.drewN q) AA:=by
 have h1:=fun W'=>D9 x.within y.within W'
 have ah:=fun W'=>D9 x.prio y.prio W'
 have aw:=fun W'=>D9 y.eL x.eL W'
 have bn:=fun W'=>ye x.id y.id W'
 unfold AU;generalize Lib.compareInt x.within y.within=r1 at *
 generalize Lib.compareInt x.prio y.prio=r2 at *
 generalize Lib.compareInt y.eL x.eL=pg at *
 generalize Lib.compareBytes x.id.data.toList y.id.data.toList=vq at *
 have H1:=J h1;have ju:=J ah;have wV:=J aw;have ZQ:=J bn;clear h1 ah aw bn
 go_enter func202,ntmps202
 go_wp2_with fail;refine wp_region_still_tail 20 ai ai ?_;simp only [List.take_succ_cons,List.take_zero,List.drop_succ_cons,List.drop_zero];have hx:=((ar.new W 306 #[.i x.within,.i x.prio,.i x.eL,.string x.id]).alloc (.cells #[.i y.within,.i y.prio,.i y.eL,.string y.id] 306)).drew;have hy:=(ar.new (W.alloc (.cells #[.i x.within,.i x.prio,.i x.eL,.string x.id] 306)) 306 #[.i y.within,.i y.prio,.i y.eL,.string y.id]).drew;have bI:(W.alloc (.cells #[.i x.within,.i x.prio,.i x.eL,.string x.id] 306)).heap.size=W.heap.size+1:=av;rw [bI] at hy
 have az:((W.alloc (.cells #[.i x.within,.i x.prio,.i x.eL,.string x.id] 306)).alloc (.cells #[.i y.within,.i y.prio,.i y.eL,.string y.id] 306)).drew=Sort.grow (W.drewN 1) (#[Obj.cells #[.i x.within,.i x.prio,.i x.eL,.string x.id] 306]++#[Obj.cells #[.i y.within,.i y.prio,.i y.eL,.string y.id] 306]):=by rw [Go.Sort.alloc_eq_grow,Go.Sort.alloc_eq_grow,Go.Sort.grow_grow];rfl
 clear bI;obtain ⟨xn,AV⟩:∃ xn:World,xn=((W.alloc (.cells #[.i x.within,.i x.prio,.i x.eL,.string x.id] 306)).alloc (.cells #[.i y.within,.i y.prio,.i y.eL,.string y.id] 306)).drew:=⟨_,rfl⟩
 have iz:((W.alloc (.cells #[.i x.within,.i x.prio,.i x.eL,.string x.id] 306)).alloc (.cells #[.i y.within,.i y.prio,.i y.eL,.string y.id] 306)).drew=xn:=AV.symm;rw [<- AV] at hx hy az
 unfold World.drew at iz
 rw [iz];have iv:=hx.cell;have ZR:=hy.cell;have b4:=J az;clear hx hy az AV iz
 repeat still_step
 still_call (H1.out _)
 repeat still_step
 still_call (ju.out _)
 repeat still_step
 still_call (wV.out _)
 repeat still_step
 still_call (ZQ.out _)
 refine wpStill_nil ?_;have tz:=GG [r1,r2,pg,vq] _ 4 _ (a7.made xn qP [r1,r2,pg,vq] 3 #[.i r1,.i r2,.i pg,.i vq] (0,0) rfl) av
 change Calls _ _ #[.slice _ 4 4] _ _ at tz
 have yo:=J tz;clear tz;go_wp2_with fail;refine yo.mono ?_;rintro e w' ⟨rfl,rfl⟩;go_wp2_with fail;go_ret;exact ⟨rfl,1,_,by rw [Go.Sort.alloc_eq_grow,b4.out,Go.Sort.grow_grow]⟩
theorem ZS (w:World) (q:Nat) (os:Array Obj):Below w.heap.size w (Sort.grow (w.drewN q) os):=⟨rfl,rfl,rfl,by show w.heap.size<=(w.heap++os).size;simp,fun k hk=>by show (w.heap++os)[k]? = _;rw [Array.getElem?_append_left hk]⟩
theorem ZT (x y:eb) (W:World):Calls prog 202 #[.agg #[.i x.within,.i x.prio,.i x.eL,.string x.id],.agg #[.i y.within,.i y.prio,.i y.eL,.string y.id]] W fun e w'=>e=.returned (.i (AU x y))/\Below W.heap.size W w' :=
 (ZP x y W).mono fun _ _ ⟨h,q,os,hw⟩=>⟨h,by rw [hw];exact ZS W q os⟩
abbrev vV:Array Value:=#[.string ⟨#[]⟩,.float .f64 0,.float .f64 0,.float .f64 0]
theorem Hv:(prog.info? 143).map (·.size)=some 4:=ai
theorem Hw (g:gW):g.cells.all (·.oneCell')=true:=cc
def qf (l:List gW) (k:Nat):Prop:=∀ i (hi:i<l.length),i<k->named l[i].id.data.toList=true/\∀ j (aD:j<i),l[j].id≠l[i].id
theorem qf.snoc {l:List gW} {k:Nat} (hk:k<l.length) (h:qf l k) (c:named l[k].id.data.toList=true) (b:∀ j (aD:j<k),l[j].id≠l[k].id):qf l (k+1):=fun i hi ah=>by
 rcases gB i k with aw|aw
 ·exact h i hi aw
 ·obtain rfl:i=k:=by omega
  exact ⟨c,b⟩
theorem QZ {l:List gW} {v:Bool} (hv:v=true↔qf l l.length) (h:¬ qf l l.length):v=false:=by
 cases v
 ·rfl
 ·exact absurd (hv.1 rfl) h
theorem aax {s:ByteArray} {v:Bool} (hv:named s.data.toList=v) (w:World) (hs:s.size<=9223372036854775807):Calls prog 174 #[.string s] w fun e w'=>e=.returned (.bool v)/\Below w.heap.size w w':=by subst hv;exact vE s w hs
theorem aay {l:List gW} {v:Bool} (hv:v=true↔qf l l.length) (A:Option Addr) (c:Nat) (w:World) (hr:a7 w yL A l) (hm:l.length<=9223372036854775807) (hc:l.length<=c) (hi:∀ g∈l,g.id.size<=9223372036854775807) :
  Calls prog 209 #[.slice A l.length c] w fun e w'=>e=.returned (.bool v)/\Below w.heap.size w w':=by
 have bx:=J hr;have bF:=J hv;have hX:=J hi;clear hr hv hi
 go_enter func209,ntmps209
 go_wp2_with fail
 go_step3
 go_wp2_with fail
 go_step3
 go_wp2_with fail
 go_loopw [10,3] (fun i t wr=>∃ k:Nat,k<=l.length/\i=.i k/\t=.bool true/\qf l k/\Below w.heap.size w wr) (fun i _ _=>l.length-(intOf i).toNat)
 case atStart=>exact ⟨0,af,rfl,rfl,fun i _ h=>af,aO _ _⟩
 case round =>
  obtain ⟨k,hk,rfl,rfl,ha,hb⟩:=hrel;have dC:=J ha;have aA:=J hb;clear ha hb
  by_cases aT:k<l.length
  ·have cg:decide ((k:Int)<(l.length:Int))=true:=bO af
   have lG:(k:Int)<(l.length:Int):=af;obtain ⟨b,off,rfl,du,bt,c1,c2,c3⟩:=(bx.below aA).yM aT;have aaz:=hX.out _ (iO aT);have G':=J (dC.snoc aT);have aaA:=J (fun h:qf l l.length=>(h k aT aT).1);have aaB:=J (fun h:qf l l.length=>(h k aT aT).2);generalize l[k]=g at *
   have EJ:=J (ar.new wr 143 vV);have gD:=J aA.size;have aA:=J (aA.alloc aA.size (.cells vV 143));obtain ⟨aaC,Hx⟩:=aE (named g.id.data.toList);have Lj:=J Hx;clear Hx
   go_wp2_with (refine ch rfl 143 (.tmp 5) (.tmp 14) rfl wr.heap.size 143 vV g.cells rfl rfl EJ.out rfl Hv (Hw g) ?_;intro aC tS et c7;have hP:=J tS;have aA:=J (aA.grown et aA.size (by intro k hk;cases hk;exact gD.out));have yS:∀ i,aC.cell? ⟨wr.heap.size,i,none⟩=(#[.string g.id,.float .f64 g.f0,.float .f64 g.f1,.float .f64 g.f2]:Array Value)[i]?:=hP.cell;clear tS et c7)
   refine (aax Lj _ aaz).mono ?_;rintro e aM ⟨rfl,hb⟩;have hP:=J (hP.bw hb);have aA:=J (vk aA hb);clear hb yS bt c1 c2 c3
   cases aaC
   ·obtain rfl:v=false:=QZ bF.out fun h=>by have:=aaA.out h;rw [Lj.out] at this;cases this
    go_wp2_with fail
    (try rw [Exit.noGoto_ret])
    go_ret;exact ⟨rfl,aA.out⟩
   ·go_wp2_with fail
    clear EJ gD;generalize wr.heap.size=n0 at *
    go_loopw [24,3] (fun j t jy=>∃ jj:Nat,jj<=k/\j=.i jj/\t=.bool true/\(∀ j (aD:j<jj) (hk:jj<=k),l[j].id≠g.id)/\ar jy n0 143 g.cells/\Below w.heap.size w jy/\n0<jy.heap.size) (fun j _ _=>k-(intOf j).toNat)
    case atStart=>exact ⟨0,af,rfl,rfl,fun j h _=>af,hP.out,aA.out,hP.lt⟩
    case round =>
     clear aA hP;obtain ⟨jj,aaD,rfl,rfl,hd,hu,hb,cH⟩:=hrel;have bq:=J hd;have hP:=J hu;have aA:=J hb;have iR:=J cH;clear hd hu hb cH
     by_cases AK:jj<k
     ·have dj:decide ((jj:Int)<(k:Int))=true:=bO af
      have YN:(jj:Int)<(k:Int):=af;obtain ⟨b',p2,aaE,_,bt,c1,c2,c3⟩:=(bx.below aA).yM (show jj<l.length by omega)
      cases aaE
      have py:=J (fun (h:l[jj].id=g.id) (ha:qf l l.length)=>aaB.out ha jj AK h);have hT:=J (fun (h:l[jj].id≠g.id)=>(fun j (aD:j<jj+1) (gP:jj+1<=k)=>by
       rcases gB j jj with aw|aw
       ·exact bq.out j aw aaD
       ·obtain rfl:j=jj:=by omega
        exact h:∀ j (aD:j<jj+1) (gP:jj+1<=k),l[j].id≠g.id))
      generalize l[jj]=x at *
      have AW:=J (ar.new wr 143 vV);have Q0:=J (hP.alloc (.cells vV 143));have df:=J aA.size;have cA:=J (aA.alloc aA.size (.cells vV 143))
      cases mW:(g.id.toList==x.id.toList)
      ·have EK:=J (fun e:x.id=g.id=>aaw mW e.symm)
       go_wp2_with (refine ch rfl 143 (.tmp 7) (.tmp 27) rfl wr.heap.size 143 vV x.cells rfl rfl AW.out rfl Hv (Hw x) ?_;intro w3 tS et c7;have hP:=J (Q0.grown et (by have:=iR.out;intro e;injection e with e;omega));have aA:=J (cA.grown et cA.size (by intro k hk;cases hk;exact df.out));have yT:=J c7;have EL:=tS;have aaF:∀ i,w3.cell? ⟨n0,i,none⟩=(#[.string g.id,.float .f64 g.f0,.float .f64 g.f1,.float .f64 g.f2]:Array Value)[i]?:=hP.cell;have aaG:∀ i,w3.cell? ⟨wr.heap.size,i,none⟩=(#[.string x.id,.float .f64 x.f0,.float .f64 x.f1,.float .f64 x.f2]:Array Value)[i]?:=EL.cell;clear tS et c7 EL)
       go_roundw
       case rel=>exact ⟨jj+1,af,cm,rfl,hT.out EK.out,hP.out,aA.out,hP.lt⟩
       case measure=>exact c4
      ·obtain rfl:v=false:=QZ bF.out fun h=>py.out (toList_inj mW).symm h
       go_wp2_with (refine ch rfl 143 (.tmp 7) (.tmp 27) rfl wr.heap.size 143 vV x.cells rfl rfl AW.out rfl Hv (Hw x) ?_;intro w3 tS et c7;have hP:=J (Q0.grown et (by have:=iR.out;intro e;injection e with e;omega));have aA:=J (cA.grown et cA.size (by intro k hk;cases hk;exact df.out));have EL:=tS;have aaF:∀ i,w3.cell? ⟨n0,i,none⟩=(#[.string g.id,.float .f64 g.f0,.float .f64 g.f1,.float .f64 g.f2]:Array Value)[i]?:=hP.cell;have aaG:∀ i,w3.cell? ⟨wr.heap.size,i,none⟩=(#[.string x.id,.float .f64 x.f0,.float .f64 x.f1,.float .f64 x.f2]:Array Value)[i]?:=EL.cell;clear tS et c7 EL)
       (try rw [Exit.noGoto_ret])
       go_ret;exact ⟨rfl,aA.out⟩
     ·obtain rfl:jj=k:=by omega
      have dj:decide ((jj:Int)<(jj:Int))=false:=av;have cJ:=J (G'.out Lj (fun j aD=>bq.out j aD aF));go_wp2_with fail
      go_roundw
      case rel=>exact ⟨jj+1,af,cm,rfl,cJ.out,aA.out⟩
      case measure=>exact c4
  ·obtain rfl:k=l.length:=by omega
   have cg:decide ((l.length:Int)<(l.length:Int))=false:=av;obtain rfl:v=true:=bF.2 dC.out;go_wp2_with fail
   (try rw [Exit.noGoto_ret])
   go_ret;exact ⟨rfl,aA.out⟩
theorem QA {b:Nat} {v:Bool} (hb:b<18446744073709551616) (hv:lN b=v) (w:World) :
  Calls prog 377 #[.float .f64 b] w fun x w'=>x=.returned (.bool v)/\w=w':=by
 subst hv;have hx:∀ (W:World),Sem.run prog (callFunc 406 #[.float .f64 b]) W=.ok (.value (.int .u64 (b:Int))) W:=fun W=>by
  rw [run_callFunc_extern (e:=Extern.MathFloatBits.float64bits) func406 ai ai ai ai]
  rfl
 have aB:=J hx;clear hx;have aV:decide (wrap64 (b:Int)<0)=lN b:=by
  unfold lN wrap64
  by_cases h:9223372036854775808<=b
  ·rw [bO h];exact bO af
  ·rw [cX h];exact cX af
 go_enter func377,ntmps377
 go_wp2_with fail;rw [aB.out];go_wp2_with fail;go_ret;exact ⟨rfl,rfl⟩
theorem EA {b:Nat} {v:Bool} (hb:b<18446744073709551616) (hv:(eu b==7)=v) (w:World) :
  Calls prog 376 #[.float .f64 b,.i 1] w fun x w'=>x=.returned (.bool v)/\w=w':=by
 have aV:(FloatKind.f64.format.order b 9218868437227405311==some Ordering.gt)=v:=by rw [<- hv];exact QB hb
 clear hv hb
 go_enter func376,ntmps376
 go_wp2_with fail;go_ret;exact ⟨rfl,rfl⟩
theorem CW {b:Nat} {v:Bool} (hb:b<18446744073709551616) (hv:(eu b==2)=v) (w:World) :
  Calls prog 376 #[.float .f64 b,.i (-1)] w fun x w'=>x=.returned (.bool v)/\w=w':=by
 have aV:(FloatKind.f64.format.order (Op.negFloat .f64 b) 9218868437227405311==some Ordering.gt)=v:=by rw [<- hv,<- ZA hb];exact QB (QC hb).1
 clear hv hb;have iz:Sem.run prog (Op.unary .neg (.float .f64 b)) w=.ok (.float .f64 (Op.negFloat .f64 b)) w:=rfl
 go_enter func376,ntmps376
 go_wp2_with fail;go_ret;exact ⟨rfl,rfl⟩
theorem ZB {b r:Nat} (hn:eu b≠1) (hb:b<18446744073709551616) (hr:Ieee.double.write ((Ieee.double.read b).integral .down)=r) (w:World) :
  Calls prog 321 #[.float .f64 b] w fun x w'=>x=.returned (.float .f64 r)/\w=w':=by
 have hx:∀ (W:World),Sem.run prog (callFunc 378 #[.float .f64 b]) W=.ok (.value (.float .f64 r)) W:=fun W=>by
  rw [run_callFunc_extern (e:=Extern.MathFloor.toIntegral "math.archFloor" .down) func378 ai ai ai ai];have h:Extern.MathFloor.toIntegral "math.archFloor" .down #[.float .f64 b]=Extern.MathFloor.toIntegral.match_1 (fun _=>Sem Value) (FloatKind.f64.decode b) _ _:=rfl;have hd:FloatKind.f64.decode b=Ieee.double.read b:=rfl;rw [h,hd,<- hr,xl hb];unfold eu si at hn
  unfold q3
  by_cases aI:j3 b=0
  ·rw [bB aI];rfl
  ·rw [bp aI]
   by_cases h1:j3 b<2047
   ·rw [bB h1];rfl
   ·rw [bp h1]
    have ah:j3 b=2047:=by have:=CX b;omega
    rw [bB ah] at hn
    by_cases aw:l6 b=0
    ·rw [bB aw];rfl
    ·exfalso;rw [bB af] at hn;exact hn rfl
 have aB:=J hx;clear hx
 go_enter func321,ntmps321
 go_wp2_with fail;rw [aB.out];go_wp2_with fail;go_ret;exact ⟨rfl,rfl⟩
theorem ZC {b:Nat} {v:Int} (hb:b<18446744073709551616) (hv:eu b=v) (w:World) :
  Calls prog 320 #[.float .f64 b] w fun x w'=>x=.returned (.i v)/\w=w':=by
 have aL:=ZD b hb;have aS:=ZE b hb;have hs:=@ZF b;have hc:=QD b;rw [hv] at aL aS hs hc
 rcases hc with rfl|rfl|rfl|rfl|rfl|rfl|rfl
 all_goals
  simp only [Int.reduceEq,Int.reduceLE,ll,ml,or_true,l1,false_implies,true_implies] at aL aS hs
 all_goals
  have aX:∀ o:Option Ordering,Ieee.double.order b b=o->FloatKind.f64.format.order b b=o:=fun o h=>h
  have ba:∀ o:Option Ordering,Ieee.double.order b 0=o->FloatKind.f64.format.order b 0=o:=fun o h=>h
  replace aL:=aX _ aL
  replace aS:=ba _ aS
  clear aX ba
 ·clear hs
  go_enter func320,ntmps320
  go_wp2_with fail;go_ret;exact ⟨rfl,rfl⟩
 ·clear hs
  have hX:=J (fun W=>CW (v:=true) hb (by rw [hv];rfl) W);clear hv
  go_enter func320,ntmps320
  go_wp2_with fail;refine (hX.out _).mono ?_;rintro x w' ⟨rfl,rfl⟩;go_wp2_with fail;go_ret;exact ⟨rfl,rfl⟩
 ·clear hs
  have hX:=J (fun W=>CW (v:=false) hb (by rw [hv];rfl) W);have tO:=J (fun W=>EA (v:=false) hb (by rw [hv];rfl) W);clear hv
  go_enter func320,ntmps320
  go_wp2_with fail;refine (hX.out _).mono ?_;rintro x w' ⟨rfl,rfl⟩;go_wp2_with fail;refine (tO.out _).mono ?_;rintro x w' ⟨rfl,rfl⟩;go_wp2_with fail;go_ret;exact ⟨rfl,rfl⟩
 ·have hX:=J (fun W=>CW (v:=false) hb (by rw [hv];rfl) W)
  have tO:=J (fun W=>EA (v:=false) hb (by rw [hv];rfl) W);have aP:=J (fun W=>QA (v:=true) hb hs W);clear hv hs
  go_enter func320,ntmps320
  go_wp2_with fail;refine (hX.out _).mono ?_;rintro x w' ⟨rfl,rfl⟩;go_wp2_with fail;refine (tO.out _).mono ?_;rintro x w' ⟨rfl,rfl⟩;go_wp2_with fail;refine (aP.out _).mono ?_;rintro x w' ⟨rfl,rfl⟩;go_wp2_with fail;go_ret;exact ⟨rfl,rfl⟩
 ·have hX:=J (fun W=>CW (v:=false) hb (by rw [hv];rfl) W)
  have tO:=J (fun W=>EA (v:=false) hb (by rw [hv];rfl) W);have aP:=J (fun W=>QA (v:=false) hb hs W);clear hv hs
  go_enter func320,ntmps320
  go_wp2_with fail;refine (hX.out _).mono ?_;rintro x w' ⟨rfl,rfl⟩;go_wp2_with fail;refine (tO.out _).mono ?_;rintro x w' ⟨rfl,rfl⟩;go_wp2_with fail;refine (aP.out _).mono ?_;rintro x w' ⟨rfl,rfl⟩;go_wp2_with fail;go_ret;exact ⟨rfl,rfl⟩
 ·clear hs
  have hX:=J (fun W=>CW (v:=false) hb (by rw [hv];rfl) W);have tO:=J (fun W=>EA (v:=false) hb (by rw [hv];rfl) W);clear hv
  go_enter func320,ntmps320
  go_wp2_with fail;refine (hX.out _).mono ?_;rintro x w' ⟨rfl,rfl⟩;go_wp2_with fail;refine (tO.out _).mono ?_;rintro x w' ⟨rfl,rfl⟩;go_wp2_with fail;go_ret;exact ⟨rfl,rfl⟩
 ·clear hs
  have hX:=J (fun W=>CW (v:=false) hb (by rw [hv];rfl) W);have tO:=J (fun W=>EA (v:=true) hb (by rw [hv];rfl) W);clear hv
  go_enter func320,ntmps320
  go_wp2_with fail;refine (hX.out _).mono ?_;rintro x w' ⟨rfl,rfl⟩;go_wp2_with fail;refine (tO.out _).mono ?_;rintro x w' ⟨rfl,rfl⟩;go_wp2_with fail;go_ret;exact ⟨rfl,rfl⟩
theorem ZG {b:Nat} (hb:b<18446744073709551616) (hk:6<=eu b) (he:j3 b<1086) (W:World) :
  Sem.run prog (convert 41 3 (.float .f64 (Ieee.double.write ((Ieee.double.read b).integral .down)))) W=.ok (.i (dW b)) W:=by
 have hs:lN b=false:=by
  unfold eu si at hk
  cases CY:lN b
  ·rfl
  ·rw [CY] at hk
   split at hk
   ·split at hk
    ·omega
    ·simp at hk
   ·split at hk <;> simp at hk
 have hf:=ZH (Ho b) he;rw [xl hb,hs];have hv:dW b=if j3 b<1023 then 0 else (xm (j3 b) (l6 b):Int):=by
  unfold dW AQ;rw [bp (by unfold eu at hk;omega),bp af]
 have bf:=vM b;rw [<- hv] at hf
 refine run_convert_float_int W 41 3 .f64 .i64 _ _ ai ai ?_;unfold floatToIntVal;have hd:∀ x,FloatKind.f64.decode x=Ieee.double.read x:=fun _=>rfl
 rw [hd,hf]
 show (if IntKind.i64.min<=dW b/\dW b<=IntKind.i64.max then some (dW b) else none)=some (dW b)
 have aV:IntKind.i64.min = -9223372036854775808:=rfl;have bE:IntKind.i64.max=9223372036854775807:=rfl;rw [aV,bE,bB ⟨af,af⟩]
theorem La {b:Nat} {v:Int} {ok:Bool} (hb:b<18446744073709551616) (hv:dW b=v) (bi:kg (eu b)=ok) (w:World) :
  Calls prog 260 #[.float .f64 b] w fun x w'=>x=.returned (.tuple #[.i v,.bool ok])/\w=w':=by
 obtain ⟨k,hk⟩:=aE (eu b);have dl:=J (fun W=>ZC hb hk W);have hc:=QD b;rw [hk] at bi hc
 by_cases dk:k<=5
 ·have QE:v=0:=by rw [<- hv];unfold dW AQ;unfold eu at hk;rw [bB af]
  subst QE
  by_cases h1:k=1
  ·subst h1
   obtain rfl:false=ok:=by rw [<- bi];rfl
   clear bi hv hk hc dk
   go_enter func260,ntmps260
   go_wp2_with fail;refine (dl.out _).mono ?_;rintro x w' ⟨rfl,rfl⟩;go_wp2_with fail;exact cS (v:=.tuple #[.i 0,.bool false]) (by simp [results,results260]) rfl ⟨rfl,rfl⟩
  ·obtain rfl:true=ok:=by rw [<- bi];unfold kg;exact (bO h1).symm
   have d1:(k==1)=false:=by rw [ji];exact h1
   have d5:decide (k<=5)=true:=bO dk;clear bi hv hk hc dk h1
   go_enter func260,ntmps260
   go_wp2_with fail;refine (dl.out _).mono ?_;rintro x w' ⟨rfl,rfl⟩;go_wp2_with fail;exact cS (v:=.tuple #[.i 0,.bool true]) (by simp [results,results260]) rfl ⟨rfl,rfl⟩
 ·have d1:(k==1)=false:=by rw [ji];omega
  have d5:decide (k<=5)=false:=cX dk;obtain rfl:true=ok:=by rw [<- bi];unfold kg;exact (bO af).symm
  have hm:=ZI b hb af
  by_cases he:j3 b<1086
  ·rw [bB he] at hm
   have aL:(FloatKind.f64.format.order b 4890909195324358656==some Ordering.gt||FloatKind.f64.format.order b 4890909195324358656==some Ordering.eq)=false:=by
    have:FloatKind.f64.format.order b 4890909195324358656=some .lt:=hm;rw [this];rfl
   have aq:=J (fun W=>ZG hb af he W);rw [hv] at aq
   have bN:=J (fun W=>ZB af hb rfl W);generalize Ieee.double.write ((Ieee.double.read b).integral .down)=r at *
   have akg:=aq.out w;clear bi hv hk hc dk hm he
   go_enter func260,ntmps260
   go_wp2_with fail;refine (dl.out _).mono ?_;rintro x w' ⟨rfl,rfl⟩;go_wp2_with fail;refine (bN.out _).mono ?_;rintro x w' ⟨rfl,rfl⟩;go_wp2_with fail;exact cS (v:=.tuple #[.i v,.bool true]) (by simp [results,results260]) rfl ⟨rfl,rfl⟩
  ·rw [bp he] at hm
   have aL:(FloatKind.f64.format.order b 4890909195324358656==some Ordering.gt||FloatKind.f64.format.order b 4890909195324358656==some Ordering.eq)=true:=by
    have:FloatKind.f64.format.order b 4890909195324358656=_:=hm;rw [this];split <;> rfl
   obtain rfl:(9223372036854775807:Int)=v:=by
    rw [<- hv];unfold dW AQ;unfold eu at hk
    rw [bp af,bB af]
   clear bi hv hk hc dk hm he
   go_enter func260,ntmps260
   go_wp2_with fail;refine (dl.out _).mono ?_;rintro x w' ⟨rfl,rfl⟩;go_wp2_with fail;exact cS (v:=.tuple #[.i 9223372036854775807,.bool true]) (by simp [results,results260]) rfl ⟨rfl,rfl⟩
def EM (x y z:Int):Bool->Array Value
 | true=>#[.int .i64 x,.int .i64 y,.int .i64 z]
 | false=>#[.int .i64 0,.int .i64 0,.int .i64 0]
theorem Q4 {f0 f1 f2:Nat} {x y z:Int} {cz dv ed:Bool} (aI:f0<18446744073709551616) (h1:f1<18446744073709551616) (ah:f2<18446744073709551616) (hx:dW f0=x) (hy:dW f1=y) (bI:dW f2=z) (q4:kg (eu f0)=cz) (AB:kg (eu f1)=dv) (oI:kg (eu f2)=ed) (w:World) :
  Calls prog 208 #[.agg #[.float .f64 f0,.float .f64 f1,.float .f64 f2]] w fun e w'=>e=.returned (.tuple #[.agg (EM x y z (cz&&(dv&&ed))),.bool (cz&&(dv&&ed))])/\Below w.heap.size w w':=by
 have rY:=J (fun W=>La aI hx q4 W);have H1:=J (fun W=>La h1 hy AB W);have ju:=J (fun W=>La ah bI oI W);clear aI h1 ah hx hy bI q4 AB oI;obtain ⟨aC,aV⟩:∃ aC,aC=w.alloc (.cells #[.float .f64 f0,.float .f64 f1,.float .f64 f2] 42):=⟨_,rfl⟩
 obtain ⟨aM,bE⟩:∃ aM,aM=aC.alloc (.cells #[.i 0,.i 0,.i 0] 23):=⟨_,rfl⟩
 have gu:aC.heap.size=w.heap.size+1:=by rw [aV];simp
 have z2:aM.heap.size=w.heap.size+1+1:=by rw [bE,<- gu];simp
 have gD:Hid (ar (((w.alloc (.cells #[.float .f64 f0,.float .f64 f1,.float .f64 f2] 42)).alloc (.cells #[.i 0,.i 0,.i 0] 23)).alloc (.cells #[.i 0,.i 0,.i 0] 23)) (w.heap.size+1) 23 (w3 x y z 0)/\ar (((w.alloc (.cells #[.float .f64 f0,.float .f64 f1,.float .f64 f2] 42)).alloc (.cells #[.i 0,.i 0,.i 0] 23)).alloc (.cells #[.i 0,.i 0,.i 0] 23)) (w.heap.size+1+1) 23 (w3 x y z 0)/\Below w.heap.size w (((w.alloc (.cells #[.float .f64 f0,.float .f64 f1,.float .f64 f2] 42)).alloc (.cells #[.i 0,.i 0,.i 0] 23)).alloc (.cells #[.i 0,.i 0,.i 0] 23))):=by
  refine ⟨?_,?_,?_⟩
  ·rw [<- aV,<- bE];refine ar.alloc ?_ _;rw [bE,<- gu];exact ar.new _ _ _
  ·rw [<- aV,<- bE,<- z2];exact ar.new _ _ _
  ·exact (((aO _ _).alloc aF _).alloc av _).alloc (by simp;omega) _
 clear bE gu z2 aV aM aC
 go_enter func208,ntmps208
 go_wp2_with fail
 go_loopw [10,3] (fun i ok wr=>(i=.i 0/\ok=.bool false/\ar wr (w.heap.size+1) 23 (w3 x y z 0)/\ar wr (w.heap.size+1+1) 23 (w3 x y z 0)/\Below w.heap.size w wr)\/(i=.i 1/\ok=.bool false/\cz=true/\ar wr (w.heap.size+1) 23 (w3 x y z 0)/\ar wr (w.heap.size+1+1) 23 (w3 x y z 1)/\Below w.heap.size w wr)\/(i=.i 2/\ok=.bool false/\cz=true/\dv=true/\ar wr (w.heap.size+1) 23 (w3 x y z 0)/\ar wr (w.heap.size+1+1) 23 (w3 x y z 2)/\Below w.heap.size w wr)\/(i=.i 3/\ok=.bool false/\cz=true/\dv=true/\ed=true/\ar wr (w.heap.size+1) 23 (w3 x y z 0)/\ar wr (w.heap.size+1+1) 23 (w3 x y z 3)/\Below w.heap.size w wr)) (fun i _ _=>3-(intOf i).toNat)
 case atStart=>exact .inl ⟨rfl,rfl,gD.1,gD.2.1,gD.2.2⟩
 case round =>
  clear gD
  rcases hrel with hrel|hrel|hrel|hrel
  ·obtain ⟨rfl,rfl,hR,hS,bM⟩:=hrel
   have cs:wr.cell? ⟨w.heap.size+1+1,0,none⟩=some (.i 0):=hS.cell 0;have fs:wr.frozen? ⟨w.heap.size+1+1,0,none⟩=false:=hS.frozen 0;have lM:=hR.cF (p:=⟨w.heap.size+1+1,0,none⟩) av (.i x);have kf:ar (wr.setCell ⟨w.heap.size+1+1,0,none⟩ (.i x)) (w.heap.size+1+1) 23 (w3 x y z 1):=hS.eW 0 _;have iB:=bM.setCell (p:=⟨w.heap.size+1+1,0,none⟩) (by simp;omega) (.i x);have EN:Sem.run prog (Instr.index 42 (.agg #[.float .f64 f0,.float .f64 f1,.float .f64 f2]) (.i 0)) wr=.ok (.float .f64 f0) wr:=ai;have H:=J (ae hR bM);have fz:=J (ae lM (ae kf iB));clear hR hS bM lM kf iB;go_wp2_with fail;refine (rY.out _).mono ?_;rintro e bm ⟨rfl,rfl⟩
   cases cz
   ·clear fz cs fs
    go_wp2_with (refine ch rfl 23 (.tmp 2) (.tmp 21) rfl (w.heap.size+1) 23 (w3 x y z 0) #[.i 0,.i 0,.i 0] rfl rfl H.1 rfl xr (HI 0 0 0) ?_;intro bc bS bP dx)
    have dn:∀ i,bc.cell? ⟨w.heap.size+1,i,none⟩=(#[.i 0,.i 0,.i 0]:Array Value)[i]?:=bS.cell
    exact cS (v:=.tuple #[.agg #[.i 0,.i 0,.i 0],.bool false]) (by simp [results,results208,go_sem,dn]) rfl ⟨by simp [EM],H.2.grown bP H.2.size dP⟩
   ·go_wp2_with fail
    go_roundw
    case rel=>exact .inr (.inl ⟨rfl,rfl,av,fz.1,fz.2.1,fz.2.2⟩)
    case measure=>exact ef
  ·obtain ⟨rfl,rfl,rfl,hR,hS,bM⟩:=hrel
   have cs:wr.cell? ⟨w.heap.size+1+1,1,none⟩=some (.i 0):=hS.cell 1;have fs:wr.frozen? ⟨w.heap.size+1+1,1,none⟩=false:=hS.frozen 1;have lM:=hR.cF (p:=⟨w.heap.size+1+1,1,none⟩) av (.i y);have kf:ar (wr.setCell ⟨w.heap.size+1+1,1,none⟩ (.i y)) (w.heap.size+1+1) 23 (w3 x y z 2):=hS.eW 1 _;have iB:=bM.setCell (p:=⟨w.heap.size+1+1,1,none⟩) (by simp;omega) (.i y);have EN:Sem.run prog (Instr.index 42 (.agg #[.float .f64 f0,.float .f64 f1,.float .f64 f2]) (.i 1)) wr=.ok (.float .f64 f1) wr:=ai;have H:=J (ae hR bM);have fz:=J (ae lM (ae kf iB));clear hR hS bM lM kf iB;go_wp2_with fail;refine (H1.out _).mono ?_;rintro e bm ⟨rfl,rfl⟩
   cases dv
   ·clear fz cs fs
    go_wp2_with (refine ch rfl 23 (.tmp 2) (.tmp 21) rfl (w.heap.size+1) 23 (w3 x y z 0) #[.i 0,.i 0,.i 0] rfl rfl H.1 rfl xr (HI 0 0 0) ?_;intro bc bS bP dx)
    have dn:∀ i,bc.cell? ⟨w.heap.size+1,i,none⟩=(#[.i 0,.i 0,.i 0]:Array Value)[i]?:=bS.cell
    exact cS (v:=.tuple #[.agg #[.i 0,.i 0,.i 0],.bool false]) (by simp [results,results208,go_sem,dn]) rfl ⟨by simp [EM],H.2.grown bP H.2.size dP⟩
   ·go_wp2_with fail
    go_roundw
    case rel=>exact .inr (.inr (.inl ⟨rfl,rfl,av,av,fz.1,fz.2.1,fz.2.2⟩))
    case measure=>exact ef
  ·obtain ⟨rfl,rfl,rfl,rfl,hR,hS,bM⟩:=hrel
   have cs:wr.cell? ⟨w.heap.size+1+1,2,none⟩=some (.i 0):=hS.cell 2;have fs:wr.frozen? ⟨w.heap.size+1+1,2,none⟩=false:=hS.frozen 2;have lM:=hR.cF (p:=⟨w.heap.size+1+1,2,none⟩) av (.i z);have kf:ar (wr.setCell ⟨w.heap.size+1+1,2,none⟩ (.i z)) (w.heap.size+1+1) 23 (w3 x y z 3):=hS.eW 2 _;have iB:=bM.setCell (p:=⟨w.heap.size+1+1,2,none⟩) (by simp;omega) (.i z);have EN:Sem.run prog (Instr.index 42 (.agg #[.float .f64 f0,.float .f64 f1,.float .f64 f2]) (.i 2)) wr=.ok (.float .f64 f2) wr:=ai;have H:=J (ae hR bM);have fz:=J (ae lM (ae kf iB));clear hR hS bM lM kf iB;go_wp2_with fail;refine (ju.out _).mono ?_;rintro e bm ⟨rfl,rfl⟩
   cases ed
   ·clear fz cs fs
    go_wp2_with (refine ch rfl 23 (.tmp 2) (.tmp 21) rfl (w.heap.size+1) 23 (w3 x y z 0) #[.i 0,.i 0,.i 0] rfl rfl H.1 rfl xr (HI 0 0 0) ?_;intro bc bS bP dx)
    have dn:∀ i,bc.cell? ⟨w.heap.size+1,i,none⟩=(#[.i 0,.i 0,.i 0]:Array Value)[i]?:=bS.cell
    exact cS (v:=.tuple #[.agg #[.i 0,.i 0,.i 0],.bool false]) (by simp [results,results208,go_sem,dn]) rfl ⟨by simp [EM],H.2.grown bP H.2.size dP⟩
   ·go_wp2_with fail
    go_roundw
    case rel=>exact .inr (.inr (.inr (⟨rfl,rfl,av,av,av,fz.1,fz.2.1,fz.2.2⟩)))
    case measure=>exact ef
  ·obtain ⟨rfl,rfl,rfl,rfl,rfl,hR,hS,bM⟩:=hrel
   have bt:wr.cell? ⟨w.heap.size+1+1,0,none⟩=some (.i x):=hS.cell 0;have c1:wr.cell? ⟨w.heap.size+1+1,1,none⟩=some (.i y):=hS.cell 1;have c2:wr.cell? ⟨w.heap.size+1+1,2,none⟩=some (.i z):=hS.cell 2;have H:=J (ae hR bM);clear hR bM hS
   go_wp2_with (refine ch rfl 23 (.tmp 2) (.tmp 26) rfl (w.heap.size+1) 23 (w3 x y z 0) (w3 x y z 3) rfl rfl H.1 rfl xr (HI _ _ _) ?_;intro bc bS bP dx)
   have dn:∀ i,bc.cell? ⟨w.heap.size+1,i,none⟩=(#[.i x,.i y,.i z]:Array Value)[i]?:=bS.cell
   exact cS (v:=.tuple #[.agg #[.i x,.i y,.i z],.bool true]) (by simp [results,results208,go_sem,dn]) rfl ⟨by simp [EM],H.2.grown bP H.2.size dP⟩
end Go.Proofs.YtmmchlfoplcnbaaGreatDoor
