/- A part of the walk. -/
import Derived.Lib.SmallJoins
import Derived.Lib.AppendIntMem
import Derived.Test.YtmmchlfoplcnbaaGreatDoorMA5
import Derived.Test.YtmmchlfoplcnbaaGreatDoorMA6
namespace Go.Proofs.YtmmchlfoplcnbaaGreatDoor
open Go Go.RowKit Tryz
set_option linter.all false
set_option maxRecDepth 100000
set_option maxHeartbeats 4000000
abbrev Fd.cells (f:Fd):Array Value:=#[.string (str f.text),.i f.line,.i f.IY]
def ov:cu Fd 3:=⟨fun f=>f.cells.toList,fun _=>rfl,fun p u hu=>by simp at hu;rcases hu with h|h|h <;> subst h <;> rfl,ak⟩
theorem Uw:lH prog 151 155 3 32:=by
 obtain ⟨i,h1,ah,aw,bn⟩:=info_parts (show (prog.info? 155).map (fun i=>(i.zero,i.size,i.bytes))=some (some (.agg #[.string ⟨#[]⟩,.i 0,.i 0]),3,32) by kernel_rfl);exact ⟨underlying151,i,_,h1,ah,aw,bn,rfl⟩
structure lX where
 A:Option Addr
 n:Nat
 c:Nat
def zt:cu lX 1:=⟨fun s=>[.slice s.A s.n s.c],fun _=>rfl,fun _ u hu=>by simp at hu;subst hu;rfl,ak⟩
theorem afV:lH prog 147 151 1 24:=by
 obtain ⟨i,h1,ah,aw,bn⟩:=info_parts (show (prog.info? 151).map (fun i=>(i.zero,i.size,i.bytes))=some (some (.slice none 0 0),1,24) by kernel_rfl);exact ⟨underlying147,i,_,h1,ah,aw,bn,rfl⟩
theorem Own.Ux {α β:Type} {s s':Nat} {w:World} {base Gy:Nat} {e e':TypeId} {E:cu α s} {jV:cu β s'} {v v':Value} {l:List α} {eK:List β} (h:Own w base e E v l) (cI:Own w Gy e' jV v' eK) (bW:e≠e'):v.ownBlock=none\/v.ownBlock≠v'.ownBlock:=by
 rcases h.2 with ⟨rfl,_⟩|⟨g,cap,cur,rfl,_,bQ,_⟩
 ·exact .inl rfl
 ·rcases cI.2 with ⟨rfl,_⟩|⟨g',aa8,aa9,rfl,_,xv,_⟩
  ·exact .inr (by simp [Value.ownBlock])
  ·refine .inr fun he=>bW ?_
   have:g=g':=by simpa [Value.ownBlock] using he
   subst this;rw [bQ] at xv
   injection xv with xv
   injection xv with _ ht
def mb:Nat->List (List UInt8)->List (List Fd)
 | _,[]=>[]
 | n,L :: r=>(if jf n 0 L = [] then [] else [jf n 0 L])++mb (n+1) r
theorem Uy (L:List UInt8):∀ (l:List (List UInt8)) (n:Nat),mb n (l++[L])=mb n l++(if jf (n+l.length) 0 L = [] then [] else [jf (n+l.length) 0 L])
 | [],n=>by simp [mb]
 | a :: l,n=>by
  have b6:=Uy L l (n+1);rw [HJ,mb,b6,mb,cy,mq,show n+1+l.length=n+(l.length+1) from af]
theorem Uz:∀ (l:List (List UInt8)) (n:Nat),(mb n l).length<=l.length
 | [],_=>e3 _
 | a :: l,n=>by
  have b6:=Uz l (n+1);rw [mb,cd,cy]
  split <;> simp <;> omega
def nd (w:World) (base:Nat):List (List Fd)->List lX->Prop
 | [],[]=>True
 | f :: D,r :: R=>(r.n=f.length/\Own w base 155 ov (.slice r.A f.length r.c) f)/\nd w base D R
 | _,_=>False
theorem nd.mono {w w':World} {base:Nat} (hk:∀ (A:Option Addr) (c:Nat) (f:List Fd),Own w base 155 ov (.slice A f.length c) f->Own w' base 155 ov (.slice A f.length c) f):∀ {D:List (List Fd)} {R:List lX},nd w base D R->nd w' base D R
 | [],[],_=>trivial
 | _ :: _,_ :: _,h=>⟨⟨h.1.1,hk _ _ _ h.1.2⟩,nd.mono hk h.2⟩
 | [],_ :: _,h=>h.elim
 | _ :: _,[],h=>h.elim
theorem nd.snoc {w:World} {base:Nat} {f:List Fd} {r:lX} (h1:r.n=f.length) (ah:Own w base 155 ov (.slice r.A f.length r.c) f):∀ {D:List (List Fd)} {R:List lX},nd w base D R->nd w base (D++[f]) (R++[r])
 | [],[],_=>⟨⟨h1,ah⟩,trivial⟩
 | _ :: _,_ :: _,h=>⟨h.1,nd.snoc h1 ah h.2⟩
 | [],_ :: _,h=>h.elim
 | _ :: _,[],h=>h.elim
theorem nd.len {w:World} {base:Nat}:∀ {D:List (List Fd)} {R:List lX},nd w base D R->R.length=D.length
 | [],[],_=>rfl
 | _ :: _,_ :: _,h=>by rw [cy,cy,nd.len h.2]
 | [],_ :: _,h=>h.elim
 | _ :: _,[],h=>h.elim
def S2 (D:List (List Fd)) (w:World) (e:Ending) (w':World):Prop :=
 ∃ (R:List lX) (A:Option Addr) (c:Nat),e=.returned (.tuple #[.slice A D.length c,.i 0])/\R.length=D.length/\Own w' w.heap.size 151 zt (.slice A R.length c) R/\nd w' w.heap.size D R/\Below w.heap.size w w'
theorem UA:∀ (l:List UInt8),k5 l=l.length\/∃ b,l[k5 l]? = some b/\oy b=true
 | []=>.inl rfl
 | b :: l=>by
  unfold k5
  by_cases h:oy b=true
  ·rw [bB h];exact .inr ⟨b,rfl,h⟩
  ·rw [bp h]
   rcases UA l with h1|⟨x,h1,ah⟩
   ·left;rw [h1];rfl
   ·right;exact ⟨x,by simpa using h1,ah⟩
theorem UB:∀ (l:List UInt8) (j:Nat),j<k5 l->∃ b,l[j]? = some b/\oy b=false
 | [],j,h=>by simp [k5] at h
 | b :: l,j,h=>by
  unfold k5 at h
  by_cases hb:oy b=true
  ·rw [bB hb] at h;omega
  ·rw [bp hb] at h
   cases j with
   | zero=>exact ⟨b,rfl,by simpa using hb⟩
   | succ j=>obtain ⟨x,h1,ah⟩:=UB l j af;exact ⟨x,by simpa using h1,ah⟩
theorem afW (l:List ByteArray):encS.all l=l.map Value.string:=by
 induction l with
 | nil=>rfl
 | cons a l b6=>rw [cu.all_cons,b6];rfl
theorem afX {w:World} {b off:Nat} {l:List ByteArray} (h:a7 w encS (some ⟨b,off,none⟩) l) {i:Nat} (hi:i<l.length):w.cell? ⟨b,off+i,none⟩=some (.string l[i]):=by
 obtain ⟨b',p2,e,_,hc⟩:=h.at_ hi;injection e with e
 injection e with aV bE
 subst aV;subst bE;have:=hc 0 (.string l[i]) rfl
 simpa using this
theorem UC {c:UInt8} {L:List UInt8}:∀ {ls:List (List UInt8)},L∈ls->L.length<=(glue c ls).length/\∀ b∈L,b∈glue c ls
 | a :: ls,h=>by
  rw [show glue c (a :: ls)=a++c :: glue c ls from rfl]
  rcases fb.1 h with rfl|h
  ·exact ⟨by rw [cd];omega,fun b hb=>J8 _ hb⟩
  ·obtain ⟨h1,ah⟩:=UC h
   exact ⟨by rw [cd,cy];omega,fun b hb=>List.mem_append_right _ (EI _ (ah b hb))⟩
structure sR (D:List (List Fd)) (R:List lX) (bz:Option Addr) (c1:Nat) (fc:List ByteArray) (w W:World):Prop where
 rows:nd W w.heap.size D R
 own:Own W (w.heap.size+1) 151 zt (.slice bz R.length c1) R
 kp:a7 W encS (some ⟨w.heap.size,0,none⟩) fc
 aR:Below w.heap.size w W
 lt:w.heap.size<W.heap.size
theorem a7.afY {α:Type} {size:Nat} {E:cu α size} {W W':World} {row:Option Nat} {b off:Nat} {l:List α} (h:a7 W E (some ⟨b,off,none⟩) l) (az:W.grownBy W' row) (hb:some b≠row):a7 W' E (some ⟨b,off,none⟩) l:=fun hn=>by
 obtain ⟨b',p2,e,aT,hc⟩:=h hn;injection e with e
 injection e with aV bE
 subst aV;subst bE;exact ⟨b,off,rfl,qb aT az.size,fun j u hu=>(Gz (az.block b aT hb)).trans (hc j u hu)⟩
section
variable {D:List (List Fd)} {R:List lX} {bz:Option Addr} {c1:Nat} {fc:List ByteArray} {w W W':World}
theorem sR.below (h:sR D R bz c1 fc w W) (hb:Below W.heap.size W W'):sR D R bz c1 fc w W' :=
 ⟨h.rows.mono fun _ _ _ ho=>ho.below hb aF,h.own.below hb aF,h.kp.below hb,h.aR.trans (hb.mono h.aR.size),qb h.lt hb.size⟩
theorem sR.push {f:List Fd} {A2 b5:Option Addr} {c2 c3:Nat} {o:Obj} (h:sR D R bz c1 fc w W) (hf:Own W w.heap.size 155 ov (.slice A2 f.length c2) f)
  (ho:Own W' (w.heap.size+1) 151 zt (.slice b5 (R.length+1) c3) (R++[⟨A2,f.length,c2⟩])) (az:(W.alloc o).grownBy W' (Value.slice bz R.length c1).ownBlock):sR (D++[f]) (R++[⟨A2,f.length,c2⟩]) b5 c3 fc w W':=by
 have aT:=h.own.iw;have cH:=h.aR.size;refine ⟨nd.snoc rfl ((hf.alloc o).grown az ((hf.alloc o).Ux (h.own.alloc o) ak)) (h.rows.mono fun _ _ _ hx=>(hx.alloc o).grown az ((hx.alloc o).Ux (h.own.alloc o) ak)),wX ho,(h.kp.alloc o).afY az (fun e=>by have:=aT _ e.symm;omega),?_,by have:=h.lt;have:=az.size;simp at this;omega⟩;exact (h.aR.alloc cH o).grown az (by simp;omega) fun k hk=>by have:=aT k hk;omega
theorem sR.alloc (h:sR D R bz c1 fc w W) (o:Obj):sR D R bz c1 fc w (W.alloc o):=h.below ((aO _ _).alloc aF o)
end
theorem UD (x:ByteArray) {xs:List UInt8} (h:x.data.toList=xs) {i j m:Nat} (hm:i+j=m):x.extract i m=str ((xs.drop i).take j):=by
 apply ByteArray.ext
 apply HR.1
 rw [Lib.extract_data,h];subst hm;rw [yb,Kb]
theorem adF (xU:List (List UInt8)) (l:List UInt8) (hl:l=glue 10 xU) (NK:∀ L∈xU,(10:UInt8)∉L) (ht:∀ b∈l,ME b) (afZ:l.length<=65536) (A:Option Addr) (c:Nat) (w:World) (hr:a7 w cO A l) {mx:Int} (az:w.cell? ⟨0,0,none⟩=some (.i mx)) :
  Calls prog 72 #[.slice A l.length c] w (S2 (mb 1 (xU++[[]])) w):=by
 have hcv:=O7 w A l c hr;have Ji:=af0 NK (str l) (by rw [yb,hl]) ⟨#[10]⟩ rfl;have aq:=Any.strings_Split lays146 ai (str l) ⟨#[10]⟩ mx w (by rw [mo];omega) az ak;have kW:=afL l A c w hr ht afZ;have tL:Hid (∀ L∈xU++[[]],L.length<=65536/\∀ b∈L,b=32\/qF b=true):=by
  show ∀ L∈xU++[[]],_
  intro L eT
  rcases jl.1 eT with eT|eT
  ·obtain ⟨g1,g2⟩:=UC (c:=10) eT
   rw [<- hl] at g1 g2
   refine ⟨af,fun b hb=>?_⟩
   rcases ht b (g2 b hb) with e|e|e
   ·subst e;exact absurd hb (NK L eT)
   ·exact .inl e
   ·exact .inr e
  ·simp only [mD] at eT
   subst eT;exact ⟨av,av⟩
 have af1:xU.length<=65536:=by have:=UE 10 xU;rw [<- hl] at this;omega
 clear hr az;generalize Lib.splitB ⟨#[10]⟩ 0 (Lib.countB (str l) ⟨#[10]⟩) (str l)=fc at *
 have qV:fc.length=xU.length+1:=by have:=pz List.length Ji.2;simpa using this
 rw [Ji.1,<- qV] at aq
 have NL:=J Ji.2;have ak0:fc.length<=65537:=af;have aq:Hid (Calls prog 100 #[.string (str l),.string ⟨#[10]⟩] w fun e w'=>e=.returned (.slice (some ⟨w.heap.size,0,none⟩) fc.length fc.length)/\w'=w.alloc (.cells (fc.map Value.string).toArray 9)):=J aq;have kW:=J kW;clear Ji hl NK ht qV af1
 go_enter func72,ntmps72
 go_wp2_with fail
 go_step3
 go_wp2_with fail;refine kW.mono ?_;rintro e w' ⟨rfl,rfl⟩;go_wp2_with fail
 go_step3
 go_wp2_with fail;refine aq.mono ?_;rintro e aC ⟨rfl,cU⟩;have ao:Hid (sR [] [] none 0 fc w aC):=by
  show sR [] [] none 0 fc w aC
  rw [cU];exact ⟨trivial,Own.e8 _ _ _ _,a7.made w encS fc 9 _ (0,0) (afW fc).symm,(aO _ _).alloc aF _,av⟩
 clear cU aq kW hcv;go_wp2_with fail;generalize xU++[[]]=wL at *
 go_loopw [4,17] (fun out ii wr=>∃ (k:Nat) (D:List (List Fd)) (R:List lX) (bz:Option Addr) (c1:Nat),k<=fc.length/\ii=.i k/\out=.slice bz R.length c1/\D=mb 1 (wL.take k)/\sR D R bz c1 fc w wr) (fun _ ii _=>fc.length-(intOf ii).toNat)
 case atStart=>exact ⟨0,[],[],none,0,af,rfl,rfl,rfl,ao.out⟩
 case round =>
  clear ao;obtain ⟨k,D,R,bz,c1,hk,rfl,rfl,z1,bd⟩:=hrel;obtain ⟨eh,rfl⟩:∃ W,W=wr:=⟨_,rfl⟩
  have bq:=J z1;have ao:=J bd;clear z1 bd
  by_cases aT:k<fc.length
  ·have cg:decide ((k:Int)<(fc.length:Int))=true:=bO af
   have l0:decide (k<fc.length)=true:=bO aT;have kA:(k:Int)<(fc.length:Int):=af;have iv:=afX ao.kp aT;rw [fw] at iv
   have tj:wL.length=fc.length:=by rw [<- NL.out];simp
   have z6:fc[k].data.toList=wL[k]'af:=by
    have:=NL.out;subst this;simp
   have Jj:=J (tL.out (wL[k]'af) (iO _));have vx:Hid (mb 1 (wL.take (k+1))=D++(if jf (k+1) 0 fc[k].data.toList = [] then [] else [jf (k+1) 0 fc[k].data.toList])):=by
    show _=_
    rw [gS af,Uy,<- bq.out,fv,oF af,Nat.add_comm 1 k,z6]
   rw [<- z6] at Jj
   clear z6 tj;generalize fc[k]=x at *
   have fy:x.size<=65536:=Jj.1;go_wp2_with fail;obtain ⟨xs,z6⟩:=aE x.data.toList;have cH:x.size=xs.length:=by rw [<- z6];rfl
   have kY:=J z6;have iR:=J cH;have ak1:xs.length<=65536:=by rw [<- cH];exact fy
   rw [z6] at Jj vx
   clear z6 iv cH
   go_loopw [4,7,8] (fun pE af2 ii wv=>∃ (i:Nat) (F:List Fd) (A2:Option Addr) (c2:Nat),i<=x.size+1/\pE=.slice bz R.length c1/\ii=.i i/\af2=.slice A2 F.length c2/\F.length<=i/\F++jf (k+1) i (xs.drop i)=jf (k+1) 0 xs/\Own wv eh.heap.size 155 ov (.slice A2 F.length c2) F/\Below eh.heap.size eh wv) (fun _ _ ii _=>x.size+1-(intOf ii).toNat)
   case atStart=>exact ⟨0,[],none,0,af,rfl,rfl,rfl,av,rfl,Own.e8 _ _ _ _,aO _ _⟩
   case round =>
    obtain ⟨i,F,A2,c2,hi,rfl,rfl,rfl,ak2,hF,hO,bM⟩:=hrel;have bN:=J hF;have bJ:=J hO;have aA:=J bM;clear hF hO bM
    by_cases fC:i<x.size
    ·have xu:decide ((i:Int)<(x.size:Int))=true:=bO af
     have af3:decide (i<x.size)=true:=bO fC;have qT:(i:Int)<(x.size:Int):=af;have DP:i<xs.length:=by have:=iR.out;omega
     have ff:x[i]=xs[i]'af:=by have:=kY.out;subst this;rfl
     have hdr:xs.drop i=xs[i]'af :: xs.drop (i+1):=Aq af;have s5:=Jj.2 (xs[i]'af) (iO _);rw [<- ff] at hdr s5
     obtain ⟨y,hy⟩:=aE x[i];rw [hy] at hdr s5
     have xJ:=J hdr;clear hdr ff
     by_cases du:oy y=true
     ·have NM:Hid (F++jf (k+1) (i+1) (xs.drop (i+1))=jf (k+1) 0 xs):=by
       show _=_
       rw [<- bN.out,xJ.out,NN du]
      have gG:=J du;clear du s5;go_wp2_with fail;refine (B5 y true gG _).mono ?_;rintro e w' ⟨rfl,rfl⟩;clear hy;go_wp2_with fail
      go_roundw
      case rel=>exact ⟨i+1,F,A2,c2,af,rfl,cm,rfl,af,NM.out,bJ.out,aA.out⟩
      case measure=>exact c4
     ·have xE:oy y=false:=by simpa using du
      have ak3:((y.toNat:Int)==35)=false:=by
       rcases s5 with e|e
       ·subst e;exact absurd rfl du
       ·unfold qF at e;simp only [jZ] at e;exact ji.2 af
      obtain ⟨W,dZ⟩:=aE (k5 (xs.drop i));have HK:0<W:=by rw [<- dZ,xJ.out];exact UF xE
      have ak4:i+W<=xs.length:=by have:=UG (xs.drop i);rw [rV] at this;omega
      have NM:Hid (F++[⟨(xs.drop i).take W,k+1,i+1⟩]++jf (k+1) (i+W) (xs.drop (i+W))=jf (k+1) 0 xs):=by
       show _=_
       rw [<- bN.out]
       conv=>rhs;rw [xJ.out,NO xE,<- xJ.out,dZ,Jk]
       rw [mq];rfl
      have af4:=J (show ∀ j,j<W->∃ b,x.data.toList[i+j]? = some b/\oy b=false from fun j aD=>by
       rw [<- dZ] at aD
       obtain ⟨b,h1,ah⟩:=UB _ j aD;rw [GL] at h1
       exact ⟨b,by rw [kY.out];exact h1,ah⟩)
      have lc:=J (show i+W=x.size\/∃ b,x.data.toList[i+W]? = some b/\oy b=true by
       rcases UA (xs.drop i) with h1|⟨b,h1,ah⟩
       ·left;rw [dZ,rV] at h1;have:=iR.out;omega
       ·right;rw [dZ,GL] at h1;exact ⟨b,by rw [kY.out];exact h1,ah⟩)
      have gG:=J xE;have ak5:i+W<=x.size:=by have:=iR.out;omega
      clear du xE s5 dZ;go_wp2_with fail;refine (B5 y false gG _).mono ?_;rintro e w' ⟨rfl,rfl⟩;go_wp2_with fail;clear hy
      go_loop [8] (fun ii=>∃ j:Nat,j<=W/\ii=.i (i+j:Nat)) (fun ii=>i+W-(intOf ii).toNat)
      case atStart=>exact ⟨0,af,rfl⟩
      case round =>
       obtain ⟨j,aD,rfl⟩:=hrel;obtain ⟨m,hm⟩:=aE (i+j);rw [hm]
       by_cases UH:j<W
       ·obtain ⟨b,bV,bY⟩:=af4.out j UH
        rw [hm] at bV
        have hmx:m<x.size:=af;have DQ:decide ((m:Int)<(x.size:Int))=true:=bO af;have UI:decide (m<x.size)=true:=bO hmx;have af5:(m:Int)<(x.size:Int):=af;have FQ:x[m]=b:=by
         have:=(jv.1 bV).2;exact this
        have cA:=J bY;have ag:=J hm;clear bV bY hm;go_wp2_with fail;refine (B5 b false cA _).mono ?_;rintro e w' ⟨rfl,rfl⟩;clear FQ;go_wp2_with fail
        go_round
        case rel=>exact ⟨j+1,af,by rw [<- D4,ag.out];go_num⟩
        case measure=>have:=ag.out;simp [intOf];omega
       ·obtain rfl:j=W:=by omega
        obtain rfl:m=i+j:=af;have dU:=lc.out;have B6:((i+j:Nat):Int)=(i:Int)+(j:Int):=af;clear UH;obtain ⟨m,hm⟩:=aE (i+j);rw [hm] at dU B6 ⊢
        have hsum:(i:Int)+(j:Int)=(m:Int):=B6.symm;have hmx:m<=x.size:=af;have ak6:(i:Int)<=(m:Int):=af;have af5:(m:Int)<=(x.size:Int):=af;have ag:=J hm;have bC:Hid (ov.enc (⟨(xs.drop i).take j,k+1,i+1⟩:Fd)=(#[.string (x.extract i m),.i ((k:Int)+1),.i ((i:Int)+1)]:Array Value).toList):=by
         show _=_
         rw [UD x kY.out hm];rfl
        have UJ:Hid (F++[⟨(xs.drop i).take j,k+1,i+1⟩]++jf (k+1) (m+1) (xs.drop (m+1))=jf (k+1) 0 xs):=by
         show _=_
         rw [<- NM.out,hm]
         rcases dU with e|⟨b,aV,bE⟩
         ·have K8:xs.drop m = []:=D3 (by have:=iR.out;omega)
          have q0:xs.drop (m+1) = []:=D3 (by have:=iR.out;omega);rw [K8,q0,DB,DB]
         ·rw [kY.out] at aV
          obtain ⟨h1,ah⟩:=jv.1 aV;rw [Aq h1,ah,NN bE]
        clear B6 hm hsum
        by_cases hex:m=x.size
        ·have DQ:decide ((m:Int)<(x.size:Int))=false:=cX af
         have UI:decide (m<x.size)=false:=cX af;clear dU hex
         go_wp2_with (at_builtin;refine Am Uw ov rfl (.tmp 57) (.tmp 67) rfl ⟨(xs.drop i).take j,k+1,i+1⟩ #[.string (x.extract i m),.i ((k:Int)+1),.i ((i:Int)+1)] bC eh.heap.size _ F rfl bJ rfl rfl aA af af aA.size ?_;intro b5 fP w3 ho hb az;have cD:=J (ae ho hb);clear ho hb az)
         go_roundw
         case rel=>exact ⟨m+1,F++[⟨(xs.drop i).take j,k+1,i+1⟩],b5,fP,af,rfl,cm,av,by simp;have:=ag.out;omega,UJ.out,wX cD.1,cD.2⟩
         case measure=>have:=ag.out;simp [intOf];omega
        ·have DQ:decide ((m:Int)<(x.size:Int))=true:=bO af
         have UI:decide (m<x.size)=true:=bO af;have ak7:m<x.size:=af;have ak8:(m:Int)<(x.size:Int):=af
         rcases dU with e|⟨b,aV,bE⟩
         ·exact absurd e hex
         have FQ:x[m]=b:=(jv.1 aV).2;have cA:=J bE;clear aV bE hex;go_wp2_with fail;refine (B5 b true cA _).mono ?_;rintro e w' ⟨rfl,rfl⟩;clear FQ
         go_wp2_with (at_builtin;refine Am Uw ov rfl (.tmp 57) (.tmp 67) rfl ⟨(xs.drop i).take j,k+1,i+1⟩ #[.string (x.extract i m),.i ((k:Int)+1),.i ((i:Int)+1)] bC eh.heap.size _ F rfl bJ rfl rfl aA af af aA.size ?_;intro b5 fP w3 ho hb az;have cD:=J (ae ho hb);clear ho hb az)
         go_roundw
         case rel=>exact ⟨m+1,F++[⟨(xs.drop i).take j,k+1,i+1⟩],b5,fP,af,rfl,cm,av,by simp;have:=ag.out;omega,UJ.out,wX cD.1,cD.2⟩
         case measure=>have:=ag.out;simp [intOf];omega
    ·have xu:decide ((i:Int)<(x.size:Int))=false:=cX af
     have af3:decide (i<x.size)=false:=cX fC;have UK:F=jf (k+1) 0 xs:=by
      have e:=bN.out;have hn:xs.drop i = []:=D3 (by have:=iR.out;omega);rw [hn,DB,rR] at e
      exact e
     have iE:Hid (mb 1 (wL.take (k+1))=D++(if F = [] then [] else [F])):=by show _=_;rw [vx.out,<- UK]
     have jz:=J (ao.below aA);have jk:=J (bJ.mono ao.aR.size);have ak9:R.length<=k:=by
      have h1:=ao.rows.len;have ah:=Uz (wL.take k) 1;rw [<- bq.out,fv] at ah
      omega
     clear UK fC
     by_cases B7:F = []
     ·have NP:Hid (mb 1 (wL.take (k+1))=D):=by show _=_;rw [iE.out,bB B7,rR]
      have af6:decide ((0:Int)<(F.length:Int))=false:=cX (by rw [B7];simp);have af7:decide (0<F.length)=false:=cX (by rw [B7];simp);clear B7;go_wp2_with fail
      go_roundw
      case rel=>exact ⟨k+1,D,R,bz,c1,af,cm,rfl,NP.symm,jz.out⟩
      case measure=>exact c4
     ·have NP:Hid (mb 1 (wL.take (k+1))=D++[F]):=by show _=_;rw [iE.out,bp B7]
      have af8:0<F.length:=DZ.2 B7;have af6:decide ((0:Int)<(F.length:Int))=true:=bO af;have af7:decide (0<F.length)=true:=bO af8;clear B7
      go_wp2_with (at_builtin;refine Am afV zt rfl (.tmp 72) (.tmp 74) rfl ⟨A2,F.length,c2⟩ #[.slice A2 F.length c2] rfl (w.heap.size+1) _ R rfl jz.own rfl rfl (aO _ _) af af jz.lt ?_;intro b5 fP w3 ho hb az;have cD:=J (jz.push jk ho az);clear ho hb az)
      go_roundw
      case rel=>exact ⟨k+1,D++[F],R++[⟨A2,F.length,c2⟩],b5,fP,af,cm,av,NP.symm,cD.out⟩
      case measure=>exact c4
  ·obtain rfl:k=fc.length:=by omega
   have cg:decide ((fc.length:Int)<(fc.length:Int))=false:=av;have l0:decide (fc.length<fc.length)=false:=av;have tj:wL.length=fc.length:=by rw [<- NL.out];simp
   rw [pB af] at bq
   have yI:=J ao.rows.len;clear tj;go_wp2_with fail
   (try rw [Exit.noGoto_ret])
   go_ret2
   exact ⟨R,bz,c1,by rw [<- bq.out,yI.out];rfl,by rw [<- bq.out,yI.out],ao.own.mono af,by rw [<- bq.out];exact ao.rows,ao.aR⟩
theorem ahB {a b:Int} (ha:0<=a) (hb:0<=b) (h:a+b<=9223372036854775807):eg a b=a+b:=by
 have JE:kU a=a:=by unfold kU;rw [bp af]
 have lO:kU b=b:=by unfold kU;rw [bp af]
 unfold eg most;rw [JE,lO,bB h]
theorem Vx (a b:Int) (w:World) (ha:0<=a) (hb:0<=b) (qd:a<=9223372036854775807) (bY:b<=9223372036854775807) (h:a*b<=9223372036854775807) :
  Calls prog 224 #[.i a,.i b] w fun e w'=>e=.returned (.i (a*b))/\w=w':=by
 have JE:kU a=a:=by unfold kU;rw [bp af]
 have lO:kU b=b:=by unfold kU;rw [bp af]
 have hA:=G7 a w ⟨af,af⟩;have bM:=G7 b w ⟨af,af⟩;rw [JE] at hA
 rw [lO] at bM
 have dC:=J hA;have aA:=J bM;have aI:0<=a*b:=Int.mul_nonneg ha hb;have hw:IntKind.i64.wrap (a*b)=a*b:=by rw [mS];omega
 clear hA bM JE lO
 by_cases ff:0<b
 ·have bd:a<=9223372036854775807 / b:=(Int.le_ediv_iff_mul_le ff).2 h
  have d1:decide (0<b)=true:=bO ff;have d2:decide ((9223372036854775807:Int) / b<a)=false:=cX af;have d3:decide ((9223372036854775807:Int).tdiv b<a)=false:=by rw [Int.tdiv_eq_ediv_of_nonneg af];exact d2
  have bW:(b==0)=false:=ji.2 af;clear bd
  go_enter func224,ntmps224
  go_wp2_with fail;refine dC.mono ?_;rintro e w' ⟨rfl,rfl⟩;go_wp2_with fail;refine aA.mono ?_;rintro e w' ⟨rfl,rfl⟩;go_wp2_with fail
  all_goals go_ret
  all_goals exact ⟨sZ (by first|exact hw|rfl|omega),rfl⟩
 ·have d1:decide (0<b)=false:=cX ff
  go_enter func224,ntmps224
  go_wp2_with fail;refine dC.mono ?_;rintro e w' ⟨rfl,rfl⟩;go_wp2_with fail;refine aA.mono ?_;rintro e w' ⟨rfl,rfl⟩;go_wp2_with fail
  all_goals go_ret
  all_goals exact ⟨sZ (by first|exact hw|rfl|omega),rfl⟩
def wR:Array Value:=#[.string ⟨#[84,105]⟩,.i 1099511627776,.string ⟨#[84]⟩,.i 1000000000000,.string ⟨#[71,105]⟩,.i 1073741824,.string ⟨#[71]⟩,.i 1000000000,.string ⟨#[77,105]⟩,.i 1048576,.string ⟨#[77]⟩,.i 1000000,.string ⟨#[75,105]⟩,.i 1024,.string ⟨#[107]⟩,.i 1000]
theorem ahC (w:World):Calls prog 274 #[] w fun e w'=>e=.returned (.slice (some ⟨w.heap.size,0,none⟩) 8 8)/\w'=w.alloc (.cells wR 379):=by
 go_enter func274,ntmps274
 go_wp2
 go_ret;exact ⟨rfl,rfl⟩
def Vy (x:List UInt8×Nat):List Value:=[.string (str x.1),.i x.2]
theorem ahD (s:ByteArray) (B:Nat) (w:World) (bM:B<w.heap.size) (hcell:w.cell? ⟨B,0,none⟩=some (.string s)) :
  PredBelow prog 276 #[.pointer (some ⟨B,0,none⟩)] (fun x=>.agg (Vy x).toArray) (fun x=>(str x.1).toList==s.toList) w:=fun W x hb=>by
 have hc:W.cell? ⟨B,0,none⟩=some (.string s):=(hb.cell (p:=⟨B,0,none⟩) bM).trans hcell;have ali:B<W.heap.size:=qb bM hb.size;have bW:B≠W.heap.size:=af
 show Calls prog 276 #[.agg #[.string (str x.1),.i x.2],.pointer (some ⟨B,0,none⟩)] W _
 have aA:=J hb;clear hb hcell;generalize bd:str x.1=q;have ao:=J bd;clear bd
 go_enter func276,ntmps276
 go_wp2
 all_goals (go_ret;exact ⟨by rw [ao.out];rfl,aA.alloc aA.size _⟩)
theorem Vz (l:List UInt8):(str l).toList.isEmpty=l.isEmpty:=by
 have:(str l).toList=l:=by rw [oG,yb]
 rw [this]
theorem ahE:∀ j:Fin 8,Lib.idxBy (fun _ y=>y.1==(k6.getD j.val ([],0)).1) (k6.take 8) default=(j.val:Int):=ak
theorem ahF {j:Nat} (aD:j<8) {nm:List UInt8} {u:Nat} (h:k6[j]'aD=(nm,u)):Lib.idxBy (fun _ y=>(str y.1).toList==(str nm).toList) (k6.take 8) default=(j:Int):=by
 have h1:=ahE ⟨j,aD⟩;have ah:k6.getD j ([],0)=(nm,u):=by rw [List.getD_eq_getElem?_getD,dF (show j<k6.length from aD)];exact h
 simp only [ah] at h1
 have e:(fun (_ y:List UInt8×Nat)=>(str y.1).toList==(str nm).toList)=fun _ y=>y.1==nm:=by funext _ y;exact O8 _ _
 rw [e];exact h1
theorem ahG {j:Nat} (aD:j<8) {nm:List UInt8} {u:Nat} (h:k6[j]'aD=(nm,u)):wR[j*2+1]? = some (.i u)/\nm≠[]:=by
 obtain rfl|rfl|rfl|rfl|rfl|rfl|rfl|rfl:j=0\/j=1\/j=2\/j=3\/j=4\/j=5\/j=6\/j=7:=af
 all_goals
  injection h with h1 ah
  subst h1;subst ah;exact ⟨rfl,ak⟩
theorem ahH (nm:List UInt8) (u:Nat) (h:(nm,u)∈([],1) :: k6) (w:World) :
  Calls prog 223 #[.string (str nm)] w fun e w'=>e=.returned (.i u)/\Below w.heap.size w w':=by
 have yy:∀ args w,(callFunc 276 args).run prog w=.ok (.enter 276 args) w:=enters_of func276 ai rfl
 have iF:=AnyQ.slices_IndexFunc idxU 2 isAgg379 sizeOf379 Vy (fun _=>rfl) (fun x=>(str x.1).toList==(str nm).toList) 276 #[.pointer (some ⟨w.heap.size,0,none⟩)] yy (w.heap.size+1) 0 8 8 k6 ((w.alloc (.cells #[.string (str nm)] 9)).alloc (.cells wR 379))
  (ahD (str nm) w.heap.size _ (by simp;omega) av) ak ak av (fun j aD i v hi=>by
   have bI:((w.alloc (.cells #[.string (str nm)] 9)).alloc (.cells wR 379)).cell? ⟨w.heap.size+1,j*2+i,none⟩=wR[j*2+i]?:=by
    have hb:=ar.new (w.alloc (.cells #[.string (str nm)] 9)) 379 wR;have e:(w.alloc (.cells #[.string (str nm)] 9)).heap.size=w.heap.size+1:=av;rw [e] at hb
    exact hb.cell _
   rw [fw,bI];have wO:j<8:=aD;have rb:i<2:=(jv.1 hi).1;obtain rfl|rfl|rfl|rfl|rfl|rfl|rfl|rfl:j=0\/j=1\/j=2\/j=3\/j=4\/j=5\/j=6\/j=7:=af
   all_goals
    obtain rfl|rfl:i=0\/i=1:=af
    all_goals exact hi)
 change Calls prog 275 _ _ _ at iF
 have aq:=J iF;have aA:=J (show Below w.heap.size w ((w.alloc (.cells #[.string (str nm)] 9)).alloc (.cells wR 379)) from ((aO _ _).alloc aF _).alloc av _);have hP:Hid (ar ((w.alloc (.cells #[.string (str nm)] 9)).alloc (.cells wR 379)) (w.heap.size+1) 379 wR):=by
  have hb:=ar.new (w.alloc (.cells #[.string (str nm)] 9)) 379 wR;have e:(w.alloc (.cells #[.string (str nm)] 9)).heap.size=w.heap.size+1:=av;rw [e] at hb
  exact hb
 have df:=J ((aO w.heap.size w).alloc aF (.cells #[.string (str nm)] 9));have JF:=Vz nm;clear iF yy
 rcases fb.1 h with h|h
 ·injection h with h1 ah
  subst h1;subst ah;have ahI:(str []).toList.isEmpty=true:=JF;clear JF
  go_enter func223,ntmps223
  go_wp2_with fail;go_ret;exact ⟨rfl,df.out⟩
 ·obtain ⟨j,aD,e⟩:=FB.1 h
  have wO:j<8:=aD;obtain ⟨bZ,bW⟩:=ahG wO e;have hr:=ahF wO e;rw [hr] at aq
  have ahI:(str nm).toList.isEmpty=false:=by rw [JF];cases nm with|nil=>exact absurd rfl bW|cons a l=>rfl
  have dj:decide ((j:Int)<0)=false:=cX af;have alj:(j:Int)<8:=af;have dN:=J bZ;clear h e bW hr bZ JF
  go_enter func223,ntmps223
  go_wp2_with fail;refine (ahC _).mono ?_;rintro e aC ⟨rfl,cU⟩;have aV:(w.alloc (.cells #[.string (str nm)] 9)).heap.size=w.heap.size+1:=av;rw [aV,cU];clear cU aV;go_wp2_with fail;refine aq.mono ?_;rintro e aM ⟨rfl,hb⟩;have yS:=(hP.bw hb).cell (j*2+1);rw [dN.out] at yS
  have cA:=J (aA.trans (hb.mono aA.size));clear hb aq;go_wp2_with fail;go_ret;exact ⟨rfl,cA.out⟩
def Ga:ByteArray:=⟨#[48,49,50,51,52,53,54,55,56,57]⟩
theorem ahJ (b:UInt8):Ga.data.toList.contains b=pX b:=by
 have h:∀ n:Fin 256,Ga.data.toList.contains (UInt8.ofNat n.val)=pX (UInt8.ofNat n.val):=by decide +kernel
 have:=h ⟨b.toNat,b.toNat_lt⟩
 simpa using this
theorem ahK (m:Nat) {s:List UInt8} (hs:∀ b∈s,pX b=false):Lib.trimLeftS (dY m++s) Ga.data.toList=s:=by
 unfold Lib.trimLeftS;have e:(fun b=>Ga.data.toList.contains b)=pX:=by funext b;exact ahJ b
 rw [e,List.dropWhile_append_of_pos (z8 m)]
 cases s with
 | nil=>rfl
 | cons b l=>rw [List.dropWhile_cons_of_neg (by rw [hs b av];simp)]
theorem ahL {s:List UInt8} {u:Nat} (h:(s,u)∈([],1) :: k6):(∀ b∈s,pX b=false)/\0<u/\s.length<=2:=by
 rcases fb.1 h with h|h
 ·injection h with h1 ah;subst h1;subst ah;exact ⟨av,af,av⟩
 ·obtain ⟨h1,_,aw,bn⟩:=Gb h
  exact ⟨fun b hb=>(bn b hb).1,h1,aw⟩
theorem ahM {l:List UInt8} {k:Nat} (hk:k<l.length):oz 0 (l.take (k+1))=oz 0 (l.take k)*10+(l[k].toNat-48)/\oz 0 (l.take (k+1))<=oz 0 l:=by
 constructor
 ·rw [gS hk,Og];rfl
 ·have h:oz 0 l=oz (oz 0 (l.take (k+1))) (l.drop (k+1)):=by rw [<- Og,p1]
  rw [h];exact ahN _ _
theorem M8 (n:Nat) (hn:n<=9223372036854775807) (w:World) :
  Calls prog 165 #[.string (str (dO n))] w fun e w'=>e=.returned (.tuple #[.i n,.i 0])/\Below w.heap.size w w':=by
 obtain ⟨m,s,u,e,hs,hm⟩:=JG n;obtain ⟨lK,ahO,fY⟩:=ahL hs;have ahP:m<=n:=by rw [<- hm];exact C2 _ ahO
 have alk:u<=9223372036854775807:=by
  rcases Nat.eq_zero_or_pos m with aI|aI
  ·rcases fb.1 hs with h|h
   ·injection h with _ h;omega
   ·simp only [k6,fb,mr,l1,Prod.mk.injEq] at h;omega
  ·have:u<=m*u:=Nat.le_mul_of_pos_left _ aI
   omega
 have dH:(dY m).length<=19:=zC 19 af af;have cC:=Any.strings_TrimLeft_laid lays161 ai (str (dO n)) Ga w ak (ascii_of_all ak);rw [yb,e,ahK m lK] at cC
 have cC:Hid (Calls prog 222 #[.string (str (dY m++s)),.string ⟨#[48,49,50,51,52,53,54,55,56,57]⟩] w fun e w'=>e=.returned (.string (str s))/\Below w.heap.size w w'):=J cC;rw [e];have bC:=J e;have cH:(str (dY m++s)).size=(dY m).length+s.length:=by rw [mo,cd]
 have zG:(str s).size=s.length:=mo s;have VA:(str (dY m++s)).extract 0 (dY m).length=str (dY m):=by
  rw [UD (str (dY m++s)) (yb _) (i:=0) (j:=(dY m).length) af];simp
 have bW:(str (dY m)).toList.isEmpty=false:=by
  rw [Vz]
  cases h:dY m with
  | nil=>exact absurd h (Oh m)
  | cons a l=>rfl
 have hu:((u:Int)==0)=false:=ji.2 af;have VB:(str (dY m)).size=(dY m).length:=mo _;have bq:=J (z8 m);have bF:=J (VC m);have ag:=J hm;have aP:=J hs;obtain ⟨N,b8⟩:=aE ((dY m).length);obtain ⟨S,hS⟩:=aE s.length;have bs:=J b8;rw [b8,hS] at cH
 rw [hS] at zG fY
 rw [b8] at VA VB dH
 have zY:((N+S:Nat):Int)-(S:Int)=(N:Int):=af;have ahQ:(N:Int)+(S:Int)-(S:Int)=(N:Int):=af;have ahR:(N:Int)<=((N+S:Nat):Int):=af;generalize dY m=ds at *
 clear e hm hs lK b8 hS
 go_enter func165,ntmps165
 go_wp2_with fail;refine cC.mono ?_;rintro e aC ⟨rfl,hb⟩;have aA:=J hb;clear hb cC;go_wp2_with fail;refine (ahH s u aP _).mono ?_;rintro e aM ⟨rfl,hb⟩;have aA:=J (aA.trans (hb.mono aA.size));clear hb;obtain ⟨yF,wc,VD,gC,du⟩:=O9 aM (str ds);rw [VB] at VD
 rw [yb] at gC
 have bx:=J gC.kp;have aA:=J (aA.trans (du.mono aA.size));clear gC du cH zG VA zY ahQ ahR cC;go_wp2_with fail;clear VD;have pw:m<=9223372036854775807:=af
 go_loop [7,30] (fun Nl ii=>∃ (k acc:Nat),k<=N/\ii=.i k/\Nl=.i acc/\acc=oz 0 (ds.take k)/\acc<=9223372036854775807) (fun _ ii=>N-(intOf ii).toNat)
 case atStart=>exact ⟨0,0,af,rfl,rfl,rfl,af⟩
 case round =>
  obtain ⟨k,acc,hk,rfl,rfl,JH,qR⟩:=hrel
  by_cases aT:k<N
  ·have vQ:k<ds.length:=by have:=bs.out;omega
   have cg:decide ((k:Int)<(N:Int))=true:=bO af;have l0:decide (k<N)=true:=bO aT;have kA:(k:Int)<(N:Int):=af;obtain ⟨v1,v2⟩:=ahM vQ;rw [<- JH] at v1
   rw [bF.out] at v2
   have hq:wc.cell? ⟨aM.heap.size,k,none⟩=some (.int .u8 ds[k].toNat):=by
    have:=bx.out;obtain ⟨b',p2,e,_,hc⟩:=this (by intro e;subst e;simp at vQ);injection e with e
    injection e with aV bE
    subst aV;subst bE;have:=hc k (.int .u8 ds[k].toNat) (by rw [s7,qW,dF vQ];rfl)
    simpa using this
   have iM:=bq.out ds[k] (iO _);generalize ds[k]=y at *
   unfold pX at iM
   simp only [jZ] at iM
   obtain ⟨g1,g2⟩:=iM;obtain ⟨VE,qd⟩:=aE (oz 0 (ds.take (k+1)));rw [qd] at v1 v2
   have dC:=J qd;obtain ⟨d,hd⟩:=aE (y.toNat-48);have alm:d<=9:=af;have ahS:(y.toNat:Int)-48=(d:Int):=af;have ahT:IntKind.u8.wrap ((y.toNat:Int)-48)=(d:Int):=by rw [IntKind.wrap_u8];omega
   rw [hd] at v1
   have Fa:=J v1;have ahU:(acc:Int)*10<=9223372036854775807:=af;have wt:eg ((acc:Int)*10) (d:Int)=(VE:Int):=by
    rw [ahB af af af];omega
   have ahV:=J wt;have aln:(48:Int)<=(y.toNat:Int):=af;have alo:(y.toNat:Int)<=57:=af;clear qd hd v1 wt JH;go_wp2_with fail;refine (Vx (acc:Int) 10 _ af af af af ahU).mono ?_;rintro e w' ⟨rfl,rfl⟩;go_wp2_with fail;refine (CP ((acc:Int)*10) (d:Int) _ ⟨af,af⟩ ⟨af,af⟩).mono ?_;rintro e w' ⟨rfl,rfl⟩;rw [ahV.out];clear ahS ahT;go_wp2_with fail
   go_round
   case rel=>exact ⟨k+1,VE,af,cm,rfl,dC.symm,af⟩
   case measure=>exact c4
  ·obtain rfl:k=N:=by omega
   have cg:decide ((k:Int)<(k:Int))=false:=av;have l0:decide (k<k)=false:=av;have Eh:acc=m:=by rw [JH,pB (by have:=bs.out;omega)];exact bF.out
   have VF:(acc:Int)*(u:Int)=(n:Int):=by
    have:=ag.out;rw [Eh,<- this];exact (Int.natCast_mul m u).symm
   have VG:=J VF;clear JH Eh VF;go_wp2_with fail;refine (Vx (acc:Int) (u:Int) _ af af af af (by rw [VG.out];omega)).mono ?_;rintro e w' ⟨rfl,rfl⟩;rw [VG.out];go_wp2_with fail
   go_ret2
   exact ⟨rfl,aA.out⟩
structure iH (w:World):Prop where
 mx:∃ m,w.cell? ⟨0,0,none⟩=some (.i m)
 tab:Lib.TabIs prog w "internal/strconv.uint64pow10" .u64 Lib.pow10Tab
theorem Dy {w:World} {b o:Nat} {s:Option Nat} {v:Value} (h:w.cell? ⟨b,o,s⟩=some v):b<w.heap.size:=by
 unfold World.cell? at h
 rcases gB b w.heap.size with aT|iy
 ·exact aT
 ·simp [vr iy] at h
theorem iH.below {w w':World} (h:iH w) (hb:Below w.heap.size w w'):iH w':=by
 obtain ⟨m,hm⟩:=h.mx;exact ⟨⟨m,(hb.cell (p:=⟨_,0,none⟩) (Dy hm)).trans hm⟩,Go.Joins.tab_stays (g:=8) ai h.tab hb aF⟩
theorem V2:∀ (l:List UInt8) (n:Nat),(∀ b∈l,pX b=true)->Lib.decFrom n l=some (oz n l)
 | [],n,_=>rfl
 | b :: l,n,h=>by
  have hb:=h b av;unfold pX at hb
  simp only [jZ] at hb
  have b6:=V2 l (n*10+(b.toNat-48)) fun x hx=>h x (by simp [hx])
  unfold Lib.decFrom Lib.digitVal;rw [bB hb];exact b6
theorem ajc (g:Nat):Lib.atoi (dY g)=some (g:Int):=by
 have h:=z8 g;have hd:=V2 (dY g) 0 h;rw [VC] at hd
 cases hl:dY g with
 | nil=>exact absurd hl (Oh g)
 | cons b l =>
  rw [hl] at h hd
  have hb:=h b av;unfold pX at hb
  simp only [jZ] at hb
  have h1:(b==45)=false:=by
   rw [ji];intro e;rw [e] at hb;revert hb;decide
  have ah:(b==43)=false:=by
   rw [ji];intro e;rw [e] at hb;revert hb;decide
  unfold Lib.atoi;simp only [h1,ah,oQ,ml];unfold Lib.decNat;simp only [List.isEmpty_cons,oQ,ml,hd]
  rfl
theorem ajd (l:List UInt8):((str l).toList != (str l).toList)=false:=av
theorem OH (g:Nat) (az:g<=1000) (w:World) (dE:iH w) :
  Calls prog 163 #[.string (str (dY g))] w fun e w'=>e=.returned (.i g)/\Below w.heap.size w w':=by
 have hl:(str (dY g)).size<=18:=by rw [mo];have:=zC (u:=g) 4 af af;omega
 have H1:=Any.strconv_Atoi lays172 (str (dY g)) (g:Int) hl (ajc g) w;have H1:Hid (Calls prog 219 #[.string (str (dY g))] w fun e w'=>e=.returned (.tuple #[.i g,.nilIface])/\Below w.heap.size w w'):=J (H1.mono fun e w' ⟨h1,t,ah⟩=>⟨h1,by rw [ah];exact Go.Joins.below_bytesWorld _ _ _ _ aF⟩);have ju:Hid (∀ W:World,iH W->Calls prog 220 #[.i g] W fun e w'=>e=.returned (.string (str (dY g)))/\Below W.heap.size W w'):=J fun W dZ=>by
  have h:=Any.strconv_Itoa lays171 (g:Int) af af W dZ.tab;refine rk (show Calls prog 220 _ _ _ from h) fun e w' ⟨h1,k,os,ah⟩=>⟨?_,?_⟩
  ·rw [h1]
   have:Lib.itoa (g:Int)=dY g:=Lib.itoa_nonneg g;rw [this];rfl
  ·rw [ah];exact Lib.below_grow _ _ aF _ _
 have bW:=ajd (dY g);have b4:=J dE;clear dE hl;generalize str (dY g)=s at *
 go_enter func163,ntmps163
 go_wp2_with fail;refine H1.mono ?_;rintro e aC ⟨rfl,hb⟩;have aA:=J hb;clear hb;go_wp2_with fail;refine (ju.out _ (b4.below aA)).mono ?_;rintro e aM ⟨rfl,hb⟩;have aA:=J (aA.trans (hb.mono aA.size));clear hb;go_wp2_with fail;go_ret;exact ⟨rfl,aA.out⟩
structure zB (sig cb ck:Int) (soft:Bool) (cE:Int):Prop where
 s0:0<=sig
 s2:sig<=2
 val:(1<=cb/\cb<=100/\ck=0)\/(cb=0/\1<=ck/\ck<=9223372036854775807)
 gr:if soft then 1<=cE/\cE<=1000 else cE=0
theorem aje (w:World):Calls prog 218 #[] w fun e w'=>e=.returned (.slice (some ⟨w.heap.size,0,none⟩) 3 3)/\w'=w.alloc (.cells #[.string (str (gL 0)),.string (str (gL 1)),.string (str (gL 2))] 9):=by
 go_enter func218,ntmps218
 go_wp2
 go_ret;exact ⟨rfl,rfl⟩
theorem JS (sig:Int) (aI:0<=sig) (ah:sig<=2) (w:World) :
  Calls prog 162 #[.string (str (gL sig))] w fun e w'=>e=.returned (.tuple #[.i sig,.bool true])/\Below w.heap.size w w':=by
 have iF:=Any.slices_Index_string lays109 w.heap.size 0 3 3 [str (gL 0),str (gL 1),str (gL 2)] (str (gL sig)) (w.alloc (.cells #[.string (str (gL 0)),.string (str (gL 1)),.string (str (gL 2))] 9)) ak ak (fun j aD=>by
  have hb:=(ar.new w 9 #[.string (str (gL 0)),.string (str (gL 1)),.string (str (gL 2))]).cell j;rw [fw,hb];have adw:j<3:=aD;obtain rfl|rfl|rfl:j=0\/j=1\/j=2:=af
  all_goals rfl)
 have hr:Lib.idxOfS ([str (gL 0),str (gL 1),str (gL 2)].take 3) (str (gL sig))=sig:=by
  obtain rfl|rfl|rfl:sig=0\/sig=1\/sig=2:=af
  all_goals decide
 rw [hr] at iF
 have aq:Hid (Calls prog 217 #[.slice (some ⟨w.heap.size,0,none⟩) 3 3,.string (str (gL sig))] (w.alloc (.cells #[.string (str (gL 0)),.string (str (gL 1)),.string (str (gL 2))] 9)) fun e w'=>e=.returned (.i sig)/\w'=w.alloc (.cells #[.string (str (gL 0)),.string (str (gL 1)),.string (str (gL 2))] 9)):=J iF;have aA:=J ((aO w.heap.size w).alloc aF (.cells #[.string (str (gL 0)),.string (str (gL 1)),.string (str (gL 2))] 9));have iy:decide (0<=sig)=true:=bO aI;clear iF hr;generalize str (gL sig)=q at *
 clear iy;obtain rfl|rfl|rfl:sig=0\/sig=1\/sig=2:=af
 all_goals
  go_enter func162,ntmps162
  go_wp2_with fail;refine (aje _).mono ?_;rintro e aC ⟨rfl,rfl⟩;go_wp2_with fail;refine aq.mono ?_;rintro e aC ⟨rfl,rfl⟩;go_wp2_with fail
  go_ret2
  exact ⟨rfl,aA.out⟩
abbrev gM (sig cb ck:Int) (soft:Bool) (cE:Int):Array Value:=#[.i sig,.i cb,.i ck,.bool soft,.i cE]
theorem Fe {sig cb ck:Int} {soft:Bool} {cE:Int} (h:zB sig cb ck soft cE) (w:World) :
  Calls prog 107 #[.agg (gM sig cb ck soft cE)] w fun e w'=>e=.returned (.bool true)/\Below w.heap.size w w':=by
 obtain ⟨s0,s2,hv,az⟩:=h;have aA:=J ((aO w.heap.size w).alloc aF (.cells (gM sig cb ck soft cE) 90));have c6:decide (sig<0)=false:=cX af;have a2:decide ((3:Int)<=sig)=false:=cX af;clear s0 s2
 rcases hv with ⟨dc,gl,mK⟩|⟨dc,gl,mK⟩
 ·have bX:decide ((1:Int)<=cb)=true:=bO dc
  have cY:decide (cb<=100)=true:=bO gl;have pd:(cb==0)=false:=ji.2 af;subst mK;clear dc gl
  cases soft
  ·have OJ:cE=0:=az
   subst OJ;clear az
   go_enter func107,ntmps107
   go_wp2_with fail;go_ret;exact ⟨rfl,aA.out⟩
  ·obtain ⟨g1,g2⟩:1<=cE/\cE<=1000:=az
   have c1:decide ((1:Int)<=cE)=true:=bO g1;have c2:decide (cE<=1000)=true:=bO g2;clear g1 g2
   go_enter func107,ntmps107
   go_wp2_with fail;go_ret;exact ⟨rfl,aA.out⟩
 ·have bX:decide ((0:Int)<ck)=true:=bO af
  subst dc;clear gl mK
  cases soft
  ·have OJ:cE=0:=az
   subst OJ;clear az
   go_enter func107,ntmps107
   go_wp2_with fail;go_ret;exact ⟨rfl,aA.out⟩
  ·obtain ⟨g1,g2⟩:1<=cE/\cE<=1000:=az
   have c1:decide ((1:Int)<=cE)=true:=bO g1;have c2:decide (cE<=1000)=true:=bO g2;clear g1 g2
   go_enter func107,ntmps107
   go_wp2_with fail;go_ret;exact ⟨rfl,aA.out⟩
theorem below_drewN (w:World) (n:Nat):Below w.heap.size w (w.drewN n):=⟨rfl,rfl,rfl,e3 _,fun _ _=>rfl⟩
theorem Ai {s a b:List UInt8} {c:UInt8} {t:Bool} (hc:Lib.cut s [c]=(a,b,t)) (hs:s.length<4294967281) (w:World) (dE:iH w) :
  Calls prog 161 #[.string (str s),.string ⟨#[c]⟩] w fun e w'=>e=.returned (.tuple #[.string (str a),.string (str b),.bool t])/\Below w.heap.size w w':=by
 obtain ⟨m,hm⟩:=dE.mx;have h:=Any.strings_Cut lays145 (str s) ⟨#[c]⟩ m w (by rw [mo];exact hs) hm;refine rk (show Calls prog 161 _ _ _ from h) fun e w' ⟨h1,n,ah⟩=>⟨?_,by rw [ah];exact below_drewN _ _⟩
 rw [h1];have aV:(⟨#[c]⟩:ByteArray).data.toList = [c]:=rfl;rw [yb,aV,hc]
 rfl
theorem JQ (s:List UInt8) (hs:s.length<=9223372036854775807) (w:World) :
  Calls prog 164 #[.string (str s),.string ⟨#[37]⟩] w fun e w'=>e=.returned (.tuple #[.string (str (Lib.trimSuffix s [37])),.bool (Lib.hasSuffix s [37])])/\w=w':=by
 have h:=Any.strings_CutSuffix lays104 (str s) ⟨#[37]⟩ w (by rw [mo];exact hs);exact rk (show Calls prog 164 _ _ _ from h) fun e w' ⟨h1,ah⟩=>⟨h1,ah.symm⟩
theorem JR (l:List UInt8):Lib.hasSuffix (l++[37]) [37]=true/\Lib.trimSuffix (l++[37]) [37]=l:=by
 have h:Lib.hasSuffix (l++[37]) [37]=true:=by
  unfold Lib.hasSuffix;rw [List.isSuffixOf_iff_suffix];exact List.suffix_append l [37]
 refine ⟨h,?_⟩;unfold Lib.trimSuffix;rw [bB h];simp
theorem JT {l:List UInt8} (h:(37:UInt8)∉l):Lib.hasSuffix l [37]=false/\Lib.trimSuffix l [37]=l:=by
 have h1:Lib.hasSuffix l [37]=false:=by
  unfold Lib.hasSuffix;rw [Bool.eq_false_iff,Ne,List.isSuffixOf_iff_suffix];intro hs;exact h (hs.subset av)
 refine ⟨h1,?_⟩;unfold Lib.trimSuffix;rw [h1];rfl
theorem B0:(prog.info? 90).map (·.size)=some 5:=ai
structure rp (t:TypeId) (bt c1:Array Value) (w W:World):Prop where
 a:ar W w.heap.size t bt
 b:ar W (w.heap.size+1) t c1
 aR:Below w.heap.size w W
theorem rp.new (t:TypeId) (bt c1:Array Value) (w:World):rp t bt c1 w ((w.alloc (.cells bt t)).alloc (.cells c1 t)):=by
 have gu:(w.alloc (.cells bt t)).heap.size=w.heap.size+1:=av;have bX:=ar.new (w.alloc (.cells bt t)) t c1;rw [gu] at bX
 exact ⟨(ar.new w t bt).alloc _,bX,((aO _ _).alloc aF _).alloc av _⟩
theorem rp.below {t:TypeId} {bt c1:Array Value} {w W W':World} (h:rp t bt c1 w W) (hb:Below W.heap.size W W'):rp t bt c1 w W':=⟨h.a.bw hb,h.b.bw hb,h.aR.trans (hb.mono h.aR.size)⟩
theorem rp.set {t:TypeId} {bt c1 ez:Array Value} {w W:World} (h:rp t bt c1 w W) (i:Nat) (u:Value) (hs:c1.setIfInBounds i u=ez):rp t bt ez w (W.setCell ⟨w.heap.size+1,i,none⟩ u) :=
 ⟨h.a.cF av u,hs ▸ h.b.eW i u,h.aR.setCell av u⟩
theorem ai8 (L A R V rN X:List UInt8) (sig cb:Int) (h1:Lib.cut L [60]=(A,R,true)) (ja:L.length<4294967281) (ah:Lib.cut R [58]=(V,rN,false)) (jh:R.length<4294967281) (hs:∀ W:World,Calls prog 162 #[.string (str A)] W fun e w'=>e=.returned (.tuple #[.i sig,.bool true])/\Below W.heap.size W w') (bi:zB sig cb 0 false 0) (hv:∀ W:World,Calls prog 164 #[.string (str V),.string ⟨#[37]⟩] W fun e w'=>e=.returned (.tuple #[.string (str X),.bool true])/\W=w') (hp:∀ W:World,iH W->Calls prog 163 #[.string (str X)] W fun e w'=>e=.returned (.i cb)/\Below W.heap.size W w') (w:World) (dE:iH w) :
  Calls prog 102 #[.string (str L)] w fun e w'=>e=.returned (.tuple #[.agg (gM sig cb 0 false 0),.i 0])/\Below w.heap.size w w':=by
 have Ct:=J fun W dZ=>Ai h1 ja W dZ
 have Cu:=J fun W dZ=>Ai ah jh W dZ
 have aP:=J hs;have bF:=J hv;have ap:=J hp;have cj:=J bi;clear h1 ja ah jh hs hv hp bi;generalize str L=OB at *
 generalize str A=wa at *
 generalize str R=OC at *
 generalize str V=OD at *
 generalize str rN=OE at *
 generalize str X=OG at *
 have b4:=J dE;have ao:=J (rp.new 90 (gM 0 0 0 false 0) (gM 0 0 0 false 0) w);clear dE
 go_enter func102,ntmps102
 go_wp2_with fail;refine (Ct.out _ (b4.below ao.aR)).mono ?_;rintro e aC ⟨rfl,hb⟩;have ao:=J (ao.below hb);clear hb;go_wp2_with fail;refine (aP.out _).mono ?_;rintro e aM ⟨rfl,hb⟩;have ao:=J (ao.below hb);clear hb;go_wp2_with fail;refine (Cu.out _ (b4.below ao.aR)).mono ?_;rintro e w3 ⟨rfl,hb⟩;have ao:=J (ao.below hb);clear hb;have cs:=ao.b.cell;have fs:=ao.b.frozen;go_wp2_with fail;have ao:=J (ao.set (ez:=gM sig 0 0 false 0) 0 (.i sig) rfl);have ao:=J (ao.set (ez:=gM sig 0 0 false 0) 3 (.bool false) rfl);clear cs fs;refine (bF.out _).mono ?_;rintro e bc ⟨rfl,rfl⟩;go_wp2_with fail;refine (ap.out _ (b4.below ao.aR)).mono ?_;rintro e bm ⟨rfl,hb⟩;have ao:=J (ao.below hb);clear hb;have cs:=ao.b.cell;have fs:=ao.b.frozen;go_wp2_with fail;have ao:=J (ao.set (ez:=gM sig cb 0 false 0) 1 (.i cb) rfl);clear cs fs;have cs:=ao.b.cell;go_wp2_with fail;refine (Fe cj _).mono ?_;rintro e bU ⟨rfl,hb⟩;have ao:=J (ao.below hb);clear hb cs;have cs:=ao.b.cell
 go_wp2_with (refine ch rfl 90 (.tmp 2) (.tmp 67) rfl w.heap.size 90 (gM 0 0 0 false 0) (gM sig cb 0 false 0) rfl rfl ao.a rfl B0 cc ?_;intro b3 hR bT dm)
 have hl:=hR.cell;have ep:Below w.heap.size w b3:=ao.aR.grown bT ao.aR.size dP;exact cS (v:=.tuple #[.agg (gM sig cb 0 false 0),.i 0]) (by simp [results,results102,go_sem,hl]) rfl ⟨rfl,ep⟩
theorem ai9 (L A R V rN X:List UInt8) (sig ck:Int) (h1:Lib.cut L [60]=(A,R,true)) (ja:L.length<4294967281) (ah:Lib.cut R [58]=(V,rN,false)) (jh:R.length<4294967281) (hs:∀ W:World,Calls prog 162 #[.string (str A)] W fun e w'=>e=.returned (.tuple #[.i sig,.bool true])/\Below W.heap.size W w') (bi:zB sig 0 ck false 0) (hv:∀ W:World,Calls prog 164 #[.string (str V),.string ⟨#[37]⟩] W fun e w'=>e=.returned (.tuple #[.string (str X),.bool false])/\W=w') (hp:∀ W:World,Calls prog 165 #[.string (str V)] W fun e w'=>e=.returned (.tuple #[.i ck,.i 0])/\Below W.heap.size W w') (w:World) (dE:iH w) :
  Calls prog 102 #[.string (str L)] w fun e w'=>e=.returned (.tuple #[.agg (gM sig 0 ck false 0),.i 0])/\Below w.heap.size w w':=by
 have Ct:=J fun W dZ=>Ai h1 ja W dZ
 have Cu:=J fun W dZ=>Ai ah jh W dZ
 have aP:=J hs;have bF:=J hv;have ap:=J hp;have cj:=J bi;clear h1 ja ah jh hs hv hp bi;generalize str L=OB at *
 generalize str A=wa at *
 generalize str R=OC at *
 generalize str V=OD at *
 generalize str rN=OE at *
 generalize str X=OG at *
 have b4:=J dE;have ao:=J (rp.new 90 (gM 0 0 0 false 0) (gM 0 0 0 false 0) w);clear dE
 go_enter func102,ntmps102
 go_wp2_with fail;refine (Ct.out _ (b4.below ao.aR)).mono ?_;rintro e aC ⟨rfl,hb⟩;have ao:=J (ao.below hb);clear hb;go_wp2_with fail;refine (aP.out _).mono ?_;rintro e aM ⟨rfl,hb⟩;have ao:=J (ao.below hb);clear hb;go_wp2_with fail;refine (Cu.out _ (b4.below ao.aR)).mono ?_;rintro e w3 ⟨rfl,hb⟩;have ao:=J (ao.below hb);clear hb;have cs:=ao.b.cell;have fs:=ao.b.frozen;go_wp2_with fail;have ao:=J (ao.set (ez:=gM sig 0 0 false 0) 0 (.i sig) rfl);have ao:=J (ao.set (ez:=gM sig 0 0 false 0) 3 (.bool false) rfl);clear cs fs;refine (bF.out _).mono ?_;rintro e bc ⟨rfl,rfl⟩;go_wp2_with fail;refine (ap.out _).mono ?_;rintro e bm ⟨rfl,hb⟩;have ao:=J (ao.below hb);clear hb;have cs:=ao.b.cell;have fs:=ao.b.frozen;go_wp2_with fail;have ao:=J (ao.set (ez:=gM sig 0 ck false 0) 2 (.i ck) rfl);clear cs fs;have cs:=ao.b.cell;go_wp2_with fail;refine (Fe cj _).mono ?_;rintro e bU ⟨rfl,hb⟩;have ao:=J (ao.below hb);clear hb cs;have cs:=ao.b.cell
 go_wp2_with (refine ch rfl 90 (.tmp 2) (.tmp 67) rfl w.heap.size 90 (gM 0 0 0 false 0) (gM sig 0 ck false 0) rfl rfl ao.a rfl B0 cc ?_;intro b3 hR bT dm)
 have hl:=hR.cell;have ep:Below w.heap.size w b3:=ao.aR.grown bT ao.aR.size dP;exact cS (v:=.tuple #[.agg (gM sig 0 ck false 0),.i 0]) (by simp [results,results102,go_sem,hl]) rfl ⟨rfl,ep⟩
theorem aja (L A R V rN X:List UInt8) (sig cb cE:Int) (h1:Lib.cut L [60]=(A,R,true)) (ja:L.length<4294967281) (ah:Lib.cut R [58]=(V,rN,true)) (jh:R.length<4294967281) (hs:∀ W:World,Calls prog 162 #[.string (str A)] W fun e w'=>e=.returned (.tuple #[.i sig,.bool true])/\Below W.heap.size W w') (bi:zB sig cb 0 true cE) (hn:∀ W:World,iH W->Calls prog 163 #[.string (str rN)] W fun e w'=>e=.returned (.i cE)/\Below W.heap.size W w') (hv:∀ W:World,Calls prog 164 #[.string (str V),.string ⟨#[37]⟩] W fun e w'=>e=.returned (.tuple #[.string (str X),.bool true])/\W=w') (hp:∀ W:World,iH W->Calls prog 163 #[.string (str X)] W fun e w'=>e=.returned (.i cb)/\Below W.heap.size W w') (w:World) (dE:iH w) :
  Calls prog 102 #[.string (str L)] w fun e w'=>e=.returned (.tuple #[.agg (gM sig cb 0 true cE),.i 0])/\Below w.heap.size w w':=by
 have Ct:=J fun W dZ=>Ai h1 ja W dZ
 have Cu:=J fun W dZ=>Ai ah jh W dZ
 have aP:=J hs;have bF:=J hv;have ap:=J hp;have cj:=J bi;have bs:=J hn;clear h1 ja ah jh hs hv hp bi hn;generalize str L=OB at *
 generalize str A=wa at *
 generalize str R=OC at *
 generalize str V=OD at *
 generalize str rN=OE at *
 generalize str X=OG at *
 have b4:=J dE;have ao:=J (rp.new 90 (gM 0 0 0 false 0) (gM 0 0 0 false 0) w);clear dE
 go_enter func102,ntmps102
 go_wp2_with fail;refine (Ct.out _ (b4.below ao.aR)).mono ?_;rintro e aC ⟨rfl,hb⟩;have ao:=J (ao.below hb);clear hb;go_wp2_with fail;refine (aP.out _).mono ?_;rintro e aM ⟨rfl,hb⟩;have ao:=J (ao.below hb);clear hb;go_wp2_with fail;refine (Cu.out _ (b4.below ao.aR)).mono ?_;rintro e w3 ⟨rfl,hb⟩;have ao:=J (ao.below hb);clear hb;have cs:=ao.b.cell;have fs:=ao.b.frozen;go_wp2_with fail;have ao:=J (ao.set (ez:=gM sig 0 0 false 0) 0 (.i sig) rfl);have ao:=J (ao.set (ez:=gM sig 0 0 true 0) 3 (.bool true) rfl);clear cs fs;refine (bs.out _ (b4.below ao.aR)).mono ?_;rintro e eD ⟨rfl,hb⟩;have ao:=J (ao.below hb);clear hb;have cs:=ao.b.cell;have fs:=ao.b.frozen;go_wp2_with fail;have ao:=J (ao.set (ez:=gM sig 0 0 true cE) 4 (.i cE) rfl);clear cs fs;refine (bF.out _).mono ?_;rintro e bc ⟨rfl,rfl⟩;go_wp2_with fail;refine (ap.out _ (b4.below ao.aR)).mono ?_;rintro e bm ⟨rfl,hb⟩;have ao:=J (ao.below hb);clear hb;have cs:=ao.b.cell;have fs:=ao.b.frozen;go_wp2_with fail;have ao:=J (ao.set (ez:=gM sig cb 0 true cE) 1 (.i cb) rfl);clear cs fs;have cs:=ao.b.cell;go_wp2_with fail;refine (Fe cj _).mono ?_;rintro e bU ⟨rfl,hb⟩;have ao:=J (ao.below hb);clear hb cs;have cs:=ao.b.cell
 go_wp2_with (refine ch rfl 90 (.tmp 2) (.tmp 67) rfl w.heap.size 90 (gM 0 0 0 false 0) (gM sig cb 0 true cE) rfl rfl ao.a rfl B0 cc ?_;intro b3 hR bT dm)
 have hl:=hR.cell;have ep:Below w.heap.size w b3:=ao.aR.grown bT ao.aR.size dP;exact cS (v:=.tuple #[.agg (gM sig cb 0 true cE),.i 0]) (by simp [results,results102,go_sem,hl]) rfl ⟨rfl,ep⟩
theorem ajb (L A R V rN X:List UInt8) (sig ck cE:Int) (h1:Lib.cut L [60]=(A,R,true)) (ja:L.length<4294967281) (ah:Lib.cut R [58]=(V,rN,true)) (jh:R.length<4294967281) (hs:∀ W:World,Calls prog 162 #[.string (str A)] W fun e w'=>e=.returned (.tuple #[.i sig,.bool true])/\Below W.heap.size W w') (bi:zB sig 0 ck true cE) (hn:∀ W:World,iH W->Calls prog 163 #[.string (str rN)] W fun e w'=>e=.returned (.i cE)/\Below W.heap.size W w') (hv:∀ W:World,Calls prog 164 #[.string (str V),.string ⟨#[37]⟩] W fun e w'=>e=.returned (.tuple #[.string (str X),.bool false])/\W=w') (hp:∀ W:World,Calls prog 165 #[.string (str V)] W fun e w'=>e=.returned (.tuple #[.i ck,.i 0])/\Below W.heap.size W w') (w:World) (dE:iH w) :
  Calls prog 102 #[.string (str L)] w fun e w'=>e=.returned (.tuple #[.agg (gM sig 0 ck true cE),.i 0])/\Below w.heap.size w w':=by
 have Ct:=J fun W dZ=>Ai h1 ja W dZ
 have Cu:=J fun W dZ=>Ai ah jh W dZ
 have aP:=J hs;have bF:=J hv;have ap:=J hp;have cj:=J bi;have bs:=J hn;clear h1 ja ah jh hs hv hp bi hn;generalize str L=OB at *
 generalize str A=wa at *
 generalize str R=OC at *
 generalize str V=OD at *
 generalize str rN=OE at *
 generalize str X=OG at *
 have b4:=J dE;have ao:=J (rp.new 90 (gM 0 0 0 false 0) (gM 0 0 0 false 0) w);clear dE
 go_enter func102,ntmps102
 go_wp2_with fail;refine (Ct.out _ (b4.below ao.aR)).mono ?_;rintro e aC ⟨rfl,hb⟩;have ao:=J (ao.below hb);clear hb;go_wp2_with fail;refine (aP.out _).mono ?_;rintro e aM ⟨rfl,hb⟩;have ao:=J (ao.below hb);clear hb;go_wp2_with fail;refine (Cu.out _ (b4.below ao.aR)).mono ?_;rintro e w3 ⟨rfl,hb⟩;have ao:=J (ao.below hb);clear hb;have cs:=ao.b.cell;have fs:=ao.b.frozen;go_wp2_with fail;have ao:=J (ao.set (ez:=gM sig 0 0 false 0) 0 (.i sig) rfl);have ao:=J (ao.set (ez:=gM sig 0 0 true 0) 3 (.bool true) rfl);clear cs fs;refine (bs.out _ (b4.below ao.aR)).mono ?_;rintro e eD ⟨rfl,hb⟩;have ao:=J (ao.below hb);clear hb;have cs:=ao.b.cell;have fs:=ao.b.frozen;go_wp2_with fail;have ao:=J (ao.set (ez:=gM sig 0 0 true cE) 4 (.i cE) rfl);clear cs fs;refine (bF.out _).mono ?_;rintro e bc ⟨rfl,rfl⟩;go_wp2_with fail;refine (ap.out _).mono ?_;rintro e bm ⟨rfl,hb⟩;have ao:=J (ao.below hb);clear hb;have cs:=ao.b.cell;have fs:=ao.b.frozen;go_wp2_with fail;have ao:=J (ao.set (ez:=gM sig 0 ck true cE) 2 (.i ck) rfl);clear cs fs;have cs:=ao.b.cell;go_wp2_with fail;refine (Fe cj _).mono ?_;rintro e bU ⟨rfl,hb⟩;have ao:=J (ao.below hb);clear hb cs;have cs:=ao.b.cell
 go_wp2_with (refine ch rfl 90 (.tmp 2) (.tmp 67) rfl w.heap.size 90 (gM 0 0 0 false 0) (gM sig 0 ck true cE) rfl rfl ao.a rfl B0 cc ?_;intro b3 hR bT dm)
 have hl:=hR.cell;have ep:Below w.heap.size w b3:=ao.aR.grown bT ao.aR.size dP;exact cS (v:=.tuple #[.agg (gM sig 0 ck true cE),.i 0]) (by simp [results,results102,go_sem,hl]) rfl ⟨rfl,ep⟩
theorem afU {sig cb ck:Int} {soft:Bool} {cE:Int} (h:zB sig cb ck soft cE) (w:World) (dE:iH w) :
  Calls prog 102 #[.string (str (pQ sig cb ck soft cE))] w fun e w'=>e=.returned (.tuple #[.agg (gM sig cb ck soft cE),.i 0])/\Below w.heap.size w w':=by
 have aI:=h.s0;have ah:=h.s2;have hv:=h.val;have pq:(fJ cb ck).length<=25:=by
  unfold fJ
  split
  ·rw [cd]
   have:=zC (u:=cb.toNat) 4 af af;simp;omega
  ·have:=gy (n:=ck.toNat) af
   omega
 cases soft
 ·have fL:cE=0:=h.gr
  subst fL;have kt:=ai2 (V1 cb ck);have jh:(fJ cb ck).length<4294967281:=af;have dZ:pQ sig cb ck false 0=gL sig++60 :: (fJ cb ck):=by unfold pQ;simp
  have qa:=Oz (fJ cb ck) (BI sig).1;have ja:(gL sig++60 :: (fJ cb ck)).length<4294967281:=by have:=(BI sig).2.2;rw [cd,cy];omega
  rw [dZ]
  rcases hv with ⟨dc,gl,mK⟩|⟨dc,gl,mK⟩
  ·subst mK
   have rO:fJ cb 0=dY cb.toNat++[37]:=by unfold fJ;rw [bB af]
   have xT:(fJ cb 0).length<=9223372036854775807:=af;have vd:=JQ (fJ cb 0) xT;rw [show Lib.trimSuffix (fJ cb 0) [37]=dY cb.toNat by rw [rO];exact (JR _).2,show Lib.hasSuffix (fJ cb 0) [37]=true by rw [rO];exact (JR _).1] at vd
   have nl:=fun W dZ=>OH cb.toNat af W dZ
   rw [show ((cb.toNat:Nat):Int)=cb from af] at nl
   exact ai8 _ _ _ _ _ _ sig cb qa ja kt jh (JS sig aI ah) h vd nl w dE
  ·subst dc
   have rO:fJ 0 ck=dO ck.toNat:=by unfold fJ;rw [bp af]
   have xT:(fJ 0 ck).length<=9223372036854775807:=af;have vd:=JQ (fJ 0 ck) xT;rw [show Lib.trimSuffix (fJ 0 ck) [37]=fJ 0 ck by rw [rO];exact (JT (Gk _).2).2,show Lib.hasSuffix (fJ 0 ck) [37]=false by rw [rO];exact (JT (Gk _).2).1] at vd
   have nl:=M8 ck.toNat af;rw [<- rO,show ((ck.toNat:Nat):Int)=ck from af] at nl
   exact ai9 _ _ _ _ _ _ sig ck qa ja kt jh (JS sig aI ah) h vd nl w dE
 ·have fL:1<=cE/\cE<=1000:=h.gr
  have OI:=fun W dZ=>OH cE.toNat af W dZ
  rw [show ((cE.toNat:Nat):Int)=cE from af] at OI
  have kt:=Oz (dY cE.toNat) (V1 cb ck);have als:(fJ cb ck++58 :: dY cE.toNat).length<=30:=by have:=zC (u:=cE.toNat) 4 af af;rw [cd,cy];omega
  have jh:(fJ cb ck++58 :: dY cE.toNat).length<4294967281:=af;clear fL;have dZ:pQ sig cb ck true cE=gL sig++60 :: (fJ cb ck++58 :: dY cE.toNat):=by unfold pQ;simp
  have qa:=Oz (fJ cb ck++58 :: dY cE.toNat) (BI sig).1;have ja:(gL sig++60 :: (fJ cb ck++58 :: dY cE.toNat)).length<4294967281:=by have:=(BI sig).2.2;rw [cd,cy];omega
  rw [dZ]
  rcases hv with ⟨dc,gl,mK⟩|⟨dc,gl,mK⟩
  ·subst mK
   have rO:fJ cb 0=dY cb.toNat++[37]:=by unfold fJ;rw [bB af]
   have xT:(fJ cb 0).length<=9223372036854775807:=af;have vd:=JQ (fJ cb 0) xT;rw [show Lib.trimSuffix (fJ cb 0) [37]=dY cb.toNat by rw [rO];exact (JR _).2,show Lib.hasSuffix (fJ cb 0) [37]=true by rw [rO];exact (JR _).1] at vd
   have nl:=fun W dZ=>OH cb.toNat af W dZ
   rw [show ((cb.toNat:Nat):Int)=cb from af] at nl
   exact aja _ _ _ _ _ _ sig cb cE qa ja kt jh (JS sig aI ah) h OI vd nl w dE
  ·subst dc
   have rO:fJ 0 ck=dO ck.toNat:=by unfold fJ;rw [bp af]
   have xT:(fJ 0 ck).length<=9223372036854775807:=af;have vd:=JQ (fJ 0 ck) xT;rw [show Lib.trimSuffix (fJ 0 ck) [37]=fJ 0 ck by rw [rO];exact (JT (Gk _).2).2,show Lib.hasSuffix (fJ 0 ck) [37]=false by rw [rO];exact (JT (Gk _).2).1] at vd
   have nl:=M8 ck.toNat af;rw [<- rO,show ((ck.toNat:Nat):Int)=ck from af] at nl
   exact ajb _ _ _ _ _ _ sig ck cE qa ja kt jh (JS sig aI ah) h OI vd nl w dE
end Go.Proofs.YtmmchlfoplcnbaaGreatDoor
