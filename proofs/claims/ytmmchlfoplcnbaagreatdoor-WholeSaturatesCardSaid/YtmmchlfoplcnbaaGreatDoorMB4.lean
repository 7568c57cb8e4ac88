/- A part of the walk. -/
import Derived.Test.YtmmchlfoplcnbaaGreatDoorMB3
import Derived.Test.YtmmchlfoplcnbaaGreatDoorMA8
import Derived.Test.YtmmchlfoplcnbaaGreatDoorMA7
namespace Go.Proofs.YtmmchlfoplcnbaaGreatDoor
open Go Go.RowKit Tryz
set_option linter.all false
set_option maxRecDepth 100000
set_option maxHeartbeats 4000000
def mf:List Nat->List Nat->Array Value->Array Value
 | o :: os,n :: ns,cs=>mf os ns (cs.setIfInBounds o (.int .i64 n))
 | _,_,cs=>cs
theorem TB:∀ (os ns:List Nat) (cs:Array Value),(mf os ns cs).size=cs.size
 | [],_,_=>rfl
 | _ :: _,[],_=>rfl
 | o :: os,n :: ns,cs=>by unfold mf;rw [TB];simp
theorem TC:∀ (os ns:List Nat) (o n:Nat) (cs:Array Value),os.length=ns.length->mf (os++[o]) (ns++[n]) cs=(mf os ns cs).setIfInBounds o (.i n)
 | [],[],_,_,_,_=>rfl
 | a :: os,b :: ns,o,n,cs,h=>by
  show mf (os++[o]) (ns++[n]) (cs.setIfInBounds a (.i b))=_
  rw [TC os ns o n _ (by simpa using h)];rfl
 | [],_ :: _,_,_,_,h=>by simp at h
 | _ :: _,[],_,_,_,h=>by simp at h
theorem IX {w:World} {b off:Nat} {l:List Fd} (h:a7 w ov (some ⟨b,off,none⟩) l) {i:Nat} (hi:i<l.length) :
  w.cell? ⟨b,off+i*3,none⟩=some (.string (str l[i].text))/\w.cell? ⟨b,off+i*3+1,none⟩=some (.i l[i].line)/\w.cell? ⟨b,off+i*3+2,none⟩=some (.i l[i].IY):=by
 obtain ⟨b',p2,e,_,hc⟩:=h.at_ hi;injection e with e
 injection e with aV bE
 subst aV;subst bE;exact ⟨by have:=hc 0 (.string (str l[i].text)) rfl;simpa using this,hc 1 (.i l[i].line) rfl,hc 2 (.i l[i].IY) rfl⟩
theorem aeB:∀ k:Fin 6,∀ o∈gZ k.val,o<11:=ak
theorem aeC (k i:Nat) (hk:k<6) (hi:i<(gZ k).length):(gZ k)[i]<11:=aeB ⟨k,hk⟩ _ (iO hi)
structure zO (g b off G:Nat) (fs:List Fd) (P cs:Array Value) (w W:World):Prop where
 ab:ar W g 26 cs
 kp:a7 W ov (some ⟨b,off,none⟩) fs
 IZ:ar W G 202 P
 only:cB (fun k=>k=g) w W
section
variable {g b off G:Nat} {fs:List Fd} {P cs:Array Value} {w W W':World}
theorem zO.below (h:zO g b off G fs P cs w W) (hb:Below W.heap.size W W'):zO g b off G fs P cs w W':=⟨h.ab.bw hb,h.kp.below hb,h.IZ.bw hb,h.only.Du hb⟩
theorem zO.set (h:zO g b off G fs P cs w W) (BH:b≠g) (o:Nat) (u:Value):zO g b off G fs P (cs.setIfInBounds o u) w (W.setCell ⟨g,o,none⟩ u) :=
 have ho:=cB.setCell (fun k=>k=g) W g o u rfl
 ⟨h.ab.eW o u,h.kp.only ho BH,h.IZ.only ho (fun e=>(h.ab.fK h.IZ ak) e.symm),h.only.trans ho fun k _ e=>e⟩
end
def aeD (g:Nat) (cs:Array Value) (w:World) (e:Ending) (w':World):Prop:=e=.returned (.i 0)/\ar w' g 26 cs/\cB (fun k=>k=g) w w'
theorem aeE (k:Nat) (hk:k<6) (ns:List Nat) (BU:ns.length=(gZ k).length) (hle:∀ n∈ns,n<=9223372036854775807) (fs:List Fd) (fI:fs.map Fd.text=ns.map dO)
  (g b off G c1 c2:Nat) (cs:Array Value) (w:World) (hcs:cs.size=11) (hb:ar w g 26 cs) (hr:a7 w ov (some ⟨b,off,none⟩) fs) (BH:b≠g) (ht:ar w G 202 (zP g k)) :
  Calls prog 103 #[.slice (some ⟨G,0,none⟩) (gZ k).length c1,.slice (some ⟨b,off,none⟩) fs.length c2] w (aeD g (mf (gZ k) ns cs) w):=by
 have FE:fs.length=ns.length:=by have:=pz List.length fI;simpa using this
 have aeF:(gZ k).length<=3:=by
  obtain rfl|rfl|rfl|rfl|rfl|rfl:k=0\/k=1\/k=2\/k=3\/k=4\/k=5:=af
  all_goals decide
 obtain ⟨N,b8⟩:=aE fs.length;have M6:(gZ k).length=N:=af;have TD:ns.length=N:=af;have akE:N<=3:=af;have ao:Hid (zO g b off G fs (zP g k) (mf ((gZ k).take 0) (ns.take 0) cs) w w):=⟨hb,hr,ht,cB.refl _ _⟩
 have bN:=J fI;have cT:=J hle;have bs:=J (ae b8 (ae M6 TD));have Z6:((N:Int)!=(N:Int))=false:=av;have akF:((N:Int)==(N:Int))=true:=av;rw [b8,M6];clear hb hr ht fI hle BU FE aeF b8 M6 TD
 go_enter func103,ntmps103
 go_wp2_with fail
 go_loopw [16] (fun ii wr=>∃ i:Nat,i<=N/\ii=.i i/\zO g b off G fs (zP g k) (mf ((gZ k).take i) (ns.take i) cs) w wr) (fun ii _=>N-(intOf ii).toNat)
 case atStart=>exact ⟨0,af,rfl,ao.out⟩
 case round =>
  clear ao;obtain ⟨i,hi,rfl,bd⟩:=hrel;have ao:=J bd;clear bd
  by_cases aT:i<N
  ·have cg:decide ((i:Int)<(N:Int))=true:=bO af
   have l0:decide (i<N)=true:=bO aT;have kA:(i:Int)<(N:Int):=af;have TE:i<fs.length:=by have:=bs.1;omega
   have vz:i<ns.length:=by have:=bs.2.2;omega
   have BV:i<(gZ k).length:=by have:=bs.2.1;omega
   obtain ⟨f0,f1,f2⟩:=IX ao.kp TE;have uE:fs[i].text=dO ns[i]:=by
    have h1:=pz (fun l=>l[i]?) bN.out;simp only [qW,dF TE,dF vz,G8,Ff] at h1
    exact h1
   have kc:=cT.out ns[i] (iO _);have FF:wr.cell? ⟨G,i,none⟩=some (.pointer (some ⟨g,(gZ k)[i],none⟩)):=by
    rw [ao.IZ.cell i];unfold zP;simp [dF BV]
   have akG:=aeC k i hk BV;have Bx:mf ((gZ k).take (i+1)) (ns.take (i+1)) cs=(mf ((gZ k).take i) (ns.take i) cs).setIfInBounds (gZ k)[i] (.i ns[i]):=by
    rw [gS BV,gS vz,TC _ _ _ _ _ (by rw [fv,fv];omega)]
   have cH:(mf ((gZ k).take i) (ns.take i) cs).size=11:=by rw [TB];exact hcs
   rw [uE] at f0
   generalize (gZ k)[i]=o at *
   generalize ns[i]=n at *
   generalize fs[i].line=M7 at *
   generalize fs[i].IY=cl at *
   generalize mf ((gZ k).take i) (ns.take i) cs=yF at *
   have aeG:=J Bx;clear Bx uE;have aeH:=J (ar.new wr 155 #[.string (str (dO n)),.i M7,.i cl]);have ao:=J (ao.below ((aO _ _).alloc aF (.cells #[.string (str (dO n)),.i M7,.i cl] 155)));have ap:=J (show (wr.alloc (.cells #[.string (str (dO n)),.i M7,.i cl] 155)).cell? ⟨G,i,none⟩=some (.pointer (some ⟨g,o,none⟩)) from (((aO wr.heap.size wr).alloc aF _).cell (p:=⟨G,i,none⟩) (Dy FF)).trans FF);clear FF;have tB:=aeH.cell;go_wp2_with fail;refine (M8 n kc _).mono ?_;rintro e aM ⟨rfl,hb⟩;have ao:=J (ao.below hb);have FF:=(hb.cell (p:=⟨G,i,none⟩) (Dy ap)).trans ap.out;clear hb tB f0 f1 f2 ap;have I0:=ao.ab.cell o;have aeI:=ao.ab.frozen o;rw [s4 af] at I0
   go_wp2_with fail;have ao:=J (ao.set BH o (.i n));clear I0 aeI FF
   go_roundw
   case rel=>exact ⟨i+1,af,cm,by rw [aeG.out];exact ao.out⟩
   case measure=>exact c4
  ·obtain rfl:i=N:=by omega
   have cg:decide ((i:Int)<(i:Int))=false:=av;have l0:decide (i<i)=false:=av;have aV:(gZ k).take i=gZ k:=pB (by have:=bs.2.1;omega);have bE:ns.take i=ns:=pB (by have:=bs.2.2;omega);rw [aV,bE] at ao
   clear aV bE;go_wp2_with fail;go_ret;exact ⟨rfl,ao.ab,ao.only⟩
def Fj (k:Nat):List UInt8:=match k with
 | 0=>ux
 | 1=>DA
 | 2=>zw
 | 3=>zx
 | 4=>zy
 | _=>zz
theorem afM:∀ k:Fin 6,lZ k.val=str (Fj k.val):=ak
theorem afN:∀ k:Fin 6,Fj k.val≠qu:=ak
theorem afO (l m:List UInt8):((str l).toList==(str m).toList)=(l==m):=O8 l m
structure Seen (es:Array MapEntry) (cL:List Nat):Prop where
 keys:uJ es
 size:es.size=cL.length
 lV:∀ e∈es.toList,∃ k,k∈cL/\k<6/\e.key=.string (lZ k)
 lT:(es.toList.map (·.key)).Nodup
def afP (aN:Nat) (cs:Array Value) (cL:List Nat) (gc:Nat) (w:World) (e:Ending) (w':World):Prop :=
 e=.returned (.i 0)/\ar w' gc 26 cs/\(∃ es clock,w'.heap[aN]? = some (.map es clock)/\Seen es cL)/\cB (fun k=>k=gc\/k=aN) w w'
theorem adS (k:Nat) (hk:k<6) (cL:List Nat) (vT:k∉cL) (ns:List Nat) (BU:ns.length=(gZ k).length) (hle:∀ n∈ns,n<=9223372036854775807) (fs:List Fd) (fI:fs.map Fd.text=Fj k :: ns.map dO)
  (gc aN b c:Nat) (cs:Array Value) (es:Array MapEntry) (clock:Nat) (w:World) (hcs:cs.size=11) (hb:ar w gc 26 cs) (hr:a7 w ov (some ⟨b,0,none⟩) fs) (BH:b≠gc) (hm:w.heap[aN]? = some (.map es clock)) (zv:Seen es cL) (hc:fs.length<=c) (HC:c<=9223372036854775807) :
  Calls prog 73 #[.pointer (some ⟨gc,0,none⟩),.map (some aN),.slice (some ⟨b,0,none⟩) fs.length c] w (afP aN (mf (gZ k) ns cs) (k :: cL) gc w):=by
 have Je:=afM ⟨k,hk⟩;have NF:=afN ⟨k,hk⟩;simp only at Je NF
 match fs,fI with
 | f :: fs,fI =>
 rw [ny,GH] at fI
 obtain ⟨Up,fI⟩:=fI;have kc:(gZ k).length<=3/\1<=(gZ k).length:=by
  obtain rfl|rfl|rfl|rfl|rfl|rfl:k=0\/k=1\/k=2\/k=3\/k=4\/k=5:=af
  all_goals decide
 have FE:fs.length=ns.length:=by have:=pz List.length fI;simpa using this
 obtain ⟨f0,f1,f2⟩:=IX hr (i:=0) av;simp only [yJ,w4,fw] at f0
 rw [Up,<- Je] at f0
 have Uq:a7 w ov (some ⟨b,3,none⟩) fs:=by
  have h:=hr.drop 1 (fs.length+2) av;rw [bp af] at h
  simpa [ko] using h
 have hlen:(f :: fs).length=fs.length+1:=rfl;rw [hlen] at hc ⊢
 have bW:((lZ k).toList==ByteArray.toList ⟨#[116,104,114,101,115,104,111,108,100]⟩)=false:=by
  rw [Je];have:=afO (Fj k) qu;rw [show (str qu:ByteArray)=⟨#[116,104,114,101,115,104,111,108,100]⟩ from rfl] at this
  rw [this];exact ji.2 NF
 have Z5:((lZ k).toList==[116,104,114,101,115,104,111,108,100])=false:=by
  rw [<- bW];congr 1;rw [oG]
 have qa:¬ (c=1):=af;have kt:(1:Int)<=(c:Int):=af;have akZ:(1:Int)<=(fs.length:Int)+1:=af;have xc:1<=c:=af;have ag:=J hm;have aP:=J zv;have aA:=J hb;have C9:=J Uq;have FG:=J fI;have n1:=J hle;have NG:=J BU;have vR:=J vT;clear hm zv hb hr Uq fI hle BU vT f1 f2 Up NF hlen Je FE;have bI:(0:Int)<(fs.length:Int)+1:=af
 go_enter func73,ntmps73
 go_wp2_with fail;refine (Tb gc _).mono ?_;rintro e aC ⟨adK,adL,adM,rfl,mJ,b8,bV⟩;obtain ⟨x,hx,qC,G,Ur,dE,Us⟩:=b8.has k hk;have ui:=L5 (P:=prog) (t:=156) underlying156 underlying9 mJ b8.keys hx qC b8.lT true;rw [Ur] at ui
 simp only [ll] at ui
 have aA:=J (aA.bw bV);have C9:=J (C9.below bV);have ag:=J ((bV.block aN (M3 ag)).trans ag);have bJ:=J (cB.dL (fun j=>j=gc\/j=aN) bV);have nr:Hid (ar aC G 202 (zP gc k)):=Us;clear mJ b8 bV hx qC Ur dE Us f0;go_wp2_with fail;refine (aeE k hk ns NG n1 fs FG gc b 3 G _ _ cs _ hcs aA C9 BH nr).mono ?_;rintro e aM ⟨rfl,bY,e9⟩;have Ut:aN≠gc:=fun e=>(aA.pM ag) e.symm
 have mJ:=e9.ur ag.out Ut;have bJ:=J (bJ.trans (e9.mono (wm:=fun j=>j=gc\/j=aN) fun j aD=>.inl aD) fun j _ aD=>aD);have cA:=J bY;have Jf:∀ e∈es.toList,e.key≠.string (lZ k):=fun e he bQ=>by
  obtain ⟨j,zM,FT,zZ⟩:=aP.lV e he;rw [zZ] at bQ
  injection bQ with bQ
  have:=NH j k FT hk bQ;subst this;exact vR.out zM
 have ja:=R6 (P:=prog) (t:=150) underlying150 underlying9 mJ aP.keys Jf (zeroValue3 aM) false;have FU:=zN (P:=prog) (t:=150) underlying150 underlying9 mJ aP.keys Jf (.i 1);have Jg:Seen (es.push ⟨.string (lZ k),.i 1,clock⟩) (k :: cL):=by
  refine ⟨fun e he=>?_,by simp [aP.size],fun e he=>?_,?_⟩
  ·simp only [wk,jl,mD] at he
   rcases he with he|rfl
   ·exact aP.keys e he
   ·exact ⟨_,rfl⟩
  ·simp only [wk,jl,mD] at he
   rcases he with he|rfl
   ·obtain ⟨j,zM,FT,zZ⟩:=aP.lV e he
    exact ⟨j,by simp [zM],FT,zZ⟩
   ·exact ⟨k,av,hk,rfl⟩
  ·rw [wk,nQ,EV]
   refine ⟨aP.lT,av,?_⟩;intro a ha b' oO vK;simp only [ny,rT,mD] at oO
   subst oO;obtain ⟨e,he,rfl⟩:=kM.1 ha;exact Jf e he vK
 obtain ⟨w3,np⟩:=aE ({ aM with heap:=aM.heap.setIfInBounds aN (.map (es.push ⟨.string (lZ k),.i 1,clock⟩) (clock+1)) }:World);have Df:w3.heap[aN]? = some (.map (es.push ⟨.string (lZ k),.i 1,clock⟩) (clock+1)):=by rw [<- np];exact (Ib mJ).1
 have xT:=L5 (P:=prog) (t:=150) (s:=lZ k) (x:=⟨.string (lZ k),.i 1,clock⟩) underlying150 underlying9 Df Jg.keys av rfl Jg.lT false;have er:aM.grownBy w3 (some aN):=by rw [<- np];exact H' aM aN _
 have bJ:=J (bJ.trans (cB.Bj (F:=fun j=>j=gc\/j=aN) er fun j aD _=>by injection aD with aD;exact .inr aD.symm) fun j _ aD=>aD);have e0:=J (cA.grown er (by intro e;injection e with e;exact Ut e.symm));have afQ:=J Df;have L2:=J Jg;rw [np] at FU
 simp only [oQ,ml] at ja xT
 clear mJ bY e9 Jf Jg Df er np ag aP ui;go_wp2_with fail;go_ret;exact ⟨rfl,e0.out,⟨_,_,afQ.out,L2.out⟩,bJ.out⟩
theorem Uu:lH prog 24 90 5 40:=by
 obtain ⟨i,h1,ah,aw,bn⟩:=info_parts (show (prog.info? 90).map (fun i=>(i.zero,i.size,i.bytes))=some (some (.agg #[.i 0,.i 0,.i 0,.bool false,.i 0]),5,40) by kernel_rfl);exact ⟨underlying24,i,_,h1,ah,aw,bn,rfl⟩
def eH.Ok (t:eH):Prop:=zB t.sig t.cb t.ck t.soft t.cE
def eH.word (t:eH):List UInt8:=pQ t.sig t.cb t.ck t.soft t.cE
structure sQ (gc B base:Nat) (cs:Array Value) (t:eH) (ts:List eH) (A:Option Addr) (c:Nat) (w0 W:World):Prop where
 ej:ar W gc 26 cs
 tb:ar W B 90 #[.i t.sig,.i t.cb,.i t.ck,.bool t.soft,.i t.cE]
 own:Own W base 90 i7 (.slice A ts.length c) ts
 lt:base<=W.heap.size
 cF:∀ k,(Value.slice A ts.length c).ownBlock=some k->k≠B
 Uv:base<=B
 new:w0.heap.size<=B
 only:cB (fun k=>k=gc\/(Value.slice A ts.length c).ownBlock=some k) w0 W
section
variable {gc B base:Nat} {cs:Array Value} {t:eH} {ts:List eH} {A:Option Addr} {c:Nat} {w0 W W':World}
theorem sQ.drew (h:sQ gc B base cs t ts A c w0 W):sQ gc B base cs t ts A c w0 W.drew:=⟨h.ej.drew,h.tb.drew,h.own.drew,h.lt,h.cF,h.Uv,h.new,h.only.trans (wm:=fun _=>False) ⟨rfl,rfl,rfl,e3 _,fun _ _ _=>rfl⟩ fun _ _ e=>e.elim⟩
theorem sQ.below (h:sQ gc B base cs t ts A c w0 W) (hb:Below W.heap.size W W'):sQ gc B base cs t ts A c w0 W':=⟨h.ej.bw hb,h.tb.bw hb,h.own.below hb aF,gT h.lt hb.size,h.cF,h.Uv,h.new,h.only.Du hb⟩
theorem sQ.alloc (h:sQ gc B base cs t ts A c w0 W) (o:Obj):sQ gc B base cs t ts A c w0 (W.alloc o):=h.below ((aO _ _).alloc aF o)
end
structure Jh (gc B base:Nat) (cs:Array Value) (t:eH) (ts:List eH) (A:Option Addr) (c:Nat) (br:Option Addr) (a8:Nat) (w0 W:World):Prop where
 ej:ar W gc 26 cs
 tb:ar W B 90 #[.i t.sig,.i t.cb,.i t.ck,.bool t.soft,.i t.cE]
 own:Own W base 90 i7 (.slice br (ts.length+1) a8) (ts++[t])
 only:cB (fun k=>k=gc\/(Value.slice A ts.length c).ownBlock=some k) w0 W
section
variable {gc B base:Nat} {cs:Array Value} {t:eH} {ts:List eH} {A br:Option Addr} {c a8:Nat} {w0 W W':World}
theorem sQ.od (h:sQ gc B base cs t ts A c w0 W) (ho:Own W' base 90 i7 (.slice br (ts.length + [t].length) a8) (ts++[t])) (az:W.grownBy W' (Value.slice A ts.length c).ownBlock):Jh gc B base cs t ts A c br a8 w0 W' :=
 ⟨h.ej.grown az (h.own.fK h.ej ak),h.tb.grown az (fun e=>h.cF B e.symm rfl),ho,h.only.trans (wm:=fun k=>(Value.slice A ts.length c).ownBlock=some k) (cB.Bj az fun k hk _=>hk) fun k _ e=>.inr e⟩
theorem Jh.done (h:Jh gc B base cs t ts A c br a8 w0 W):Jh gc B base (cs.setIfInBounds 6 (.slice br (ts.length+1) a8)) t ts A c br a8 w0 (W.setCell ⟨gc,6,none⟩ (.slice br (ts.length+1) a8)) :=
 ⟨h.ej.eW 6 _,h.tb.cF (fun e=>(h.ej.fK h.tb ak) e.symm) _,h.own.Ao h.ej ak 6 _,h.only.trans (cB.setCell (fun k=>k=gc) W gc 6 _ rfl) fun k _ e=>.inl e⟩
end
def afR (gc base:Nat) (cs:Array Value) (ts:List eH) (t:eH) (A:Option Addr) (c:Nat) (w:World) (e:Ending) (w':World):Prop :=
 e=.returned (.i 0)/\∃ (br:Option Addr) (a8:Nat),ar w' gc 26 (cs.setIfInBounds 6 (.slice br (ts.length+1) a8))/\Own w' base 90 i7 (.slice br (ts.length+1) a8) (ts++[t])/\cB (fun k=>k=gc\/(Value.slice A ts.length c).ownBlock=some k) w w'
theorem adU (t:eH) (ht:t.Ok) (ts:List eH) (o2:ts.length<=100) (A:Option Addr) (c:Nat) (fs:List Fd) (fI:fs.map Fd.text = [qu,t.word]) (gc aN b base ej:Nat) (cs:Array Value) (w:World) (dE:iH w)
  (hb:ar w gc 26 cs) (rI:cs[6]? = some (.slice A ts.length c)) (ho:Own w base 90 i7 (.slice A ts.length c) ts) (hbase:base<=w.heap.size) (hr:a7 w ov (some ⟨b,0,none⟩) fs) :
  Calls prog 73 #[.pointer (some ⟨gc,0,none⟩),.map (some aN),.slice (some ⟨b,0,none⟩) 2 ej] w (afR gc base cs ts t A c w):=by
 have mixed:prog.follows Departure.mixedOrders=true:=ai;have jh:fs.length=2:=by have:=pz List.length fI;simpa using this
 obtain ⟨f0,f1,rfl⟩:=afS jh;clear jh;simp only [ny,rT,GH,and_true] at fI
 obtain ⟨iz,aV⟩:=fI;obtain ⟨g0,_,_⟩:=IX hr (i:=0) av;obtain ⟨g1,_,_⟩:=IX hr (i:=1) av;simp only [yJ,K7,w4,fw,w2] at g0 g1
 rw [iz] at g0
 rw [aV] at g1
 have afT:w.cell? ⟨b,0,none⟩=some (.string ⟨#[116,104,114,101,115,104,111,108,100]⟩):=g0;have cC:=J (fun (W:World) dZ=>afU ht W dZ);have b4:=J dE;have NI:Hid (ar w gc 26 cs/\Own w base 90 i7 (.slice A ts.length c) ts):=J (ae hb ho);have gq:=J hbase;clear hr iz aV g0 hb ho ht hbase dE;unfold eH.word at g1
 generalize hx:str (pQ t.sig t.cb t.ck t.soft t.cE)=x at *
 have AW:=J hx;clear hx
 go_enter func73,ntmps73
 go_wp2_with fail;refine (cC.out _ b4).mono ?_;rintro e aM ⟨rfl,bY⟩;have ao:Hid (sQ gc aM.heap.size base cs t ts A c w (aM.alloc (.cells #[.i t.sig,.i t.cb,.i t.ck,.bool t.soft,.i t.cE] 90))):=by
  have h1:=NI.1.bw bY;have ah:=NI.2.below bY aF;have hs:=bY.size;have aI:=gq.out;exact ⟨h1.alloc _,ar.new _ _ _,ah.alloc _,by simp;omega,fun k hk e=>by have:=(ah.iw k hk).2;omega,af,hs,(cB.dL _ bY).Du ((aO _ _).alloc aF _)⟩
 clear bY g1 afT NI;go_wp2_with fail;generalize aM.heap.size=B at *
 have ao:=J ao.drew;refine wp_region_held_drew (S:=fun w'=>w'.cell? ⟨B,0,none⟩=some (.i t.sig)/\w'.cell? ⟨B,1,none⟩=some (.i t.cb)/\w'.cell? ⟨B,2,none⟩=some (.i t.ck)/\w'.cell? ⟨B,3,none⟩=some (.bool t.soft)/\w'.cell? ⟨B,4,none⟩=some (.i t.cE)) ai (ae (ao.tb.cell 0) (ae (ao.tb.cell 1) (ae (ao.tb.cell 2) (ae (ao.tb.cell 3) (ao.tb.cell 4))))) (fun hHeld=>?_);obtain ⟨wd,aG⟩:=aE ((aM.alloc (.cells #[.i t.sig,.i t.cb,.i t.ck,.bool t.soft,.i t.cE] 90)).drew);rw [aG] at ao hHeld ⊢
 clear aG;refine aj 0 ?_;refine aj 1 ?_;refine aj 2 ?_;refine aj 3 ?_;refine aj 5 ?_;refine MO 4 6 36 38 rfl rfl rfl rfl ai aH aH (fun K hK=>?_) (fun K hK=>?_)
 ·have uN:=ao.ej.cell 6
  rw [rI] at uN
  go_simp;have hHeld:=(ae (ao.tb.cell 0) (ae (ao.tb.cell 1) (ae (ao.tb.cell 2) (ae (ao.tb.cell 3) (ao.tb.cell 4)))))
  refine hK _ _ hHeld ?_;clear hK K;simp only [Act.put,aY,aZ,a1];clear uN;refine dR 6 38 rfl rfl ai aH (fun K hK=>?_);go_simp;have j5:=J (a7.made wd i7 [t] 90 #[.i t.sig,.i t.cb,.i t.ck,.bool t.soft,.i t.cE] (0,0) rfl);have ao:=J (ao.alloc (.cells #[.i t.sig,.i t.cb,.i t.ck,.bool t.soft,.i t.cE] 90));have hHeld:=(ae (ao.tb.cell 0) (ae (ao.tb.cell 1) (ae (ao.tb.cell 2) (ae (ao.tb.cell 3) (ao.tb.cell 4)))))
  refine hK _ _ hHeld ?_;clear hK K;simp only [Act.put,aY,aZ,a1];refine dR 7 39 rfl rfl ai aH (fun K hK=>?_);refine w7 (wd.alloc (.cells #[.i t.sig,.i t.cb,.i t.ck,.bool t.soft,.i t.cE] 90)) Uu i7 (.tmp 36) (.tmp 38) rfl base _ ts (by simp [Act.eval]) ao.own _ [t] 1 (by simp [Act.eval]) j5.out (by simp;omega) (by simp;omega) (by have:=ao.lt;omega) ?_;intro hB dG dy ho az _;have aB:=J (ao.od ho az);clear ho az;have hHeld:=(ae (aB.tb.cell 0) (ae (aB.tb.cell 1) (ae (aB.tb.cell 2) (ae (aB.tb.cell 3) (aB.tb.cell 4)))))
  refine hK _ _ hHeld ?_;clear hK K;simp only [Act.put,aY,aZ,a1];refine aj 8 ?_;refine aj 9 ?_;refine iC 10 rfl ai aH (fun K hK=>?_);have uN:=aB.ej.cell 6;rw [rI] at uN
  have NJ:=aB.ej.frozen 6;go_simp;have cJ:=J aB.done;refine hK undef _ (ae (cJ.tb.cell 0) (ae (cJ.tb.cell 1) (ae (cJ.tb.cell 2) (ae (cJ.tb.cell 3) (cJ.tb.cell 4))))) ?_;clear hK K uN NJ hHeld;simp only [Act.put,DF];refine wpAnyH_done ai ?_ _;go_wp2_with fail;go_ret;exact ⟨rfl,hB,dG,cJ.ej,cJ.own,cJ.only⟩
 ·go_simp
  have j5:=J (a7.made wd i7 [t] 90 #[.i t.sig,.i t.cb,.i t.ck,.bool t.soft,.i t.cE] (0,0) rfl);have ao:=J (ao.alloc (.cells #[.i t.sig,.i t.cb,.i t.ck,.bool t.soft,.i t.cE] 90));have hHeld:=(ae (ao.tb.cell 0) (ae (ao.tb.cell 1) (ae (ao.tb.cell 2) (ae (ao.tb.cell 3) (ao.tb.cell 4)))))
  refine hK _ _ hHeld ?_;clear hK K;simp only [Act.put,aY,aZ,a1];refine dR 4 36 rfl rfl ai aH (fun K hK=>?_);have uN:=ao.ej.cell 6;rw [rI] at uN
  go_simp;have hHeld:=(ae (ao.tb.cell 0) (ae (ao.tb.cell 1) (ae (ao.tb.cell 2) (ae (ao.tb.cell 3) (ao.tb.cell 4)))))
  refine hK _ _ hHeld ?_;clear hK K;simp only [Act.put,aY,aZ,a1];clear uN;refine dR 7 39 rfl rfl ai aH (fun K hK=>?_);refine w7 (wd.alloc (.cells #[.i t.sig,.i t.cb,.i t.ck,.bool t.soft,.i t.cE] 90)) Uu i7 (.tmp 36) (.tmp 38) rfl base _ ts (by simp [Act.eval]) ao.own _ [t] 1 (by simp [Act.eval]) j5.out (by simp;omega) (by simp;omega) (by have:=ao.lt;omega) ?_;intro hB dG dy ho az _;have aB:=J (ao.od ho az);clear ho az;have hHeld:=(ae (aB.tb.cell 0) (ae (aB.tb.cell 1) (ae (aB.tb.cell 2) (ae (aB.tb.cell 3) (aB.tb.cell 4)))))
  refine hK _ _ hHeld ?_;clear hK K;simp only [Act.put,aY,aZ,a1];refine aj 8 ?_;refine aj 9 ?_;refine iC 10 rfl ai aH (fun K hK=>?_);have uN:=aB.ej.cell 6;rw [rI] at uN
  have NJ:=aB.ej.frozen 6;go_simp;have cJ:=J aB.done;refine hK undef _ (ae (cJ.tb.cell 0) (ae (cJ.tb.cell 1) (ae (cJ.tb.cell 2) (ae (cJ.tb.cell 3) (cJ.tb.cell 4))))) ?_;clear hK K uN NJ hHeld;simp only [Act.put,DF];refine wpAnyH_done ai ?_ _;go_wp2_with fail;go_ret;exact ⟨rfl,hB,dG,cJ.ej,cJ.own,cJ.only⟩
structure bL where
 bt:Nat
 c1:Nat
 c2:Nat
 cw:Nat
 r1:Nat
 r2:Nat
 ts:List eH
 b2:Nat
 ret:Nat
 c9:Nat
 dead:Nat
abbrev bL.cells (q:bL) (A:Option Addr) (c:Nat):Array Value:=#[.i q.bt,.i q.c1,.i q.c2,.i q.cw,.i q.r1,.i q.r2,.slice A q.ts.length c,.i q.b2,.i q.ret,.i q.c9,.i q.dead]
structure bL.Ok (q:bL):Prop where
 bt:1<=q.bt
 c1:1<=q.c1
 c2:1<=q.c2
 m0:q.bt<=9223372036854775807
 m1:q.c1<=9223372036854775807
 m2:q.c2<=9223372036854775807
 m3:q.cw<=9223372036854775807
 r1:q.r1<=q.bt
 r2:q.r2<=q.c2
 n:q.ts.length<=12
 ts:∀ t∈q.ts,t.Ok
 dc:1<=q.b2
 gl:q.b2<=1000
 rt:q.ret<=20
 c6:1<=q.c9
 a2:q.c9<=1000
 d:q.dead<=100
theorem IC (n a b:Int) (w:World) (h1:a<=n) (ah:n<=b):Calls prog 108 #[.i n,.i a,.i b] w fun e w'=>e=.returned (.bool true)/\w=w':=by
 have d1:decide (a<=n)=true:=bO h1;have d2:decide (n<=b)=true:=bO ah;clear h1 ah
 go_enter func108,ntmps108
 go_wp2
 go_ret;exact ⟨rfl,rfl⟩
theorem ads (t:eH) (ht:t.Ok) (w:World):Calls prog 106 #[.agg t.cells] w fun e w'=>e=.returned (.bool false)/\Below w.heap.size w w':=by
 have aA:=J ((aO w.heap.size w).alloc aF (.cells t.cells 90));have dl:=J (ar.new w 90 t.cells);have cC:=J (fun W=>Fe ht W);have eo:=dl.cell
 go_enter func106,ntmps106
 go_wp2_with fail;refine (cC.out _).mono ?_;rintro e aM ⟨rfl,hb⟩;have aA:=J (aA.trans (hb.mono aA.size));clear hb eo;go_wp2_with fail;go_ret;exact ⟨rfl,aA.out⟩
theorem adt {w W:World} {b off:Nat} {l:List eH} (h:a7 w i7 (some ⟨b,off,none⟩) l) (hb:Below w.heap.size w W) {i:Nat} {x:eH} (hi:l[i]? = some x) :
  W.cell? ⟨b,off+i*5,none⟩=some (.i x.sig)/\W.cell? ⟨b,off+i*5+1,none⟩=some (.i x.cb)/\W.cell? ⟨b,off+i*5+2,none⟩=some (.i x.ck)/\W.cell? ⟨b,off+i*5+3,none⟩=some (.bool x.soft)/\W.cell? ⟨b,off+i*5+4,none⟩=some (.i x.cE):=by
 obtain ⟨hl,e⟩:=jv.1 hi;obtain ⟨b',p2,aV,_,hc⟩:=(h.below hb).at_ hl;injection aV with aV
 injection aV with aV bE
 subst aV;subst bE;rw [e] at hc
 exact ⟨by have:=hc 0 (.i x.sig) rfl;simpa using this,hc 1 (.i x.cb) rfl,hc 2 (.i x.ck) rfl,hc 3 (.bool x.soft) rfl,hc 4 (.i x.cE) rfl⟩
theorem adu (l:List eH) (hl:∀ t∈l,t.Ok) (A:Option Addr) (c:Nat) (w:World) (hr:a7 w i7 A l) (hn:l.length<=100) :
  Calls prog 166 #[.slice A l.length c,.func (.func 106) #[] #[]] w fun e w'=>e=.returned (.i (-1))/\Below w.heap.size w w':=by
 have bx:=J hr;have cT:=J hl;clear hr hl
 go_enter func166,ntmps166
 go_wp2_with fail
 go_loopw [5,8] (fun OX ii wr=>∃ i:Nat,i<=l.length/\ii=.i i/\Below w.heap.size w wr) (fun _ ii _=>l.length-(intOf ii).toNat)
 case atStart=>exact ⟨0,af,rfl,aO _ _⟩
 case round =>
  obtain ⟨i,hi,rfl,du⟩:=hrel;have ap:=J du;clear du
  by_cases aT:i<l.length
  ·have cg:decide ((i:Int)<(l.length:Int))=true:=bO af
   have lG:(i:Int)<(l.length:Int):=af;obtain ⟨b,off,hA,_⟩:=bx.out (by intro e;subst e;simp at aT);obtain rfl:A=some ⟨b,off,none⟩:=hA;have SY:=dF aT;have bi:=cT.out l[i] (iO _);generalize l[i]=x at *
   obtain ⟨dK,c8,dT,hj,jt⟩:=adt bx.out ap.out SY;have aq:=J (fun W=>ads x bi W);clear bi SY;go_wp2_with fail;refine (aq.out _).mono ?_;rintro e aM ⟨rfl,hb⟩;have ap:=J (ap.trans (hb.mono ap.size));clear hb dK c8 dT hj jt;go_wp2_with fail
   go_roundw
   case rel=>exact ⟨i+1,af,cm,ap.out⟩
   case measure=>exact c4
  ·obtain rfl:i=l.length:=by omega
   have cg:decide ((l.length:Int)<(l.length:Int))=false:=av;go_wp2_with fail;go_ret;exact ⟨rfl,ap.out⟩
theorem adv (l:List eH) (hl:∀ t∈l,t.Ok) (A:Option Addr) (c:Nat) (w:World) (hr:a7 w i7 A l) (hn:l.length<=100) :
  Calls prog 105 #[.slice A l.length c,.func (.func 106) #[] #[]] w fun e w'=>e=.returned (.bool false)/\Below w.heap.size w w':=by
 have H:=J (adu l hl A c w hr hn);clear hr hl
 go_enter func105,ntmps105
 go_wp2_with fail;refine H.mono ?_;rintro e aM ⟨rfl,hb⟩;have aA:=J hb;clear hb;go_wp2_with fail;go_ret;exact ⟨rfl,aA.out⟩
theorem SZ (a b c:Nat) (B off:Nat) (w:World) (aI:w.cell? ⟨B,off,none⟩=some (.i a)) (h1:w.cell? ⟨B,off+1,none⟩=some (.i b)) (ah:w.cell? ⟨B,off+2,none⟩=some (.i c)) :
  Calls prog 104 #[.slice (some ⟨B,off,none⟩) 3 3] w fun e w'=>e=.returned (.i (min (min a b) c:Nat))/\w=w':=by
 have h:=Any.slices_Min_int lays114 B off 3 3 [(a:Int),(b:Int),(c:Int)] w av av av (fun j aD=>by
  have adw:j<3:=aD;obtain rfl|rfl|rfl:j=0\/j=1\/j=2:=af
  ·exact aI
  ·exact h1
  ·exact ah)
 refine rk (show Calls prog 104 _ _ _ from h) fun e w' ⟨aw,bn⟩=>⟨?_,bn.symm⟩
 rw [aw];exact sZ (by
  simp [Lib.minOf]
  try omega)
theorem adx (q:bL) (bd:q.Ok) (A:Option Addr) (c:Nat) (w:World) (hr:a7 w i7 A q.ts) :
  Calls prog 75 #[.agg (q.cells A c)] w fun e w'=>e=.returned (.bool true)/\Below w.heap.size w w':=by
 have aA:=J ((aO w.heap.size w).alloc aF (.cells (q.cells A c) 26));have dl:=J (ar.new w 26 (q.cells A c));have bx:=J hr;have xH:=J bd.ts;obtain ⟨aX,ba,nD,_,_,_,_,sg,xk,Bd,_,Be,Bf,Bg,Bh,Bi,S0⟩:=bd;obtain ⟨bt,c1,c2,cw,r1,r2,ts,b2,ret,c9,dead⟩:=q;simp only at *
 have aV:decide ((r1:Int)>(bt:Int))=false:=cX af;have akx:decide (bt<r1)=false:=cX af;have aky:decide (c2<r2)=false:=cX af;have cG:decide ((12:Int)<(ts.length:Int))=false:=cX af;have akz:decide (12<ts.length)=false:=cX af;obtain ⟨m1,wu⟩:=aE (min (min bt c1) c2);obtain ⟨m2,mJ⟩:=aE (min (min cw r1) r2);have f1:decide ((m1:Int)<1)=false:=cX af;have f2:decide ((m2:Int)<0)=false:=cX af;have sG:=J wu;have ry:=J mJ;have dc:(1:Int)<=(b2:Int):=af;have gl:(b2:Int)<=1000:=af;have mK:(1:Int)<=(c9:Int):=af;have ady:(c9:Int)<=1000:=af;have adz:(ret:Int)<=20:=af;have adA:(dead:Int)<=100:=af;clear hr wu mJ;have eo:=dl.cell
 go_enter func75,ntmps75
 go_wp2_with fail;refine (SZ bt c1 c2 w.heap.size 0 _ (dl.cell 0) (dl.cell 1) (dl.cell 2)).mono ?_;rintro e aM ⟨rfl,rfl⟩;rw [sG.out];go_wp2_with fail;refine (SZ cw r1 r2 w.heap.size 3 _ (dl.cell 3) (dl.cell 4) (dl.cell 5)).mono ?_;rintro e aM ⟨rfl,rfl⟩;rw [ry.out];go_wp2_with fail;refine (adv ts xH A c _ (bx.below aA) af).mono ?_;rintro e aM ⟨rfl,hb⟩;have dl:=J (dl.bw hb);have aA:=J (aA.trans (hb.mono aA.size));clear hb eo;have eo:=dl.cell;go_wp2_with fail;refine (IC (b2:Int) 1 1000 _ dc gl).mono ?_;rintro e w3 ⟨rfl,rfl⟩;go_wp2_with fail;refine (IC (c9:Int) 1 1000 _ mK ady).mono ?_;rintro e w3 ⟨rfl,rfl⟩;go_wp2_with fail;refine (IC (ret:Int) 0 20 _ af adz).mono ?_;rintro e w3 ⟨rfl,rfl⟩;go_wp2_with fail;refine (IC (dead:Int) 0 100 _ af adA).mono ?_;rintro e w3 ⟨rfl,rfl⟩;go_wp2_with fail;go_ret;exact ⟨rfl,aA.out⟩
end Go.Proofs.YtmmchlfoplcnbaaGreatDoor
