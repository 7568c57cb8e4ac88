/- A part of the walk. -/
import Derived.Test.YtmmchlfoplcnbaaGreatDoorMC3
import Derived.Test.YtmmchlfoplcnbaaGreatDoorMB5
import Derived.Test.YtmmchlfoplcnbaaGreatDoorMC1
namespace Go.Proofs.YtmmchlfoplcnbaaGreatDoor
open Go Go.RowKit Tryz
set_option linter.all false
set_option maxRecDepth 100000
set_option maxHeartbeats 4000000
theorem ag6 (s:Int) (w:World):Calls prog 119 #[.i s] w fun e w'=>e=.returned (.string (str (gL s)))/\w=w':=by
 unfold gL
 by_cases aI:s=0
 ·subst aI
  go_enter func119,ntmps119
  go_wp2_with fail;go_ret;exact ⟨rfl,rfl⟩
 ·have d0:(s==0)=false:=by simpa using aI
  rw [bp aI]
  by_cases h1:s=1
  ·subst h1
   clear d0 aI
   go_enter func119,ntmps119
   go_wp2_with fail;go_ret;exact ⟨rfl,rfl⟩
  ·have d1:(s==1)=false:=by simpa using h1
   rw [bp h1];clear aI h1
   go_enter func119,ntmps119
   go_wp2_with fail;go_ret;exact ⟨rfl,rfl⟩
theorem ag7 (t:eH) (ht:t.Ok) (w:World):Calls prog 81 #[.agg #[.i t.sig,.i t.cb,.i t.ck,.bool t.soft,.i t.cE]] w (o5 t.word w):=by
 have bG:=J (ae (ar.new w 90 #[.i t.sig,.i t.cb,.i t.ck,.bool t.soft,.i t.cE]) ((aO w.heap.size w).alloc aF (.cells #[.i t.sig,.i t.cb,.i t.ck,.bool t.soft,.i t.cE] 90)));obtain ⟨aC,cU⟩:=aE (w.alloc (.cells #[.i t.sig,.i t.cb,.i t.ck,.bool t.soft,.i t.cE] 90));rw [cU] at bG
 have bt:aC.cell? ⟨w.heap.size,0,none⟩=some (.i t.sig):=bG.1.cell 0;obtain ⟨S,hS⟩:=aE (gL t.sig);have p0:=J (show S.length<=6 from hS ▸ (BI t.sig).2.2);have aP:=J hS;have yT:=J (ag6 t.sig aC);rw [hS] at yT
 have fL:=ht.gr;have hval:=ht.val;obtain ⟨ct,eB⟩:=aE (S++[60]);have nO:=J eB;have jK:=J (show ct.length<=7 by rw [<- eB];have:=p0.out;(try simp only [cd,cy,dD]);omega);have c6:(Op.stringOp .add (str S) ⟨#[60]⟩).run prog aC=.ok (.string (str ct)) aC:=by rw [<- eB];exact js aC S [60] (by have:=p0.out;(try simp only [cy,dD]);omega)
 clear eB
 by_cases hp:0<t.cb
 ·have F1:=J hp
  obtain ⟨dc,FU⟩:∃ p:Nat,t.cb=(p:Int):=⟨t.cb.toNat,af⟩
  have b1:=J (show dc<=9223372036854775807 by rcases hval with ⟨_,ah,_⟩|⟨h1,_,_⟩ <;> omega);have Bb:=J FU;have c1:aC.cell? ⟨w.heap.size,1,none⟩=some (.i dc):=by rw [bG.1.cell 1];simp [FU]
  have d1:decide ((0:Int)<(dc:Int))=true:=bO af;have alf:decide (0<dc)=true:=bO af;have c2:True:=trivial;clear hp FU hval hS ht
  cases hs:t.soft
  ·rw [hs] at fL cU
   have uQ:=J hs;clear hs
   go_enter func81,ntmps81
   clear fL;go_wp2_with fail;refine yT.mono ?_;rintro e aM ⟨rfl,rfl⟩;clear bt cU;obtain ⟨A,hA⟩:=aE (dY dc);have gm:=J (show A.length<=21 by have:=B9 b1.out;rw [hA] at this;omega);have dC:=J hA;clear hA;go_wp2_with fail;have iM:=FY dc b1.out aC;unfold FX at iM
   rw [dC.out] at iM
   refine iM.mono ?_;rintro e w3 ⟨rfl,bu⟩;have ei:=J (bG.2.trans (bu.mono bG.2.size));have gA:=J (bG.1.bw bu);clear iM bu c1 c2 c6;have c3:w3.cell? ⟨w.heap.size,3,none⟩=some (.bool false):=by rw [gA.cell 3];simp [uQ.out]
   obtain ⟨eD,uR⟩:=aE w3;rw [uR] at ei gA c3 ⊢
   clear uR;obtain ⟨dX,eU⟩:=aE (ct++A);have hL:=J eU;have nP:=J (show dX.length<=28 by rw [<- eU];have:=jK.out;have:=gm.out;(try simp only [cd,cy,dD]);omega);have a2:(Op.stringOp .add (str ct) (str A)).run prog eD=.ok (.string (str dX)) eD:=by rw [<- eU];exact js eD ct A (by have:=jK.out;have:=gm.out;(try simp only [cy,dD]);omega)
   clear eU;obtain ⟨rJ,qJ⟩:=aE (dX++[37]);have mI:=J qJ;have Js:=J (show rJ.length<=29 by rw [<- qJ];have:=nP.out;(try simp only [cd,cy,dD]);omega);have a3:(Op.stringOp .add (str dX) ⟨#[37]⟩).run prog eD=.ok (.string (str rJ)) eD:=by rw [<- qJ];exact js eD dX [37] (by have:=nP.out;(try simp only [cy,dD]);omega)
   clear qJ;go_wp2_with fail;go_ret;exact ⟨by rw [show t.word=rJ by rw [<- mI.out,<- hL.out,<- nO.out,<- aP.out,<- dC.out];unfold eH.word pQ fJ;rw [bB F1.out,uQ.out];rw [show t.cb.toNat=dc by have:=Bb.out;omega];simp];rfl,ei.out⟩
  ·rw [hs] at fL cU
   have uQ:=J hs;clear hs;simp only [ll] at fL
   obtain ⟨g1,et⟩:∃ p:Nat,t.cE=(p:Int):=⟨t.cE.toNat,af⟩
   have nr:=J (show g1<=9223372036854775807 by omega);have F2:=J et;clear et fL
   go_enter func81,ntmps81
   go_wp2_with fail;refine yT.mono ?_;rintro e aM ⟨rfl,rfl⟩;clear bt cU;obtain ⟨A,hA⟩:=aE (dY dc);have gm:=J (show A.length<=21 by have:=B9 b1.out;rw [hA] at this;omega);have dC:=J hA;clear hA;go_wp2_with fail;have iM:=FY dc b1.out aC;unfold FX at iM
   rw [dC.out] at iM
   refine iM.mono ?_;rintro e w3 ⟨rfl,bu⟩;have ei:=J (bG.2.trans (bu.mono bG.2.size));have gA:=J (bG.1.bw bu);clear iM bu c1 c2 c6;have c3:w3.cell? ⟨w.heap.size,3,none⟩=some (.bool true):=by rw [gA.cell 3];simp [uQ.out]
   have fA:w3.cell? ⟨w.heap.size,4,none⟩=some (.i g1):=by rw [gA.cell 4];simp [F2.out]
   obtain ⟨eD,uR⟩:=aE w3;rw [uR] at ei gA c3 fA ⊢
   clear uR;obtain ⟨dX,eU⟩:=aE (ct++A);have hL:=J eU;have nP:=J (show dX.length<=28 by rw [<- eU];have:=jK.out;have:=gm.out;(try simp only [cd,cy,dD]);omega);have a2:(Op.stringOp .add (str ct) (str A)).run prog eD=.ok (.string (str dX)) eD:=by rw [<- eU];exact js eD ct A (by have:=jK.out;have:=gm.out;(try simp only [cy,dD]);omega)
   clear eU;obtain ⟨rJ,qJ⟩:=aE (dX++[37]);have mI:=J qJ;have Js:=J (show rJ.length<=29 by rw [<- qJ];have:=nP.out;(try simp only [cd,cy,dD]);omega);have a3:(Op.stringOp .add (str dX) ⟨#[37]⟩).run prog eD=.ok (.string (str rJ)) eD:=by rw [<- qJ];exact js eD dX [37] (by have:=nP.out;(try simp only [cy,dD]);omega)
   clear qJ;obtain ⟨G,dE⟩:=aE (dY g1);have F3:=J (show G.length<=19 from dE ▸ B9 nr.out);have b4:=J dE;clear dE;obtain ⟨uS,xW⟩:=aE (rJ++[58]);have N8:=J xW;have F4:=J (show uS.length<=30 by rw [<- xW];have:=Js.out;(try simp only [cd,cy,dD]);omega);have bX:(Op.stringOp .add (str rJ) ⟨#[58]⟩).run prog eD=.ok (.string (str uS)) eD:=by rw [<- xW];exact js eD rJ [58] (by have:=Js.out;(try simp only [cy,dD]);omega)
   clear xW;go_wp2_with fail;have iM:=FY g1 nr.out eD;unfold FX at iM
   rw [b4.out] at iM
   refine iM.mono ?_;rintro e bc ⟨rfl,dI⟩;have dp:=J (ei.trans (dI.mono ei.size));clear iM dI bX;obtain ⟨Ca,xX⟩:=aE (uS++G);have N9:=J xX;have ag8:=J (show Ca.length<=49 by rw [<- xX];have:=F4.out;have:=F3.out;(try simp only [cd,cy,dD]);omega);have cY:(Op.stringOp .add (str uS) (str G)).run prog bc=.ok (.string (str Ca)) bc:=by rw [<- xX];exact js bc uS G (by have:=F4.out;have:=F3.out;(try simp only [cy,dD]);omega)
   clear xX;go_wp2_with fail;go_ret;exact ⟨by rw [show t.word=Ca by rw [<- N9.out,<- N8.out,<- b4.out];rw [<- mI.out,<- hL.out,<- nO.out,<- aP.out,<- dC.out];unfold eH.word pQ fJ;rw [bB F1.out,uQ.out];rw [show t.cb.toNat=dc by have:=Bb.out;omega];rw [show t.cE.toNat=g1 by have:=F2.out;omega];simp];rfl,dp.out⟩
 ·have F1:=J hp
  obtain ⟨z7,uq⟩:∃ p:Nat,t.ck=(p:Int):=⟨t.ck.toNat,by rcases hval with ⟨h1,_,_⟩|⟨_,ah,_⟩ <;> omega⟩
  have b1:=J (show z7<=9223372036854775807 by rcases hval with ⟨h1,_,_⟩|⟨_,_,ah⟩ <;> omega);have Bb:=J uq;have HW:t.cb=0:=by rcases hval with ⟨h1,_,_⟩|⟨h1,_,_⟩ <;> omega
  have c1:aC.cell? ⟨w.heap.size,1,none⟩=some (.i 0):=by rw [bG.1.cell 1];simp [HW]
  have c2:aC.cell? ⟨w.heap.size,2,none⟩=some (.i z7):=by rw [bG.1.cell 2];simp [uq]
  clear hp uq hval hS HW ht
  cases hs:t.soft
  ·rw [hs] at fL cU
   have uQ:=J hs;clear hs
   go_enter func81,ntmps81
   clear fL;go_wp2_with fail;refine yT.mono ?_;rintro e aM ⟨rfl,rfl⟩;clear bt cU;obtain ⟨A,hA⟩:=aE (dO z7);have gm:=J (show A.length<=21 from hA ▸ gy b1.out);have dC:=J hA;clear hA;go_wp2_with fail;have iM:=sV z7 b1.out aC;unfold o5 at iM
   rw [dC.out] at iM
   refine iM.mono ?_;rintro e w3 ⟨rfl,bu⟩;have ei:=J (bG.2.trans (bu.mono bG.2.size));have gA:=J (bG.1.bw bu);clear iM bu c1 c2 c6;have c3:w3.cell? ⟨w.heap.size,3,none⟩=some (.bool false):=by rw [gA.cell 3];simp [uQ.out]
   obtain ⟨eD,uR⟩:=aE w3;rw [uR] at ei gA c3 ⊢
   clear uR;obtain ⟨dX,eU⟩:=aE (ct++A);have hL:=J eU;have nP:=J (show dX.length<=28 by rw [<- eU];have:=jK.out;have:=gm.out;(try simp only [cd,cy,dD]);omega);have a2:(Op.stringOp .add (str ct) (str A)).run prog eD=.ok (.string (str dX)) eD:=by rw [<- eU];exact js eD ct A (by have:=jK.out;have:=gm.out;(try simp only [cy,dD]);omega)
   clear eU;go_wp2_with fail;go_ret;exact ⟨by rw [show t.word=dX by rw [<- hL.out,<- nO.out,<- aP.out,<- dC.out];unfold eH.word pQ fJ;rw [bp (show ¬ (0:Int)<t.cb by have:=F1.out;omega),uQ.out];rw [show t.ck.toNat=z7 by have:=Bb.out;omega];simp];rfl,ei.out⟩
  ·rw [hs] at fL cU
   have uQ:=J hs;clear hs;simp only [ll] at fL
   obtain ⟨g1,et⟩:∃ p:Nat,t.cE=(p:Int):=⟨t.cE.toNat,af⟩
   have nr:=J (show g1<=9223372036854775807 by omega);have F2:=J et;clear et fL
   go_enter func81,ntmps81
   go_wp2_with fail;refine yT.mono ?_;rintro e aM ⟨rfl,rfl⟩;clear bt cU;obtain ⟨A,hA⟩:=aE (dO z7);have gm:=J (show A.length<=21 from hA ▸ gy b1.out);have dC:=J hA;clear hA;go_wp2_with fail;have iM:=sV z7 b1.out aC;unfold o5 at iM
   rw [dC.out] at iM
   refine iM.mono ?_;rintro e w3 ⟨rfl,bu⟩;have ei:=J (bG.2.trans (bu.mono bG.2.size));have gA:=J (bG.1.bw bu);clear iM bu c1 c2 c6;have c3:w3.cell? ⟨w.heap.size,3,none⟩=some (.bool true):=by rw [gA.cell 3];simp [uQ.out]
   have fA:w3.cell? ⟨w.heap.size,4,none⟩=some (.i g1):=by rw [gA.cell 4];simp [F2.out]
   obtain ⟨eD,uR⟩:=aE w3;rw [uR] at ei gA c3 fA ⊢
   clear uR;obtain ⟨dX,eU⟩:=aE (ct++A);have hL:=J eU;have nP:=J (show dX.length<=28 by rw [<- eU];have:=jK.out;have:=gm.out;(try simp only [cd,cy,dD]);omega);have a2:(Op.stringOp .add (str ct) (str A)).run prog eD=.ok (.string (str dX)) eD:=by rw [<- eU];exact js eD ct A (by have:=jK.out;have:=gm.out;(try simp only [cy,dD]);omega)
   clear eU;obtain ⟨G,dE⟩:=aE (dY g1);have F3:=J (show G.length<=19 from dE ▸ B9 nr.out);have b4:=J dE;clear dE;obtain ⟨uS,xW⟩:=aE (dX++[58]);have N8:=J xW;have F4:=J (show uS.length<=29 by rw [<- xW];have:=nP.out;(try simp only [cd,cy,dD]);omega);have bX:(Op.stringOp .add (str dX) ⟨#[58]⟩).run prog eD=.ok (.string (str uS)) eD:=by rw [<- xW];exact js eD dX [58] (by have:=nP.out;(try simp only [cy,dD]);omega)
   clear xW;go_wp2_with fail;have iM:=FY g1 nr.out eD;unfold FX at iM
   rw [b4.out] at iM
   refine iM.mono ?_;rintro e bc ⟨rfl,dI⟩;have dp:=J (ei.trans (dI.mono ei.size));clear iM dI bX;obtain ⟨Ca,xX⟩:=aE (uS++G);have N9:=J xX;have ag8:=J (show Ca.length<=48 by rw [<- xX];have:=F4.out;have:=F3.out;(try simp only [cd,cy,dD]);omega);have cY:(Op.stringOp .add (str uS) (str G)).run prog bc=.ok (.string (str Ca)) bc:=by rw [<- xX];exact js bc uS G (by have:=F4.out;have:=F3.out;(try simp only [cy,dD]);omega)
   clear xX;go_wp2_with fail;go_ret;exact ⟨by rw [show t.word=Ca by rw [<- N9.out,<- N8.out,<- b4.out];rw [<- hL.out,<- nO.out,<- aP.out,<- dC.out];unfold eH.word pQ fJ;rw [bp (show ¬ (0:Int)<t.cb by have:=F1.out;omega),uQ.out];rw [show t.ck.toNat=z7 by have:=Bb.out;omega];rw [show t.cE.toNat=g1 by have:=F2.out;omega];simp];rfl,dp.out⟩
structure mz where
 time:Int
 v0:Int
 v1:Int
 v2:Int
 A:Option Addr
 uses:List dJ
 c:Nat
abbrev mz.cells (s:mz):Array Value:=#[.i s.time,.i s.v0,.i s.v1,.i s.v2,.slice s.A s.uses.length s.c]
def sk (l:List dJ) (id:ByteArray):dJ:=if tQ l id then (match l[xo l id]? with|some x=>x|none=>⟨⟨#[]⟩,0,0,0⟩) else ⟨⟨#[]⟩,0,0,0⟩
theorem aac {l:List dJ} {s:ByteArray} (h:tQ l s=true):∃ hi:xo l s<l.length,l[xo l s].id=s:=by
 unfold tQ at h
 rcases gB (xo l s) l.length with aT|iy
 ·rw [dF aT] at h
  exact ⟨aT,toList_inj h⟩
 ·rw [td iy] at h;cases h
abbrev tR (x:dJ):Array Value:=#[.i x.a0,.i x.c6,.i x.a2]
theorem QT (x:dJ):(tR x).all (·.oneCell')=true:=cc
theorem QU:(prog.info? 23).map (·.size)=some 3:=ai
theorem ZX (s:mz) (id:ByteArray) (w:World) (hr:a7 w jA s.A s.uses) (hl:s.uses.length<=100000) (hs:oR s.uses) :
  Calls prog 315 #[.agg s.cells,.string id] w fun e w'=>e=.returned (.agg (tR (sk s.uses id)))/\Below w.heap.size w w':=by
 have ff:Below w.heap.size w ((w.alloc (.cells s.cells 136)).alloc (.cells (tR ⟨⟨#[]⟩,0,0,0⟩) 23)):=((aO _ _).alloc aF _).alloc av _;have bI:(w.alloc (.cells s.cells 136)).heap.size=w.heap.size+1:=av;have C3:=ar.new (w.alloc (.cells s.cells 136)) 23 (tR ⟨⟨#[]⟩,0,0,0⟩);rw [bI] at C3
 have AY:=J (ae (hr.below ff) (ae ((ar.new w 136 s.cells).alloc (.cells (tR ⟨⟨#[]⟩,0,0,0⟩) 23)) (ae C3 ff)));have aP:=J hs;clear hr hs ff bI C3
 go_enter func315,ntmps315
 go_wp2_with fail;refine (aad s.uses id s.A s.c _ AY.1 af aP).mono ?_;rintro e aC ⟨rfl,bV⟩;have en:=J (ae (AY.1.below bV) (ae (AY.2.1.bw bV) (ae (AY.2.2.1.bw bV) (AY.2.2.2.trans (bV.mono AY.2.2.2.size)))));clear AY bV;have cs:=en.2.1.cell
 cases dz:tQ s.uses id
 ·have bq:=J (show sk s.uses id=⟨⟨#[]⟩,0,0,0⟩ by unfold sk;rw [dz];rfl)
  clear dz
  go_wp2_with (refine ch rfl 23 (.tmp 4) (.tmp 16) rfl (w.heap.size+1) 23 (tR ⟨⟨#[]⟩,0,0,0⟩) (tR ⟨⟨#[]⟩,0,0,0⟩) rfl rfl en.2.2.1 rfl QU (QT _) ?_;intro bc bS bP dx)
  have dn:=bS.cell;exact cS (v:=.agg (tR ⟨⟨#[]⟩,0,0,0⟩)) (by simp [results,results315,go_sem,dn]) rfl ⟨by rw [bq.out],en.2.2.2.grown bP en.2.2.2.size dP⟩
 ·obtain ⟨aT,yr⟩:=aac dz
  have bq:=J (show sk s.uses id=s.uses[xo s.uses id] by unfold sk;rw [bB dz,dF aT]);clear dz yr;obtain ⟨i,hi⟩:∃ i,i=xo s.uses id:=⟨_,rfl⟩
  have CI:i<s.uses.length:=by rw [hi];exact aT
  have iE:Hid (sk s.uses id=s.uses[i]):=by subst hi;exact bq.out
  rw [<- hi];clear hi aT bq;obtain ⟨b,off,hA,hb,bt,c1,c2,c3⟩:=en.1.us CI;have cg:(i:Int)<(s.uses.length:Int):=af;generalize s.uses[i]=x at *
  go_wp2_with (refine ch rfl 23 (.tmp 4) (.tmp 22) rfl (w.heap.size+1) 23 (tR ⟨⟨#[]⟩,0,0,0⟩) (tR x) rfl rfl en.2.2.1 rfl QU (QT _) ?_;intro bc bS bP dx)
  have dn:=bS.cell;exact cS (v:=.agg (tR x)) (by simp [results,results315,go_sem,dn]) rfl ⟨by rw [iE.out],en.2.2.2.grown bP en.2.2.2.size dP⟩
def xp (e:bj):Bool:=!e.aa.bo&&((e.phase==1)||(e.phase==2))
theorem aae (x:bj) (w:World) :
  Calls prog 253 #[.agg x.cells] w fun e w'=>e=.returned (.bool (xp x))/\Below w.heap.size w w':=by
 have aA:=J ((aO w.heap.size w).alloc aF (.cells x.cells 66));have ag:Hid (xp x=(!x.aa.bo&&((x.phase==1)||(x.phase==2)))):=rfl
 cases hc:x.aa.bo
 ·cases h1:(x.phase==1)
  ·cases ah:(x.phase==2)
   all_goals
    have bF:=J ag.out;rw [hc,h1,ah] at bF
    clear ag
    go_enter func253,ntmps253
    go_wp2_with fail;go_ret;exact ⟨gw bF.symm,aA.out⟩
  ·have bF:=J ag.out
   rw [hc,h1] at bF
   clear ag
   go_enter func253,ntmps253
   go_wp2_with fail;go_ret;exact ⟨gw bF.symm,aA.out⟩
 ·have bF:=J ag.out
  rw [hc] at bF
  clear ag
  go_enter func253,ntmps253
  go_wp2_with fail;go_ret;exact ⟨gw bF.symm,aA.out⟩
def asked (p:aQ) (k:Int):Int:=if k=0 then p.aX else if k=2 then p.ba else 0
theorem ZZ (p:aQ) (k:Int) (w:World) :
  Calls prog 316 #[.agg p.cells,.i k] w fun e w'=>e=.returned (.i (asked p k))/\Below w.heap.size w w':=by
 have aA:=J ((aO w.heap.size w).alloc aF (.cells p.cells 40));have ag:Hid (asked p k=if k=0 then p.aX else if k=2 then p.ba else 0):=rfl
 by_cases aI:k=0
 ·have bF:=J (ag.trans (bB aI))
  have d0:(k==0)=true:=qQ.2 aI;clear ag aI
  go_enter func316,ntmps316
  go_wp2_with fail;go_ret;exact ⟨sZ bF.symm,aA.out⟩
 ·by_cases ah:k=2
  ·have bF:=J (ag.trans ((bp aI).trans (bB ah)))
   have d0:(k==0)=false:=ji.2 aI;have d2:(k==2)=true:=qQ.2 ah;clear ag aI ah
   go_enter func316,ntmps316
   go_wp2_with fail;go_ret;exact ⟨sZ bF.symm,aA.out⟩
  ·have bF:=J (ag.trans ((bp aI).trans (bp ah)))
   have d0:(k==0)=false:=ji.2 aI;have d2:(k==2)=false:=ji.2 ah;clear ag aI ah
   go_enter func316,ntmps316
   go_wp2_with fail;go_ret;exact ⟨sZ bF.symm,aA.out⟩
def l9 (g:gW):dJ:=⟨g.id,dW g.f0,dW g.f1,dW g.f2⟩
def pF:List dJ->dJ->List dJ
 | [],u=>[u]
 | x :: l,u=>if blt u.id x.id=true then u :: x :: l else x :: pF l u
theorem aak (l:List dJ) (u:dJ):(pF l u).length=l.length+1:=by
 induction l with
 | nil=>rfl
 | cons x l b6=>unfold pF;split <;> simp [b6]
theorem Li {l:List dJ} {u x:dJ}:x∈pF l u↔x=u\/x∈l:=by
 induction l with
 | nil=>simp [pF]
 | cons y l b6=>unfold pF;split <;> simp [b6,or_left_comm]
def AZ (l:List dJ):Prop:=l.Pairwise fun x y=>blt x.id y.id=true
theorem aal {l:List dJ}:AZ l↔oR l:=by
 unfold AZ oR;rw [tJ];exact ⟨fun h i j gO aD=>h i j af aD gO,fun h i j hi aD gO=>h i j gO aD⟩
theorem aam {l:List dJ} {u:dJ} (hs:AZ l) (hn:∀ x∈l,x.id≠u.id):AZ (pF l u):=by
 induction l with
 | nil=>exact List.pairwise_singleton _ _
 | cons x l b6 =>
  obtain ⟨h1,ah⟩:=nB.1 hs;unfold pF
  split
  ·rename_i hb
   refine nB.2 ⟨fun y hy=>?_,hs⟩
   rcases fb.1 hy with rfl|hy
   ·exact hb
   ·exact jY hb (h1 y hy)
  ·rename_i hb
   refine nB.2 ⟨fun y hy=>?_,b6 ah fun y hy=>hn y (EI _ hy)⟩
   rcases Li.1 hy with rfl|hy
   ·cases hx:blt x.id y.id
    ·exact absurd (r8 hx (by simpa using hb)) (hn x (List.mem_cons_self ..))
    ·rfl
   ·exact h1 y hy
def kh (gs:List gW):List dJ:=gs.foldl (fun acc g=>pF acc (l9 g)) []
theorem aan {gs:List gW}:∀ {x:dJ},x∈kh gs↔∃ g∈gs,x=l9 g:=by
 have h:∀ (gs:List gW) (acc:List dJ) (x:dJ),x∈gs.foldl (fun acc g=>pF acc (l9 g)) acc↔x∈acc\/∃ g∈gs,x=l9 g:=by
  intro gs
  induction gs with
  | nil=>intro acc x;simp
  | cons g gs b6 =>
   intro acc x;rw [oP,b6,Li]
   constructor
   ·rintro ((rfl|h)|⟨g',h1,ah⟩)
    ·exact .inr ⟨g,av,rfl⟩
    ·exact .inl h
    ·exact .inr ⟨g',by simp [h1],ah⟩
   ·rintro (h|⟨g',h1,ah⟩)
    ·exact .inl (.inr h)
    ·rcases fb.1 h1 with rfl|h1
     ·exact .inl (.inl ah)
     ·exact .inr ⟨g',h1,ah⟩
 intro x;unfold kh;rw [h];simp
theorem aao (gs:List gW):(kh gs).length=gs.length:=by
 have h:∀ (gs:List gW) (acc:List dJ),(gs.foldl (fun acc g=>pF acc (l9 g)) acc).length=acc.length+gs.length:=by
  intro gs
  induction gs with
  | nil=>intro acc;rfl
  | cons g gs b6=>intro acc;rw [oP,b6,aak,cy];omega
 unfold kh;rw [h];simp
def Hu (gs:List gW):Prop:=gs.Pairwise fun x y=>x.id≠y.id
theorem QY {gs:List gW} (hd:Hu gs):AZ (kh gs):=by
 have h:∀ (gs:List gW) (acc:List dJ),AZ acc->Hu gs->(∀ x∈acc,∀ g∈gs,x.id≠g.id)->AZ (gs.foldl (fun acc g=>pF acc (l9 g)) acc):=by
  intro gs
  induction gs with
  | nil=>intro acc hs _ _;exact hs
  | cons g gs b6 =>
   intro acc hs hd hn;obtain ⟨h1,ah⟩:=nB.1 hd;rw [oP];refine b6 _ (aam hs fun x hx=>hn x hx g av) ah fun x hx g' A0=>?_
   rcases Li.1 hx with rfl|hx
   ·exact h1 g' A0
   ·exact hn x hx g' (by simp [A0])
 exact h gs [] List.Pairwise.nil hd fun x hx=>by cases hx
structure dJ.Ok (x:dJ):Prop where
 bk:0<=x.a0
 bl:0<=x.c6
 aW:0<=x.a2
 aap:x.a0<=9223372036854775807
 aaq:x.c6<=9223372036854775807
 aar:x.a2<=9223372036854775807
theorem aas (g:gW):(l9 g).Ok:=⟨(vM _).1,(vM _).1,(vM _).1,(vM _).2,(vM _).2,(vM _).2⟩
theorem aat {gs:List gW} {x:dJ} (h:x∈kh gs):x.Ok:=by
 obtain ⟨g,_,rfl⟩:=aan.1 h;exact aas g
end Go.Proofs.YtmmchlfoplcnbaaGreatDoor
