/- A part of the walk. -/
import Derived.Test.YtmmchlfoplcnbaaGreatDoorMC6
import Derived.Test.YtmmchlfoplcnbaaGreatDoorMC7
import Derived.Test.YtmmchlfoplcnbaaGreatDoorMB9
namespace Go.Proofs.YtmmchlfoplcnbaaGreatDoor
open Go Go.RowKit Tryz
set_option linter.all false
set_option maxRecDepth 100000
set_option maxHeartbeats 4000000
theorem Own.XG {α:Type} {size:Nat} {E:cu α size} {w:World} {base:Nat} {e:TypeId} {A:Option Addr} {c:Nat} {l:List α} (h:Own w base e E (.slice A l.length c) l) (k:Nat) (hk:k<=l.length):Own w base e E (.slice A (l.take k).length c) (l.take k):=by
 by_cases hl:l = []
 ·subst hl;simpa using h
 ·obtain ⟨g,cap,cur,hv,hb,az,hn,hm,hcs,ht⟩:=Ef h hl
  injection hv with aV _ cG
  subst aV;subst cG;refine Pu hb az (by rw [fv];omega) hm hcs ?_;have aV:E.all l=E.all (l.take k)++E.all (l.drop k):=by rw [<- E.all_append,p1]
  have bE:(l.take k).length*size=(E.all (l.take k)).length:=by rw [E.h3]
  have cG:(l.take k).length*size<=l.length*size:=vB _ (by rw [fv];omega);have po:(cur.toList.take (l.length*size)).take ((l.take k).length*size)=cur.toList.take ((l.take k).length*size):=by rw [vu,oF cG]
  rw [<- po,ht,aV,bE,rU]
  rfl
def goes (n:Nat) (keep:Int):Nat:=if keep<0 then n else n-keep.toNat
theorem KA (n:Nat) (keep:Int):goes n keep<=n:=by unfold goes;split <;> omega
def XH (P:List ByteArray->Prop) (keep:Int) (w:World) (e:Ending) (w':World):Prop:=∃ m,P m/\GU (m.take (goes m.length keep)) w e w'
theorem Py (l:List cv) (ax:List ByteArray) (keep:Int) (A B:Option Addr) (c d:Nat) (w:World) (hr:a7 w cK A l) (hs:a7 w encS B ax) (hl:l.length<=100000) (hm:ax.length<=9223372036854775807) (hk:c' keep) :
  Calls prog 138 #[.slice A l.length c,.slice B ax.length d,.i keep] w (XH (Eg l ax) keep w):=by
 have bx:=J hr;have aP:=J hs;obtain ⟨AB,oI⟩:=hk;clear hr hs
 go_enter func138,ntmps138
 go_wp2_with fail;refine (XI l ax A B c d w bx aP hl hm).mono ?_;rintro e aC ⟨m,hS,br,a8,rfl,hO,bM⟩;have pw:m.length<=100000:=by
  obtain ⟨S,hp,_,vC⟩:=hS;rw [vC,lJ,hp.length_eq];have:=tx (px ax) l;omega
 obtain ⟨_,jO,ajT⟩:=hO.cap;have fz:=J (ae hS (ae hO bM));clear hS hO bM;obtain ⟨n,hn⟩:∃ n:Nat,n=goes m.length keep:=⟨_,rfl⟩
 have kc:n<=m.length:=by rw [hn];exact KA _ _
 have bs:=J hn;have Eh:∀ v,v=Value.slice br n a8->(∃ m',Eg l ax m'/\GU (m'.take (goes m'.length keep)) w (.returned v) aC):=fun v hv=>by
  refine ⟨m,fz.1,br,a8,?_,fz.2.1.XG _ (KA _ _),fz.2.2⟩;rw [hv,bs.out,fv,oF (KA _ _)]
 have bN:=J Eh;clear Eh
 by_cases KB:keep<0
 ·have xf:n=m.length:=by rw [hn];unfold goes;rw [bB KB]
  clear hn;have bX:((m.length:Int)-0)=(m.length:Int):=af;have cY:(m.length:Int)<=(a8:Int):=af;have pd:max keep 0=0:=af;have yp:max (m.length:Int) 0=(m.length:Int):=af;subst xf;go_wp2_with fail;go_ret;exact bN.out _ rfl
 ·obtain ⟨K,rfl⟩:=Int.eq_ofNat_of_zero_le (show 0<=keep by omega)
  have xf:n=m.length-K:=by rw [hn];unfold goes;rw [bp KB];rfl
  have cY:(n:Int)<=(a8:Int):=af;have pd:max (K:Int) 0=(K:Int):=af;have yp:max ((m.length:Int)-(K:Int)) 0=(n:Int):=af;clear hn xf KB;go_wp2_with fail;go_ret;exact bN.out _ rfl
structure EH (k:Int) (p:aQ) (l:List dJ):Prop where
 lI : -9223372036854775808<=eL k p l
 hi:eL k p l<=9223372036854775807
theorem aaf {k:Int} (hk:k=0\/k=1\/k=2) {p:aQ} {s:mz} {y:eb} (hy:vN k p s.uses=y) (w:World) (hr:a7 w jA s.A s.uses) (hl:s.uses.length<=100000) (hs:oR s.uses) (he:EH k p s.uses) :
  Calls prog 254 #[.i k,.agg p.cells,.agg s.cells] w fun e w'=>e=.returned (.agg y.cells)/\Below w.heap.size w w':=by subst hy;exact Z0 k hk p s w hr hl hs he.lI he.hi
def j4 (k:Int) (l:List bj) (us:List dJ):List eb:=(l.filter xp).map fun e=>vN k e.aa us
theorem aag (k:Int) (l:List bj) (us:List dJ) (x:bj):j4 k (l++[x]) us=j4 k l us++(if xp x then [vN k x.aa us] else []):=by
 unfold j4;rw [vD,nQ]
 congr 1
 cases h:xp x <;> simp [h]
theorem QS (k:Int) (l:List bj) (us:List dJ):(j4 k l us).length<=l.length:=by unfold j4;rw [lJ];exact tx _ _
theorem aah:lH prog 303 306 4 40:=by
 obtain ⟨i,h1,ah,aw,bn⟩:=info_parts (show (prog.info? 306).map (fun i=>(i.zero,i.size,i.bytes))=some (some (.agg #[.i 0,.i 0,.i 0,.string ⟨#[]⟩]),4,40) by kernel_rfl);exact ⟨underlying303,i,_,h1,ah,aw,bn,rfl⟩
def QV (L:List eb) (w:World) (e:Ending) (w':World):Prop:=∃ A c,e=.returned (.slice A L.length c)/\Own w' w.heap.size 306 AS (.slice A L.length c) L/\Below w.heap.size w w'
theorem QW {x:bj} {b:Bool} (hb:xp x=b) (w:World) :
  Calls prog 253 #[.agg x.cells] w fun e w'=>e=.returned (.bool b)/\Below w.heap.size w w':=by subst hb;exact aae x w
theorem aai (k:Int) (hk:k=0\/k=1\/k=2) (l:List bj) (A:Option Addr) (c:Nat) (s:mz) (w:World) (hr:a7 w jA s.A s.uses) (hl:s.uses.length<=100000) (hs:oR s.uses) (vP:a7 w cR A l) (qV:l.length<=100000) (hx:∀ x∈l,EH k x.aa s.uses) :
  Calls prog 200 #[.i k,.slice A l.length c,.agg s.cells] w (QV (j4 k l s.uses) w):=by
 have gD:=J ((aO w.heap.size w).alloc aF (.cells s.cells 136));have C4:=J (ar.new w 136 s.cells);have bx:=J hr;have aaj:=J vP;have aP:=J hs;have aB:=J hx;have su:=J hk;clear hr vP hs hx hk
 go_enter func200,ntmps200
 go_wp2_with fail
 go_loopw [7,12] (fun out ii wr=>∃ (i:Nat) (m:List eb) (br:Option Addr) (a8:Nat),i<=l.length/\ii=.i i/\m=j4 k (l.take i) s.uses/\out=.slice br m.length a8/\Own wr w.heap.size 306 AS (.slice br m.length a8) m/\Below w.heap.size w wr/\ar wr w.heap.size 136 s.cells) (fun _ ii _=>l.length-(intOf ii).toNat)
 case atStart=>exact ⟨0,[],none,0,af,rfl,rfl,rfl,Own.e8 _ _ _ _,gD.out,C4.out⟩
 case round =>
  clear gD C4;obtain ⟨i,m,br,a8,hi,rfl,nZ,rfl,hO,bM,QX⟩:=hrel;have pw:m.length<=100000:=by have:=QS k (l.take i) s.uses;rw [<- nZ,fv] at this;omega
  have ag:=J nZ;have ap:=J (ae hO (ae bM QX));clear nZ hO bM QX
  by_cases aT:i<l.length
  ·obtain ⟨b0,off,rfl,ff,bt,c1,c2,c3,fA,c5,dG,fU,i1,ix,i6,wY⟩:=(aaj.below ap.2.1).jM aT
   have cg:decide ((i:Int)<(l.length:Int))=true:=bO af;have lG:(i:Int)<(l.length:Int):=af;have cC:=J (show j4 k (l.take (i+1)) s.uses=m++(if xp l[i] then [vN k l[i].aa s.uses] else []) by rw [ag.out,gS aT,aag]);have oC:=J (aB.out l[i] (iO aT));generalize l[i]=x at *
   have bG:=J (ar.new wr 66 x.cells);have en:=J (ae (ap.1.alloc (.cells x.cells 66)) (ae (ap.2.1.alloc ap.2.1.size (.cells x.cells 66)) (ap.2.2.alloc (.cells x.cells 66))));clear ap
   cases bQ:xp x
   ·have bs:Hid (j4 k (l.take (i+1)) s.uses=m):=by show _=_;rw [cC.out,bQ];simp
    go_wp2_with fail;refine (QW bQ _).mono ?_;rintro e vS ⟨rfl,hb⟩;have dh:=J (ae (en.1.below hb aF) (ae (en.2.1.trans (hb.mono en.2.1.size)) (en.2.2.bw hb)));clear hb en bQ cC;go_wp2_with fail
    go_roundw
    case rel=>exact ⟨i+1,m,br,a8,af,cm,bs.symm,rfl,dh.1,dh.2.1,dh.2.2⟩
    case measure=>exact c4
   ·obtain ⟨y,cJ⟩:∃ y,Hid (vN k x.aa s.uses=y):=⟨_,J rfl⟩
    have bs:Hid (j4 k (l.take (i+1)) s.uses=m++[y]):=by show _=_;rw [cC.out,bQ,<- cJ.out];simp
    go_wp2_with fail;refine (QW bQ _).mono ?_;rintro e vS ⟨rfl,hb⟩;have dh:=J (ae (en.1.below hb aF) (ae (en.2.1.trans (hb.mono en.2.1.size)) (en.2.2.bw hb)));have mj:=bG.bw hb;have dK:=mj.cell;have s0:=dh.2.2.cell;clear hb en bQ cC bG;go_wp2_with fail;refine (aaf su cJ _ (bx.below dh.2.1) hl aP oC).mono ?_;rintro e akk ⟨rfl,hb⟩;have iD:=J (ae (dh.1.below hb aF) (ae (dh.2.1.trans (hb.mono dh.2.1.size)) (dh.2.2.bw hb)));clear hb dh dK s0 mj
    go_wp2_with (at_builtin;refine Am aah AS rfl (.tmp 18) (.tmp 24) rfl y y.cells rfl w.heap.size _ m rfl iD.1 rfl av iD.2.1 af af iD.2.1.size ?_;intro b5 fP w3 ho hb az;have cD:=J (ae ho hb);have kQ:=J ((iD.2.2.alloc (.cells y.cells 306)).grown az (iD.1.fK iD.2.2 ak));clear ho hb az)
    go_roundw
    case rel=>exact ⟨i+1,m++[y],b5,fP,af,cm,bs.symm,av,wX cD.1,cD.2,kQ.out⟩
    case measure=>exact c4
  ·obtain rfl:i=l.length:=by omega
   have cg:decide ((l.length:Int)<(l.length:Int))=false:=av;rw [kn] at ag
   go_wp2_with fail;go_ret;exact ⟨br,a8,by rw [<- ag.out];rfl,by rw [<- ag.out];exact ap.1,ap.2.1⟩

theorem aab (k:Int) (hk:k=0\/k=1\/k=2) (l:List bj) (cL:List eb) (A:Option Addr) (c:Nat) (s:mz) (vT:j4 k l s.uses=cL) (w:World) (hr:a7 w jA s.A s.uses) (hl:s.uses.length<=100000) (hs:oR s.uses) (vP:a7 w cR A l) (qV:l.length<=100000) (hx:∀ x∈l,EH k x.aa s.uses) :
  Calls prog 200 #[.i k,.slice A l.length c,.agg s.cells] w (QV cL w):=by subst vT;exact aai k hk l A c s w hr hl hs vP qV hx
def mX (l:List eb) (M:eb):Prop:=M∈l/\∀ y∈l,l8 y M=false
theorem QN (x:eb):mX [x] x:=⟨av,fun y hy=>by have e:y=x:=(by simpa using hy);rw [e];exact Lc x⟩
theorem QO {l:List eb} {M x:eb} (h:mX l M) (hx:l8 x M=false):mX (l++[x]) M:=⟨by simp [h.1],fun y hy=>by
 rcases jl.1 hy with ah|ah
 ·exact h.2 y ah
 ·have e:y=x:=by simpa using ah
  rw [e];exact hx⟩
theorem Z2 {l:List eb} {M x:eb} (h:mX l M) (hx:l8 x M=true):mX (l++[x]) x:=⟨av,fun y hy=>by
 rcases jl.1 hy with ah|ah
 ·cases aw:l8 y x
  ·rfl
  ·have:=h.2 y ah
   rw [QL aw hx] at this;cases this
 ·have e:y=x:=by simpa using ah
  rw [e];exact Lc x⟩
def QP (l:List eb) (w:World) (e:Ending) (w':World):Prop:=∃ M:eb,mX l M/\e=.returned (.agg #[.i M.within,.i M.prio,.i M.eL,.string M.id])/\Below w.heap.size w w'
theorem Z3 {x y:eb} {n:Int} (hn:AU x y=n) (W:World):Calls prog 202 #[.agg #[.i x.within,.i x.prio,.i x.eL,.string x.id],.agg #[.i y.within,.i y.prio,.i y.eL,.string y.id]] W fun e w'=>e=.returned (.i n)/\Below W.heap.size W w':=by subst hn;exact ZT x y W
theorem a7.Le {w:World} {b off:Nat} {l:List eb} (h:a7 w AS (some ⟨b,off,none⟩) l) {i:Nat} {x:eb} (hx:l[i]? = some x) :
  w.cell? ⟨b,off+i*4,none⟩=some (.i x.within)/\w.cell? ⟨b,off+i*4+1,none⟩=some (.i x.prio)/\w.cell? ⟨b,off+i*4+2,none⟩=some (.i x.eL)/\w.cell? ⟨b,off+i*4+3,none⟩=some (.string x.id):=by
 obtain ⟨hi,rfl⟩:=jv.1 hx;obtain ⟨cY,aS,e,_,hc⟩:=h.Lb hi;injection e with e
 injection e with aV bE
 subst aV;subst bE;exact hc
theorem Z4 (l:List eb) (A:Option Addr) (c:Nat) (w:World) (hr:a7 w AS A l) (bW:0<l.length) (hl:l.length<=100000) :
  Calls prog 201 #[.slice A l.length c,.func (.func 202) #[] #[]] w (QP l w):=by
 have mixed:prog.follows Departure.mixedOrders=true:=ai;obtain ⟨eQ,pE,hA,yD,d0,d1,d2,d3⟩:=hr.Lb bW;have gD:=J (((aO w.heap.size w).alloc aF (.cells #[.i 0,.i 0,.i 0,.string ⟨#[]⟩] 306)).alloc av (.cells (l[0]'bW).cells 306));have cq:=J ((ar.new w 306 #[.i 0,.i 0,.i 0,.string ⟨#[]⟩]).alloc (.cells (l[0]'bW).cells 306));have hx:=ar.new (w.alloc (.cells #[.i 0,.i 0,.i 0,.string ⟨#[]⟩] 306)) 306 (l[0]'bW).cells;have kr:(w.alloc (.cells #[.i 0,.i 0,.i 0,.string ⟨#[]⟩] 306)).heap.size=w.heap.size+1:=av;rw [kr] at hx
 have AW:=J hx;have bx:=J hr;have vO:Hid (mX (l.take 1) (l[0]'bW)):=by
  have:l.take 1 = [l[0]'bW]:=by rw [gS bW];rfl
  show mX _ _
  rw [this];exact QN _
 have Z5:(0:Int)<(l.length:Int):=af;have Z6:decide ((l.length:Int)<1)=false:=cX af;subst hA;clear hr kr hx;obtain ⟨dK,yR⟩:∃ dK,dK=l[0]'bW:=⟨_,rfl⟩
 rw [<- yR] at gD cq AW vO d0 d1 d2 d3
 clear yR;have iz:∀ t,pE+0*4+t=pE+t:=fun t=>af
 rw [iz] at d1 d2 d3
 have aV:pE+0*4=pE:=af;rw [aV] at d0
 clear iz aV
 go_enter func201,ntmps201
 go_wp2_with fail;clear d0 d1 d2 d3
 go_loopw [6] (fun ii wr=>∃ (n:Nat) (M:eb),1<=n/\n<=l.length/\ii=.i n/\mX (l.take n) M/\ar wr (w.heap.size+1) 306 M.cells/\ar wr w.heap.size 306 #[.i 0,.i 0,.i 0,.string ⟨#[]⟩]/\Below w.heap.size w wr) (fun ii _=>l.length-(intOf ii).toNat)
 case atStart=>exact ⟨1,dK,af,af,rfl,vO.out,AW.out,cq.out,gD.out⟩
 case round =>
  clear vO AW cq gD;obtain ⟨n,M,h1,hn,rfl,oJ,QQ,QR,bM⟩:=hrel;have ag:=J oJ;have ap:=J (ae QQ (ae QR bM));clear oJ QQ QR bM
  by_cases aT:n<l.length
  ·obtain ⟨b0,off,yt,ff,bt,c1,c2,c3⟩:=(bx.below ap.2.2).Lb aT
   obtain ⟨rfl,rfl⟩:eQ=b0/\pE=off:=by injection yt with h;injection h with h1 ah;exact ⟨h1,ah⟩
   clear yt;have cg:decide ((n:Int)<(l.length:Int))=true:=bO af;have lG:(n:Int)<(l.length:Int):=af;have cC:=J (show l.take (n+1)=l.take n++[l[n]] from gS aT);have Lf:=J (dF aT);generalize l[n]=x at *
   clear bt c1 c2 c3;obtain ⟨bt,c1,c2,c3⟩:=(bx.below ap.2.2).Le Lf.out;obtain ⟨z,cq⟩:∃ z,Hid (AU x M=z):=⟨_,J rfl⟩
   have m0:=ap.1.cell 0;have m1:=ap.1.cell 1;have m2:=ap.1.cell 2;have m3:=ap.1.cell 3;simp only [s8,yQ,yC] at m0 m1 m2 m3
   have Ht:Hid (l8 x M=decide (z<0)):=by show _=_;rw [<- ZO,<- cq.out];rfl
   have ao:=J ap.2.2.drew;have tP:=J (ae ap.1.drew ap.2.1.drew);go_wp2_with fail
   go_region_held3 (fun w'=>w'.cell? ⟨w.heap.size+1,0,none⟩=some (.i M.within)/\w'.cell? ⟨w.heap.size+1,1,none⟩=some (.i M.prio)/\w'.cell? ⟨w.heap.size+1,2,none⟩=some (.i M.eL)/\w'.cell? ⟨w.heap.size+1,3,none⟩=some (.string M.id)/\w'.cell? ⟨eQ,pE+n*4,none⟩=some (.i x.within)/\w'.cell? ⟨eQ,pE+n*4+1,none⟩=some (.i x.prio)/\w'.cell? ⟨eQ,pE+n*4+2,none⟩=some (.i x.eL)/\w'.cell? ⟨eQ,pE+n*4+3,none⟩=some (.string x.id)) (first|exact ⟨m0,m1,m2,m3,bt,c1,c2,c3⟩|exact ae (tP.out.1.cell 0) (ae (tP.out.1.cell 1) (ae (tP.out.1.cell 2) (ae (tP.out.1.cell 3) ((bx.out.below ao.out).Le Lf.out)))))
    (first
     | (go_at_call 202;refine (Z3 cq _).mono ?_;rintro e v1 ⟨rfl,hb⟩;have ao:=J (ao.trans (hb.mono ao.size));have tP:=J (ae (tP.1.bw hb) (tP.2.bw hb));clear hb))
   all_goals
    clear m0 m1 m2 m3 bt c1 c2 c3 ap
    by_cases bI:z<0
    ·have AX:decide (z<0)=true:=bO bI
     have Lg:Hid (mX (l.take (n+1)) x):=by show mX _ _;rw [cC.out];exact Z2 ag.out (by rw [Ht.out];exact AX)
     clear ag cC Ht cq;obtain ⟨bt,c1,c2,c3⟩:=(bx.below ao).Le Lf.out
     go_wp2_with (refine ch rfl 306 (.tmp 5) (.tmp 31) rfl (w.heap.size+1) 306 M.cells x.cells rfl rfl tP.1 rfl yN (yO _) ?_;intro bc bS bP dx)
     have Z7:=tP.2.grown bP (by intro e;injection e with e;omega);have dI:=ao.grown bP ao.size dP
     go_roundw
     case rel=>exact ⟨n+1,x,af,af,cm,Lg.out,bS,Z7,dI⟩
     case measure=>exact c4
    ·have AX:decide (z<0)=false:=cX bI
     have vy:0<=z:=af;have Lg:Hid (mX (l.take (n+1)) M):=by show mX _ _;rw [cC.out];exact QO ag.out (by rw [Ht.out];exact AX)
     clear ag cC Ht cq;go_wp2_with fail
     go_roundw
     case rel=>exact ⟨n+1,M,af,af,cm,Lg.out,tP.1,tP.2,ao.out⟩
     case measure=>exact c4
  ·obtain rfl:n=l.length:=by omega
   have cg:decide ((l.length:Int)<(l.length:Int))=false:=av;rw [kn] at ag
   have m0:=ap.1.cell
   go_wp2_with (refine ch rfl 306 (.tmp 4) (.tmp 32) rfl w.heap.size 306 #[.i 0,.i 0,.i 0,.string ⟨#[]⟩] M.cells rfl rfl ap.2.1 rfl yN (yO _) ?_;intro bc bS bP dx)
   have dn:=bS.cell;exact cS (v:=.agg M.cells) (by simp [results,results201,go_sem,dn]) rfl ⟨M,ag.out,rfl,ap.2.2.grown bP ap.2.2.size dP⟩
theorem Z8 (dK c8 dT hj:Value) (w:World):(Instr.field 306 (.agg #[dK,c8,dT,hj]) 3).run prog w=.ok hj w:=ai
inductive EG (cL:List eb):ByteArray->Bool->Prop where
 | none:cL = []->EG cL ⟨#[]⟩ false
 | some (M:eb):mX cL M->EG cL M.id true
def Z9 (cL:List eb) (w:World) (e:Ending) (w':World):Prop:=∃ s b,EG cL s b/\e=.returned (.tuple #[.string s,.bool b])/\Below w.heap.size w w'
theorem Z' (l:List eb) (A:Option Addr) (c:Nat) (w:World) (hr:a7 w AS A l) (bW:l≠[]) (hl:l.length<=100000) :
  Calls prog 201 #[.slice A l.length c,.func (.func 202) #[] #[]] w (QP l w):=Z4 l A c w hr (DZ.2 bW) hl
theorem Lh (k:Int) (hk:k=0\/k=1\/k=2) (l:List bj) (A:Option Addr) (c:Nat) (s:mz) (w:World) (hr:a7 w jA s.A s.uses) (hl:s.uses.length<=100000) (hs:oR s.uses) (vP:a7 w cR A l) (qV:l.length<=100000) (hx:∀ x∈l,EH k x.aa s.uses) :
  Calls prog 148 #[.i k,.slice A l.length c,.agg s.cells] w (Z9 (j4 k l s.uses) w):=by
 have vQ:=QS k l s.uses;obtain ⟨cL,vR⟩:∃ cL,Hid (j4 k l s.uses=cL):=⟨_,J rfl⟩
 rw [vR.out] at vQ
 have aaa:cL.length<=100000:=af;clear vQ;have gD:=J ((aO w.heap.size w).alloc aF (.cells s.cells 136));have cs:=(ar.new w 136 s.cells).cell;have aq:=J (aab k hk l cL A c s vR _ (hr.below gD) hl hs (vP.below gD) qV hx);rw [vR.out];clear hr vP hs hx hk vR
 go_enter func148,ntmps148
 go_wp2_with fail;refine aq.mono ?_;rintro e aC ⟨bz,c1,rfl,hO,bM⟩;have en:=J (ae hO.cZ (gD.trans (bM.mono av)));clear hO bM aq cs gD
 by_cases hn:cL = []
 ·subst hn
  have AX:(((([]:List eb).length:Nat):Int)==0)=true:=rfl;go_wp2_with fail;exact cS (v:=.tuple #[.string ⟨#[]⟩,.bool false]) (by simp [results,results148,go_sem]) rfl ⟨_,_,.none rfl,rfl,en.2⟩
 ·have AX:((cL.length:Int)==0)=false:=ji.2 (by have:=DZ.2 hn;omega)
  have aki:¬ cL.length=0:=by have:=DZ.2 hn;omega
  have py:=J hn;clear hn;go_wp2_with fail;refine (Z' cL bz c1 _ en.1 py aaa).mono ?_;rintro e aM ⟨M,oJ,rfl,hb⟩;have dh:=J (ae oJ (en.2.trans (hb.mono en.2.size)));clear oJ hb en;have akj:=Z8 (.i M.within) (.i M.prio) (.i M.eL) (.string M.id) aM;go_wp2_with fail;exact cS (v:=.tuple #[.string M.id,.bool true]) (by simp [results,results148,go_sem]) rfl ⟨_,_,.some M dh.1,rfl,dh.2⟩
def oq (l:List cv) (i:Nat) (x:cv):List cv:=l.take i++x :: l.drop i
theorem Mr (l:List cv) (i:Nat) (x:cv) (hi:i<=l.length):(oq l i x).length=l.length+1:=by unfold oq;simp;omega
def Dv (l:List cv) (i:Nat) (x:cv) (A:Option Addr) (c base:Nat) (w:World) (e:Ending) (w':World):Prop :=
 ∃ br a8,e=.returned (.slice br (l.length+1) a8)/\Own w' base 75 cK (.slice br (l.length+1) a8) (oq l i x)/\w.grownBy w' (Value.slice A l.length c).ownBlock/\∀ k,(Value.slice br (l.length+1) a8).ownBlock=some k->(Value.slice A l.length c).ownBlock=some k\/w.heap.size<=k
theorem SQ (l:List cv) (i:Nat) (x:cv):cK.all (oq l i x)=cK.all (l.take i)++cK.enc x++cK.all (l.drop i):=by
 unfold oq;rw [cK.all_append,cK.all_cons,mq]
theorem adk:∀ v∈(Value.agg #[.string ⟨#[]⟩,.i 0,.i 0,.i 0]).cells.toList,v.oneCell'=true:=by
 intro v hv;have:(Value.agg #[.string ⟨#[]⟩,.i 0,.i 0,.i 0]).cells=#[.string ⟨#[]⟩,.i 0,.i 0,.i 0]:=rfl;rw [this] at hv
 simp at hv
 rcases hv with h|h <;> subst h <;> rfl
theorem Mq:∃ i0,prog.info? 75=some i0/\i0.zero=some (.agg #[.string ⟨#[]⟩,.i 0,.i 0,.i 0])/\i0.size=4/\i0.bytes=40 :=
 info_parts (show (prog.info? 75).map (fun i=>(i.zero,i.size,i.bytes))=some (some (.agg #[.string ⟨#[]⟩,.i 0,.i 0,.i 0]),4,40) by kernel_rfl)
section
variable {l:List cv} {i:Nat} {x:cv} {A:Option Addr} {c base vb:Nat} {w:World}
theorem adm (hown:Own w base 75 cK (.slice A l.length c) l) (hv:ar w vb 75 x.cells) (hbase:base<=w.heap.size) (hl:l.length<=100000) :
  Calls prog 204 #[.slice A l.length c,.i l.length,.slice (some ⟨vb,0,none⟩) 1 1] w (Dv l l.length x A c base w):=by
 have jO:=hown.cap;have yi:a7 w cK (some ⟨vb,0,none⟩) [x]:=fun _=>⟨vb,0,rfl,hv.lt,fun j u hu=>by
  rw [fw,hv.cell];rw [cu.D2] at hu
  simpa [cK] using hu⟩
 have bJ:=J (ae hown yi);have hle:l.length<=c:=jO.2.1;have Av:c<=9223372036854775807:=jO.2.2;clear jO hown yi hv;have d1:((l.length:Int)==(l.length:Int))=true:=av;have bC:Hid (l++[x]=oq l l.length x):=by show _=_;unfold oq;simp
 by_cases hce:c=l.length
 ·subst hce
  go_enter func204,ntmps204
  go_wp2_with (at_builtin;refine hW G1 cK rfl (.tmp 23) (.tmp 24) rfl base _ l rfl bJ.1 _ [x] 1 rfl bJ.2 (by simp;omega) (by simp;omega) hbase ?_;intro b5 fP w3 eX eF ot;have cD:=J (ae eX (ae eF ot));clear eX eF ot)
  go_ret;exact ⟨b5,fP,rfl,by rw [<- bC.out];exact cD.1,cD.2.1,fun k hk=>by
   rcases cD.2.2 with e|e
   ·exact .inl (e ▸ hk)
   ·exact .inr (by have:=e.symm.trans hk;injection this with this;omega)⟩
 ·have xc:l.length<c:=by omega
  go_enter func204,ntmps204
  go_wp2_with (at_builtin;refine hW G1 cK rfl (.tmp 23) (.tmp 24) rfl base _ l rfl bJ.1 _ [x] 1 rfl bJ.2 (by simp;omega) (by simp;omega) hbase ?_;intro b5 fP w3 eX eF ot;have cD:=J (ae eX (ae eF ot));clear eX eF ot)
  go_ret;exact ⟨b5,fP,rfl,by rw [<- bC.out];exact cD.1,cD.2.1,fun k hk=>by
   rcases cD.2.2 with e|e
   ·exact .inl (e ▸ hk)
   ·exact .inr (by have:=e.symm.trans hk;injection this with this;omega)⟩
theorem adn (hown:Own w base 75 cK (.slice A l.length l.length) l) (hv:ar w vb 75 x.cells) (hbase:base<=w.heap.size) (hl:l.length<=100000) (hi:i<l.length) :
  Calls prog 204 #[.slice A l.length l.length,.i i,.slice (some ⟨vb,0,none⟩) 1 1] w (Dv l i x A l.length base w):=by
 have bW:l≠[]:=by intro e;subst e;simp at hi
 obtain ⟨g,hA,iy⟩:=CF hown bW;subst hA;have D':=(hown.iw g rfl).2;obtain ⟨n,hn⟩:∃ n,n=l.length:=⟨_,rfl⟩
 have fX:=yg hown;unfold Dv;rw [<- hn] at hown hi hl ⊢
 obtain ⟨i0,i',iP,hN,kP⟩:=Mq;have p5:=hv.cell;have pq:=hv.lt;have fM:(cK.all (l.take i)).length=i*4:=by rw [cK.h3,fv];omega
 have dH:(cK.all (l.drop i)).length=(n-i)*4:=by rw [cK.h3,rV];omega
 have fy:x.cells.toList.length=4:=rfl;have r0:i+(n+1-i)=n+1:=af;have nV:(n:Int)+1-(i:Int)=((n+1-i:Nat):Int):=af;have hold:(Builtin.firstCells i0.size i (.slice (some ⟨g,0,none⟩) i n)).run prog w.drew=.ok (cK.all (l.take i)).toArray w.drew:=by
  rw [hN];refine run_firstCells_some w.drew 4 i ⟨g,0,none⟩ i n (cK.all (l.take i)) fM (fun j v aD=>?_);rw [ko,fw];rw [cK.xb l i af,GM] at aD
  split at aD
  ·exact fX j v aD
  ·cases aD
 have p6:(Builtin.append_ #[70,3] 70 #[.slice (some ⟨g,0,none⟩) i n,.i ((n:Int)+1-(i:Int))]).run prog w =
   .ok (.slice (some ⟨w.heap.size,0,none⟩) (n+1) (grownCap w (n+1) n 75)) (w.drew.alloc (.cells ((cK.all (l.take i)).toArray++Builtin.zeroCells (Value.agg #[.string ⟨#[]⟩,.i 0,.i 0,.i 0]).cells (n+1-i)++Builtin.zeroCells (Value.agg #[.string ⟨#[]⟩,.i 0,.i 0,.i 0]).cells (grownCap w (n+1) n 75-(n+1))) 75)):=by
  have h:=Lib.run_append_grow_zeros w 70 3 70 75 i0 _ .i64 .i64 underlying70 underlying3 i' iP (some ⟨g,0,none⟩) i n (cK.all (l.take i)) hold (n+1-i) af af af af (by rw [kP];omega) (by rw [kP,r0];exact growslice_fits af af);rw [r0] at h
  rw [nV];exact h
 have Pf:=grownCap_ge w (n+1) n 75;have yj:=GN w (n+1) n 75 (by unfold maxLen;omega);generalize grownCap w (n+1) n 75=G at *
 obtain ⟨cur,ik⟩:∃ cur:List Value,cur=cK.all (l.take i)++(Builtin.zeroCells (Value.agg #[.string ⟨#[]⟩,.i 0,.i 0,.i 0]).cells (n+1-i)).toList++(Builtin.zeroCells (Value.agg #[.string ⟨#[]⟩,.i 0,.i 0,.i 0]).cells (G-(n+1))).toList:=⟨_,rfl⟩
 have p7:(cK.all (l.take i)).toArray++Builtin.zeroCells (Value.agg #[.string ⟨#[]⟩,.i 0,.i 0,.i 0]).cells (n+1-i)++Builtin.zeroCells (Value.agg #[.string ⟨#[]⟩,.i 0,.i 0,.i 0]).cells (G-(n+1))=cur.toArray:=by
  rw [ik];simp
 rw [p7] at p6
 have bZ:cur.length=G*4:=by
  have mR:(Value.agg #[.string ⟨#[]⟩,.i 0,.i 0,.i 0]).cells.size=4:=rfl;rw [ik,cd,cd,fM,mm,mm,w9,w9,mR];omega
 have lh:cur.take (i*4)=cK.all (l.take i):=by
  rw [ik,mq];exact rU fM
 clear p7 ik hold;have nS:G<=9223372036854775807:=by simpa only [maxLen] using yj
 have iB:ar (w.drew.alloc (.cells cur.toArray 75)) w.heap.size 75 cur.toArray:=ar.new w.drew _ _;have bV:Below w.heap.size w (w.drew.alloc (.cells cur.toArray 75)):=((aO _ _).drew).alloc aF _;obtain ⟨tq,yk⟩:∃ tq,tq=w.drew.alloc (.cells cur.toArray 75):=⟨_,rfl⟩
 rw [<- yk] at p6 iB bV
 clear yk;have cH:(prog.info? 75).map (·.size)=some 4:=by rw [i'];simp [hN]
 obtain ⟨eJ,hA,h4,fQ,fY⟩:=rX tq 70 70 3 75 75 4 w.heap.size (i*4) (n+1-i) (G-i) ⟨vb,0,none⟩ 1 1 1 cur x.cells.toList iB (by rw [fy,bZ];omega) underlying70 cH (by simp only [r3];split <;> omega) rfl
  (fun j v aD=>by rw [ko,fw,(nw bV).1 vb j pq,p5];simpa using aD) (fun v hv=>cK.one x v hv)
 have bY:Below w.heap.size w eJ:=bV.grown fQ bV.size (fun k hk=>by injection hk with hk;omega);obtain ⟨gU,lj,li,er,kQ⟩:=rX eJ.drew 70 70 3 75 75 4 w.heap.size ((i+1)*4) (n+1-(i+1)) (G-(i+1)) ⟨g,i*4,none⟩ (n-i) (n-i) (n-i) _ (cK.all (l.drop i)) h4.drew (by rw [jN _ _ _ (by rw [fy,bZ];omega),dH,bZ];omega) underlying70 cH (by simp only [r3];split <;> omega) dH
  (fun j v aD=>by
   rw [ko]
   show eJ.cell? _=_
   rw [(nw bY).1 g _ D'];rw [yh cK l i j af] at aD
   exact fX _ v aD) (cK.s3 _)
 have bu:Below w.heap.size w gU:=(bY.drew).grown er bY.size (fun k hk=>by injection hk with hk;omega);have ap:Hid (Own gU base 75 cK (.slice (some ⟨w.heap.size,0,none⟩) (n+1) G) (oq l i x)/\Below w.heap.size w gU):=by
  refine ⟨?_,bu⟩;have fC:=Mr l i x af;rw [<- hn] at fC
  rw [<- fC];refine ⟨cK.h3 _,.inr ⟨w.heap.size,G,_,rfl,hbase,li,af,yj,?_,?_⟩⟩
  ·rw [pp,jN,jN,bZ]
   ·rw [fy,bZ];omega
   ·rw [jN _ _ _ (by rw [fy,bZ];omega),dH,bZ];omega
  ·have ah:=Ke cur x.cells.toList (cK.all (l.drop i)) (i*4) (by rw [fy,dH,bZ];omega)
   rw [fy,dH] at ah
   rw [SQ l i x,fC];rw [show (i+1)*4=i*4+4 from af,fy,dH,show (n+1)*4=i*4+4+(n-i)*4 from af];exact ah.trans (by rw [lh];rfl)
 have dC:=J hA;have tr:=J lj;have Ea:=J p6;have vy:((i:Int)==(n:Int))=false:=ji.2 af;have mR:decide ((n:Int)<(n:Int)+1)=true:=bO af;have xd:(n:Int)<(n:Int)+1:=af;have r4:IntKind.i64.wrap ((n:Int)+1)=(n:Int)+1:=by rw [mS];omega
 have cU:IntKind.i64.wrap ((i:Int)+1)=(i:Int)+1:=by rw [mS];omega
 have iA:(0:Int)<=(i:Int)+1:=af;have Ax:((i:Int)+1).toNat=i+1:=af;have Pg:¬ (n=i):=af;have Ph:¬ (G=i):=af;have Pj:¬ (G=i+1):=af;have vz:i<=n:=af;have Eb:(i:Int)<=(n:Int):=af;clear fX p5 pq fM dH fy r0 nV i' iP hN kP p6 hA lj iB h4 li fQ er fY kQ bV bY bu lh bZ cH hn hown hv
 go_enter func204,ntmps204
 go_wp2_with (first
  | (at_builtin;refine Kj rfl (.tmp 34) (.tmp 39) 70 3 rfl _ _ rfl rfl Ea ?_)
  | (refine CA rfl (.tmp 43) (.tmp 44) 70 70 rfl _ _ rfl rfl dC.out ?_))
 have mixed:prog.follows Departure.mixedOrders=true:=ai
 go_region_law_o (refine CB rfl (.tmp 50) (.tmp 53) 70 70 rfl _ _ (by simp [Act.eval,Act.put]) (by simp [Act.eval,Act.put]) tr.out ?_)
 go_wp2_with fail;go_ret;exact ⟨_,_,rfl,ap.1,Ku ap.2 _,fun k hk=>.inr (by have oI:some w.heap.size=some k:=hk;injection oI with oI;omega)⟩
theorem ado (hown:Own w base 75 cK (.slice A l.length c) l) (hv:ar w vb 75 x.cells) (tu:some vb≠(Value.slice A l.length c).ownBlock) (hl:l.length<=100000) (hi:i<l.length) (hc:l.length<c) :
  Calls prog 204 #[.slice A l.length c,.i i,.slice (some ⟨vb,0,none⟩) 1 1] w (Dv l i x A c base w):=by
 have bW:l≠[]:=by intro e;subst e;simp at hi
 obtain ⟨g,cap,p4,hval,iy,az,xa,nS,hcs,kO⟩:=th hown bW;injection hval with hA _ jO
 subst hA;subst jO;have yl:vb≠g:=fun e=>tu (by rw [e];rfl)
 have fX:=yg hown;obtain ⟨n,hn⟩:∃ n,n=l.length:=⟨_,rfl⟩
 unfold Dv;rw [<- hn] at hown hi hl hc xa kO ⊢
 obtain ⟨cur,ik⟩:∃ cur:List Value,cur=p4.toList:=⟨_,rfl⟩
 have oH:p4=cur.toArray:=by rw [ik]
 rw [oH] at az hcs
 rw [<- ik] at kO
 have bZ:cur.length=c*4:=by simpa using hcs
 clear oH ik hcs;obtain ⟨i0,i',iP,hN,kP⟩:=Mq;have p5:=hv.cell;have pq:=hv.lt;have dH:(cK.all (l.drop i)).length=(n-i)*4:=by rw [cK.h3,rV];omega
 have fy:x.cells.toList.length=4:=rfl;have lh:cur.take (i*4)=cK.all (l.take i):=by
  rw [cK.xb l i af,<- kO,vu,oF af]
 have Av:c<=9223372036854775807:=by simpa only [maxLen] using nS
 have cH:(prog.info? 75).map (·.size)=some 4:=by rw [i'];simp [hN]
 have ym:∀ j0 hq,(callFunc 257 #[.slice (some ⟨vb,0,none⟩) 1 1,.slice (some ⟨g,(i+1)*4,none⟩) j0 hq]).run prog w=.ok (.value (.bool false)) w:=fun j0 hq=>by
  rw [run_callFunc_extern func257 ai ai ai (e:=Extern.SlicesOverlaps.overlaps #[70,70] #[4]) ai,
   Lib.run_overlaps_apart w 70 4 75 underlying70 4 (fun w=>by simp [sizeOf,typeInfo,i',hN]) ⟨vb,0,none⟩ ⟨g,(i+1)*4,none⟩ 1 1 j0 hq yl _ _ _ _ (CG hv) (CG az) (by rw [pp,bZ];omega) (hv.frozen 0) (hv.frozen _)]
  rfl
 obtain ⟨eJ,hA,h4,fQ,fY⟩:=rX w.drew 70 70 3 75 75 4 g ((i+1)*4) (n+1-(i+1)) (c-(i+1)) ⟨g,i*4,none⟩ (n+1-i) (c-i) (n-i) cur (cK.all (l.drop i)) az.drew (by rw [dH,bZ];omega) underlying70 cH (by simp only [r3];split <;> omega) dH
  (fun j v aD=>by
   rw [ko]
   show w.cell? _=_
   rw [yh cK l i j af] at aD
   exact fX _ v aD) (cK.s3 _)
 obtain ⟨gU,lj,li,er,kQ⟩:=rX eJ 70 70 3 75 75 4 g (i*4) (n+1-i) (c-i) ⟨vb,0,none⟩ 1 1 1 _ x.cells.toList h4 (by rw [jN _ _ _ (by rw [dH,bZ];omega),fy,bZ];omega) underlying70 cH (by simp only [r3];split <;> omega) rfl
  (fun j v aD=>by
   rw [ko,fw,(hv.drew.grown fQ (by intro e;injection e with e;exact yl e)).cell]
   simpa using aD) (fun v hv=>cK.one x v hv)
 have fL:w.grownBy gU (some g):=⟨er.os.trans fQ.os,er.tape.trans fQ.tape,er.output.trans fQ.output,by rw [kQ,fY];exact e3 _,fun k hk bW=>(er.block k (by rw [fY];exact hk) bW).trans (fQ.block k hk bW)⟩
 have ap:Hid (Own gU base 75 cK (.slice (some ⟨g,0,none⟩) (n+1) c) (oq l i x)/\w.grownBy gU (some g)):=by
  refine ⟨?_,fL⟩;have fC:=Mr l i x af;rw [<- hn] at fC
  rw [<- fC];refine ⟨cK.h3 _,.inr ⟨g,c,_,rfl,iy,li,af,nS,?_,?_⟩⟩
  ·rw [pp,jN,jN,bZ]
   ·rw [dH,bZ];omega
   ·rw [jN _ _ _ (by rw [dH,bZ];omega),fy,bZ];omega
  ·have ah:=Kf cur x.cells.toList (cK.all (l.drop i)) (i*4) (by rw [fy,dH,bZ];omega)
   rw [lh,fy,dH] at ah
   rw [SQ l i x,fC];rw [show (i+1)*4=i*4+4 from af,fy,dH,show (n+1)*4=i*4+4+(n-i)*4 from af];exact ah
 have dC:=J hA;have tr:=J lj;have Ec:=J ym;have vy:((i:Int)==(n:Int))=false:=ji.2 af;have mR:decide ((c:Int)<(n:Int)+1)=false:=cX af;have xd:(n:Int)+1<=(c:Int):=af;have r4:IntKind.i64.wrap ((n:Int)+1)=(n:Int)+1:=by rw [mS];omega
 have cU:IntKind.i64.wrap ((i:Int)+1)=(i:Int)+1:=by rw [mS];omega
 have iA:(0:Int)<=(i:Int)+1:=af;have dI:(0:Int)<=(n:Int)+1:=af;have Ax:((i:Int)+1).toNat=i+1:=af;have Pk:((n:Int)+1).toNat=n+1:=af;have yn:¬ (c=i):=af;have Pl:¬ (c=i+1):=af;have vz:i<=n:=af;have Eb:(i:Int)<=(n:Int):=af;have Pm:(i:Int)<=(n:Int)+1:=af;clear fX p5 pq dH fy i' iP hN kP hA lj az h4 li fQ er fY kQ fL lh bZ cH hn hown hv ym kO
 go_enter func204,ntmps204
 go_wp2_with (simp only [Ec.out])
 have mixed:prog.follows Departure.mixedOrders=true:=ai
 go_region_law_o (refine CB rfl (.tmp 73) (.tmp 76) 70 70 rfl _ _ (by simp [Act.eval,Act.put]) (by simp [Act.eval,Act.put]) dC.out ?_)
 go_wp2_with (refine CA rfl (.tmp 80) (.tmp 81) 70 70 rfl _ _ rfl rfl tr.out ?_)
 go_ret;exact ⟨_,_,rfl,ap.1,ap.2,fun k hk=>.inl hk⟩
theorem adp (hown:Own w base 75 cK (.slice A l.length c) l) (hv:ar w vb 75 x.cells) (tu:some vb≠(Value.slice A l.length c).ownBlock) (hbase:base<=w.heap.size) (hl:l.length<=100000) (hi:i<=l.length) :
  Calls prog 204 #[.slice A l.length c,.i i,.slice (some ⟨vb,0,none⟩) 1 1] w (Dv l i x A c base w):=by
 rcases gB i l.length with h|h
 ·rcases gB l.length c with ah|ah
  ·exact ado hown hv tu hl h ah
  ·have:=hown.cap.2.1
   obtain rfl:c=l.length:=af;exact adn hown hv hbase hl h
 ·obtain rfl:i=l.length:=by omega
  exact adm hown hv hbase hl
end
def rv (l:List cv) (i:Nat):List cv:=l.take i++l.drop (i+1)
theorem SN (l:List cv) (i:Nat) (hi:i<l.length):(rv l i).length=l.length-1:=by unfold rv;simp;omega
def SP (l:List cv) (i:Nat) (A:Option Addr) (c base:Nat) (w:World) (e:Ending) (w':World):Prop :=
 ∃ br a8,e=.returned (.slice br (l.length-1) a8)/\Own w' base 75 cK (.slice br (l.length-1) a8) (rv l i)/\w.grownBy w' (Value.slice A l.length c).ownBlock/\∀ k,(Value.slice br (l.length-1) a8).ownBlock=some k->(Value.slice A l.length c).ownBlock=some k
section
variable {l:List cv} {i:Nat} {A:Option Addr} {c base:Nat} {w:World}
theorem adj (hown:Own w base 75 cK (.slice A l.length c) l) (hl:l.length<=100000) (hi:i<l.length) :
  Calls prog 249 #[.slice A l.length c,.i i,.i ((i:Int)+1)] w (SP l i A c base w):=by
 have bW:l≠[]:=by intro e;subst e;simp at hi
 obtain ⟨g,cap,p4,hval,iy,az,xa,nS,hcs,kO⟩:=th hown bW;injection hval with hA _ jO
 subst hA;subst jO;have fX:=yg hown;obtain ⟨n,hn⟩:∃ n,n=l.length:=⟨_,rfl⟩
 unfold SP;rw [<- hn] at hown hi hl xa kO ⊢
 obtain ⟨cur,ik⟩:∃ cur:List Value,cur=p4.toList:=⟨_,rfl⟩
 have oH:p4=cur.toArray:=by rw [ik]
 rw [oH] at az hcs
 rw [<- ik] at kO
 have bZ:cur.length=c*4:=by simpa using hcs
 clear oH ik hcs;obtain ⟨i0,i',iP,hN,kP⟩:=Mq;have dH:(cK.all (l.drop (i+1))).length=(n-(i+1))*4:=by rw [cK.h3,rV];omega
 have lh:cur.take (i*4)=cK.all (l.take i):=by
  rw [cK.xb l i af,<- kO,vu,oF af]
 have Av:c<=9223372036854775807:=by simpa only [maxLen] using nS
 obtain ⟨h4,fQ,fY⟩:=rS g 75 (cK.all (l.drop (i+1))) (i*4) w.drew cur (by rw [dH,bZ];omega) az.drew;have mR:(Value.agg #[.string ⟨#[]⟩,.i 0,.i 0,.i 0]).cells.size=4:=rfl;have hcut:(cur.take (i*4)++cK.all (l.drop (i+1))++cur.drop (i*4+(cK.all (l.drop (i+1))).length)).length=c*4:=by rw [jN _ _ _ (by rw [dH,bZ];omega),bZ]
 obtain ⟨eJ,Aw⟩:∃ eJ,eJ=w.drew.setCells g (i*4) (cK.all (l.drop (i+1))):=⟨_,rfl⟩
 rw [<- Aw] at h4 fQ fY
 obtain ⟨gU,zs,hC,tj,li,er,kQ⟩:=O' (P:=prog) eJ 70 0 75 75 i0 _ underlying70 i' iP adk (by rw [mR];omega) g ((n-1)*4) 1 (c-(n-1)) af _ h4 (by rw [hcut,mR];omega);have fL:w.grownBy gU (some g):=⟨er.os.trans fQ.os,er.tape.trans fQ.tape,er.output.trans fQ.output,by rw [kQ,fY];exact e3 _,fun k hk bW=>(er.block k (by rw [fY];exact hk) bW).trans (fQ.block k hk bW)⟩
 have gj:(Builtin.append_ #[70,70] 70 #[.slice (some ⟨g,0,none⟩) i c,.slice (if c=i+1 then some ⟨g,0,none⟩ else some ⟨g,(i+1)*4,none⟩) (n-(i+1)) (c-(i+1))]).run prog w.drew=.ok (.slice (some ⟨g,0,none⟩) (n-1) c) eJ:=by
  have Kp:i+(n-(i+1))=n-1:=af;have key:∀ (ad:Addr),(∀ j v,(cK.all (l.drop (i+1)))[j]? = some v->w.drew.cell? (ad.add j)=some v)->(Builtin.append_ #[70,70] 70 #[.slice (some ⟨g,0,none⟩) i c,.slice (some ad) (n-(i+1)) (c-(i+1))]).run prog w.drew=.ok (.slice (some ⟨g,0,none⟩) (n-1) c) eJ:=fun ad Kq=>by
   have h:=run_append_room_cells (P:=prog) w.drew 70 70 75 i0 underlying70 i' g 0 i c ad (n-(i+1)) (c-(i+1)) (cK.all (l.drop (i+1))) (by rw [dH,hN]) Kq (cK.s3 _) af
    (fun j aD=>by
     rw [dH] at aD
     rw [az.drew.cell,s8,hN,dF af];simp) (fun j _=>az.drew.frozen _)
   rw [Kp,hN,fw,<- Aw] at h
   exact h
  split
  ·refine key _ fun j v aD=>?_
   have:(cK.all (l.drop (i+1))).length=0:=by rw [dH,show n-(i+1)=0 from af]
   have:=(jv.1 aD).1;omega
  ·refine key _ fun j v aD=>?_
   rw [ko]
   show w.cell? _=_
   rw [yh cK l (i+1) j af] at aD
   exact fX _ v aD
 have ap:Hid (Own gU base 75 cK (.slice (some ⟨g,0,none⟩) (n-1) c) (rv l i)/\w.grownBy gU (some g)):=by
  refine ⟨?_,fL⟩;have fC:=SN l i af;rw [<- hn] at fC
  rw [<- fC];refine ⟨cK.h3 _,.inr ⟨g,c,_,rfl,iy,li,af,nS,?_,?_⟩⟩
  ·rw [pp,<- tj,jN,hcut]
   rw [hcut,tj,mR];omega
  ·rw [fC]
   have aV:∀ (q zs r:List Value) (k:Nat),k<=q.length->(q.take k++zs++r).take k=q.take k:=fun q zs r k hk=>by
    rw [mq,D7 (by rw [fv];omega),vu,Nat.min_self]
   rw [aV _ _ _ _ (by rw [hcut];omega),rU (by rw [cd,fv,dH,bZ];omega),lh];unfold rv;rw [cK.all_append]
 have aq:=J hC;have tk:=J gj;have cU:IntKind.i64.wrap ((i:Int)+1)=(i:Int)+1:=by rw [mS];omega
 have vy:((i:Int)==(i:Int)+1)=false:=ji.2 af;have iA:(0:Int)<=(i:Int)+1:=af;have dI:(i:Int)+1<=(n:Int):=af;have Ax:((i:Int)+1).toNat=i+1:=af;have cV:n-1<=n:=af;have nT:¬ (c=n-1):=af;have eZ:n-(n-1)=1:=af;have fD:((n-1:Nat):Int)<=(n:Int):=af;have vz:i<=n:=af;have Xq:i<=c:=af;have Xr:i+1<=c:=af;have Xs:(i:Int)<=(c:Int):=af;have s6:n<=c:=af;clear fX dH i' iP hN kP hC az h4 li fQ er fY kQ fL lh bZ hcut tj hn hown gj kO Aw;have mixed:prog.follows Departure.mixedOrders=true:=ai
 by_cases hce:c=i+1
 ·rw [bB hce] at tk
  subst hce;rw [Nat.sub_self] at tk
  have qT:(i:Int)<=(i:Int)+1:=af
  go_enter func249,ntmps249
  go_wp2_with fail
  go_region_law_o (refine GD rfl (.tmp 22) (.tmp 25) 70 70 rfl _ _ (by simp [Act.eval,Act.put]) (by simp [Act.eval,Act.put];omega) tk.out ?_)
  go_wp2_with (refine GF rfl (.tmp 31) 70 rfl _ rfl aq.out ?_)
  go_ret;exact ⟨_,_,rfl,ap.1,ap.2,fun k hk=>hk⟩
 ·rw [bp hce] at tk
  go_enter func249,ntmps249
  go_wp2_with fail
  go_region_law_o (refine GD rfl (.tmp 22) (.tmp 25) 70 70 rfl _ _ (by simp [Act.eval,Act.put]) (by simp [Act.eval,Act.put]) tk.out ?_)
  go_wp2_with (refine GF rfl (.tmp 31) 70 rfl _ rfl aq.out ?_)
  go_ret;exact ⟨_,_,rfl,ap.1,ap.2,fun k hk=>hk⟩
end
theorem adl (l:List cv) (A:Option Addr) (c:Nat) (w:World) (hr:a7 w cK A l) (hl:l.length<=100000) :
  Calls prog 69 #[.slice A l.length c] w fun e w'=>∃ br a8,e=.returned (.slice br l.length a8)/\Own w' w.heap.size 75 cK (.slice br l.length a8) l/\Below w.heap.size w w':=by
 have bx:=J hr;clear hr;have Pc:∀ (w:World) (a:Option Addr) (n c jw a8:Nat),(binOp .eql 70 (.slice a n c) (.slice none jw a8)).run prog w=.ok (.bool a.isNone) w:=fun w a n c jw a8=>Lib.run_eql_slice_nil w _ _ a n c jw a8 underlying70
 cases A with
 | none =>
  have eI:l = []:=by
   rcases Kr l with h|⟨eK,x,h⟩
   ·exact h
   ·obtain ⟨b,off,ah,_⟩:=bx.out (by rw [h];simp)
    cases ah
  subst eI;have bJ:=J (Own.e8 w w.heap.size 75 cK)
  go_enter func69,ntmps69
  go_wp2_with fail;go_ret;exact ⟨none,0,rfl,bJ.out,aO _ _⟩
 | some a =>
  go_enter func69,ntmps69
  go_wp2_with (at_builtin;refine Ks G1 cK rfl (.tmp 5) (.tmp 6) rfl rfl _ l c rfl bx af af ?_;intro bz dv aC ho hb;have aB:=J (ae ho hb);clear ho hb)
  go_ret;exact ⟨bz,dv,rfl,aB.1,aB.2⟩
end Go.Proofs.YtmmchlfoplcnbaaGreatDoor
