/- A part of the walk. -/
import Derived.Test.YtmmchlfoplcnbaaGreatDoorME9
namespace Go.Proofs.YtmmchlfoplcnbaaGreatDoor
open Go Go.RowKit Tryz
set_option linter.all false
set_option maxRecDepth 100000
set_option maxHeartbeats 4000000
abbrev qS:bL:=L6 9223372036854775807
theorem Ck:qS.Ok:=Sj _ aF
theorem Ac:c' 0:=by unfold c';decide
theorem JI (a:Int) (h:0<=a):kU a=a:=by unfold kU;split <;> omega
abbrev nu (i:UInt8) (a:Int):aQ:=⟨⟨#[i]⟩,0,false,a,0,0,0,0,0,⟨#[105]⟩,0⟩
abbrev Ge (i:UInt8) (a:Int):oh:=⟨1,nu i a,⟨#[]⟩,0,0,0,0,[],true,[],0,[]⟩
theorem aih (i:UInt8) (a:Int) (aI:0<=a) (h1:a<=9223372036854775807):(nu i a).fe:=⟨Ac,by unfold c';simp only;omega,Ac,Ac,Ac,Ac,Ac,Ac,show (1:Nat)<=9223372036854775807 from ak,show (1:Nat)<=9223372036854775807 from ak⟩
theorem aii (i:UInt8) (a:Int) (aI:0<=a):(nu i a).wZ=true:=by
 unfold aQ.wZ bad;simp only [show decide (a<0)=false from cX af]
 rfl
theorem aij (i:UInt8) (a:Int) (aI:0<=a) (hn:named [i]=true):(nu i a).right=true:=by
 unfold aQ.right;rw [aii i a aI]
 show (true&&(named [i]&&(named [105]&&true)))=true
 rw [hn]
 rfl
theorem Gf (a:Int) (aI:0<=a) (h1:a<=9223372036854775807):eg 0 a=a:=by unfold eg most;rw [JI 0 ak,JI a aI,bB af];omega
theorem Oj (i:UInt8) (a:Int) (aI:0<=a) (h1:a<=9223372036854775807):gp qS.ky (fV (nu i a) [])=decide (a<9223372036854775807):=by
 show cr.fits _ (cr.add ⟨0,0,0⟩ (nu i a))=_
 unfold cr.fits cr.add;simp only [Gf a aI h1]
 show (iU 9223372036854775807 a&&(iU 10 (eg 0 0)&&iU 10 (eg 0 0)))=_
 rw [show iU 10 (eg 0 0)=true from by rw [Gf 0 ak ak];rfl];unfold iU most
 by_cases h:a<9223372036854775807
 ·rw [show (a==9223372036854775807)=false from by simp;omega,show decide (9223372036854775807<a)=false from cX af,bO h];rfl
 ·rw [show (a==9223372036854775807)=true from by simp;omega,cX h];rfl
theorem aik (i j:UInt8) (a b:Int) (aI:0<=a) (h1:a<=9223372036854775807) (ah:0<=b) (aw:b<=9223372036854775807):gp qS.ky (fV (nu j b) [nu i a])=decide (b<9223372036854775807-a):=by
 show cr.fits _ (cr.add (cr.add ⟨0,0,0⟩ (nu j b)) (nu i a))=_
 unfold cr.fits cr.add;simp only [Gf b ah aw]
 show (iU 9223372036854775807 (eg b a)&&(iU 10 (eg (eg 0 0) 0)&&iU 10 (eg (eg 0 0) 0)))=_
 rw [show iU 10 (eg (eg 0 0) 0)=true from by rw [Gf 0 ak ak,Gf 0 ak ak];rfl];unfold iU eg most;rw [JI b ah,JI a aI]
 by_cases h:b<9223372036854775807-a
 ·rw [bB af,show (b+a==9223372036854775807)=false from by simp;omega,show decide (9223372036854775807<b+a)=false from cX af,bO h];rfl
 ·rw [cX h]
  by_cases bn:b+a<=9223372036854775807
  ·rw [bB bn,show (b+a==9223372036854775807)=true from by simp;omega];rfl
  ·rw [bp bn];rfl
abbrev Gg (i:UInt8) (f:Bool):cP:=if f=true then ⟨1,⟨#[i]⟩,0,0⟩ else ⟨3,⟨#[i]⟩,0,4⟩
abbrev Ol (a0:bD) (i:UInt8) (a:Int) (f:Bool):bD:=if f=true then { a0 with ax:=fZ a0.ax ⟨nu i a,1⟩ } else a0
theorem ail (a0:bD) (i:UInt8) (a:Int) (aI:0<=a) (hn:named [i]=true) (ff:a0.aU=false) (bV:a0.aL=false) (bY:a0.aS=false) (bQ:jL a0.ax ⟨#[i]⟩=false) (hl:a0.ax.length<64) {f:Bool} (hf:gp qS.ky (fV (nu i a) (dM a0.ax))=f) :
  bD.CV qS a0 (nu i a)=(Ol a0 i a f,[Gg i f],0,f):=by
 have DO:kx (nu i a) (dM a0.ax) = []:=List.filter_eq_nil_iff.2 fun x _=>by simp [mB]
 have hv:mG qS.ky (nu i a) a0.ax a0.aU a0.aL a0.aS=(if f=true then 1 else 4,0,[],0):=by
  unfold mG;rw [aij i a aI hn,bQ,ff,bV,bY,R8 DO,hf];rw [bp ak,bp ak,bp af]
  cases f <;> rfl
 unfold bD.CV;rw [hv]
 cases f <;> rfl
abbrev Ad (m:fO) (i:UInt8) (a:Int) (f:Bool):fO:=⟨Ol m.a i a f,m.o,if f=true then some (Ol m.a i a f).sv else m.sv,if f=true then m.ew+1 else m.ew,none⟩
theorem VM (m:fO) (hm:m.pN=none) (i:UInt8) (a:Int) (aI:0<=a) (hn:named [i]=true) (ff:m.a.aU=false) (bV:m.a.aL=false) (bY:m.a.aS=false) (bQ:jL m.a.ax ⟨#[i]⟩=false) (hl:m.a.ax.length<64) {f:Bool} (hf:gp qS.ky (fV (nu i a) (dM m.a.ax))=f) :
  m.act qS (Ge i a)=(Ad m i a f,0,[Gg i f]):=by
 rw [zd hm (show (1:Int)<=1 by decide) (show (1:Int)<=5 by decide),Im rfl]
 show (_,_,_)=_
 have h:bD.CV qS m.a (Ge i a).aa=_:=ail m.a i a aI hn ff bV bY bQ hl hf;rw [h]
section
variable {S:Nat->Prop} {w:World} {pn:Nat} {z:rj}
def Om (S:Nat->Prop) (pn:Nat) (m:fO) (ev:cP) (w:World) (e:Ending) (w':World):Prop :=
 ∃ (z':rj) (E:Option Addr) (c:Nat) (A:Option Addr) (ca pl:Nat) (rd:Int) (b0 bX cY:Bool),e=.returned (.agg #[.i 0,.slice E 1 c,.i rd,.slice A pl ca,.bool b0,.bool bX,.bool cY])/\hG S w' pn qS z' m/\b7 w' S 51 dA (.slice E 1 c) [ev]/\bh (iJ S w) nJ w w'
theorem VN (i:UInt8) (a:Int) (aI:0<=a) (h1:a<=9223372036854775807):kE S w (Ge i a) oY:=Il 1 (nu i a) (aih i a aI h1) 0 Ac 0 0 0 ak ak ak ⟨ak,ak,ak⟩
theorem On {N V:Nat} (hs:dw S w) (m:fO) (h:hG S w pn qS z m) (bi:jo qS N V m) (b8:N<=80000) (h2:V<=100000) (hm:m.pN=none) (i:UInt8) (a:Int) (aI:0<=a) (h1:a<=9223372036854775807) (hn:named [i]=true) (ff:m.a.aU=false) (bV:m.a.aL=false) (bY:m.a.aS=false) (bQ:jL m.a.ax ⟨#[i]⟩=false) (hl:m.a.ax.length<64) {f:Bool} (hf:gp qS.ky (fV (nu i a) (dM m.a.ax))=f) :
  Calls prog 11 #[.pointer (some ⟨pn,0,none⟩),.agg #[.i 1,.string ⟨#[i]⟩,.i 0,.bool false,.i a,.i 0,.i 0,.i 0,.i 0,.i 0,.string ⟨#[105]⟩,.i 0,.string ⟨#[]⟩,.i 0,.float .f64 0,.float .f64 0,.float .f64 0,.slice none 0 0,.slice none 0 0,.i 0,.slice none 0 0]] w (Om S pn (Ad m i a f) (Gg i f) w):=by
 have hd:=Bu (x:=Ge i a) (y:=oY) hs Ck h hm (VN i a aI h1) bi b8 h2 (.inl rfl) (fun h=>absurd (show (1:Int)=3 from h) ak);rw [VM m hm i a aI hn ff bV bY bQ hl hf] at hd
 refine rk (show Calls prog 11 #[.pointer (some ⟨pn,0,none⟩),.agg #[.i 1,.string ⟨#[i]⟩,.i 0,.bool false,.i a,.i 0,.i 0,.i 0,.i 0,.i 0,.string ⟨#[105]⟩,.i 0,.string ⟨#[]⟩,.i 0,.float .f64 0,.float .f64 0,.float .f64 0,.slice none 0 0,.slice none 0 0,.i 0,.slice none 0 0]] w _ from hd) fun e w' hp=>?_
 obtain ⟨z',E,c,A,ca,he,aw,bn,_,dk⟩:=hp;exact ⟨z',E,c,A,ca,_,_,_,_,_,he,aw,bn,dk⟩
abbrev n0:fO:=fO.new qS
theorem VO:jo qS 0 0 n0:=jo.new Ck
theorem aim (a:Int) (aI:0<=a) (h1:a<=9223372036854775807) {f:Bool} (hf:decide (a<9223372036854775807)=f):jo qS 64 1 (Ad n0 120 a f):=by
 have:=(jo.Bs (x:=Ge 120 a) (S:=fun _=>True) (w:=default) Ck VO ak rfl (show (1:Int)<=1 by decide) (show (1:Int)<=5 by decide) (VN 120 a aI h1)).1
 rwa [VM n0 rfl 120 a aI rfl rfl rfl rfl rfl (show 0<64 by decide) ((Oj 120 a aI h1).trans hf)] at this
theorem JJ (hs:dw S w) (h:hG S w pn qS z n0) (a:Int) (aI:0<=a) (h1:a<=9223372036854775807) {f:Bool} (hf:decide (a<9223372036854775807)=f) :
  Calls prog 11 #[.pointer (some ⟨pn,0,none⟩),.agg #[.i 1,.string ⟨#[120]⟩,.i 0,.bool false,.i a,.i 0,.i 0,.i 0,.i 0,.i 0,.string ⟨#[105]⟩,.i 0,.string ⟨#[]⟩,.i 0,.float .f64 0,.float .f64 0,.float .f64 0,.slice none 0 0,.slice none 0 0,.i 0,.slice none 0 0]] w (Om S pn (Ad n0 120 a f) (Gg 120 f) w) :=
 On hs n0 h VO ak ak rfl 120 a aI h1 rfl rfl rfl rfl rfl (show 0<64 by decide) ((Oj 120 a aI h1).trans hf)
theorem JK (hs:dw S w) (a b:Int) (aI:0<=a) (h1:a<=9223372036854775807) (ah:0<=b) (aw:b<=9223372036854775807) {f s:Bool} (hf:decide (a<9223372036854775807)=f) (jR:decide (b<if f=true then 9223372036854775807-a else 9223372036854775807)=s) (h:hG S w pn qS z (Ad n0 120 a f)) :
  Calls prog 11 #[.pointer (some ⟨pn,0,none⟩),.agg #[.i 1,.string ⟨#[121]⟩,.i 0,.bool false,.i b,.i 0,.i 0,.i 0,.i 0,.i 0,.string ⟨#[105]⟩,.i 0,.string ⟨#[]⟩,.i 0,.float .f64 0,.float .f64 0,.float .f64 0,.slice none 0 0,.slice none 0 0,.i 0,.slice none 0 0]] w (Om S pn (Ad (Ad n0 120 a f) 121 b s) (Gg 121 s) w):=by
 have bi:=aim a aI h1 hf
 cases f
 ·exact On hs _ h bi ak ak rfl 121 b ah aw rfl rfl rfl rfl rfl (show 0<64 by decide) ((Oj 121 b ah aw).trans jR)
 ·have e:(Ad n0 120 a true).a.ax = [⟨nu 120 a,1⟩]:=rfl
  refine On hs _ h bi ak ak rfl 121 b ah aw rfl rfl rfl rfl ?_ (by rw [e];exact (show 1<64 by decide)) ?_
  ·rw [e];unfold jL;simp only [List.any_cons,List.any_nil,oG];rfl
  ·rw [e];exact (aik 120 121 a b aI h1 ah aw).trans jR
end
theorem ain (w:World) (dE:iH w) (bI:11<=w.heap.size) (a b:Int) (hn:a<0\/b<0):Calls prog 3 #[.i a,.i b] w fun e w'=>e=.returned (.bool true)/\Below w.heap.size w w':=by
 have b4:=J dE;have cq:=J bI;clear dE bI;have hk:(a<0)\/(¬ a<0/\b<0):=af;clear hn
 rcases hk with h|⟨h,cI⟩
 all_goals
  go_enter func3,ntmps3
  go_wp2_with fail;refine (Dr w b4 cq).mono ?_;rintro e aC ⟨rfl,bV⟩;have df:=J bV;have rM:=J (b4.a6 (S:=fun k=>w.heap.size<=k) (ts:=[]) (fun k hk h=>by have:=cq.out;omega) (bh.dL _ [] bV));clear bV;go_wp2_with fail;refine (Dr aC rM (gT cq df.size)).mono ?_;rintro e aM ⟨rfl,bY⟩;have cA:=J (df.trans (bY.mono df.size));clear bY;go_wp2_with fail;go_ret;exact ⟨rfl,cA.out⟩
theorem aio (w:World) (dE:iH w) (bI:11<=w.heap.size) (a b:Int) (aI:0<=a) (h1:a<=9223372036854775807) (ah:0<=b) (aw:b<=9223372036854775807) (hf:decide (a<9223372036854775807)=true) (jR:decide (b<9223372036854775807-a)=true):Calls prog 3 #[.i a,.i b] w fun e w'=>e=.returned (.bool true)/\Below w.heap.size w w':=by
 have aP:=J (show dw (fun k=>w.heap.size<=k) w from ⟨fun k hk=>hk,fun k hk h=>af⟩);have b4:=J dE;have cq:=J bI;have jD:=J (ae aI (ae h1 (ae ah aw)));have bN:=J (ae hf (show decide (b<if true=true then 9223372036854775807-a else 9223372036854775807)=true from jR));have bk:¬ a<0:=af;have bl:¬ b<0:=af;simp only [jZ,An] at hf jR
 clear dE bI
 go_enter func3,ntmps3
 go_wp2_with fail;refine (Dr w b4 cq).mono ?_;rintro e aC ⟨rfl,bV⟩;have df:=J bV;have rM:=J (b4.a6 aP.kF (bh.dL _ [] bV));clear bV b4;go_wp2_with fail;refine (E8 aC).mono ?_;rintro e aM ⟨A,c,rfl,hr,bY⟩;have cY:Below aM.heap.size aM (aM.alloc (.cells #[.i 0,.i 0,.i 0,.i 0,.i 0,.i 0,.slice none 0 0,.i 0,.i 0,.i 0,.i 0] 26)):=(aO _ _).alloc aF _;have hx:=ar.new aM 26 #[.i 0,.i 0,.i 0,.i 0,.i 0,.i 0,.slice none 0 0,.i 0,.i 0,.i 0,.i 0];have cA:=J (df.trans (bY.mono df.size));have uW:=J (rM.a6 aP.kF (bh.dL _ [] bY));have bx:=J hr;clear bY hr df rM
 go_wp2_with (refine ch rfl 26 (.tmp 5) (.tmp 22) rfl aM.heap.size 26 #[.i 0,.i 0,.i 0,.i 0,.i 0,.i 0,.slice none 0 0,.i 0,.i 0,.i 0,.i 0] #[.i 100,.i 100,.i 100,.i 10,.i 10,.i 10,.slice A 1 c,.i 1,.i 1,.i 2,.i 1] rfl rfl hx rfl ai cc ?_;intro w3 hR az jF;have cD:=J hR;have e0:=J (cY.grown az cY.size (by intro k hk;cases hk;exact e3 _));have qL:=J (bx.below e0);have f3:w3.frozen? ⟨aM.heap.size,3,none⟩=false:=hR.frozen 3;have c3:=hR.cell;clear hR az jF hx cY)
 have kl:=J (show Below aM.heap.size aM (w3.setCell ⟨aM.heap.size,3,none⟩ (.i 9223372036854775807)) from e0.setCell aF _);have uX:=bx.below kl.out;have mM:=uW.a6 aP.kF (bh.dL _ [] kl);have dp:=J (cA.trans (kl.mono cA.size));have uY:=J (JL (aP.size dp.size) qS Ck mM A c uX);clear cD e0 qL f3 c3 bx uW cA kl uX mM;refine uY.mono ?_;rintro e eD ⟨pn,z,rfl,hm,hb⟩;have ag:=J hm;have aq:=J (bh.dL (fun k=>w.heap.size<=k) nJ (dp.trans (hb.mono dp.size)));clear hm hb uY dp;go_wp2_with fail;refine (JJ (aP.size aq.size) ag a jD.1 jD.2.1 bN.1).mono ?_;rintro e bc ⟨gu,ft,c1,bz,uZ,u0,u1,sb,u2,u3,rfl,hm,he,hc⟩;have ag:=J hm;have aq:=J (aq.trans hc.iJ);have e5:=J (show b7 bc (fun k=>w.heap.size<=k) 51 dA (.slice ft 1 c1) [⟨1,⟨#[120]⟩,0,0⟩] from he);clear hm he hc;have eQ:Below bc.heap.size bc (bc.alloc (.cells #[.i 0,.slice none 0 0,.i 0,.slice none 0 0,.bool false,.bool false,.bool false] 37)):=(aO _ _).alloc aF _;have hx:=ar.new bc 37 #[.i 0,.slice none 0 0,.i 0,.slice none 0 0,.bool false,.bool false,.bool false];have cH:=aq.size
 go_wp2_with (refine ch rfl 37 (.tmp 7) (.tmp 34) rfl bc.heap.size 37 #[.i 0,.slice none 0 0,.i 0,.slice none 0 0,.bool false,.bool false,.bool false] #[.i 0,.slice ft 1 c1,.i u1,.slice bz u0 uZ,.bool sb,.bool u2,.bool u3] rfl rfl hx rfl ai cc ?_;intro xB hR az jF;have eM:=J (show cW xB (fun k=>w.heap.size<=k) bc.heap.size 37 #[.i 0,.slice ft 1 c1,.i u1,.slice bz u0 uZ,.bool sb,.bool u2,.bool u3] from ⟨hR,cH⟩);have aA:=J (eQ.grown az eQ.size (by intro k hk;cases hk;exact e3 _));clear hR az jF hx eQ cH)
 have ag:=J (ag.below aA);have aq:=J (aq.below aA);have e5:=J (e5.below aA);obtain ⟨pO,ly⟩:=aE bc.heap.size;rw [ly] at eM ⊢
 clear aA ly;refine (JK (aP.size aq.size) a b jD.1 jD.2.1 jD.2.2.1 jD.2.2.2 bN.1 bN.2 ag).mono ?_;rintro e bm ⟨z2,fN,c2,A2,u4,u5,u6,se,sf,u7,rfl,hm,he,hc⟩;have ag:=J hm;have aq:=J (aq.trans hc.iJ);have eM:=J (eM.a6 hc ak);have e5:=J (e5.old hc);have e1:=J (show b7 bm (fun k=>w.heap.size<=k) 51 dA (.slice fN 1 c2) [⟨1,⟨#[121]⟩,0,0⟩] from he);clear hm he hc;have eQ:Below bm.heap.size bm (bm.alloc (.cells #[.i 0,.slice none 0 0,.i 0,.slice none 0 0,.bool false,.bool false,.bool false] 37)):=(aO _ _).alloc aF _;have hx:=ar.new bm 37 #[.i 0,.slice none 0 0,.i 0,.slice none 0 0,.bool false,.bool false,.bool false];have cH:=aq.size
 go_wp2_with (refine ch rfl 37 (.tmp 8) (.tmp 40) rfl bm.heap.size 37 #[.i 0,.slice none 0 0,.i 0,.slice none 0 0,.bool false,.bool false,.bool false] #[.i 0,.slice fN 1 c2,.i u6,.slice A2 u5 u4,.bool se,.bool sf,.bool u7] rfl rfl hx rfl ai cc ?_;intro pY hR az jF;have nC:=J (show cW pY (fun k=>w.heap.size<=k) bm.heap.size 37 #[.i 0,.slice fN 1 c2,.i u6,.slice A2 u5 u4,.bool se,.bool sf,.bool u7] from ⟨hR,cH⟩);have aA:=J (eQ.grown az eQ.size (by intro k hk;cases hk;exact e3 _));clear hR az jF hx eQ cH;have ag:=J (ag.below aA);have aq:=J (aq.below aA);have eM:=J (eM.below aA);have e5:=J (e5.below aA);have e1:=J (e1.below aA);have c8:pY.cell? ⟨pO,1,none⟩=some (.slice ft 1 c1):=eM.ab.cell 1;have dT:pY.cell? ⟨bm.heap.size,1,none⟩=some (.slice fN 1 c2):=nC.ab.cell 1;obtain ⟨aX,h1,wh,_⟩:=rm e5.out 0 av;obtain ⟨ba,ah,Cl,Cm,Cn,Co⟩:=rm e1.out 0 av;simp only [yJ,w4,fw,ll,ml,oQ,reduceIte] at wh Cl Cm Cn Co;subst h1 ah)
 go_ret;exact ⟨by first|rfl|exact gw (by simp;omega)|exact gw (by simp [hf,jR]),cB.below aq.out aF fun k hk hx=>absurd hx.1 af⟩
theorem aip (w:World) (dE:iH w) (bI:11<=w.heap.size) (a b:Int) (aI:0<=a) (h1:a<=9223372036854775807) (ah:0<=b) (aw:b<=9223372036854775807) (hf:decide (a<9223372036854775807)=true) (jR:decide (b<9223372036854775807-a)=false):Calls prog 3 #[.i a,.i b] w fun e w'=>e=.returned (.bool true)/\Below w.heap.size w w':=by
 have aP:=J (show dw (fun k=>w.heap.size<=k) w from ⟨fun k hk=>hk,fun k hk h=>af⟩);have b4:=J dE;have cq:=J bI;have jD:=J (ae aI (ae h1 (ae ah aw)));have bN:=J (ae hf (show decide (b<if true=true then 9223372036854775807-a else 9223372036854775807)=false from jR));have bk:¬ a<0:=af;have bl:¬ b<0:=af;simp only [jZ,An] at hf jR
 clear dE bI
 go_enter func3,ntmps3
 go_wp2_with fail;refine (Dr w b4 cq).mono ?_;rintro e aC ⟨rfl,bV⟩;have df:=J bV;have rM:=J (b4.a6 aP.kF (bh.dL _ [] bV));clear bV b4;go_wp2_with fail;refine (E8 aC).mono ?_;rintro e aM ⟨A,c,rfl,hr,bY⟩;have cY:Below aM.heap.size aM (aM.alloc (.cells #[.i 0,.i 0,.i 0,.i 0,.i 0,.i 0,.slice none 0 0,.i 0,.i 0,.i 0,.i 0] 26)):=(aO _ _).alloc aF _;have hx:=ar.new aM 26 #[.i 0,.i 0,.i 0,.i 0,.i 0,.i 0,.slice none 0 0,.i 0,.i 0,.i 0,.i 0];have cA:=J (df.trans (bY.mono df.size));have uW:=J (rM.a6 aP.kF (bh.dL _ [] bY));have bx:=J hr;clear bY hr df rM
 go_wp2_with (refine ch rfl 26 (.tmp 5) (.tmp 22) rfl aM.heap.size 26 #[.i 0,.i 0,.i 0,.i 0,.i 0,.i 0,.slice none 0 0,.i 0,.i 0,.i 0,.i 0] #[.i 100,.i 100,.i 100,.i 10,.i 10,.i 10,.slice A 1 c,.i 1,.i 1,.i 2,.i 1] rfl rfl hx rfl ai cc ?_;intro w3 hR az jF;have cD:=J hR;have e0:=J (cY.grown az cY.size (by intro k hk;cases hk;exact e3 _));have qL:=J (bx.below e0);have f3:w3.frozen? ⟨aM.heap.size,3,none⟩=false:=hR.frozen 3;have c3:=hR.cell;clear hR az jF hx cY)
 have kl:=J (show Below aM.heap.size aM (w3.setCell ⟨aM.heap.size,3,none⟩ (.i 9223372036854775807)) from e0.setCell aF _);have uX:=bx.below kl.out;have mM:=uW.a6 aP.kF (bh.dL _ [] kl);have dp:=J (cA.trans (kl.mono cA.size));have uY:=J (JL (aP.size dp.size) qS Ck mM A c uX);clear cD e0 qL f3 c3 bx uW cA kl uX mM;refine uY.mono ?_;rintro e eD ⟨pn,z,rfl,hm,hb⟩;have ag:=J hm;have aq:=J (bh.dL (fun k=>w.heap.size<=k) nJ (dp.trans (hb.mono dp.size)));clear hm hb uY dp;go_wp2_with fail;refine (JJ (aP.size aq.size) ag a jD.1 jD.2.1 bN.1).mono ?_;rintro e bc ⟨gu,ft,c1,bz,uZ,u0,u1,sb,u2,u3,rfl,hm,he,hc⟩;have ag:=J hm;have aq:=J (aq.trans hc.iJ);have e5:=J (show b7 bc (fun k=>w.heap.size<=k) 51 dA (.slice ft 1 c1) [⟨1,⟨#[120]⟩,0,0⟩] from he);clear hm he hc;have eQ:Below bc.heap.size bc (bc.alloc (.cells #[.i 0,.slice none 0 0,.i 0,.slice none 0 0,.bool false,.bool false,.bool false] 37)):=(aO _ _).alloc aF _;have hx:=ar.new bc 37 #[.i 0,.slice none 0 0,.i 0,.slice none 0 0,.bool false,.bool false,.bool false];have cH:=aq.size
 go_wp2_with (refine ch rfl 37 (.tmp 7) (.tmp 34) rfl bc.heap.size 37 #[.i 0,.slice none 0 0,.i 0,.slice none 0 0,.bool false,.bool false,.bool false] #[.i 0,.slice ft 1 c1,.i u1,.slice bz u0 uZ,.bool sb,.bool u2,.bool u3] rfl rfl hx rfl ai cc ?_;intro xB hR az jF;have eM:=J (show cW xB (fun k=>w.heap.size<=k) bc.heap.size 37 #[.i 0,.slice ft 1 c1,.i u1,.slice bz u0 uZ,.bool sb,.bool u2,.bool u3] from ⟨hR,cH⟩);have aA:=J (eQ.grown az eQ.size (by intro k hk;cases hk;exact e3 _));clear hR az jF hx eQ cH)
 have ag:=J (ag.below aA);have aq:=J (aq.below aA);have e5:=J (e5.below aA);obtain ⟨pO,ly⟩:=aE bc.heap.size;rw [ly] at eM ⊢
 clear aA ly;refine (JK (aP.size aq.size) a b jD.1 jD.2.1 jD.2.2.1 jD.2.2.2 bN.1 bN.2 ag).mono ?_;rintro e bm ⟨z2,fN,c2,A2,u4,u5,u6,se,sf,u7,rfl,hm,he,hc⟩;have ag:=J hm;have aq:=J (aq.trans hc.iJ);have eM:=J (eM.a6 hc ak);have e5:=J (e5.old hc);have e1:=J (show b7 bm (fun k=>w.heap.size<=k) 51 dA (.slice fN 1 c2) [⟨3,⟨#[121]⟩,0,4⟩] from he);clear hm he hc;have eQ:Below bm.heap.size bm (bm.alloc (.cells #[.i 0,.slice none 0 0,.i 0,.slice none 0 0,.bool false,.bool false,.bool false] 37)):=(aO _ _).alloc aF _;have hx:=ar.new bm 37 #[.i 0,.slice none 0 0,.i 0,.slice none 0 0,.bool false,.bool false,.bool false];have cH:=aq.size
 go_wp2_with (refine ch rfl 37 (.tmp 8) (.tmp 40) rfl bm.heap.size 37 #[.i 0,.slice none 0 0,.i 0,.slice none 0 0,.bool false,.bool false,.bool false] #[.i 0,.slice fN 1 c2,.i u6,.slice A2 u5 u4,.bool se,.bool sf,.bool u7] rfl rfl hx rfl ai cc ?_;intro pY hR az jF;have nC:=J (show cW pY (fun k=>w.heap.size<=k) bm.heap.size 37 #[.i 0,.slice fN 1 c2,.i u6,.slice A2 u5 u4,.bool se,.bool sf,.bool u7] from ⟨hR,cH⟩);have aA:=J (eQ.grown az eQ.size (by intro k hk;cases hk;exact e3 _));clear hR az jF hx eQ cH;have ag:=J (ag.below aA);have aq:=J (aq.below aA);have eM:=J (eM.below aA);have e5:=J (e5.below aA);have e1:=J (e1.below aA);have c8:pY.cell? ⟨pO,1,none⟩=some (.slice ft 1 c1):=eM.ab.cell 1;have dT:pY.cell? ⟨bm.heap.size,1,none⟩=some (.slice fN 1 c2):=nC.ab.cell 1;obtain ⟨aX,h1,wh,_⟩:=rm e5.out 0 av;obtain ⟨ba,ah,Cl,Cm,Cn,Co⟩:=rm e1.out 0 av;simp only [yJ,w4,fw,ll,ml,oQ,reduceIte] at wh Cl Cm Cn Co;subst h1 ah)
 go_ret;exact ⟨by first|rfl|exact gw (by simp;omega)|exact gw (by simp [hf,jR]),cB.below aq.out aF fun k hk hx=>absurd hx.1 af⟩
theorem aiq (w:World) (dE:iH w) (bI:11<=w.heap.size) (a b:Int) (aI:0<=a) (h1:a<=9223372036854775807) (ah:0<=b) (aw:b<=9223372036854775807) (hf:decide (a<9223372036854775807)=false) (jR:decide (b<9223372036854775807)=true):Calls prog 3 #[.i a,.i b] w fun e w'=>e=.returned (.bool true)/\Below w.heap.size w w':=by
 have aP:=J (show dw (fun k=>w.heap.size<=k) w from ⟨fun k hk=>hk,fun k hk h=>af⟩);have b4:=J dE;have cq:=J bI;have jD:=J (ae aI (ae h1 (ae ah aw)));have bN:=J (ae hf (show decide (b<if false=true then 9223372036854775807-a else 9223372036854775807)=true from jR));have bk:¬ a<0:=af;have bl:¬ b<0:=af;simp only [jZ,An] at hf jR
 clear dE bI
 go_enter func3,ntmps3
 go_wp2_with fail;refine (Dr w b4 cq).mono ?_;rintro e aC ⟨rfl,bV⟩;have df:=J bV;have rM:=J (b4.a6 aP.kF (bh.dL _ [] bV));clear bV b4;go_wp2_with fail;refine (E8 aC).mono ?_;rintro e aM ⟨A,c,rfl,hr,bY⟩;have cY:Below aM.heap.size aM (aM.alloc (.cells #[.i 0,.i 0,.i 0,.i 0,.i 0,.i 0,.slice none 0 0,.i 0,.i 0,.i 0,.i 0] 26)):=(aO _ _).alloc aF _;have hx:=ar.new aM 26 #[.i 0,.i 0,.i 0,.i 0,.i 0,.i 0,.slice none 0 0,.i 0,.i 0,.i 0,.i 0];have cA:=J (df.trans (bY.mono df.size));have uW:=J (rM.a6 aP.kF (bh.dL _ [] bY));have bx:=J hr;clear bY hr df rM
 go_wp2_with (refine ch rfl 26 (.tmp 5) (.tmp 22) rfl aM.heap.size 26 #[.i 0,.i 0,.i 0,.i 0,.i 0,.i 0,.slice none 0 0,.i 0,.i 0,.i 0,.i 0] #[.i 100,.i 100,.i 100,.i 10,.i 10,.i 10,.slice A 1 c,.i 1,.i 1,.i 2,.i 1] rfl rfl hx rfl ai cc ?_;intro w3 hR az jF;have cD:=J hR;have e0:=J (cY.grown az cY.size (by intro k hk;cases hk;exact e3 _));have qL:=J (bx.below e0);have f3:w3.frozen? ⟨aM.heap.size,3,none⟩=false:=hR.frozen 3;have c3:=hR.cell;clear hR az jF hx cY)
 have kl:=J (show Below aM.heap.size aM (w3.setCell ⟨aM.heap.size,3,none⟩ (.i 9223372036854775807)) from e0.setCell aF _);have uX:=bx.below kl.out;have mM:=uW.a6 aP.kF (bh.dL _ [] kl);have dp:=J (cA.trans (kl.mono cA.size));have uY:=J (JL (aP.size dp.size) qS Ck mM A c uX);clear cD e0 qL f3 c3 bx uW cA kl uX mM;refine uY.mono ?_;rintro e eD ⟨pn,z,rfl,hm,hb⟩;have ag:=J hm;have aq:=J (bh.dL (fun k=>w.heap.size<=k) nJ (dp.trans (hb.mono dp.size)));clear hm hb uY dp;go_wp2_with fail;refine (JJ (aP.size aq.size) ag a jD.1 jD.2.1 bN.1).mono ?_;rintro e bc ⟨gu,ft,c1,bz,uZ,u0,u1,sb,u2,u3,rfl,hm,he,hc⟩;have ag:=J hm;have aq:=J (aq.trans hc.iJ);have e5:=J (show b7 bc (fun k=>w.heap.size<=k) 51 dA (.slice ft 1 c1) [⟨3,⟨#[120]⟩,0,4⟩] from he);clear hm he hc;have eQ:Below bc.heap.size bc (bc.alloc (.cells #[.i 0,.slice none 0 0,.i 0,.slice none 0 0,.bool false,.bool false,.bool false] 37)):=(aO _ _).alloc aF _;have hx:=ar.new bc 37 #[.i 0,.slice none 0 0,.i 0,.slice none 0 0,.bool false,.bool false,.bool false];have cH:=aq.size
 go_wp2_with (refine ch rfl 37 (.tmp 7) (.tmp 34) rfl bc.heap.size 37 #[.i 0,.slice none 0 0,.i 0,.slice none 0 0,.bool false,.bool false,.bool false] #[.i 0,.slice ft 1 c1,.i u1,.slice bz u0 uZ,.bool sb,.bool u2,.bool u3] rfl rfl hx rfl ai cc ?_;intro xB hR az jF;have eM:=J (show cW xB (fun k=>w.heap.size<=k) bc.heap.size 37 #[.i 0,.slice ft 1 c1,.i u1,.slice bz u0 uZ,.bool sb,.bool u2,.bool u3] from ⟨hR,cH⟩);have aA:=J (eQ.grown az eQ.size (by intro k hk;cases hk;exact e3 _));clear hR az jF hx eQ cH)
 have ag:=J (ag.below aA);have aq:=J (aq.below aA);have e5:=J (e5.below aA);obtain ⟨pO,ly⟩:=aE bc.heap.size;rw [ly] at eM ⊢
 clear aA ly;refine (JK (aP.size aq.size) a b jD.1 jD.2.1 jD.2.2.1 jD.2.2.2 bN.1 bN.2 ag).mono ?_;rintro e bm ⟨z2,fN,c2,A2,u4,u5,u6,se,sf,u7,rfl,hm,he,hc⟩;have ag:=J hm;have aq:=J (aq.trans hc.iJ);have eM:=J (eM.a6 hc ak);have e5:=J (e5.old hc);have e1:=J (show b7 bm (fun k=>w.heap.size<=k) 51 dA (.slice fN 1 c2) [⟨1,⟨#[121]⟩,0,0⟩] from he);clear hm he hc;have eQ:Below bm.heap.size bm (bm.alloc (.cells #[.i 0,.slice none 0 0,.i 0,.slice none 0 0,.bool false,.bool false,.bool false] 37)):=(aO _ _).alloc aF _;have hx:=ar.new bm 37 #[.i 0,.slice none 0 0,.i 0,.slice none 0 0,.bool false,.bool false,.bool false];have cH:=aq.size
 go_wp2_with (refine ch rfl 37 (.tmp 8) (.tmp 40) rfl bm.heap.size 37 #[.i 0,.slice none 0 0,.i 0,.slice none 0 0,.bool false,.bool false,.bool false] #[.i 0,.slice fN 1 c2,.i u6,.slice A2 u5 u4,.bool se,.bool sf,.bool u7] rfl rfl hx rfl ai cc ?_;intro pY hR az jF;have nC:=J (show cW pY (fun k=>w.heap.size<=k) bm.heap.size 37 #[.i 0,.slice fN 1 c2,.i u6,.slice A2 u5 u4,.bool se,.bool sf,.bool u7] from ⟨hR,cH⟩);have aA:=J (eQ.grown az eQ.size (by intro k hk;cases hk;exact e3 _));clear hR az jF hx eQ cH;have ag:=J (ag.below aA);have aq:=J (aq.below aA);have eM:=J (eM.below aA);have e5:=J (e5.below aA);have e1:=J (e1.below aA);have c8:pY.cell? ⟨pO,1,none⟩=some (.slice ft 1 c1):=eM.ab.cell 1;have dT:pY.cell? ⟨bm.heap.size,1,none⟩=some (.slice fN 1 c2):=nC.ab.cell 1;obtain ⟨aX,h1,wh,_⟩:=rm e5.out 0 av;obtain ⟨ba,ah,Cl,Cm,Cn,Co⟩:=rm e1.out 0 av;simp only [yJ,w4,fw,ll,ml,oQ,reduceIte] at wh Cl Cm Cn Co;subst h1 ah)
 go_ret;exact ⟨by first|rfl|exact gw (by simp;omega)|exact gw (by simp [hf,jR]),cB.below aq.out aF fun k hk hx=>absurd hx.1 af⟩
theorem air (w:World) (dE:iH w) (bI:11<=w.heap.size) (a b:Int) (aI:0<=a) (h1:a<=9223372036854775807) (ah:0<=b) (aw:b<=9223372036854775807) (hf:decide (a<9223372036854775807)=false) (jR:decide (b<9223372036854775807)=false):Calls prog 3 #[.i a,.i b] w fun e w'=>e=.returned (.bool true)/\Below w.heap.size w w':=by
 have aP:=J (show dw (fun k=>w.heap.size<=k) w from ⟨fun k hk=>hk,fun k hk h=>af⟩);have b4:=J dE;have cq:=J bI;have jD:=J (ae aI (ae h1 (ae ah aw)));have bN:=J (ae hf (show decide (b<if false=true then 9223372036854775807-a else 9223372036854775807)=false from jR));have bk:¬ a<0:=af;have bl:¬ b<0:=af;simp only [jZ,An] at hf jR
 clear dE bI
 go_enter func3,ntmps3
 go_wp2_with fail;refine (Dr w b4 cq).mono ?_;rintro e aC ⟨rfl,bV⟩;have df:=J bV;have rM:=J (b4.a6 aP.kF (bh.dL _ [] bV));clear bV b4;go_wp2_with fail;refine (E8 aC).mono ?_;rintro e aM ⟨A,c,rfl,hr,bY⟩;have cY:Below aM.heap.size aM (aM.alloc (.cells #[.i 0,.i 0,.i 0,.i 0,.i 0,.i 0,.slice none 0 0,.i 0,.i 0,.i 0,.i 0] 26)):=(aO _ _).alloc aF _;have hx:=ar.new aM 26 #[.i 0,.i 0,.i 0,.i 0,.i 0,.i 0,.slice none 0 0,.i 0,.i 0,.i 0,.i 0];have cA:=J (df.trans (bY.mono df.size));have uW:=J (rM.a6 aP.kF (bh.dL _ [] bY));have bx:=J hr;clear bY hr df rM
 go_wp2_with (refine ch rfl 26 (.tmp 5) (.tmp 22) rfl aM.heap.size 26 #[.i 0,.i 0,.i 0,.i 0,.i 0,.i 0,.slice none 0 0,.i 0,.i 0,.i 0,.i 0] #[.i 100,.i 100,.i 100,.i 10,.i 10,.i 10,.slice A 1 c,.i 1,.i 1,.i 2,.i 1] rfl rfl hx rfl ai cc ?_;intro w3 hR az jF;have cD:=J hR;have e0:=J (cY.grown az cY.size (by intro k hk;cases hk;exact e3 _));have qL:=J (bx.below e0);have f3:w3.frozen? ⟨aM.heap.size,3,none⟩=false:=hR.frozen 3;have c3:=hR.cell;clear hR az jF hx cY)
 have kl:=J (show Below aM.heap.size aM (w3.setCell ⟨aM.heap.size,3,none⟩ (.i 9223372036854775807)) from e0.setCell aF _);have uX:=bx.below kl.out;have mM:=uW.a6 aP.kF (bh.dL _ [] kl);have dp:=J (cA.trans (kl.mono cA.size));have uY:=J (JL (aP.size dp.size) qS Ck mM A c uX);clear cD e0 qL f3 c3 bx uW cA kl uX mM;refine uY.mono ?_;rintro e eD ⟨pn,z,rfl,hm,hb⟩;have ag:=J hm;have aq:=J (bh.dL (fun k=>w.heap.size<=k) nJ (dp.trans (hb.mono dp.size)));clear hm hb uY dp;go_wp2_with fail;refine (JJ (aP.size aq.size) ag a jD.1 jD.2.1 bN.1).mono ?_;rintro e bc ⟨gu,ft,c1,bz,uZ,u0,u1,sb,u2,u3,rfl,hm,he,hc⟩;have ag:=J hm;have aq:=J (aq.trans hc.iJ);have e5:=J (show b7 bc (fun k=>w.heap.size<=k) 51 dA (.slice ft 1 c1) [⟨3,⟨#[120]⟩,0,4⟩] from he);clear hm he hc;have eQ:Below bc.heap.size bc (bc.alloc (.cells #[.i 0,.slice none 0 0,.i 0,.slice none 0 0,.bool false,.bool false,.bool false] 37)):=(aO _ _).alloc aF _;have hx:=ar.new bc 37 #[.i 0,.slice none 0 0,.i 0,.slice none 0 0,.bool false,.bool false,.bool false];have cH:=aq.size
 go_wp2_with (refine ch rfl 37 (.tmp 7) (.tmp 34) rfl bc.heap.size 37 #[.i 0,.slice none 0 0,.i 0,.slice none 0 0,.bool false,.bool false,.bool false] #[.i 0,.slice ft 1 c1,.i u1,.slice bz u0 uZ,.bool sb,.bool u2,.bool u3] rfl rfl hx rfl ai cc ?_;intro xB hR az jF;have eM:=J (show cW xB (fun k=>w.heap.size<=k) bc.heap.size 37 #[.i 0,.slice ft 1 c1,.i u1,.slice bz u0 uZ,.bool sb,.bool u2,.bool u3] from ⟨hR,cH⟩);have aA:=J (eQ.grown az eQ.size (by intro k hk;cases hk;exact e3 _));clear hR az jF hx eQ cH)
 have ag:=J (ag.below aA);have aq:=J (aq.below aA);have e5:=J (e5.below aA);obtain ⟨pO,ly⟩:=aE bc.heap.size;rw [ly] at eM ⊢
 clear aA ly;refine (JK (aP.size aq.size) a b jD.1 jD.2.1 jD.2.2.1 jD.2.2.2 bN.1 bN.2 ag).mono ?_;rintro e bm ⟨z2,fN,c2,A2,u4,u5,u6,se,sf,u7,rfl,hm,he,hc⟩;have ag:=J hm;have aq:=J (aq.trans hc.iJ);have eM:=J (eM.a6 hc ak);have e5:=J (e5.old hc);have e1:=J (show b7 bm (fun k=>w.heap.size<=k) 51 dA (.slice fN 1 c2) [⟨3,⟨#[121]⟩,0,4⟩] from he);clear hm he hc;have eQ:Below bm.heap.size bm (bm.alloc (.cells #[.i 0,.slice none 0 0,.i 0,.slice none 0 0,.bool false,.bool false,.bool false] 37)):=(aO _ _).alloc aF _;have hx:=ar.new bm 37 #[.i 0,.slice none 0 0,.i 0,.slice none 0 0,.bool false,.bool false,.bool false];have cH:=aq.size
 go_wp2_with (refine ch rfl 37 (.tmp 8) (.tmp 40) rfl bm.heap.size 37 #[.i 0,.slice none 0 0,.i 0,.slice none 0 0,.bool false,.bool false,.bool false] #[.i 0,.slice fN 1 c2,.i u6,.slice A2 u5 u4,.bool se,.bool sf,.bool u7] rfl rfl hx rfl ai cc ?_;intro pY hR az jF;have nC:=J (show cW pY (fun k=>w.heap.size<=k) bm.heap.size 37 #[.i 0,.slice fN 1 c2,.i u6,.slice A2 u5 u4,.bool se,.bool sf,.bool u7] from ⟨hR,cH⟩);have aA:=J (eQ.grown az eQ.size (by intro k hk;cases hk;exact e3 _));clear hR az jF hx eQ cH;have ag:=J (ag.below aA);have aq:=J (aq.below aA);have eM:=J (eM.below aA);have e5:=J (e5.below aA);have e1:=J (e1.below aA);have c8:pY.cell? ⟨pO,1,none⟩=some (.slice ft 1 c1):=eM.ab.cell 1;have dT:pY.cell? ⟨bm.heap.size,1,none⟩=some (.slice fN 1 c2):=nC.ab.cell 1;obtain ⟨aX,h1,wh,_⟩:=rm e5.out 0 av;obtain ⟨ba,ah,Cl,Cm,Cn,Co⟩:=rm e1.out 0 av;simp only [yJ,w4,fw,ll,ml,oQ,reduceIte] at wh Cl Cm Cn Co;subst h1 ah)
 go_ret;exact ⟨by first|rfl|exact gw (by simp;omega)|exact gw (by simp [hf,jR]),cB.below aq.out aF fun k hk hx=>absurd hx.1 af⟩
theorem ais (w:World) (dE:iH w) (bI:11<=w.heap.size) (a b:Int) (ha:c' a) (hb:c' b):Calls prog 3 #[.i a,.i b] w fun e w'=>e=.returned (.bool true)/\Below w.heap.size w w':=by
 unfold c' at ha hb
 by_cases hn:a<0\/b<0
 ·exact ain w dE bI a b hn
 ·by_cases h1:a<9223372036854775807
  ·by_cases ah:b<9223372036854775807-a
   ·exact aio w dE bI a b af af af af (bO h1) (bO ah)
   ·exact aip w dE bI a b af af af af (bO h1) (cX ah)
  ·by_cases ah:b<9223372036854775807
   ·exact aiq w dE bI a b af af af af (cX h1) (bO ah)
   ·exact air w dE bI a b af af af af (cX h1) (cX ah)
end Go.Proofs.YtmmchlfoplcnbaaGreatDoor
