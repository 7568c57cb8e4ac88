/- A part of the walk. -/
import Derived.Test.YtmmchlfoplcnbaaGreatDoorMC1
import Derived.Test.YtmmchlfoplcnbaaGreatDoorMB7
namespace Go.Proofs.YtmmchlfoplcnbaaGreatDoor
open Go Go.RowKit Tryz
set_option linter.all false
set_option maxRecDepth 100000
set_option maxHeartbeats 4000000
section
open Go.Sort
def C' (x y:dJ):Int:=Lib.compareBytes x.id.data.toList y.id.data.toList
theorem HG (x y:dJ):ltOf C' x y=blt x.id y.id:=by
 unfold ltOf;rw [w8,jZ];obtain ⟨s1,s2⟩:=CD x.id.data.toList y.id.data.toList;rw [blt_eq,jZ];exact s1
theorem aaS:Sort.SWO (ltOf C') where
 irrefl x:=by rw [HG];exact ms _
 trans x y z h1 ah:=by rw [HG] at *;exact jY h1 ah
 ntrans x y z h1 ah:=by
  rw [HG] at *
  cases h:blt x.id z.id
  ·rfl
  ·exfalso
   cases vA:blt y.id x.id
   ·have e:=r8 h1 vA
    rw [e,ah] at h
    cases h
   ·rw [jY vA h] at ah;cases ah
instance:Inhabited dJ:=⟨⟨⟨#[]⟩,0,0,0⟩⟩
theorem aaT (x y:dJ) (W:World):Calls prog 211 #[.agg #[.string x.id,.i x.a0,.i x.c6,.i x.a2],.agg #[.string y.id,.i y.a0,.i y.c6,.i y.a2]] W fun e w'=>e=.returned (.i (C' x y))/\∃ q AA,w'=Sort.grow (W.drewN q) AA:=by
 have ah:=fun W'=>ye x.id y.id W'
 unfold C';generalize Lib.compareBytes x.id.data.toList y.id.data.toList=r2 at *
 have ju:=J ah;clear ah
 go_enter func211,ntmps211
 go_wp2_with fail;refine (ju.out _).mono ?_;rintro e w' ⟨rfl,rfl⟩;go_wp2_with fail;go_ret;exact ⟨rfl,0,#[Obj.cells #[.string x.id,.i x.a0,.i x.c6,.i x.a2] 318]++#[Obj.cells #[.string y.id,.i y.a0,.i y.c6,.i y.a2] 318],by rw [Go.Sort.alloc_eq_grow,Go.Sort.alloc_eq_grow,Go.Sort.grow_grow];rfl⟩
theorem aaU (ab off size:Nat) (w:World):CmpLays prog 211 #[] jA.enc 4 C' ab off size w:=by
 intro m os cg _ x y;have h:=aaT x y (sortWorldK jA.enc 4 w ab off m cg os);have e:(#[Value.agg (jA.enc x).toArray,Value.agg (jA.enc y).toArray]++#[]:Array Value)=#[.agg #[.string x.id,.i x.a0,.i x.c6,.i x.a2],.agg #[.string y.id,.i y.a0,.i y.c6,.i y.a2]]:=rfl;rw [e];exact h
def aaV (l:List dJ) (A:Option Addr) (c:Nat) (base:Nat) (w:World) (e:Ending) (w':World):Prop :=
 e=.returned (.tuple #[])/\∃ eK:List dJ,eK.Perm l/\(eK.Pairwise fun x y=>blt y.id x.id=false)/\Own w' base 318 jA (.slice A eK.length c) eK/\w.grownBy w' (Value.slice A l.length c).ownBlock
theorem aaP (l:List dJ) (A:Option Addr) (c:Nat) (w:World) (base:Nat) (hown:Own w base 318 jA (.slice A l.length c) l) (hn:l.length<=100000) :
  Calls prog 210 #[.slice A l.length c,.func (.func 211) #[] #[]] w (aaV l A c base w):=by
 by_cases hl:l = []
 ·subst hl
  exact (AnyF.slices_SortFunc_none { sortU with } A c _ w).mono fun e w' ⟨he,hw⟩=>by
   subst hw;exact ⟨he,[],AG _,List.Pairwise.nil,hown,World.grownBy.refl _ _⟩
 ·obtain ⟨g,cap,cur,hv,hb,az,s6,hm,hcs,ht⟩:=Ef hown hl
  injection hv with aV _ cG
  subst aV;subst cG;have yy:∀ args w,(callFunc 211 args).run prog w=.ok (.enter 211 args) w:=enters_of func211 ai rfl
  have iF:=AnyQ.slices_SortFunc sortU 4 isAgg318 sizeOf318 jA.enc jA.len (fun x v hv=>jA.one x v hv) C' aaS 211 #[] g 0 c l.toArray w yy (aaU g 0 l.toArray.size w) (holds_of az ht) az.lt (by simp;omega);have hs:l.toArray.size=l.length:=pp
  change Calls prog 210 _ _ _ at iF
  rw [hs] at iF
  refine iF.mono fun e w' ⟨he,d',n,os,hp,lK,hw⟩=>?_
  subst hw;rw [<- hs] at hp
  obtain ⟨hd,ke⟩:=KH hp;obtain ⟨ho,fL⟩:=G0 (E:=jA) (n:=n) (os:=os) hb az hd s6 hm hcs;refine ⟨he,d'.toList,ke,?_,ho,fL⟩;rw [<- hd] at lK
  have:=KI lK;exact this.imp fun {x y} h=>by rw [<- HG];exact h
end
theorem Bm (w:World):Below w.heap.size w w.drew:=⟨rfl,rfl,rfl,e3 _,fun _ _=>rfl⟩
theorem acp (S:Nat->Prop) (name xR:ByteArray) (l:List UInt8) (A:Option Addr) (c:Nat) (aN:Nat) (fs:di) (w:World) (hs:dw S w) (h:hV S w aN fs) (hl:l.length<=3000000) (ho:b7 w S 5 cO (.slice A l.length c) l):Calls prog 96 #[.map (some aN),.agg #[.i 1,.string name,.string xR,.slice A l.length c]] w (H9 S aN (fs.put name (some l)) w):=by
 have hb:Below w.heap.size w (w.alloc (.cells #[.i 1,.string name,.string xR,.slice A l.length c] 190)):=(aO _ _).alloc aF _;have dl:=J (ar.new w 190 #[.i 1,.string name,.string xR,.slice A l.length c]);have ag:=J (h.below hb);have bx:=J (ho.below hb);have bJ:=J hb;have acq:=J hs;have hA:=ho.own.plain;clear hb h ho hs
 go_enter func96,ntmps96
 go_wp2_with fail;have dl:=J dl.drew;have ag:=J (ag.below (Bm _));have bx:=J (bx.below (Bm _));have bJ:=J (bJ.trans ((Bm _).mono (Nat.le_of_lt dl.lt)));refine wp_region_held_drew (S:=fun w'=>w'.cell? ⟨w.heap.size,1,none⟩=some (.string name)/\w'.cell? ⟨w.heap.size,3,none⟩=some (.slice A l.length c)) ai (ae (dl.cell 1) (dl.cell 3)) (fun hHeld=>?_);obtain ⟨wd,aG⟩:=aE ((w.alloc (.cells #[.i 1,.string name,.string xR,.slice A l.length c] 190)).drew);rw [aG] at dl ag bx bJ hHeld ⊢
 clear aG;refine aj 0 ?_;refine aj 1 ?_;refine aj 2 ?_;refine aj 3 ?_;refine aj 4 ?_;refine dR 5 15 rfl rfl ai aH (fun K hK=>?_);go_simp;refine (Dn l A c wd bx.cZ hA af).mono ?_;rintro e aM ⟨A2,c2,rfl,e9,bY⟩;have jk:=J (b7.jU (acq.size bJ.size) e9 aF);have dl:=J (dl.bw bY);have ag:=J (ag.below bY);have cA:=J (bJ.trans (bY.mono bJ.size));clear e9 bY;have hHeld:=(ae (dl.cell 1) (dl.cell 3))
 refine hK _ _ hHeld ?_;clear hK K;simp only [Act.put,aY,aZ,a1];obtain ⟨W,fH,ku,R7⟩:=ag.put name A2 l c2 hl jk.out;refine iC 6 rfl ai aH (fun K hK=>?_);go_simp;have bW:w.heap.size≠aN:=by
  obtain ⟨es,clock,hm,_⟩:=ag.ex;exact fun e=>dl.pM hm e
 have dl:=J (dl.only R7 bW);refine hK undef _ (ae (dl.cell 1) (dl.cell 3)) ?_;clear hK K hHeld;refine wpAnyH_done ai ?_ _;go_wp2_with fail
 go_end0
 exact ⟨rfl,ku,(cB.dL (fun j=>j=aN) cA).trans R7 fun _ _ e=>e⟩
structure jd where
 kind:Int
 name:ByteArray
 xR:ByteArray
 bytes:List UInt8
structure jd.Ok (o:jd):Prop where
 kind:o.kind=1\/o.kind=2\/o.kind=3
 len:o.bytes.length<=3000000
def IM (fs:di) (o:jd):di:=if o.kind=1 then fs.put o.name (some o.bytes) else if o.kind=2 then Bk fs o.name o.xR else fs.put o.name none
def nb (fs:di) (l:List jd):di:=l.foldl IM fs
theorem aea (fs:di) (l:List jd) (o:jd):nb fs (l++[o])=IM (nb fs l) o:=by unfold nb;rw [vL];rfl
theorem aeb (S:Nat->Prop) (o:jd) (bi:o.Ok) (A:Option Addr) (c:Nat) (aN:Nat) (fs:di) (w:World) (hs:dw S w) (h:hV S w aN fs) (ho:b7 w S 5 cO (.slice A o.bytes.length c) o.bytes) :
  Calls prog 96 #[.map (some aN),.agg #[.i o.kind,.string o.name,.string o.xR,.slice A o.bytes.length c]] w (H9 S aN (IM fs o) w):=by
 obtain ⟨kind,name,xR,l⟩:=o;obtain ⟨hk,hl⟩:=bi;simp only at hk hl
 rcases hk with rfl|rfl|rfl
 ·exact acp S name xR l A c aN fs w hs h hl ho
 ·exact aco S name xR A l.length c aN fs w h
 ·exact acn S name xR A l.length c aN fs w h
def sM (S:Nat->Prop) (w:World):List jd->List pL->Prop
 | [],[]=>True
 | o :: l,r :: R=>(o.Ok/\r.kind=o.kind/\r.name=o.name/\r.xR=o.xR/\r.n=o.bytes.length/\b7 w S 5 cO (.slice r.A o.bytes.length r.c) o.bytes)/\sM S w l R
 | _,_=>False
theorem sM.k1 {S cn:Nat->Prop} {w w':World} (hk:∀ A c (l:List UInt8),b7 w S 5 cO (.slice A l.length c) l->b7 w' cn 5 cO (.slice A l.length c) l):∀ {l:List jd} {R:List pL},sM S w l R->sM cn w' l R
 | [],[],_=>trivial
 | _ :: _,_ :: _,h=>⟨⟨h.1.1,h.1.2.1,h.1.2.2.1,h.1.2.2.2.1,h.1.2.2.2.2.1,hk _ _ _ h.1.2.2.2.2.2⟩,sM.k1 hk h.2⟩
 | [],_ :: _,h=>h.elim
 | _ :: _,[],h=>h.elim
theorem sM.len {S:Nat->Prop} {w:World}:∀ {l:List jd} {R:List pL},sM S w l R->R.length=l.length
 | [],[],_=>rfl
 | _ :: _,_ :: _,h=>by rw [cy,cy,sM.len h.2]
 | [],_ :: _,h=>h.elim
 | _ :: _,[],h=>h.elim
theorem sM.at_ {S:Nat->Prop} {w:World}:∀ {l:List jd} {R:List pL} (_:sM S w l R) {k:Nat} {o:jd} {r:pL},l[k]? = some o->R[k]? = some r->o.Ok/\r.kind=o.kind/\r.name=o.name/\r.xR=o.xR/\r.n=o.bytes.length/\b7 w S 5 cO (.slice r.A o.bytes.length r.c) o.bytes
 | _ :: _,_ :: _,h,0,o,r,hd,hr=>by
  simp only [yQ,Ff] at hd hr
  subst hd;subst hr;exact h.1
 | _ :: _,_ :: _,h,k+1,o,r,hd,hr=>sM.at_ h.2 (k:=k) (by simpa using hd) (by simpa using hr)
 | [],[],_,k,o,r,hd,hr=>by simp at hd
 | [],_ :: _,h,k,o,r,hd,hr=>h.elim
 | _ :: _,[],h,k,o,r,hd,hr=>h.elim
structure ru (S:Nat->Prop) (w:World) (aJ aN:Nat) (A:Option Addr) (c:Nat) (fs:di) (l:List jd) (R:List pL):Prop where
 ab:cW w S aJ 161 #[.map (some aN),.slice A R.length c]
 map:hV S w aN fs
 ops:sM S w l R
 row:b7 w S 190 uh (.slice A R.length c) R
def rr (S:Nat->Prop) (w:World) (aJ:Nat) (fs:di) (l:List jd):Prop:=∃ aN A c R,ru S w aJ aN A c fs l R
theorem ru.below {S:Nat->Prop} {w w':World} {aJ aN:Nat} {A:Option Addr} {c:Nat} {fs:di} {l:List jd} {R:List pL} (h:ru S w aJ aN A c fs l R) (hb:Below w.heap.size w w'):ru S w' aJ aN A c fs l R :=
 ⟨h.ab.below hb,h.map.below hb,h.ops.k1 fun _ _ _ ho=>ho.below hb,h.row.below hb⟩
theorem aec {w:World} {b off:Nat} {l:List pL} (h:a7 w uh (some ⟨b,off,none⟩) l) {i:Nat} {r:pL} (hi:l[i]? = some r) :
  w.cell? ⟨b,off+i*4,none⟩=some (.i r.kind)/\w.cell? ⟨b,off+i*4+1,none⟩=some (.string r.name)/\w.cell? ⟨b,off+i*4+2,none⟩=some (.string r.xR)/\w.cell? ⟨b,off+i*4+3,none⟩=some (.slice r.A r.n r.c):=by
 obtain ⟨hl,e⟩:=jv.1 hi;obtain ⟨b',p2,aV,_,hc⟩:=h.at_ hl;injection aV with aV
 injection aV with aV bE
 subst aV;subst bE;rw [e] at hc
 exact ⟨by have:=hc 0 (.i r.kind) rfl;simpa using this,hc 1 (.string r.name) rfl,hc 2 (.string r.xR) rfl,hc 3 (.slice r.A r.n r.c) rfl⟩
theorem aed:(prog.info? 190).map (·.size)=some 4:=ai
abbrev ML:Array Value:=#[.i 0,.string ⟨#[]⟩,.string ⟨#[]⟩,.slice none 0 0]
def aee (S:Nat->Prop) (fs:di) (w:World) (e:Ending) (w':World):Prop:=∃ aN,e=.returned (.map (some aN))/\hV S w' aN fs/\Below w.heap.size w w'
theorem To (S:Nat->Prop) (aJ:Nat) (fs:di) (l:List jd) (w:World) (hs:dw S w) (h:rr S w aJ fs l) (hl:l.length<=100):Calls prog 167 #[.pointer (some ⟨aJ,0,none⟩)] w (aee S (nb fs l) w):=by
 obtain ⟨aN,A,c,R,hd⟩:=h;obtain ⟨es,clock,hm,he⟩:=hd.map.ex;have hlen:=hd.ops.len;have hR:R.length<=100:=af;have dN:=J (AnyW.maps_Clone cloneM aN es clock w hm);have hb:Below w.heap.size w (w.alloc (.map es clock)):=(aO _ _).alloc aF _;have ao:Hid (hV S (w.alloc (.map es clock)) w.heap.size (nb fs (l.take 0))/\Below w.heap.size w (w.alloc (.map es clock))):=⟨⟨⟨es,clock,ya w _,he.below hb⟩,hs.gJ _ aF⟩,hb⟩
 have bq:=J hd;have aP:=J hs;have kS:=J hlen;have eo:=hd.ab.ab.cell;clear hd hm he hs hb hlen
 go_enter func167,ntmps167
 go_wp2_with fail;refine dN.mono ?_;rintro e aC ⟨rfl,rfl⟩;clear eo dN;obtain ⟨aC,cU⟩:=aE (w.alloc (.map es clock));rw [cU] at ao ⊢
 clear cU;have eo:=(bq.below ao.2).ab.ab.cell;go_wp2_with fail;clear eo
 go_loopw [16] (fun ii wr=>∃ (i:Nat),i<=R.length/\ii=.i i/\hV S wr w.heap.size (nb fs (l.take i))/\Below w.heap.size w wr) (fun ii _=>R.length-(intOf ii).toNat)
 case atStart=>exact ⟨0,af,rfl,ao.1,ao.2⟩
 case round =>
  clear ao;obtain ⟨i,hi,rfl,Tp,jx⟩:=hrel;have ap:=J (ae Tp jx);clear Tp jx
  by_cases aT:i<R.length
  ·have cg:decide ((i:Int)<(R.length:Int))=true:=bO af
   have l0:decide (i<R.length)=true:=bO aT;have kA:(i:Int)<(R.length:Int):=af;have IP:=J (bq.below ap.2);obtain ⟨b,off,rfl,_⟩:=IP.row.cZ (by intro e;rw [e] at aT;simp at aT);obtain ⟨r,hr⟩:∃ r,R[i]? = some r:=⟨_,dF aT⟩
   have fC:i<l.length:=by have:=kS.out;omega
   obtain ⟨o,ho⟩:∃ o,l[i]? = some o:=⟨_,dF fC⟩
   obtain ⟨bi,h1,ah,aw,bn,dk⟩:=IP.ops.at_ ho hr;obtain ⟨dK,c8,dT,hj⟩:=aec IP.row.cZ hr;rw [h1] at dK
   rw [ah] at c8
   rw [aw] at dT
   rw [bn] at hj
   have cC:Hid (l.take (i+1)=l.take i++[o]):=by
    show _=_
    obtain ⟨bQ,e⟩:=jv.1 ho;rw [gS bQ,e]
   generalize r.A=Tq at *
   generalize r.c=Tr at *
   have cj:=J bi;have Fo:=J dk;have bs:=J (ar.new wr 190 ML);have lc:=J ap.2.size;clear h1 ah aw bn dk bi hr ho IP
   go_wp2_with (refine ch rfl 190 (.tmp 5) (.tmp 19) rfl wr.heap.size 190 ML #[.i o.kind,.string o.name,.string o.xR,.slice Tq o.bytes.length Tr] rfl rfl bs.out rfl aed cc ?_;intro b3 cp bT dm;have aef:=cp.cell)
   have eZ:Below wr.heap.size wr b3:=((aO wr.heap.size wr).alloc aF (.cells ML 190)).grown bT av dP;have dC:=J (aeb S o cj Tq Tr w.heap.size _ b3 (aP.size (gT lc eZ.size)) (ap.1.below eZ) (Fo.below eZ));have ep:=J (ap.2.trans (eZ.mono lc));clear bT dm cp eZ dK c8 dT hj bs;refine dC.mono ?_;rintro e dy ⟨rfl,hJ,DE⟩;have Ts:Hid (hV S dy w.heap.size (nb fs (l.take (i+1)))/\Below w.heap.size w dy):=⟨by rw [cC.out,aea];exact hJ,ep.trans (DE.below ep.size fun j aD e=>by omega)⟩
   clear hJ DE aef;go_wp2_with fail
   go_roundw
   case rel=>exact ⟨i+1,af,cm,Ts.1,Ts.2⟩
   case measure=>exact c4
  ·obtain rfl:i=R.length:=by omega
   have cg:decide ((R.length:Int)<(R.length:Int))=false:=av;have bN:Hid (hV S wr w.heap.size (nb fs l)):=by
    have:=ap.1
    rwa [pB (by have:=kS.out;omega)] at this
   go_wp2_with fail;go_ret;exact ⟨_,rfl,bN.out,ap.2⟩
def jn (S:Nat->Prop) (w:World) (aJ:Nat) (fs:di):Prop:=∃ aN,ru S w aJ aN none 0 fs [] []
theorem jn.r {S:Nat->Prop} {w:World} {aJ:Nat} {fs:di} (h:jn S w aJ fs):rr S w aJ fs []:=by
 obtain ⟨aN,h⟩:=h;exact ⟨aN,none,0,[],h⟩
theorem jn.below {S:Nat->Prop} {w w':World} {aJ:Nat} {fs:di} (h:jn S w aJ fs) (hb:Below w.heap.size w w'):jn S w' aJ fs:=by
 obtain ⟨aN,h⟩:=h;exact ⟨aN,h.below hb⟩
theorem SH (S:Nat->Prop) (w:World) (hs:dw S w):Calls prog 51 #[] w fun e w'=>∃ aJ,e=.returned (.pointer (some ⟨aJ,0,none⟩))/\jn S w' aJ (fun _=>none)/\w.heap.size<=aJ/\Below w.heap.size w w':=by
 have zu:=run_makeMap (P:=prog) 158 w;have hb:Below w.heap.size w (w.alloc (.map #[] 0)):=(aO _ _).alloc aF _;have bY:Below (w.heap.size+1) (w.alloc (.map #[] 0)) ((w.alloc (.map #[] 0)).alloc (.cells #[.map (some w.heap.size),.slice none 0 0] 161)):=(aO _ _).alloc av _;have ap:Hid (jn S ((w.alloc (.map #[] 0)).alloc (.cells #[.map (some w.heap.size),.slice none 0 0] 161)) (w.heap.size+1) (fun _=>none)/\Below w.heap.size w ((w.alloc (.map #[] 0)).alloc (.cells #[.map (some w.heap.size),.slice none 0 0] 161))):=by
  refine ⟨⟨w.heap.size,⟨?_,hs.gJ _ af⟩,⟨⟨#[],0,?_,kC.e8 _ _⟩,hs.gJ _ aF⟩,trivial,b7.e8 _ _ _ _⟩,hb.trans (bY.mono af)⟩
  ·have:=ar.new (w.alloc (.map #[] 0)) 161 #[.map (some w.heap.size),.slice none 0 0]
   rwa [sH] at this
  ·exact (bY.block w.heap.size af).trans (ya w _)
 clear hb bY hs
 go_enter func51,ntmps51
 go_wp2_with fail;go_ret;exact ⟨_,rfl,ap.1,af,ap.2⟩
theorem MM (s:ByteArray) (h1:1<=s.size) (ah:s.size<=32) (w:World):Calls prog 212 #[.string s] w fun e w'=>e=.returned (.bool true)/\w=w':=by
 have d1:decide ((s.size:Int)>=1)=true:=bO af;have d2:decide ((s.size:Int)<=32)=true:=bO af;have d3:(1:Int)<=(s.size:Int):=af;have d4:(s.size:Int)<=32:=af
 go_enter func212,ntmps212
 go_wp2_with fail;go_ret;exact ⟨rfl,rfl⟩
def aeg (fs:di) (s:ByteArray) (w:World) (e:Ending) (w':World):Prop:=Below w.heap.size w w'/\match fs s with
 | none=>e=.returned (.tuple #[.slice none 0 0,.int .i64 4])
 | some l=>∃ A c,e=.returned (.tuple #[.slice A l.length c,.int .i64 0])/\l.length<=3000000/\Own w' w.heap.size 5 cO (.slice A l.length c) l
theorem SI (S:Nat->Prop) (aJ:Nat) (fs:di) (l:List jd) (s:ByteArray) (w:World) (hs:dw S w) (h:rr S w aJ fs l) (hl:l.length<=100) :
  Calls prog 110 #[.pointer (some ⟨aJ,0,none⟩),.string s] w (aeg (nb fs l) s w):=by
 have cT:=J (To S aJ fs l w hs h hl);have Ml:=J hs;clear hs h hl
 go_enter func110,ntmps110
 go_wp2_with fail;refine cT.mono ?_;rintro e aC ⟨aN,rfl,hm,hb⟩;have aA:=J hb
 rcases fI:nb fs l s with _|x
 ·have ui:=hm.R5 s fI
  have bN:=J fI;clear hm hb fI;go_wp2_with fail
  go_ret2
  refine ⟨aA.out,?_⟩;rw [bN.out]
  rfl
 ·obtain ⟨A,c,ui,hx,ho⟩:=hm.R4 s x fI
  have bN:=J fI;have aq:=J (Dn x A c aC ho.cZ ho.own.plain af);clear hm hb fI ho;go_wp2_with fail;refine aq.mono ?_;rintro e aM ⟨A2,c2,rfl,e9,bY⟩;have cA:=J (aA.trans (bY.mono aA.size));have jk:=J (e9.mono aA.size);clear e9 bY;go_wp2_with fail
  go_ret2
  refine ⟨cA.out,?_⟩;rw [bN.out];exact ⟨A2,c2,rfl,hx,jk.out⟩
theorem SD (S:Nat->Prop) (aJ:Nat) (fs:di) (l:List jd) (w:World) (hs:dw S w) (h:rr S w aJ fs l) (hl:l.length<=100) :
  Calls prog 157 #[.pointer (some ⟨aJ,0,none⟩)] w fun e w'=>e=.returned (.tuple #[])/\jn S w' aJ (nb fs l)/\cB (fun j=>j=aJ) w w':=by
 have cT:=J (To S aJ fs l w hs h hl);obtain ⟨II,A,c,R,hd⟩:=h;have bq:=J hd.ab;clear hs hl hd
 go_enter func157,ntmps157
 go_wp2_with fail;refine cT.mono ?_;rintro e aC ⟨aN,rfl,hm,hb⟩;have IQ:=bq.below hb;have xF:=J IQ;have ag:=J hm;have aA:=J hb;have eo:=IQ.ab.cell;have zq:=IQ.ab.frozen;clear IQ hm hb;go_wp2_with fail
 go_end0
 have bW:aJ≠aN:=fun e=>by
  obtain ⟨es,clock,hm,_⟩:=ag.ex;exact xF.ab.pM hm e
 have gV:=cB.setCell (fun j=>j=aJ) aC aJ 0 (.map (some aN)) rfl;have e9:=cB.setCell (fun j=>j=aJ) (aC.setCell ⟨aJ,0,none⟩ (.map (some aN))) aJ 1 (.slice none 0 0) rfl;have ho:=gV.trans e9 fun _ _ e=>e
 refine ⟨rfl,⟨aN,⟨((xF.ab.eW 0 _).eW 1 _),xF.ins⟩,?_,trivial,b7.e8 _ _ _ _⟩,(cB.dL _ aA).trans ho fun _ _ e=>e⟩;obtain ⟨es,clock,hm,he⟩:=ag.ex;exact ⟨⟨es,clock,ho.ur hm fun e=>bW e.symm,he.k1 fun A c eK hx=>⟨hx.own.only ho fun k hk e=>hx.own.sD xF.ab ak k hk e,hx.ins⟩⟩,ag.ins⟩
theorem IR:lH prog 159 190 4 64:=by
 obtain ⟨i,h1,ah,aw,bn⟩:=info_parts (show (prog.info? 190).map (fun i=>(i.zero,i.size,i.bytes))=some (some (.agg #[.i 0,.string ⟨#[]⟩,.string ⟨#[]⟩,.slice none 0 0]),4,64) by kernel_rfl);exact ⟨underlying159,i,_,h1,ah,aw,bn,rfl⟩
structure nM (S:Nat->Prop) (aJ aN B:Nat) (fs:di) (k:Int) (name xR:ByteArray) (l:List UInt8) (A2:Option Addr) (c2:Nat) (w0 W:World):Prop where
 ej:ar W aJ 161 #[.map (some aN),.slice none 0 0]
 tb:ar W B 190 #[.i k,.string name,.string xR,.slice A2 l.length c2]
 map:hV S W aN fs
 zE:Own W w0.heap.size 5 cO (.slice A2 l.length c2) l
 new:w0.heap.size<=B
 only:cB (fun j=>j=aJ) w0 W
section
variable {S:Nat->Prop} {aJ aN B:Nat} {fs:di} {k:Int} {name xR:ByteArray} {l:List UInt8} {A2:Option Addr} {c2:Nat} {w0 W W':World}
theorem nM.below (h:nM S aJ aN B fs k name xR l A2 c2 w0 W) (hb:Below W.heap.size W W'):nM S aJ aN B fs k name xR l A2 c2 w0 W':=⟨h.ej.bw hb,h.tb.bw hb,h.map.below hb,h.zE.below hb aF,h.new,h.only.Du hb⟩
theorem nM.drew (h:nM S aJ aN B fs k name xR l A2 c2 w0 W):nM S aJ aN B fs k name xR l A2 c2 w0 W.drew:=h.below (Bm W)
theorem nM.alloc (h:nM S aJ aN B fs k name xR l A2 c2 w0 W) (o:Obj):nM S aJ aN B fs k name xR l A2 c2 w0 (W.alloc o):=h.below ((aO _ _).alloc aF o)
theorem nM.aR (h:nM S aJ aN B fs k name xR l A2 c2 w0 W):w0.heap.size<=W.heap.size:=h.only.size
theorem nM.od (h:nM S aJ aN B fs k name xR l A2 c2 w0 W) (az:W.grownBy W' (Value.slice none 0 0).ownBlock):nM S aJ aN B fs k name xR l A2 c2 w0 W':=h.below ⟨az.os,az.tape,az.output,az.size,fun j aD=>az.block j aD (by simp [Value.ownBlock])⟩
structure ael (S:Nat->Prop) (aJ aN B:Nat) (fs:di) (k:Int) (name xR:ByteArray) (l:List UInt8) (A2:Option Addr) (c2:Nat) (v:Value) (w0 W:World):Prop where
 ej:ar W aJ 161 #[.map (some aN),v]
 tb:ar W B 190 #[.i k,.string name,.string xR,.slice A2 l.length c2]
 map:hV S W aN fs
 zE:Own W w0.heap.size 5 cO (.slice A2 l.length c2) l
 only:cB (fun j=>j=aJ) w0 W
theorem nM.done (h:nM S aJ aN B fs k name xR l A2 c2 w0 W) (v:Value):ael S aJ aN B fs k name xR l A2 c2 v w0 (W.setCell ⟨aJ,1,none⟩ v):=by
 have az:=cB.setCell (fun j=>j=aJ) W aJ 1 v rfl;refine ⟨h.ej.eW 1 v,h.tb.only az (fun e=>h.ej.fK h.tb ak e.symm),?_,h.zE.only az fun k hk e=>h.zE.sD h.ej ak k hk e,h.only.trans az fun _ _ e=>e⟩;obtain ⟨es,clock,hm,he⟩:=h.map.ex;exact ⟨⟨es,clock,az.ur hm fun e=>h.ej.pM hm e.symm,he.k1 fun A c eK hx=>⟨hx.own.only az fun k hk e=>hx.own.sD h.ej ak k hk e,hx.ins⟩⟩,h.map.ins⟩
end
def MN (S:Nat->Prop) (aJ aN:Nat) (fs:di) (k:Int) (name xR:ByteArray) (l:List UInt8) (w:World) (e:Ending) (w':World):Prop :=
 e=.returned (.i 0)/\∃ A2 c2 hB dG,ar w' aJ 161 #[.map (some aN),.slice hB (0+1) dG]/\Own w' w.heap.size 190 uh (.slice hB (0+1) dG) [⟨k,name,xR,A2,l.length,c2⟩]/\hV S w' aN fs/\Own w' w.heap.size 5 cO (.slice A2 l.length c2) l/\cB (fun j=>j=aJ) w w'
theorem aei (S:Nat->Prop) (aJ aN:Nat) (fs:di) (name xR:ByteArray) (l:List UInt8) (A:Option Addr) (c:Nat) (w:World) (ic:1<=xR.size) (xi:xR.size<=32) (xM:1<=name.size) (xf:name.size<=32) (hl:l.length<=3000000) (hA:Plain A) (hr:a7 w cO A l) (hb:ar w aJ 161 #[.map (some aN),.slice none 0 0]) (hm:hV S w aN fs) :
  Calls prog 156 #[.pointer (some ⟨aJ,0,none⟩),.agg #[.i 2,.string name,.string xR,.slice A l.length c]] w (MN S aJ aN fs 2 name xR l w):=by
 have mixed:prog.follows Departure.mixedOrders=true:=ai;have ff:Below w.heap.size w (w.alloc (.cells #[.i 2,.string name,.string xR,.slice A l.length c] 190)):=(aO _ _).alloc aF _;have dl:=J (ar.new w 190 #[.i 2,.string name,.string xR,.slice A l.length c]);have aq:=J (Dn l A c (w.alloc (.cells #[.i 2,.string name,.string xR,.slice A l.length c] 190)) (hr.below ff) hA af);have aA:=J ff;have bq:=J (hb.bw ff);have ag:=J (hm.below ff);have mA:=J (fun W=>MM name xM xf W);have lm:=J (fun W=>MM xR ic xi W);clear ic xi;clear ff hA hr hb hm xM xf
 go_enter func156,ntmps156
 go_wp2_with fail;refine (mA.out _).mono ?_;rintro e Tt ⟨rfl,rfl⟩;go_wp2_with fail;refine (lm.out _).mono ?_;rintro e Tt ⟨rfl,rfl⟩;go_wp2_with fail;refine aq.mono ?_;rintro e aM ⟨A2,c2,rfl,e9,bY⟩;rw [sH] at e9
 obtain ⟨B,bM⟩:=aE w.heap.size;have rB:=J (dl.bw bY);have ao:Hid (nM S aJ aN B fs 2 name xR l A2 c2 w (aM.setCell ⟨B,3,none⟩ (.slice A2 l.length c2))):=by
  have yD:=aA.trans (bY.mono aA.size);have Fp:=rB.eW 3 (.slice A2 l.length c2);rw [bM] at Fp
  have mF:=bq.bw bY;have bW:aJ≠B:=fun e=>mF.fK rB.out ak (by rw [e,bM])
  have az:=cB.setCell (fun j=>j=B) aM B 3 (.slice A2 l.length c2) rfl;refine ⟨mF.only az bW,Fp,?_,?_,Nat.le_of_eq bM,?_⟩
  ·obtain ⟨es,clock,hm,he⟩:=(ag.below bY).ex
   have qx:=rB.out;rw [bM] at qx
   exact ⟨⟨es,clock,az.ur hm fun e=>qx.pM hm e.symm,he.k1 fun A c eK hx=>⟨hx.own.only az fun k hk e=>hx.own.sD qx ak k hk e,hx.ins⟩⟩,ag.ins⟩
  ·have qx:=rB.out
   rw [bM] at qx
   exact (e9.mono (qh _)).only az fun k hk e=>e9.sD qx ak k hk e
  ·exact (cB.dL _ yD).trans az fun k hk e=>af
 have eo:=rB.cell;have zq:=rB.frozen 3;rw [bM] at eo zq
 clear e9 bY
 try rw [bM]
 go_wp2_with fail;have ao:=J ao.drew;refine wp_region_held_drew (S:=fun w'=>w'.cell? ⟨B,0,none⟩=some (.i 2)/\w'.cell? ⟨B,1,none⟩=some (.string name)/\w'.cell? ⟨B,2,none⟩=some (.string xR)/\w'.cell? ⟨B,3,none⟩=some (.slice A2 l.length c2)) ai (ae (ao.tb.cell 0) (ae (ao.tb.cell 1) (ae (ao.tb.cell 2) (ao.tb.cell 3)))) (fun hHeld=>?_);obtain ⟨wd,aG⟩:=aE ((aM.setCell ⟨B,3,none⟩ (.slice A2 l.length c2)).drew);rw [aG] at ao hHeld ⊢
 clear aG;refine aj 0 ?_;refine aj 1 ?_;refine aj 2 ?_;refine aj 3 ?_;refine aj 5 ?_;refine MO 4 6 38 40 rfl rfl rfl rfl ai aH aH (fun K hK=>?_) (fun K hK=>?_)
 ·have gQ:=ao.ej.cell 1
  go_simp;have hHeld:=(ae (ao.tb.cell 0) (ae (ao.tb.cell 1) (ae (ao.tb.cell 2) (ao.tb.cell 3))))
  refine hK _ _ hHeld ?_;clear hK K;simp only [Act.put,aY,aZ,a1];clear gQ;refine dR 6 40 rfl rfl ai aH (fun K hK=>?_);go_simp;have j5:=J (a7.made wd uh [⟨2,name,xR,A2,l.length,c2⟩] 190 #[.i 2,.string name,.string xR,.slice A2 l.length c2] (0,0) rfl);have ao:=J (ao.alloc (.cells #[.i 2,.string name,.string xR,.slice A2 l.length c2] 190));have hHeld:=(ae (ao.tb.cell 0) (ae (ao.tb.cell 1) (ae (ao.tb.cell 2) (ao.tb.cell 3))))
  refine hK _ _ hHeld ?_;clear hK K;simp only [Act.put,aY,aZ,a1];refine dR 7 41 rfl rfl ai aH (fun K hK=>?_);refine w7 (wd.alloc (.cells #[.i 2,.string name,.string xR,.slice A2 l.length c2] 190)) IR uh (.tmp 38) (.tmp 40) rfl w.heap.size _ [] (by simp [Act.eval]) (Own.e8 _ _ _ _) _ [⟨2,name,xR,A2,l.length,c2⟩] 1 (by simp [Act.eval]) j5.out av av (by exact ao.aR) ?_;intro hB dG dy ho az _;have aB:=J (ao.od az);have nF:=J ho;clear ho az;have hHeld:=(ae (aB.tb.cell 0) (ae (aB.tb.cell 1) (ae (aB.tb.cell 2) (aB.tb.cell 3))))
  refine hK _ _ hHeld ?_;clear hK K;simp only [Act.put,aY,aZ,a1];refine aj 8 ?_;refine aj 9 ?_;refine iC 10 rfl ai aH (fun K hK=>?_);have gQ:=aB.ej.cell 1;have kK:=aB.ej.frozen 1;go_simp;have cJ:=J (aB.done (.slice hB (0+1) dG));have jS:=J (nF.Ao aB.ej ak 1 (.slice hB (0+1) dG));refine hK undef _ (ae (cJ.tb.cell 0) (ae (cJ.tb.cell 1) (ae (cJ.tb.cell 2) (cJ.tb.cell 3)))) ?_;clear hK K gQ kK hHeld;simp only [Act.put,DF];refine wpAnyH_done ai ?_ _;go_wp2_with fail;go_ret;exact ⟨rfl,A2,c2,hB,dG,cJ.ej,jS.out,cJ.map,cJ.zE,cJ.only⟩
 ·go_simp
  have j5:=J (a7.made wd uh [⟨2,name,xR,A2,l.length,c2⟩] 190 #[.i 2,.string name,.string xR,.slice A2 l.length c2] (0,0) rfl);have ao:=J (ao.alloc (.cells #[.i 2,.string name,.string xR,.slice A2 l.length c2] 190));have hHeld:=(ae (ao.tb.cell 0) (ae (ao.tb.cell 1) (ae (ao.tb.cell 2) (ao.tb.cell 3))))
  refine hK _ _ hHeld ?_;clear hK K;simp only [Act.put,aY,aZ,a1];refine dR 4 38 rfl rfl ai aH (fun K hK=>?_);have gQ:=ao.ej.cell 1;go_simp;have hHeld:=(ae (ao.tb.cell 0) (ae (ao.tb.cell 1) (ae (ao.tb.cell 2) (ao.tb.cell 3))))
  refine hK _ _ hHeld ?_;clear hK K;simp only [Act.put,aY,aZ,a1];clear gQ;refine dR 7 41 rfl rfl ai aH (fun K hK=>?_);refine w7 (wd.alloc (.cells #[.i 2,.string name,.string xR,.slice A2 l.length c2] 190)) IR uh (.tmp 38) (.tmp 40) rfl w.heap.size _ [] (by simp [Act.eval]) (Own.e8 _ _ _ _) _ [⟨2,name,xR,A2,l.length,c2⟩] 1 (by simp [Act.eval]) j5.out av av (by exact ao.aR) ?_;intro hB dG dy ho az _;have aB:=J (ao.od az);have nF:=J ho;clear ho az;have hHeld:=(ae (aB.tb.cell 0) (ae (aB.tb.cell 1) (ae (aB.tb.cell 2) (aB.tb.cell 3))))
  refine hK _ _ hHeld ?_;clear hK K;simp only [Act.put,aY,aZ,a1];refine aj 8 ?_;refine aj 9 ?_;refine iC 10 rfl ai aH (fun K hK=>?_);have gQ:=aB.ej.cell 1;have kK:=aB.ej.frozen 1;go_simp;have cJ:=J (aB.done (.slice hB (0+1) dG));have jS:=J (nF.Ao aB.ej ak 1 (.slice hB (0+1) dG));refine hK undef _ (ae (cJ.tb.cell 0) (ae (cJ.tb.cell 1) (ae (cJ.tb.cell 2) (cJ.tb.cell 3)))) ?_;clear hK K gQ kK hHeld;simp only [Act.put,DF];refine wpAnyH_done ai ?_ _;go_wp2_with fail;go_ret;exact ⟨rfl,A2,c2,hB,dG,cJ.ej,jS.out,cJ.map,cJ.zE,cJ.only⟩
theorem aej (S:Nat->Prop) (aJ aN:Nat) (fs:di) (k:Int) (name xR:ByteArray) (l:List UInt8) (A:Option Addr) (c:Nat) (w:World) (hk:k=1\/k=3) (xM:1<=name.size) (xf:name.size<=32) (hl:l.length<=3000000) (hA:Plain A) (hr:a7 w cO A l) (hb:ar w aJ 161 #[.map (some aN),.slice none 0 0]) (hm:hV S w aN fs) :
  Calls prog 156 #[.pointer (some ⟨aJ,0,none⟩),.agg #[.i k,.string name,.string xR,.slice A l.length c]] w (MN S aJ aN fs k name xR l w):=by
 have mixed:prog.follows Departure.mixedOrders=true:=ai;have ff:Below w.heap.size w (w.alloc (.cells #[.i k,.string name,.string xR,.slice A l.length c] 190)):=(aO _ _).alloc aF _;have dl:=J (ar.new w 190 #[.i k,.string name,.string xR,.slice A l.length c]);have aq:=J (Dn l A c (w.alloc (.cells #[.i k,.string name,.string xR,.slice A l.length c] 190)) (hr.below ff) hA af);have aA:=J ff;have bq:=J (hb.bw ff);have ag:=J (hm.below ff);have mA:=J (fun W=>MM name xM xf W);have aV:decide (k<1)=false:=cX af;have cG:decide (3<k)=false:=cX af;have bE:decide (k=2)=false:=cX af;have RI:¬ (k<1):=af;have i3:¬ (3<k):=af;have akB:(k==2)=false:=by rw [<- bE];rfl
 clear hk;clear ff hA hr hb hm xM xf
 go_enter func156,ntmps156
 go_wp2_with fail;refine (mA.out _).mono ?_;rintro e Tt ⟨rfl,rfl⟩;go_wp2_with fail;refine aq.mono ?_;rintro e aM ⟨A2,c2,rfl,e9,bY⟩;rw [sH] at e9
 obtain ⟨B,bM⟩:=aE w.heap.size;have rB:=J (dl.bw bY);have ao:Hid (nM S aJ aN B fs k name xR l A2 c2 w (aM.setCell ⟨B,3,none⟩ (.slice A2 l.length c2))):=by
  have yD:=aA.trans (bY.mono aA.size);have Fp:=rB.eW 3 (.slice A2 l.length c2);rw [bM] at Fp
  have mF:=bq.bw bY;have bW:aJ≠B:=fun e=>mF.fK rB.out ak (by rw [e,bM])
  have az:=cB.setCell (fun j=>j=B) aM B 3 (.slice A2 l.length c2) rfl;refine ⟨mF.only az bW,Fp,?_,?_,Nat.le_of_eq bM,?_⟩
  ·obtain ⟨es,clock,hm,he⟩:=(ag.below bY).ex
   have qx:=rB.out;rw [bM] at qx
   exact ⟨⟨es,clock,az.ur hm fun e=>qx.pM hm e.symm,he.k1 fun A c eK hx=>⟨hx.own.only az fun k hk e=>hx.own.sD qx ak k hk e,hx.ins⟩⟩,ag.ins⟩
  ·have qx:=rB.out
   rw [bM] at qx
   exact (e9.mono (qh _)).only az fun k hk e=>e9.sD qx ak k hk e
  ·exact (cB.dL _ yD).trans az fun k hk e=>af
 have eo:=rB.cell;have zq:=rB.frozen 3;rw [bM] at eo zq
 clear e9 bY
 try rw [bM]
 go_wp2_with fail;have ao:=J ao.drew;refine wp_region_held_drew (S:=fun w'=>w'.cell? ⟨B,0,none⟩=some (.i k)/\w'.cell? ⟨B,1,none⟩=some (.string name)/\w'.cell? ⟨B,2,none⟩=some (.string xR)/\w'.cell? ⟨B,3,none⟩=some (.slice A2 l.length c2)) ai (ae (ao.tb.cell 0) (ae (ao.tb.cell 1) (ae (ao.tb.cell 2) (ao.tb.cell 3)))) (fun hHeld=>?_);obtain ⟨wd,aG⟩:=aE ((aM.setCell ⟨B,3,none⟩ (.slice A2 l.length c2)).drew);rw [aG] at ao hHeld ⊢
 clear aG;refine aj 0 ?_;refine aj 1 ?_;refine aj 2 ?_;refine aj 3 ?_;refine aj 5 ?_;refine MO 4 6 38 40 rfl rfl rfl rfl ai aH aH (fun K hK=>?_) (fun K hK=>?_)
 ·have gQ:=ao.ej.cell 1
  go_simp;have hHeld:=(ae (ao.tb.cell 0) (ae (ao.tb.cell 1) (ae (ao.tb.cell 2) (ao.tb.cell 3))))
  refine hK _ _ hHeld ?_;clear hK K;simp only [Act.put,aY,aZ,a1];clear gQ;refine dR 6 40 rfl rfl ai aH (fun K hK=>?_);go_simp;have j5:=J (a7.made wd uh [⟨k,name,xR,A2,l.length,c2⟩] 190 #[.i k,.string name,.string xR,.slice A2 l.length c2] (0,0) rfl);have ao:=J (ao.alloc (.cells #[.i k,.string name,.string xR,.slice A2 l.length c2] 190));have hHeld:=(ae (ao.tb.cell 0) (ae (ao.tb.cell 1) (ae (ao.tb.cell 2) (ao.tb.cell 3))))
  refine hK _ _ hHeld ?_;clear hK K;simp only [Act.put,aY,aZ,a1];refine dR 7 41 rfl rfl ai aH (fun K hK=>?_);refine w7 (wd.alloc (.cells #[.i k,.string name,.string xR,.slice A2 l.length c2] 190)) IR uh (.tmp 38) (.tmp 40) rfl w.heap.size _ [] (by simp [Act.eval]) (Own.e8 _ _ _ _) _ [⟨k,name,xR,A2,l.length,c2⟩] 1 (by simp [Act.eval]) j5.out av av (by exact ao.aR) ?_;intro hB dG dy ho az _;have aB:=J (ao.od az);have nF:=J ho;clear ho az;have hHeld:=(ae (aB.tb.cell 0) (ae (aB.tb.cell 1) (ae (aB.tb.cell 2) (aB.tb.cell 3))))
  refine hK _ _ hHeld ?_;clear hK K;simp only [Act.put,aY,aZ,a1];refine aj 8 ?_;refine aj 9 ?_;refine iC 10 rfl ai aH (fun K hK=>?_);have gQ:=aB.ej.cell 1;have kK:=aB.ej.frozen 1;go_simp;have cJ:=J (aB.done (.slice hB (0+1) dG));have jS:=J (nF.Ao aB.ej ak 1 (.slice hB (0+1) dG));refine hK undef _ (ae (cJ.tb.cell 0) (ae (cJ.tb.cell 1) (ae (cJ.tb.cell 2) (cJ.tb.cell 3)))) ?_;clear hK K gQ kK hHeld;simp only [Act.put,DF];refine wpAnyH_done ai ?_ _;go_wp2_with fail;go_ret;exact ⟨rfl,A2,c2,hB,dG,cJ.ej,jS.out,cJ.map,cJ.zE,cJ.only⟩
 ·go_simp
  have j5:=J (a7.made wd uh [⟨k,name,xR,A2,l.length,c2⟩] 190 #[.i k,.string name,.string xR,.slice A2 l.length c2] (0,0) rfl);have ao:=J (ao.alloc (.cells #[.i k,.string name,.string xR,.slice A2 l.length c2] 190));have hHeld:=(ae (ao.tb.cell 0) (ae (ao.tb.cell 1) (ae (ao.tb.cell 2) (ao.tb.cell 3))))
  refine hK _ _ hHeld ?_;clear hK K;simp only [Act.put,aY,aZ,a1];refine dR 4 38 rfl rfl ai aH (fun K hK=>?_);have gQ:=ao.ej.cell 1;go_simp;have hHeld:=(ae (ao.tb.cell 0) (ae (ao.tb.cell 1) (ae (ao.tb.cell 2) (ao.tb.cell 3))))
  refine hK _ _ hHeld ?_;clear hK K;simp only [Act.put,aY,aZ,a1];clear gQ;refine dR 7 41 rfl rfl ai aH (fun K hK=>?_);refine w7 (wd.alloc (.cells #[.i k,.string name,.string xR,.slice A2 l.length c2] 190)) IR uh (.tmp 38) (.tmp 40) rfl w.heap.size _ [] (by simp [Act.eval]) (Own.e8 _ _ _ _) _ [⟨k,name,xR,A2,l.length,c2⟩] 1 (by simp [Act.eval]) j5.out av av (by exact ao.aR) ?_;intro hB dG dy ho az _;have aB:=J (ao.od az);have nF:=J ho;clear ho az;have hHeld:=(ae (aB.tb.cell 0) (ae (aB.tb.cell 1) (ae (aB.tb.cell 2) (aB.tb.cell 3))))
  refine hK _ _ hHeld ?_;clear hK K;simp only [Act.put,aY,aZ,a1];refine aj 8 ?_;refine aj 9 ?_;refine iC 10 rfl ai aH (fun K hK=>?_);have gQ:=aB.ej.cell 1;have kK:=aB.ej.frozen 1;go_simp;have cJ:=J (aB.done (.slice hB (0+1) dG));have jS:=J (nF.Ao aB.ej ak 1 (.slice hB (0+1) dG));refine hK undef _ (ae (cJ.tb.cell 0) (ae (cJ.tb.cell 1) (ae (cJ.tb.cell 2) (cJ.tb.cell 3)))) ?_;clear hK K gQ kK hHeld;simp only [Act.put,DF];refine wpAnyH_done ai ?_ _;go_wp2_with fail;go_ret;exact ⟨rfl,A2,c2,hB,dG,cJ.ej,jS.out,cJ.map,cJ.zE,cJ.only⟩
end Go.Proofs.YtmmchlfoplcnbaaGreatDoor
