/- A part of the walk. -/
import Derived.Deep.DeepCutAuto
import Derived.Shelf.SlSortCmp.NoneTotal
import Derived.Test.YtmmchlfoplcnbaaGreatDoorMC2
namespace Go.Proofs.YtmmchlfoplcnbaaGreatDoor
open Go Go.RowKit Tryz
set_option linter.all false
set_option maxRecDepth 100000
set_option maxHeartbeats 4000000
def Az (x y:cv):Int:=lf [Lib.compareInt x.last y.last,Lib.compareBytes x.id.data.toList y.id.data.toList]
theorem GR (x y:cv):ltOf Az x y=j1 x y:=by
 unfold ltOf Az j1;rw [blt_eq];obtain ⟨h1,ah⟩:=CD x.id.data.toList y.id.data.toList;rw [show decide (x.id.data.toList<y.id.data.toList)=decide (Lib.compareBytes x.id.data.toList y.id.data.toList<0) from decide_eq_decide.2 h1.symm];generalize Lib.compareBytes x.id.data.toList y.id.data.toList=z at *
 clear h1 ah;unfold Lib.compareInt lf lf lf
 by_cases hl:x.last<y.last
 ·simp [hl]
 ·by_cases az:y.last<x.last
  ·have:¬ x.last=y.last:=by omega
   simp [hl,az,this]
  ·have he:x.last=y.last:=by omega
   by_cases bI:z=0
   ·simp [he,bI]
   ·simp [he,bI]
theorem XD:Sort.SWO (ltOf Az) where
 irrefl x:=by rw [GR];exact Pt x
 trans x y z h1 ah:=by rw [GR] at *;exact GS h1 ah
 ntrans x y z h1 ah:=by
  rw [GR] at *
  cases h:j1 x z
  ·rfl
  ·exfalso
   cases vA:j1 y x
   ·obtain ⟨aV,bE⟩:=Ky h1 vA
    have:j1 y z=true:=by unfold j1 at h ⊢;rw [<- aV,<- bE];exact h
    rw [this] at ah;cases ah
   ·have:=GS vA h
    rw [this] at ah;cases ah
theorem XE (x y:cv) (W:World):Calls prog 246 #[.agg #[.string x.id,.i x.state,.i x.il,.i x.last],.agg #[.string y.id,.i y.state,.i y.il,.i y.last]] W fun e w'=>e=.returned (.i (Az x y))/\∃ q AA,w'=Sort.grow (W.drewN q) AA:=by
 have h1:=fun W'=>D9 x.last y.last W'
 have ah:=fun W'=>ye x.id y.id W'
 unfold Az;generalize Lib.compareInt x.last y.last=r1 at *
 generalize Lib.compareBytes x.id.data.toList y.id.data.toList=r2 at *
 have H1:=J h1;have ju:=J ah;clear h1 ah;have bI:((W.alloc (.cells #[.string x.id,.i x.state,.i x.il,.i x.last] 75)).alloc (.cells #[.string y.id,.i y.state,.i y.il,.i y.last] 75)).heap.size=W.heap.size+1+1:=av;have gC:=(a7.made ((W.alloc (.cells #[.string x.id,.i x.state,.i x.il,.i x.last] 75)).alloc (.cells #[.string y.id,.i y.state,.i y.il,.i y.last] 75)) qP [r1,r2] 3 #[.i r1,.i r2] (0,0) rfl).drew;rw [bI] at gC
 have tz:=GG [r1,r2] _ 2 _ gC av
 change Calls _ _ #[.slice _ 2 2] _ _ at tz
 have yo:=J tz;clear bI gC tz
 go_enter func246,ntmps246
 go_wp2_with fail
 go_region_law (first
  | (go_simp;go_at_call 236;(with_reducible refine (H1.out _).mono ?_);rintro e w' ⟨rfl,rfl⟩)
  | (go_simp;go_at_call 182;(with_reducible refine (ju.out _).mono ?_);rintro e w' ⟨rfl,rfl⟩)
  | (go_simp;go_at_call 235;(with_reducible refine yo.out.mono ?_);rintro e w' ⟨rfl,rfl⟩))
 all_goals
  go_wp2_with fail;go_ret;exact ⟨rfl,1,_,by rw [Go.Sort.alloc_eq_grow,Go.Sort.alloc_eq_grow,Go.Sort.alloc_eq_grow,Go.Sort.grow_grow,Go.Sort.grow_grow];rfl⟩
instance:Inhabited cv:=⟨⟨⟨#[]⟩,0,0,0⟩⟩
theorem XF (ab off size:Nat) (w:World):CmpLays prog 246 #[] cK.enc 4 Az ab off size w:=by
 intro m os cg _ x y;have h:=XE x y (sortWorldK cK.enc 4 w ab off m cg os);have e:(#[Value.agg (cK.enc x).toArray,Value.agg (cK.enc y).toArray]++#[]:Array Value)=#[.agg #[.string x.id,.i x.state,.i x.il,.i x.last],.agg #[.string y.id,.i y.state,.i y.il,.i y.last]]:=rfl;rw [e];exact h
def Ya (l:List cv) (A:Option Addr) (c:Nat) (base:Nat) (w:World) (e:Ending) (w':World):Prop :=
 e=.returned (.tuple #[])/\∃ eK:List cv,eK.Perm l/\(eK.Pairwise fun x y=>j1 y x=false)/\Own w' base 75 cK (.slice A eK.length c) eK/\w.grownBy w' (Value.slice A l.length c).ownBlock
theorem Yb (l:List cv) (A:Option Addr) (c:Nat) (w:World) (base:Nat) (hown:Own w base 75 cK (.slice A l.length c) l) (hn:l.length<=100000) :
  Calls prog 245 #[.slice A l.length c,.func (.func 246) #[] #[]] w (Ya l A c base w):=by
 by_cases hl:l = []
 ·subst hl
  exact (AnyF.slices_SortFunc_none { sortC with } A c _ w).mono fun e w' ⟨he,hw⟩=>by
   subst hw;exact ⟨he,[],AG _,List.Pairwise.nil,hown,World.grownBy.refl _ _⟩
 ·obtain ⟨g,cap,cur,hv,hb,az,s6,hm,hcs,ht⟩:=Ef hown hl
  injection hv with aV _ cG
  subst aV;subst cG;have yy:∀ args w,(callFunc 246 args).run prog w=.ok (.enter 246 args) w:=enters_of func246 ai rfl
  have iF:=AnyQ.slices_SortFunc sortC 4 isAgg75 sizeOf75 cK.enc cK.len (fun x v hv=>cK.one x v hv) Az XD 246 #[] g 0 c l.toArray w yy (XF g 0 l.toArray.size w) (holds_of az ht) az.lt (by simp;omega);have hs:l.toArray.size=l.length:=pp
  change Calls prog 245 _ _ _ at iF
  rw [hs] at iF
  refine iF.mono fun e w' ⟨he,d',n,os,hp,lK,hw⟩=>?_
  subst hw;rw [<- hs] at hp
  obtain ⟨hd,ke⟩:=KH hp;obtain ⟨ho,fL⟩:=G0 (E:=cK) (n:=n) (os:=os) hb az hd s6 hm hcs;refine ⟨he,d'.toList,ke,?_,ho,fL⟩;rw [<- hd] at lK
  have:=KI lK;exact this.imp fun {x y} h=>by rw [<- GR];exact h
theorem G1:lH prog 70 75 4 40:=by
 obtain ⟨i,h1,ah,aw,bn⟩:=info_parts (show (prog.info? 75).map (fun i=>(i.zero,i.size,i.bytes))=some (some (.agg #[.string ⟨#[]⟩,.i 0,.i 0,.i 0]),4,40) by kernel_rfl);exact ⟨underlying70,i,_,h1,ah,aw,bn,rfl⟩
theorem Yc {α:Type} (f:α->Bool) (l:List α) (k:Nat) (hk:k<l.length) (h:f l[k]=true):(l.take (k+1)).filter f=(l.take k).filter f++[l[k]]:=by
 rw [gS hk,vD];simp [h]
theorem Yd {α:Type} (f:α->Bool) (l:List α) (k:Nat) (hk:k<l.length) (h:f l[k]=false):(l.take (k+1)).filter f=(l.take k).filter f:=by
 rw [gS hk,vD];simp [h]
def Eg (l:List cv) (ax m:List ByteArray):Prop:=∃ S:List cv,S.Perm (l.filter (px ax))/\(S.Pairwise fun x y=>j1 y x=false)/\m=S.map cv.id
def Ye (l:List cv) (ax:List ByteArray) (w:World) (e:Ending) (w':World):Prop:=∃ m,Eg l ax m/\GU m w e w'
theorem XI (l:List cv) (ax:List ByteArray) (A B:Option Addr) (c d:Nat) (w:World) (hr:a7 w cK A l) (hs:a7 w encS B ax) (hl:l.length<=100000) (hm:ax.length<=9223372036854775807) :
  Calls prog 190 #[.slice A l.length c,.slice B ax.length d] w (Ye l ax w):=by
 have bx:=J hr;have aP:=J hs;clear hr hs
 go_enter func190,ntmps190
 go_wp2_with fail
 go_loopw [5,13] (fun b i wr=>∃ (k:Nat) (m:List cv) (br:Option Addr) (a8:Nat),k<=l.length/\i=.i k/\m=(l.take k).filter (px ax)/\b=.slice br m.length a8/\Own wr w.heap.size 75 cK (.slice br m.length a8) m/\Below w.heap.size w wr) (fun _ i _=>l.length-(intOf i).toNat)
 case atStart=>exact ⟨0,[],none,0,af,rfl,rfl,rfl,Own.e8 _ _ _ _,aO _ _⟩
 case round =>
  obtain ⟨k,m,br,a8,hk,rfl,nZ,rfl,hO,bM⟩:=hrel;have ag:=J nZ;have aA:=J (ae hO bM);have pw:m.length<=100000:=by rw [nZ];have:=tx (px ax) (l.take k);rw [fv] at this;omega
  clear nZ hO bM
  by_cases aT:k<l.length
  ·obtain ⟨b,off,rfl,hb,tB,qa,kt,kd⟩:=(bx.below aA.2).ks aT
   have cg:decide ((k:Int)<(l.length:Int))=true:=bO af;have lG:(k:Int)<(l.length:Int):=af;have El:=Yc (px ax) l k aT;have h0:=Yd (px ax) l k aT;have Em:px ax l[k]=(!(l[k].state==3)&&!hasB ax l[k].id):=rfl;generalize l[k]=x at *
   have cJ:=J (ae El (ae h0 Em));clear El h0 Em;have fk:Hid (Own (wr.alloc (.cells x.cells 75)) w.heap.size 75 cK (.slice br m.length a8) m/\Below w.heap.size w (wr.alloc (.cells x.cells 75))):=⟨aA.1.alloc _,aA.2.alloc aA.2.size _⟩
   cases dU:(x.state==3)
   ·have G2:(x.state != 3)=true:=by unfold bne;rw [dU];rfl
    go_wp2_with fail;refine (Ps ax x.id B d _ (aP.below fk.2) hm).mono ?_;rintro e aC ⟨rfl,rfl⟩
    cases xg:hasB ax x.id
    ·have bs:=J (cJ.1 (by rw [cJ.2.2,dU,xg];rfl))
     have kr:(wr.alloc (.cells x.cells 75)).heap.size=wr.heap.size+1:=av;have tC:=a7.made (wr.alloc (.cells x.cells 75)) cK [x] 75 x.cells (0,0) rfl;rw [kr] at tC
     have iQ:Hid (Own ((wr.alloc (.cells x.cells 75)).alloc (.cells x.cells 75)) w.heap.size 75 cK (.slice br m.length a8) m/\Below w.heap.size w ((wr.alloc (.cells x.cells 75)).alloc (.cells x.cells 75))/\a7 ((wr.alloc (.cells x.cells 75)).alloc (.cells x.cells 75)) cK (some ⟨wr.heap.size+1,0,none⟩) [x]):=⟨fk.1.alloc _,fk.2.alloc fk.2.size _,tC⟩
     clear xg dU kr tC
     go_wp2_with (at_builtin;refine hW G1 cK rfl (.tmp 28) (.tmp 30) rfl w.heap.size _ m rfl iQ.1 _ [x] 1 rfl iQ.2.2 (by simp;omega) (by simp;omega) iQ.2.1.size ?_;intro b5 fP w3 eX eF _;have yw:=iQ.1.jX iQ.2.1 eF aF iQ.2.1.size;have cD:=J (ae eX yw);clear eX eF yw)
     have ja:m.length + [x].length=(m++[x]).length:=(cd).symm;have yx:=cD.1;rw [ja] at yx
     go_roundw
     case rel=>exact ⟨k+1,m++[x],b5,fP,af,cm,by rw [bs.out];exact pz (·++[x]) ag.out,by first|rfl|(rw [<- ja];rfl),yx,cD.2⟩
     case measure=>exact c4
    ·have bs:=J (cJ.2.1 (by rw [cJ.2.2,dU,xg];rfl))
     clear xg dU;go_wp2_with fail
     go_roundw
     case rel=>exact ⟨k+1,m,br,a8,af,cm,by rw [bs.out];exact ag.out,rfl,fk.1,fk.2⟩
     case measure=>exact c4
   ·have bs:=J (cJ.2.1 (by rw [cJ.2.2,dU];rfl))
    have G2:(x.state != 3)=false:=by unfold bne;rw [dU];rfl
    go_wp2_with fail
    go_roundw
    case rel=>exact ⟨k+1,m,br,a8,af,cm,by rw [bs.out];exact ag.out,rfl,fk.1,fk.2⟩
    case measure=>exact c4
  ·obtain rfl:k=l.length:=by omega
   have cg:decide ((l.length:Int)<(l.length:Int))=false:=av;have r7:m=l.filter (px ax):=by have:=ag.out;rwa [kn] at this
   have CJ:=J r7;clear r7;go_wp2_with fail;refine (Yb m br a8 wr w.heap.size aA.1 pw).mono ?_;rintro e aM ⟨rfl,S,ke,tD,xh,tE⟩;have yz:=aA.1.jX aA.2 tE aF aA.2.size;have G3:S.length=m.length:=ke.length_eq;have ajX:S.length<=100000:=af;have Yf:Hid (Eg l ax (S.map cv.id)):=⟨S,by rw [<- CJ.out];exact ke,tD,rfl⟩
   rw [<- G3];have cA:=J (ae xh.cZ yz);clear ke tD xh tE yz aA ag CJ G3 pw cg;go_wp2_with fail
   go_loopw [8,37] (fun b i wr=>∃ (k:Nat) (m:List ByteArray) (br:Option Addr) (a8:Nat),k<=S.length/\i=.i k/\m=(S.take k).map cv.id/\b=.slice br m.length a8/\Own wr aM.heap.size 9 encS (.slice br m.length a8) m/\Below aM.heap.size aM wr) (fun _ i _=>S.length-(intOf i).toNat)
   case atStart=>exact ⟨0,[],none,0,af,rfl,rfl,rfl,Own.e8 _ _ _ _,aO _ _⟩
   case round =>
    obtain ⟨k,n,A2,c2,hk,rfl,nZ,rfl,hO,bM⟩:=hrel;have ag:=J nZ;have aA:=J (ae hO bM);have pw:n.length<=100000:=by rw [nZ,lJ,fv];omega
    clear nZ hO bM
    by_cases aT:k<S.length
    ·obtain ⟨b,off,rfl,hb,tB,qa,kt,kd⟩:=(cA.1.below aA.2).ks aT
     have cg:decide ((k:Int)<(S.length:Int))=true:=bO af;have lG:(k:Int)<(S.length:Int):=af;have PR:(S.take (k+1)).map cv.id=(S.take k).map cv.id++[S[k].id]:=by rw [gS aT,nQ];rfl
     generalize S[k]=x at *
     have bs:=J PR;have kr:(wr.alloc (.cells x.cells 75)).heap.size=wr.heap.size+1:=av;have tC:=a7.made (wr.alloc (.cells x.cells 75)) encS [x.id] 9 #[.string x.id] (0,0) rfl;rw [kr] at tC
     have iQ:Hid (Own ((wr.alloc (.cells x.cells 75)).alloc (.cells #[.string x.id] 9)) aM.heap.size 9 encS (.slice A2 n.length c2) n/\Below aM.heap.size aM ((wr.alloc (.cells x.cells 75)).alloc (.cells #[.string x.id] 9))/\a7 ((wr.alloc (.cells x.cells 75)).alloc (.cells #[.string x.id] 9)) encS (some ⟨wr.heap.size+1,0,none⟩) [x.id]):=⟨(aA.1.alloc _).alloc _,(aA.2.alloc aA.2.size _).alloc (by have:=aA.2.size;simp;omega) _,tC⟩
     clear PR kr tC
     go_wp2_with (at_builtin;refine hW En encS rfl (.tmp 41) (.tmp 44) rfl aM.heap.size _ n rfl iQ.1 _ [x.id] 1 rfl iQ.2.2 (by simp;omega) (by simp;omega) iQ.2.1.size ?_;intro b5 fP w3 eX eF _;have yw:=iQ.1.jX iQ.2.1 eF aF iQ.2.1.size;have cD:=J (ae eX yw);clear eX eF yw)
     have ja:n.length + [x.id].length=(n++[x.id]).length:=(cd).symm;have yx:=cD.1;rw [ja] at yx
     go_roundw
     case rel=>exact ⟨k+1,n++[x.id],b5,fP,af,cm,by rw [bs.out];exact pz (·++[x.id]) ag.out,by first|rfl|(rw [<- ja];rfl),yx,cD.2⟩
     case measure=>exact c4
    ·obtain rfl:k=S.length:=by omega
     have cg:decide ((S.length:Int)<(S.length:Int))=false:=av;have r7:n=S.map cv.id:=by have:=ag.out;rwa [kn] at this
     subst r7;go_wp2_with fail;go_ret;exact ⟨_,Yf.out,A2,c2,rfl,aA.1.mono cA.2.size,cA.2.trans (aA.2.mono cA.2.size)⟩
end Go.Proofs.YtmmchlfoplcnbaaGreatDoor
