/- A part of the walk. -/
import Derived.Test.YtmmchlfoplcnbaaGreatDoorMD6
namespace Go.Proofs.YtmmchlfoplcnbaaGreatDoor
open Go Go.RowKit Tryz
set_option linter.all false
set_option maxRecDepth 100000
set_option maxHeartbeats 4000000
abbrev nk:Int:=1099511627776
structure IW (x:dJ):Prop where
 a:0<=x.a0/\x.a0<=mx
 b:0<=x.c6/\x.c6<=mx
 c:0<=x.a2/\x.a2<=mx
structure fG (q:bL) (a:bD):Prop where
 r:jb a.rd a.ax
 w:∀ x∈a.ax,x.aa.fe
 f:gp q.ky (dM a.ax)=true
 sl:a.since.length=q.ts.length
 s:∀ s∈a.since,-1<=s/\s<=nk
 k:(0<=a.cz/\a.cz<=1000)/\(0<=a.dv/\a.dv<=1000)/\(0<=a.ed/\a.ed<=1000)
 t : -1<=a.time/\a.time<=mx
 v:(0<=a.v0/\a.v0<=mx)/\(0<=a.v1/\a.v1<=mx)/\(0<=a.v2/\a.v2<=mx)
 uG:a.uses.length<=128
 us:oR a.uses
 DH:∀ x∈a.uses,IW x
theorem fG.iq {q:bL} {a:bD} (h:fG q a):gz (fun e:bj=>e.aa.id) a.ax:=Ja.1 h.r.iq
theorem fG.ax {q:bL} {a:bD} (h:fG q a) {l:List bj} (h1:jb a.rd l) (ah:∀ x∈l,x.aa.fe) (aw:gp q.ky (dM l)=true):fG q { a with ax:=l }:=⟨h1,ah,aw,h.sl,h.s,h.k,h.t,h.v,h.uG,h.us,h.DH⟩
theorem afs {l:List bj} (hs:gz (fun e:bj=>e.aa.id) l) {e:bj} (he:e∈l):∃ hi:dQ l e.aa.id<l.length,l[dQ l e.aa.id]=e:=by
 obtain ⟨hi,h⟩:=zX (Nw hs he);exact ⟨hi,hs.inj (iO hi) he h⟩
theorem Fy {l:List bj} (hs:gz (fun e:bj=>e.aa.id) l) {e:bj} (he:e∈l):ij l e.aa.id=true:=by rw [FR];exact Nw hs he
theorem Uf {l:List bj} (hs:gz (fun e:bj=>e.aa.id) l) {e:bj} (he:e∈l) (qM:Int):fZ l ⟨e.aa,qM⟩=l.set (dQ l e.aa.id) ⟨e.aa,qM⟩:=by
 unfold fZ;rw [bB (Fy hs he)]
theorem aft {l:List bj} {i:Nat} {e:bj} (hi:i<l.length) (h:l[i].aa=e.aa):dM (l.set i e)=dM l:=by
 unfold dM;rw [List.map_set]
 apply List.ext_getElem av
 intro j h1 ah;rw [Jb]
 split
 ·rename_i aw;subst aw;simp [h]
 ·rfl
theorem afu {l:List bj} (hs:gz (fun e:bj=>e.aa.id) l) {e:bj} (he:e∈l) (qM:Int):dM (fZ l ⟨e.aa,qM⟩)=dM l:=by
 obtain ⟨hi,h⟩:=afs hs he;rw [Uf hs he,aft hi (by rw [h])]
theorem afv {l:List bj} {e y:bj} (hy:y∈l) (bW:y.aa.id≠e.aa.id):y∈fZ l e:=by
 unfold fZ
 split
 ·rename_i ha
  rw [FR] at ha
  obtain ⟨hi,h⟩:=zX ha;have hi:dQ l e.aa.id<l.length:=hi;obtain ⟨j,aD,rfl⟩:=pj hy;have Ug:dQ l e.aa.id≠j:=fun aV=>by
   subst aV;exact bW h
  have:(l.set (dQ l e.aa.id) e)[j]'(by simpa using aD)=l[j]:=by rw [Jb,bp Ug]
  rw [<- this];exact iO _
 ·unfold nU
  rw [<- p1 (dQ l e.aa.id) l] at hy
  rcases jl.1 hy with h|h <;> simp [h]
theorem Nx (l:List bj) (s:ByteArray):(im l s).Sublist l:=by
 unfold im
 split
 ·exact DN l _
 ·exact HU _
theorem afw {l:List bj} {s:ByteArray} {y:bj} (hy:y∈l) (bW:y.aa.id≠s):y∈im l s:=by
 unfold im
 split
 ·rename_i ha
  rw [FR] at ha
  obtain ⟨hi,h⟩:=zX ha;obtain ⟨j,aD,rfl⟩:=pj hy;have Ug:dQ l s≠j:=fun aV=>by
   subst aV;exact bW h
  unfold nz
  rcases gB j (dQ l s) with h1|h1
  ·exact jl.2 (.inl (K5.2 ⟨j,af,rfl⟩))
  ·exact jl.2 (.inr (K6.2 ⟨j-(dQ l s+1),af,by congr 1;omega⟩))
 ·exact hy
section
variable {q:bL} {a:bD} {e:bj} {qM:Int}
theorem fG.phase (h:fG q a) (he:e∈a.ax) (h1:1<=qM) (ah:qM<=3):fG q { a with ax:=fZ a.ax ⟨e.aa,qM⟩ }:=by
 refine h.ax ?_ (fun x hx=>?_) ?_
 ·refine Qo h.r ?_ ?_
  ·have:=KT (h.r.kv e he)
   exact Qc this.1 h1 ah
  ·rw [Uf h.iq he,tA];exact h.r.len
 ·rcases KV h.r.iq hx with rfl|hx
  ·exact h.w e he
  ·exact h.w x hx
 ·rw [afu h.iq he];exact h.f
theorem fG.without (h:fG q a) (s:ByteArray):fG q { a with ax:=im a.ax s }:=by
 refine h.ax (Qm h.r s) (fun x hx=>h.w x ((Nx _ _).subset hx)) (abt ?_ h.f);exact (Nx _ _).map bj.aa
theorem afx {id:ByteArray} (ha:ij a.ax id=true):∃ e∈a.ax,e.aa.id=id/\og a.ax (dQ a.ax id)=fZ a.ax ⟨e.aa,3⟩/\a.ax[dQ a.ax id]? = some e:=by
 rw [FR] at ha
 obtain ⟨hi,h⟩:=zX ha;have hi:dQ a.ax id<a.ax.length:=hi;refine ⟨a.ax[dQ a.ax id],iO hi,h,?_,dF hi⟩;unfold og;rw [dF hi]
theorem fG.ends (h:fG q a) {id:ByteArray} (ha:ij a.ax id=true):fG q { a with ax:=og a.ax (dQ a.ax id) }:=by
 obtain ⟨e,he,_,h1,_⟩:=afx ha;rw [h1];exact h.phase he ak ak
theorem RT (O:List ByteArray):∀ l:List bj,(lR l O).Sublist l:=by
 unfold lR
 induction O with
 | nil=>intro l;exact HU _
 | cons s O b6=>intro l;rw [oP];exact (b6 _).trans (Nx _ _)
theorem LR {rd:Int} (O:List ByteArray):∀ {l:List bj},jb rd l->jb rd (lR l O):=by
 unfold lR
 induction O with
 | nil=>intro l h;exact h
 | cons s O b6=>intro l h;rw [oP];exact b6 (Qm h s)
theorem afy {l:List bj} (hs:fB l) (s:ByteArray):im l s=l.filter fun x=>!(x.aa.id.toList==s.toList):=by
 rw [<- AP hs];rfl
theorem afz (O:List ByteArray):∀ {l:List bj},fB l->lR l O=l.filter fun x=>!oT O x.aa.id:=by
 unfold lR
 induction O with
 | nil=>intro l _;exact (List.filter_eq_self.2 fun x _=>by simp [oT]).symm
 | cons s O b6 =>
  intro l hs;rw [oP,b6 (Hd hs s),afy hs,List.filter_filter]
  congr 1
  funext x
  have:oT (s :: O) x.aa.id=(oT O x.aa.id||(x.aa.id.toList==s.toList)):=by
   rw [w8];simp only [Bool.or_eq_true,RM,fb,qQ]
   constructor
   ·rintro (h|h)
    ·exact .inr (by rw [h])
    ·exact .inl h
   ·rintro (h|h)
    ·exact .inr h
    ·exact .inl (toList_inj (by simpa using h))
  rw [this,Bool.not_or]
theorem Jc {l:List bj} {s:ByteArray}:jL l s=true↔∃ x∈l,x.aa.id=s:=by
 unfold jL;rw [Cw]
 constructor
 ·rintro ⟨x,hx,h⟩;exact ⟨x,hx,toList_inj h⟩
 ·rintro ⟨x,hx,rfl⟩;exact ⟨x,hx,av⟩
theorem afA {l:List bj} (hs:gz (fun e:bj=>e.aa.id) l) (s:ByteArray):jL l s=ij l s:=by
 rw [w8,Jc,FR,Uh hs]
theorem afB (room:cr) (p:aQ) (l:List bj) (x y z:Bool):((mG room p l x y z).2.2.2≠0/\(mG room p l x y z).2.2.1 = [])\/(p.right=true/\jL l p.id=false/\l.length<64/\(mG room p l x y z).2.2.2=0/\(((mG room p l x y z).1=3/\(mG room p l x y z).2.2.1 = [])\/((mG room p l x y z).1=4/\(mG room p l x y z).2.1=0/\(k9 x y z p).2=false/\(jE room p (dM l)).2=false)\/(((mG room p l x y z).1=1\/(mG room p l x y z).1=2)/\(k9 x y z p).2=false/\(jE room p (dM l)).2=true/\(mG room p l x y z).2.2.1=(jE room p (dM l)).1))):=by
 unfold mG
 by_cases h1:p.right=false
 ·rw [bB h1];exact .inl ⟨av,rfl⟩
 ·rw [bp h1]
  by_cases ah:jL l p.id=true
  ·rw [bB ah];exact .inl ⟨av,rfl⟩
  ·rw [bp ah]
   by_cases aw:64<=l.length
   ·rw [bB aw];exact .inl ⟨av,rfl⟩
   ·rw [bp aw]
    refine .inr ⟨by simpa using h1,by simpa using ah,af,?_⟩
    by_cases bn:(k9 x y z p).2=true
    ·rw [bB bn];exact ⟨rfl,.inl ⟨rfl,rfl⟩⟩
    ·rw [bp bn]
     refine ⟨rfl,.inr ?_⟩;have Ui:(k9 x y z p).2=false:=by simpa using bn
     cases dk:(jE room p (dM l)).2
     ·exact .inl ⟨rfl,rfl,Ui,rfl⟩
     ·refine .inr ⟨?_,Ui,rfl,rfl⟩
      by_cases iT:(jE room p (dM l)).1.isEmpty=true
      ·rw [bp av,bB iT];exact .inl rfl
      ·rw [bp av,bp iT];exact .inr rfl
theorem afC {room:cr} {p:aQ} {l:List bj} (hs:fB l) (hn:jL l p.id=false) (hw:(jE room p (dM l)).2=true) :
  gp room (dM (lR l (jE room p (dM l)).1)++[p])=true/\(∀ s∈(jE room p (dM l)).1,∃ x∈l,x.aa.id=s/\mB p x.aa=true)/\(jE room p (dM l)).1.Nodup/\(∀ x∈l,x.aa.id∈(jE room p (dM l)).1->gp room (dM (lR l (jE room p (dM l)).1)++[p]++[x.aa])=false):=by
 obtain ⟨K,hK,Uj,hf,h1,_⟩:=Uk room p (dM l);obtain ⟨hO,_⟩:=h1 hw;rw [hw] at hf
 generalize (jE room p (dM l)).1=O at *
 obtain ⟨gone,g1,g2,g3,g4,g5⟩:=abx room K (fV p (dM l));have B4:∀ x∈dM l,x.id≠p.id:=fun x hx e=>by
  obtain ⟨u,hu,rfl⟩:=kM.1 hx;have:jL l p.id=true:=Jc.2 ⟨u,hu,e⟩;rw [hn] at this;cases this
 have Ny:=Ul hs;have hi:∀ x∈dM l++[p],∀ y∈dM l++[p],x.id=y.id->x=y:=fun x hx y hy e=>by
  rcases jl.1 hx with hx|hx <;> rcases jl.1 hy with hy|hy
  ·exact Ny x hx y hy e
  ·rw [mD.1 hy] at e;exact absurd e (B4 x hx)
  ·rw [mD.1 hx] at e;exact absurd e.symm (B4 y hy)
  ·rw [mD.1 hx,mD.1 hy]
 have Um:(dM l).Nodup:=by
  unfold dM;rw [Nz,HY];exact (Ja.1 hs).imp fun {x y} h e=>by have cI:blt x.aa.id y.aa.id=true:=h;rw [e,ms] at cI;cases cI
 have ph:(dM l++[p]).Nodup:=by
  rw [EV];exact ⟨Um,av,fun x hx y hy e=>B4 x hx (by rw [e,mD.1 hy])⟩
 have DO:∀ x∈kx p (dM l),x∈dM l/\mB p x=true:=fun x hx=>vI.1 hx
 have wy:∀ x∈gone,x∈dM l/\mB p x=true:=fun x hx=>DO x (hK.subset (g3.subset hx))
 have hp:((gR room (fV p (dM l)) K).1++gone).Perm (dM l++[p]):=g2.trans (((hK).append_left _).trans (abv p (dM l)));have afD:p∉gone:=fun h=>B4 p (wy p h).1 rfl
 have ho:∀ s,s∈O↔s∈gone.map aQ.id:=fun s=>by rw [<- g1];exact hO.mem_iff
 have hl:=aby hi ph hp afD O ho;have he:dM (lR l O)=(dM l).filter fun x=>!oT O x.id:=by
  unfold dM;rw [afz O hs,List.filter_map]
  rfl
 rw [he];refine ⟨by rw [A9 hl];exact g4 hf,fun s afE=>?_,?_,fun x hx afF=>?_⟩
 ·obtain ⟨g,az,rfl⟩:=kM.1 ((ho s).1 afE)
  obtain ⟨u,hu,e⟩:=kM.1 (wy g az).1;exact ⟨u,hu,by rw [e],by rw [e];exact (wy g az).2⟩
 ·rw [hO.nodup_iff,g1]
  have:gone.Nodup:=g3.nodup ((hK.nodup_iff).2 (Um.filter _));rw [Nz,HY];refine List.Pairwise.imp_of_mem (fun {a b} ha hb h e=>h (Ny a (wy a ha).1 b (wy b hb).1 e)) (Nz.1 this)
 ·obtain ⟨g,az,e⟩:=kM.1 ((ho _).1 afF)
  have:g=x.aa:=Ny g (wy g az).1 x.aa (kM.2 ⟨x,hx,rfl⟩) e;subst this;rw [A9 (hl.append_right [x.aa])];exact g5 _ az
theorem fG.CV (h:fG q a) {p:aQ} (hp:p.fe):fG q (a.CV q p).1:=by
 unfold bD.CV
 rcases afB q.ky p a.ax a.aU a.aL a.aS with ⟨h1,_⟩|⟨hr,hn,hl,aI,h1⟩
 ·simp only [bB h1];exact h
 ·simp only [bp (by rw [aI];simp:¬ ((mG q.ky p a.ax a.aU a.aL a.aS).2.2.2≠0))]
  rcases h1 with ⟨h1,_⟩|⟨h1,_⟩|⟨h1,_,hw,he⟩
  ·rw [bB (.inl h1)];exact h
  ·rw [bB (.inr h1)];exact h
  ·rw [bp af,he]
   have q7:fB (lR a.ax (jE q.ky p (dM a.ax)).1):=(LR _ h.r).iq;have zY:=RT (jE q.ky p (dM a.ax)).1 a.ax;have afG:ij (lR a.ax (jE q.ky p (dM a.ax)).1) p.id=false:=by
    rw [<- afA (Ja.1 q7)]
    cases hc:jL (lR a.ax (jE q.ky p (dM a.ax)).1) p.id
    ·rfl
    ·obtain ⟨x,hx,e⟩:=Jc.1 hc
     have:jL a.ax p.id=true:=Jc.2 ⟨x,zY.subset hx,e⟩;rw [hn] at this;cases this
   have D8:=(afC h.r.iq hn hw).1;refine h.ax ?_ (fun x hx=>?_) ?_
   ·refine Qo (LR _ h.r) (Qc hr (oU 1) (show (1:Int)<=3 by decide)) ?_
    have:=YT q7 ⟨p,1⟩;have:=zY.length_le;omega
   ·rcases KV q7 hx with rfl|hx
    ·exact hp
    ·exact h.w x (zY.subset hx)
   ·have ke:(dM (fZ (lR a.ax (jE q.ky p (dM a.ax)).1) ⟨p,1⟩)).Perm (dM (lR a.ax (jE q.ky p (dM a.ax)).1)++[p]):=by
     unfold fZ;rw [bp (by simp [afG])];unfold nU dM;rw [nQ,ny];refine Hz.trans ?_;rw [<- nQ,p1];exact HT (l₁:=[p])
    rw [A9 ke];exact D8
theorem fG.delete (h:fG q a) (id:ByteArray):fG q (a.delete id).1:=by
 unfold bD.delete
 split
 ·rename_i ha
  split
  ·split
   ·exact h
   ·exact h.ends ha
  ·exact h
 ·exact h
end
structure c0 (q:bL) (N E:Nat) (r:Rd):Prop where
 a:fG q r.a
 o:e2 N r.o
 e:r.ev.length<=E
 h:r.holds = []\/r.holds.length=q.ts.length
section
variable {q:bL} {N E:Nat} {r:Rd}
theorem jb.NA {rd:Int} {l:List bj} (h:jb rd l):0<=rd/\rd<=mx:=⟨h.lI,Int.le_trans h.hi ak⟩
theorem c0.rd (h:c0 q N E r):0<=r.a.rd/\r.a.rd<=mx:=h.a.r.NA
theorem c0.mono {M F:Nat} (h:c0 q N E r) (h1:N<=M) (ah:E<=F):c0 q M F r:=⟨h.a,h.o.mono h1,gT h.e ah,h.h⟩
theorem c0.told (h:c0 q N E r) (v:cP):c0 q N (E+1) { r with ev:=r.ev++[v] }:=⟨h.a,h.o,by have:=h.e;simp;omega,h.h⟩
theorem c0.uy {M:Nat} (h:c0 q N E r) {o:bA} (ho:e2 M o):c0 q M E { r with o:=o }:=⟨h.a,ho,h.e,h.h⟩
theorem c0.Hc (h:c0 q N E r) {a:bD} (ha:fG q a):c0 q N E { r with a:=a }:=⟨ha,h.o,h.e,h.h⟩
theorem NB (c:NC) (x y z:Bool) (b2:Nat) (hp:b2<=1000) (hc:0<=c.calm/\c.calm<=1000):0<=(gi c x y z b2).calm/\(gi c x y z b2).calm<=1000:=by
 unfold gi
 split
 ·exact ⟨oU 0,show (0:Int)<=1000 from ak⟩
 ·split
  ·exact ⟨oU 0,show (0:Int)<=1000 from ak⟩
  ·split
   ·exact ⟨oU 0,show (0:Int)<=1000 from ak⟩
   ·simp only;omega
theorem Dw (i:Int) (x y:Bool):(nc i x y).length<=1:=by
 unfold nc
 split
 ·simp
 ·split <;> simp
theorem Un {met:List Bool} {since:List Int} {rd s:Int} (h:s∈km met since rd) (hs:∀ x∈since,-1<=x/\x<=nk) (hr:0<=rd/\rd<=nk) : -1<=s/\s<=nk:=by
 unfold km at h
 rw [<- List.map_uncurry_zip_eq_zipWith] at h
 obtain ⟨⟨m,x⟩,hx,rfl⟩:=kM.1 h;have:=hs x (List.of_mem_zip hx).2;simp only [Function.uncurry]
 split
 ·split
  ·omega
  ·exact this
 ·exact ⟨oU _,ak⟩
theorem c0.signals (bd:q.Ok) (h:c0 q N E r):c0 q N 3 (r.signals q):=by
 have hr:=h.a.r;have hk:=h.a.k;have hm:(hh q r.a.v0 r.a.v1 r.a.v2).length=q.ts.length:=by unfold hh;simp
 have q8:(if r.a.fresh=true then km (hh q r.a.v0 r.a.v1 r.a.v2) r.a.since r.a.rd else r.a.since).length=q.ts.length:=by
  split
  ·unfold km;rw [I4,hm,h.a.sl];simp
  ·exact h.a.sl
 refine ⟨⟨hr,h.a.w,h.a.f,q8,fun s hs=>?_,⟨NB _ _ _ _ _ bd.gl hk.1,NB _ _ _ _ _ bd.gl hk.2.1,NB _ _ _ _ _ bd.gl hk.2.2⟩,h.a.t,h.a.v,h.a.uG,h.a.us,h.a.DH⟩,h.o,?_,?_⟩
 ·have hs:s∈(if r.a.fresh=true then km (hh q r.a.v0 r.a.v1 r.a.v2) r.a.since r.a.rd else r.a.since):=hs
  split at hs
  ·exact Un hs h.a.s ⟨hr.lI,hr.hi⟩
  ·exact h.a.s s hs
 ·show (nc _ _ _++(nc _ _ _++nc _ _ _)).length<=3
  rw [cd,cd];have h1:=Dw 0 r.a.aU (gi ⟨r.a.aU,r.a.cz⟩ (if r.a.fresh=true then fW q.ts (if r.a.fresh=true then lY q.ts (if r.a.fresh=true then km (hh q r.a.v0 r.a.v1 r.a.v2) r.a.since r.a.rd else r.a.since) r.a.rd else r.holds) 0 else r.h5) (r.a.fresh&&fW q.ts (hh q r.a.v0 r.a.v1 r.a.v2) 0) r.a.fresh q.b2).on;have ah:=Dw 1 r.a.aL (gi ⟨r.a.aL,r.a.dv⟩ (if r.a.fresh=true then fW q.ts (if r.a.fresh=true then lY q.ts (if r.a.fresh=true then km (hh q r.a.v0 r.a.v1 r.a.v2) r.a.since r.a.rd else r.a.since) r.a.rd else r.holds) 1 else r.dc) (r.a.fresh&&fW q.ts (hh q r.a.v0 r.a.v1 r.a.v2) 1) r.a.fresh q.b2).on;have aw:=Dw 2 r.a.aS (gi ⟨r.a.aS,r.a.ed⟩ (if r.a.fresh=true then fW q.ts (if r.a.fresh=true then lY q.ts (if r.a.fresh=true then km (hh q r.a.v0 r.a.v1 r.a.v2) r.a.since r.a.rd else r.a.since) r.a.rd else r.holds) 2 else r.gl) (r.a.fresh&&fW q.ts (hh q r.a.v0 r.a.v1 r.a.v2) 2) r.a.fresh q.b2).on;omega
 ·show (if r.a.fresh=true then lY q.ts _ r.a.rd else r.holds) = []\/(if r.a.fresh=true then lY q.ts _ r.a.rd else r.holds).length=q.ts.length
  split
  ·right;unfold lY;rw [I4];rename_i hf;rw [bB hf] at q8;rw [q8];simp
  ·exact h.h
theorem c0.gY (h:c0 q N E r) (what kind:Int) (id:ByteArray):c0 q N (E+1) (r.gY q what kind id):=by
 have ho:e2 N (r.o.ask id what q.ret r.a.rd).2:=h.o.ask h.rd;unfold Rd.gY;simp only
 split
 ·exact (h.uy ho).told _
 ·exact (h.uy ho).mono aF af
theorem c0.Fm (what kind:Int) (l:List ByteArray):∀ {r:Rd} {E:Nat},c0 q N E r->c0 q N (E+l.length) (l.foldl (Rd.gY q what kind) r):=by
 induction l with
 | nil=>intro r E h;exact h
 | cons x l b6=>intro r E h;rw [oP,cy];exact (b6 (h.gY what kind x)).mono aF af
theorem c0.mZ (h:c0 q N E r):c0 q N (E+N) (r.mZ q):=by
 have ho:e2 N (r.o.lv (hE r.a.ax) r.a.rd):=h.o.lv _ h.rd;have h1:c0 q N E { r with o:=r.o.lv (hE r.a.ax) r.a.rd }:=h.uy ho;unfold Rd.mZ;refine (c0.Fm 4 13 _ h1).mono aF ?_;have:=MK (r.o.lv (hE r.a.ax) r.a.rd).boxes (gh r.a.ax) (if r.dc=true then 0 else q.dead);have:=ho.pR;simp only;omega
theorem c0.pT (h:c0 q N E r) (x:cf):c0 q N (E+1) (r.pT x):=by
 have ho:e2 N (r.o.drop x.name).2:=h.o.drop;unfold Rd.pT;simp only
 split
 ·exact (h.uy ho).told _
 ·exact (h.uy ho).mono aF af
theorem c0.T5 (l:List cf):∀ {r:Rd} {E:Nat},c0 q N E r->c0 q N (E+l.length) (l.foldl Rd.pT r):=by
 induction l with
 | nil=>intro r E h;exact h
 | cons x l b6=>intro r E h;rw [oP,cy];exact (b6 (h.pT x)).mono aF af
theorem c0.nN (h:c0 q N E r):c0 q N (E+N) (r.nN q):=by
 unfold Rd.nN
 split
 ·simp only
  generalize I9 _ _ _=k;have h1:=c0.T5 ((Ay r.o.eC (hE r.a.ax)).take k) h;have ah:((Ay r.o.eC (hE r.a.ax)).take k).length<=N:=by
   rw [fv];have:=Pr r.o.eC (hE r.a.ax);have:=h.o.pS;omega
  have aw:=h1.mono (e3 N) (show E+((Ay r.o.eC (hE r.a.ax)).take k).length<=E+N by omega);exact ⟨aw.a,aw.o,aw.e,aw.h⟩
 ·exact h.mono aF af
theorem IV {k:Int} {l:List bj} {us:List dJ} (h:(firstT (j4 k l us)).2=true):∃ e∈l,e.aa.id=(firstT (j4 k l us)).1/\xp e=true:=by
 have hf:=afH (j4 k l us);rw [h] at hf
 generalize (firstT (j4 k l us)).1=s at hf ⊢
 cases hf with
 | some M hm =>
  obtain ⟨e,he,rfl⟩:=kM.1 hm.1;obtain ⟨h1,ah⟩:=vI.1 he;exact ⟨e,h1,rfl,ah⟩
theorem c0.oe {k:Int} {r':Rd} (h:c0 q N E r) (he:r.oe k=some r'):c0 q N (E+1) r':=by
 unfold Rd.oe at he
 simp only at he
 split at he
 ·rename_i h1
  injection he with he
  subst he;obtain ⟨e,he,ah,_⟩:=IV h1;have ha:ij r.a.ax (firstT (j4 k r.a.ax r.a.uses)).1=true:=by rw [<- ah];exact Fy h.a.iq he
  exact (h.Hc (h.a.ends ha)).told _
 ·cases he
theorem c0.j9 (h:c0 q N E r):c0 q N (E+1) r.j9:=by
 have hm:=h.mono (e3 N) (qh E);unfold Rd.j9
 split
 ·exact hm
 ·split
  ·rename_i h1;split at h1
   ·exact h.oe h1
   ·cases h1
  ·split
   ·rename_i h1;split at h1
    ·exact h.oe h1
    ·cases h1
   ·split
    ·rename_i h1;split at h1
     ·exact h.oe h1
     ·cases h1
    ·exact hm
theorem c0.leave (h:c0 q N E r) (kind:Int) (id:ByteArray):c0 q N (E+1) (r.leave kind id):=(h.Hc (h.a.without id)).told _
theorem c0.ending (h:c0 q N E r) (id:ByteArray) (was:Int):c0 q N (E+1) (r.ending q id was):=by
 unfold Rd.ending
 split
 ·have h1:c0 q N E { r with o:=(r.o.ask id 3 q.ret r.a.rd).2 }:=h.uy (h.o.ask h.rd)
  simp only
  split
  ·exact h1.mono aF af
  ·exact h1.leave _ _
 ·exact h.leave _ _
theorem afI {p:aQ} (h:p.right=true):p.id.size<=24/\p.bb.size<=24/\1<=p.id.size:=by
 unfold aQ.right at h
 simp only [qN] at h
 have h1:=h.2.1;have ah:=h.2.2.1;unfold named at h1 ah
 simp only [qN,jZ,mm] at h1 ah
 have aV:p.id.data.size=p.id.size:=rfl;have bE:p.bb.data.size=p.bb.size:=rfl;omega
theorem afJ {p:aQ} (h:p.right=true):0<=p.size:=by
 unfold aQ.right aQ.rest at h
 simp only [qN,jZ] at h
 exact h.2.2.2.2.2
theorem c0.aa {e:bj} (h:c0 q N E r) (he:e∈r.a.ax):c0 q (N+1) (E+1) (r.aa q e):=by
 have ea:=KT (h.a.r.kv e he);have hn:=afI ea.1;have hw:=h.a.w e he;have hm:=h.mono (qh N) (qh E);have DO:∀ what,c0 q (N+1) (E+1) { r with o:=(r.o.ask e.aa.id what q.ret r.a.rd).2 }:=fun what=>(h.uy (h.o.ask h.rd)).mono af af
 unfold Rd.aa;simp only
 split
 ·exact (h.ending _ _).mono af aF
 ·split
  ·exact ((h.uy (h.o.uM hn.1 h.rd)).Hc (h.a.phase he ak ak)).told _
  ·split
   ·exact DO 3
   ·split
    ·exact DO 4
    ·split
     ·have ho:e2 (N+1) (r.o.lx e.aa.id e.aa.bb e.aa.size q.ret r.a.rd).2:=h.o.lx hn.2.1 ⟨afJ ea.1,hw.size.2⟩ h.rd
      split
      ·exact (h.uy ho).told _
      ·exact (h.uy ho).mono aF af
     ·split
      ·exact (h.gY 2 10 _).mono af aF
      ·split
       ·exact (h.leave _ _).mono af aF
       ·exact hm
theorem afK {e y:bj} (hy:y∈r.a.ax) (bW:y.aa.id≠e.aa.id):y∈(r.aa q e).a.ax:=by
 have hl:∀ (r:Rd) (kind:Int),y∈r.a.ax->y∈(r.leave kind e.aa.id).a.ax:=fun r kind h=>afw h bW
 unfold Rd.aa;simp only
 split
 ·unfold Rd.ending
  split
  ·simp only
   split
   ·exact hy
   ·exact hl _ _ hy
  ·exact hl _ _ hy
 ·split
  ·exact afv hy bW
  ·split
   ·exact hy
   ·split
    ·exact hy
    ·split
     ·split <;> exact hy
     ·split
      ·unfold Rd.gY
       simp only
       split <;> exact hy
      ·split
       ·exact hl _ _ hy
       ·exact hy
theorem c0.ND:∀ (l:List bj) {r:Rd} {N E:Nat},c0 q N E r->(∀ e∈l,e∈r.a.ax)->(l.Pairwise fun x y=>x.aa.id≠y.aa.id)->c0 q (N+l.length) (E+l.length) (l.foldl (Rd.aa q) r)
 | [],r,N,E,h,_,_=>h
 | e :: l,r,N,E,h,hl,hp=>by
  rw [nB] at hp
  rw [oP,cy];exact (c0.ND l (h.aa (hl e av)) (fun y hy=>afK (hl y (by simp [hy])) fun aV=>hp.1 y hy aV.symm) hp.2).mono af af
theorem Uo {l:List bj} (hs:gz (fun e:bj=>e.aa.id) l):l.Pairwise fun x y=>x.aa.id≠y.aa.id:=hs.imp fun {x y} h e=>by have cI:blt x.aa.id y.aa.id=true:=h;rw [e,ms] at cI;cases cI
theorem c0.ax (h:c0 q N E r):c0 q (N+64) (E+64) (r.ax q):=by
 unfold Rd.ax;have:=h.a.r.len;exact (c0.ND r.a.ax h (fun e he=>he) (Uo h.a.iq)).mono af af
theorem c0.lost (h:c0 q N E r):c0 q N (E+N) (r.lost q):=by
 unfold Rd.lost;refine (c0.Fm 3 15 _ h).mono aF ?_;have h1:(mT (p' (gh r.a.ax)) r.o.boxes).length<=r.o.boxes.length:=by unfold mT;rw [lJ];exact tx _ _
 have:=h.o.pR;omega
theorem c0.start {a:bD} {o:bA} (ha:fG q a) (ho:e2 N o) (hr:a.rd<nk):c0 q N 0 (⟨{ a with rd:=a.rd+1 },o,[],[],false,false,false⟩:Rd) :=
 ⟨⟨⟨by have:=ha.r.lI;simp only;omega,by simp only;exact hr,ha.r.len,ha.r.ok⟩,ha.w,ha.f,ha.sl,ha.s,ha.k,ha.t,ha.v,ha.uG,ha.us,ha.DH⟩,ho,av,.inl rfl⟩
theorem c0.round (bd:q.Ok) {a:bD} {o:bA} (ha:fG q a) (ho:e2 N o) (hr:a.rd<nk):c0 q (N+64) (3+N+N+1+64+(N+64)) (a.round q o) :=
 ((((((c0.start ha ho hr).signals bd).mZ).nN).j9).ax).lost
theorem fG.tick (bd:q.Ok) {a:bD} {o:bA} (ha:fG q a) (ho:e2 N o) (hr:a.rd<nk):fG q (a.tick q o).1/\e2 (N+64) (a.tick q o).2.1/\(a.tick q o).2.2.length<=3*N+200:=by
 have h:=c0.round bd ha ho hr;unfold bD.tick;generalize a.round q o=r at *
 exact ⟨⟨h.a.r,h.a.w,h.a.f,h.a.sl,h.a.s,h.a.k,h.a.t,h.a.v,h.a.uG,h.a.us,h.a.DH⟩,h.o,gT h.e af⟩
end
end Go.Proofs.YtmmchlfoplcnbaaGreatDoor
