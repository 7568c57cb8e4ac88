/- A part of the walk. -/
import Derived.Test.YtmmchlfoplcnbaaGreatDoorMD5
import Derived.Test.YtmmchlfoplcnbaaGreatDoorMC8
import Derived.Test.YtmmchlfoplcnbaaGreatDoorMC5
import Derived.Test.YtmmchlfoplcnbaaGreatDoorMD4
namespace Go.Proofs.YtmmchlfoplcnbaaGreatDoor
open Go Go.RowKit Tryz
set_option linter.all false
set_option maxRecDepth 100000
set_option maxHeartbeats 4000000

section
variable {z z':Int} {bz:Option Addr} {lL c1:Nat} {aU aL aS:Bool} {m m':List UInt8} {bad aj5:Bool} {A br:Option Addr} {c a8:Nat} {w W W':World}
theorem a7.YO {α:Type} {size:Nat} {E:cu α size} {w w':World} {row:Option Nat} {A:Option Addr} {l:List α} (h:a7 w E A l) (az:w.grownBy w' row) (bW:∀ a,A=some a->l≠[]->some a.block≠row):a7 w' E A l:=fun hn=>by
 obtain ⟨b,off,e,hb,hc⟩:=h hn;have:=bW _ e hn;exact ⟨b,off,e,qb hb az.size,fun j u hu=>(Gz (w:=w) (az.block b hb this)).trans (hc j u hu)⟩
end
theorem Qg {rd:Int} {a b c:Bool} {l:List bj} (h:jb rd l):10<=(AO rd a b c l).length/\(AO rd a b c l).length<=8000:=by
 have h1:=Qh fun x hx=>(h.each x hx).1
 have ah:=h.len;unfold AO;rw [cd,Qi];omega
abbrev el:aQ:=⟨⟨#[112]⟩,0,false,0,0,0,0,0,0,⟨#[120]⟩,0⟩
abbrev eA:bj:=⟨el,2⟩
theorem Hc:fZ [] eA = [eA]:=rfl
def Et (l:List bj):Prop:=l.Pairwise fun x y=>blt x.aa.id y.aa.id=true
theorem Qj {l:List bj}:Et l↔fB l:=by
 unfold Et fB;rw [tJ];exact ⟨fun h i j gO aD=>h i j af aD gO,fun h i j hi aD gO=>h i j gO aD⟩
theorem Qk {l:List bj} {u x:bj}:x∈r9 l u↔x=u\/x∈l:=by
 induction l with
 | nil=>simp [r9]
 | cons y l b6=>unfold r9;split <;> simp [b6];constructor <;> (intro h;rcases h with h|h|h <;> simp [h])
theorem YP {l:List bj} {u:bj} (hs:Et l) (hn:∀ x∈l,x.aa.id≠u.aa.id):Et (r9 l u):=by
 induction l with
 | nil=>simp [Et,r9]
 | cons y l b6 =>
  obtain ⟨h1,ah⟩:=nB.1 hs;unfold r9
  split
  ·rename_i hb
   refine nB.2 ⟨fun z bI=>?_,hs⟩
   rcases fb.1 bI with rfl|bI
   ·exact hb
   ·exact jY hb (h1 z bI)
  ·rename_i hb
   refine nB.2 ⟨fun z bI=>?_,b6 ah fun x hx=>hn x (by simp [hx])⟩
   rcases Qk.1 bI with rfl|bI
   ·cases aw:blt y.aa.id z.aa.id
    ·exact absurd (r8 aw (by simpa using hb)) (hn y av)
    ·rfl
   ·exact h1 z bI
theorem Ql {l:List bj} (hs:fB l) (hr:∀ x∈l,kv x=true):AL l l.length:=fun i hi _=>⟨hr _ (iO hi),fun j aD=>hs j i af hi⟩
theorem jb.kv {rd:Int} {l:List bj} (h:jb rd l):∀ x∈l,kv x=true:=fun x hx=>by
 obtain ⟨i,hi,rfl⟩:=pj hx;exact (h.ok i hi hi).r
theorem YQ {l:List bj} (hs:fB l) {s:ByteArray} {x:bj} (h:x∈im l s):x∈l:=by
 rw [<- AP hs] at h
 exact (vI.1 h).1
theorem YR {l:List bj} (hs:fB l) (s:ByteArray):(im l s).length<=l.length:=by
 rw [<- AP hs];exact tx _ _
theorem Qm {rd:Int} {l:List bj} (h:jb rd l) (s:ByteArray):jb rd (im l s) :=
 ⟨h.lI,h.hi,gT (YR h.iq s) h.len,Ql (Hd h.iq s) fun x hx=>h.kv x (YQ h.iq hx)⟩
theorem KV {l:List bj} (hs:fB l) {e x:bj} (h:x∈fZ l e):x=e\/x∈l:=by
 rw [<- KW hs e] at h
 rcases Qk.1 h with h|h
 ·exact .inl h
 ·exact .inr (vI.1 h).1
theorem YS {l:List bj} (hs:fB l) (e:bj):fB (fZ l e):=by
 rw [<- KW hs e,<- Qj];refine YP (Qj.2 ?_) ?_
 ·rw [AP hs];exact Hd hs _
 ·rw [AP hs];exact Qn hs _
theorem Qo {rd:Int} {l:List bj} (h:jb rd l) {e:bj} (he:kv e=true) (hl:(fZ l e).length<=64):jb rd (fZ l e) :=
 ⟨h.lI,h.hi,hl,Ql (YS h.iq e) fun x hx=>by
  rcases KV h.iq hx with rfl|hx
  ·exact he
  ·exact h.kv x hx⟩
theorem YT {l:List bj} (hs:fB l) (e:bj):(fZ l e).length<=l.length+1:=by
 rw [<- KW hs e,YU];have:=tx (fun x:bj=>!(x.aa.id.toList==e.aa.id.toList)) l;unfold vJ;omega

def j' (s what:Int):Int :=
 if what=1 then (if s=1 then 2 else 0) else if what=2 then (if s=2 then 3 else 0) else if what=3 then (if s=3 then 4 else 0)
 else if what=4 then (if s=1\/s=2\/s=4\/s=6 then 5 else 0) else 0
def oZ (x:cv) (what:Int) (dS:Bool) (ret rd:Int):cv :=
 if dS=true then ⟨x.id,j' x.state what,0,rd⟩ else if ret<eg x.il 1 then ⟨x.id,6,eg x.il 1,x.last⟩ else ⟨x.id,x.state,eg x.il 1,x.last⟩
structure bA where
 q:List Bool
 boxes:List cv
 eC:List cf
def pV:List Bool->Bool
 | []=>true
 | b :: _=>b
def bA.uM (o:bA) (id:ByteArray) (rd:Int):bA:=if kD o.boxes id=true then o else { o with boxes:=oq o.boxes (iX o.boxes id) ⟨id,1,0,rd⟩ }
def bA.at_ (o:bA) (id:ByteArray):Option cv:=if kD o.boxes id=true then o.boxes[iX o.boxes id]? else none
def bA.may (o:bA) (id:ByteArray) (what:Int):Bool:=match o.at_ id with|some x=>j' x.state what != 0|none=>false
def uj (l:List cv) (i:Nat) (x:cv):List cv:=if x.state=5 then rv l i else l.set i x
def bA.act (o:bA) (id:ByteArray) (what:Int) (dS:Bool) (ret rd:Int):bA :=
 match o.at_ id with
 | some x=>{ o with boxes:=uj o.boxes (iX o.boxes id) (oZ x what dS ret rd) }
 | none=>o
def bA.ask (o:bA) (id:ByteArray) (what ret rd:Int):Bool×bA :=
 if o.may id what=true/\what≠1 then (pV o.q,({ o with q:=o.q.tail }:bA).act id what (pV o.q) ret rd) else (false,o)
def bA.lx (o:bA) (id name:ByteArray) (size ret rd:Int):Bool×bA :=
 if o.may id 1=true then
  if h6 o.eC name=true then (false,{ (o.act id 1 true ret rd) with eC:=nX o.eC name size rd })
  else if pV o.q=true then (true,{ (({ o with q:=o.q.tail }:bA).act id 1 true ret rd) with eC:=nX o.eC name size rd })
  else (false,({ o with q:=o.q.tail }:bA).act id 1 false ret rd)
 else (false,o)
def bA.drop (o:bA) (name:ByteArray):Bool×bA :=
 if h6 o.eC name=true then (pV o.q,{ o with q:=o.q.tail,eC:=if pV o.q=true then Ej o.eC name else o.eC }) else (false,o)
def bA.lv (o:bA) (used:List ByteArray) (rd:Int):bA:={ o with eC:=kT o.eC used rd }
def bL.cap (q:bL) (s:Int):Int:=if s=0 then q.bt else if s=1 then q.c1 else q.c2
def I3 (v0 v1 v2 s:Int):Int:=if s=0 then v0 else if s=1 then v1 else v2
def agf (whole cb:Int):Int:=(whole*cb+99) / 100
def sO (t:eH) (cap sS:Int):Bool:=if 0<t.cb then decide (sS*100<cap*t.cb) else decide (sS<t.ck)
def Np (t:eH) (cap:Int):Int:=if 0<t.cb then agf cap t.cb else t.ck
def hh (q:bL) (v0 v1 v2:Int):List Bool:=q.ts.map fun t=>sO t (q.cap t.sig) (I3 v0 v1 v2 t.sig)
def km (met:List Bool) (since:List Int) (rd:Int):List Int:=List.zipWith (fun m s=>if m=true then (if s = -1 then rd else s) else -1) met since
def lY (ts:List eH) (since:List Int) (rd:Int):List Bool:=List.zipWith (fun t s=>(s != -1)&&(!t.soft||decide (t.cE<=rd-s))) ts since
def fW (ts:List eH) (l:List Bool) (k:Int):Bool:=(List.zipWith (fun (t:eH) b=>b&&(t.sig==k)) ts l).any id
def I7 (q:bL) (l:List Bool) (k:Int):Int:=(List.zip q.ts l).foldl (fun n (x:eH×Bool)=>if x.2=true/\x.1.sig=k then max n (Np x.1 (q.cap k)) else n) 0
structure NC where
 on:Bool
 calm:Int
def gi (c:NC) (holds met fresh:Bool) (b2:Int):NC :=
 if (fresh&&holds)=true then ⟨true,0⟩ else if (!c.on||(!fresh||met))=true then ⟨c.on,0⟩ else if b2<=c.calm+1 then ⟨false,0⟩ else ⟨true,c.calm+1⟩
structure cP where
 kind:Int
 id:ByteArray
 sig:Int
 n:Int
abbrev iI:ByteArray:=⟨#[]⟩
def nc (i:Int) (was now:Bool):List cP:=if (now&&!was)=true then [⟨6,iI,i,0⟩] else if (!now&&was)=true then [⟨7,iI,i,0⟩] else []
structure bD where
 rd:Int
 ax:List bj
 aU:Bool
 aL:Bool
 aS:Bool
 since:List Int
 cz:Int
 dv:Int
 ed:Int
 time:Int
 v0:Int
 v1:Int
 v2:Int
 uses:List dJ
 fresh:Bool
def bD.new (q:bL) (rd:Int) (ax:List bj) (aU aL aS:Bool):bD:=⟨rd,ax,aU,aL,aS,q.ts.map fun _=>-1,0,0,0,-1,0,0,0,[],false⟩
def bD.room (q:bL):cr:=⟨q.cw,q.r1,q.r2⟩
def bL.ky (q:bL):cr:=⟨q.cw,q.r1,q.r2⟩
def jE (room:cr) (p:aQ) (l:List aQ):List ByteArray×Bool :=
 if gp room (fV p l)=true then ((gR room (fV p l) ((kx p l).mergeSort fun x y=>!gI y x)).2.mergeSort fun x y=>!blt y x,true) else ([],false)
def mG (room:cr) (p:aQ) (l:List bj) (a b c:Bool):Int×Int×List ByteArray×Int :=
 if p.right=false then (0,0,[],1) else if jL l p.id=true then (0,0,[],5) else if 64<=l.length then (0,0,[],6)
 else if (k9 a b c p).2=true then (3,(k9 a b c p).1,[],0)
 else (if (jE room p (dM l)).2=false then 4 else if (jE room p (dM l)).1.isEmpty=true then 1 else 2,0,(jE room p (dM l)).1,0)
def LP (O:List ByteArray) (id:ByteArray):List cP:=O.map (fun x=>(⟨2,x,0,0⟩:cP))++[⟨1,id,0,0⟩]
def lR (l:List bj) (O:List ByteArray):List bj:=O.foldl im l
def bD.CV (q:bL) (a:bD) (p:aQ):bD×List cP×Int×Bool :=
 let v:=mG q.ky p a.ax a.aU a.aL a.aS
 if v.2.2.2≠0 then (a,[],v.2.2.2,false)
 else if v.1=3\/v.1=4 then (a,[⟨3,p.id,v.2.1,v.1⟩],0,false)
 else ({ a with ax:=fZ (lR a.ax v.2.2.1) ⟨p,1⟩ },LP v.2.2.1 p.id,0,true)
def og (l:List bj) (i:Nat):List bj:=match l[i]? with|some e=>fZ l ⟨e.aa,3⟩|none=>l
def bD.delete (a:bD) (id:ByteArray):bD×List cP×Int×Bool :=
 if ij a.ax id=true then
  match a.ax[dQ a.ax id]? with
  | some e=>if e.phase=3 then (a,[],7,false) else ({ a with ax:=og a.ax (dQ a.ax id) },[⟨4,id,0,0⟩],0,true)
  | none=>(a,[],4,false)
 else (a,[],4,false)
def bD.lU (q:bL) (a:bD) (t:Int) (f0 f1 f2:Nat) (l:List gW) (v:Bool):bD×Int :=
 match A4 v (pH t a.time a.rd q.c9) with
 | some k=>(a,k)
 | none=>({ a with time:=t,v0:=dW f0,v1:=dW f1,v2:=dW f2,uses:=kh l,fresh:=true },0)
structure Rd where
 a:bD
 o:bA
 ev:List cP
 holds:List Bool
 h5:Bool
 dc:Bool
 gl:Bool
def gh (l:List bj):List ByteArray:=l.map fun e=>e.aa.id
def hE (l:List bj):List ByteArray:=l.map fun e=>e.aa.bb
def Rd.tell (r:Rd) (kind:Int) (id:ByteArray) (n:Int):Rd:={ r with ev:=r.ev++[⟨kind,id,0,n⟩] }
def Rd.signals (q:bL) (r:Rd):Rd :=
 let a:=r.a
 let met:=hh q a.v0 a.v1 a.v2
 let since:=if a.fresh=true then km met a.since a.rd else a.since
 let holds:=if a.fresh=true then lY q.ts since a.rd else r.holds
 let h5:=if a.fresh=true then fW q.ts holds 0 else r.h5
 let dc:=if a.fresh=true then fW q.ts holds 1 else r.dc
 let gl:=if a.fresh=true then fW q.ts holds 2 else r.gl
 let bt:=gi ⟨a.aU,a.cz⟩ h5 (a.fresh&&fW q.ts met 0) a.fresh q.b2
 let c1:=gi ⟨a.aL,a.dv⟩ dc (a.fresh&&fW q.ts met 1) a.fresh q.b2
 let c2:=gi ⟨a.aS,a.ed⟩ gl (a.fresh&&fW q.ts met 2) a.fresh q.b2
 ⟨{ a with since:=since,aU:=bt.on,cz:=bt.calm,aL:=c1.on,dv:=c1.calm,aS:=c2.on,ed:=c2.calm },r.o,nc 0 a.aU bt.on++(nc 1 a.aL c1.on++nc 2 a.aS c2.on),holds,h5,dc,gl⟩
def Rd.gY (q:bL) (what kind:Int) (r:Rd) (id:ByteArray):Rd :=
 let x:=r.o.ask id what q.ret r.a.rd
 if x.1=true then { r with o:=x.2,ev:=r.ev++[⟨kind,id,0,0⟩] } else { r with o:=x.2 }
def sT (x y:cv):Bool:=!j1 y x
def na (l:List cv) (ax:List ByteArray):List ByteArray:=((l.filter (px ax)).mergeSort sT).map cv.id
def Bn (l:List cv) (ax:List ByteArray) (keep:Int):List ByteArray:=(na l ax).take (goes (na l ax).length keep)
def Rd.mZ (q:bL) (r:Rd):Rd :=
 let r1:Rd:={ r with o:=r.o.lv (hE r.a.ax) r.a.rd }
 (Bn r1.o.boxes (gh r.a.ax) (if r.dc=true then 0 else q.dead)).foldl (Rd.gY q 4 13) r1
def Rd.pT (r:Rd) (x:cf):Rd :=
 let y:=r.o.drop x.name
 if y.1=true then { r with o:=y.2,ev:=r.ev++[⟨14,x.name,0,x.size⟩] } else { r with o:=y.2 }
def I9 (o:List cf) (dS:List Bool) (agh:Int):Nat:=((List.range o.length).find? fun k=>decide (agh<=(tv o dS k).2)).getD o.length
def Rd.nN (q:bL) (r:Rd):Rd :=
 if r.dc=true then
  let used:=hE r.a.ax
  let UQ:=I7 q r.holds 1
  let o:=Ay r.o.eC used
  let k:=I9 o r.o.q (max (UQ-r.a.v1) 0)
  let free:=(tv o r.o.q k).2
  { (o.take k).foldl Rd.pT r with dc:=decide (eg r.a.v1 free<UQ) }
 else r
def NU (x:eb) (l:List eb):eb:=l.foldl (fun M y=>if l8 y M=true then y else M) x
def firstT (cL:List eb):ByteArray×Bool:=match cL with | []=>(iI,false)|x :: l=>((NU x l).id,true)
def Rd.oe (r:Rd) (k:Int):Option Rd :=
 let f:=firstT (j4 k r.a.ax r.a.uses)
 if f.2=true then some { r with a:={ r.a with ax:=og r.a.ax (dQ r.a.ax f.1) },ev:=r.ev++[⟨5,f.1,k,0⟩] } else none
def hasEnd (l:List bj):Bool:=l.any fun e=>e.phase==3
def Rd.j9 (r:Rd):Rd :=
 if hasEnd r.a.ax=true then r
 else match (if r.h5=true then r.oe 0 else none) with
  | some r'=>r'
  | none=>match (if r.dc=true then r.oe 1 else none) with
   | some r'=>r'
   | none=>match (if r.gl=true then r.oe 2 else none) with
    | some r'=>r'
    | none=>r
def Rd.leave (r:Rd) (kind:Int) (id:ByteArray):Rd:={ r with a:={ r.a with ax:=im r.a.ax id },ev:=r.ev++[⟨kind,id,0,0⟩] }
def hY (x:Option cv):Int:=match x with|some x=>x.state|none=>0
def Rd.ending (q:bL) (r:Rd) (id:ByteArray) (was:Int):Rd :=
 if was=3 then
  let r1:Rd:={ r with o:=(r.o.ask id 3 q.ret r.a.rd).2 }
  if hY (r1.o.at_ id)=3 then r1 else r1.leave 12 id
 else r.leave 12 id
def Rd.aa (q:bL) (r:Rd) (e:bj):Rd :=
 let id:=e.aa.id
 let b:=r.o.at_ id
 let s:=hY b
 if e.phase=3 then r.ending q id s
 else if b.isSome=false then { r with o:=r.o.uM id r.a.rd,a:={ r.a with ax:=fZ r.a.ax ⟨e.aa,2⟩ },ev:=r.ev++[⟨8,id,0,0⟩] }
 else if e.phase=1/\s=3 then { r with o:=(r.o.ask id 3 q.ret r.a.rd).2 }
 else if e.phase=1\/s=4 then { r with o:=(r.o.ask id 4 q.ret r.a.rd).2 }
 else if s=1 then
  let x:=r.o.lx id e.aa.bb e.aa.size q.ret r.a.rd
  if x.1=true then { r with o:=x.2,ev:=r.ev++[⟨9,e.aa.bb,0,e.aa.size⟩] } else { r with o:=x.2 }
 else if s=2 then r.gY q 2 10 id
 else if s=6 then r.leave 11 id
 else r
def Rd.lost (q:bL) (r:Rd):Rd:=(mT (p' (gh r.a.ax)) r.o.boxes).foldl (Rd.gY q 3 15) r
def Rd.ax (q:bL) (r:Rd):Rd:=r.a.ax.foldl (Rd.aa q) r
def bD.round (q:bL) (a:bD) (o:bA):Rd :=
 ((((((⟨{ a with rd:=a.rd+1 },o,[],[],false,false,false⟩:Rd).signals q).mZ q).nN q).j9).ax q).lost q
def bD.tick (q:bL) (a:bD) (o:bA):bD×bA×List cP :=
 let r:=a.round q o
 ({ r.a with fresh:=false },r.o,r.ev)
structure o4 where
 rd:Int
 ax:List bj
 aU:Bool
 aL:Bool
 aS:Bool
def o4.zero:o4:=⟨0,[],false,false,false⟩
def bD.sv (a:bD):o4:=⟨a.rd,a.ax,a.aU,a.aL,a.aS⟩
def bD.of (q:bL) (s:o4):bD:=bD.new q s.rd s.ax s.aU s.aL s.aS
structure oh where
 kind:Int
 aa:aQ
 id:ByteArray
 t:Int
 f0:Nat
 f1:Nat
 f2:Nat
 uses:List gW
 ok:Bool
 dS:List Bool
 steps:Int
 keep:List Int
structure UR where
 a:bD
 o:bA
 ev:List cP
 err:Int
 nj:Bool
def fu (q:bL) (a:bD) (o:bA) (x:oh):UR :=
 if x.kind=1 then let r:=a.CV q x.aa;⟨r.1,o,r.2.1,r.2.2.1,r.2.2.2⟩
 else if x.kind=2 then let r:=a.delete x.id;⟨r.1,o,r.2.1,r.2.2.1,r.2.2.2⟩
 else if x.kind=3 then let r:=a.tick q o;⟨r.1,r.2.1,r.2.2,0,true⟩
 else if x.kind=4 then let r:=a.lU q x.t x.f0 x.f1 x.f2 x.uses x.ok;⟨r.1,o,[],r.2,false⟩
 else if 4096<o.q.length+x.dS.length then ⟨a,o,[],6,false⟩ else ⟨a,{ o with q:=o.q++x.dS },[],0,false⟩
structure fO where
 a:bD
 o:bA
 sv:Option o4
 ew:Nat
 pN:Option (Int×List Int)
def fO.new (q:bL):fO:=⟨bD.of q o4.zero,⟨[],[],[]⟩,none,0,none⟩
def agA (steps:Int) (keep:List Int):Bool:=decide (4<=steps)||(decide (steps=3)&&(keep.headD 0 != 0))
def NV (s:Option o4):o4:=match s with|some s=>s|none=>o4.zero
def fO.act (q:bL) (n:fO) (x:oh):fO×Int×List cP :=
 if x.kind=6 then ({ n with pN:=some (x.steps,x.keep) },0,[])
 else if x.kind<1\/5<x.kind then (n,1,[])
 else
  let r:=fu q n.a n.o x
  match n.pN with
  | none=>(⟨r.a,r.o,if r.nj=true then some r.a.sv else n.sv,if r.nj=true then n.ew+1 else n.ew,none⟩,r.err,r.ev)
  | some (st,Fx) =>
   let UW:=r.nj&&agA st Fx
   let sv:=if UW=true then some r.a.sv else n.sv
   (⟨bD.of q (NV sv),r.o,sv,if UW=true then n.ew+1 else n.ew,none⟩,if r.nj=true then 7 else r.err,(if r.nj=true then [] else r.ev)++[⟨16,iI,0,(NV sv).rd⟩])
def fO.Bs (q:bL) (n:fO) (l:List oh):fO:=l.foldl (fun n x=>(n.act q x).1) n
section
variable {α:Type} {key:α->ByteArray}
def gz (key:α->ByteArray) (l:List α):Prop:=l.Pairwise fun x y=>blt (key x) (key y)=true
def k8 (key:α->ByteArray) (l:List α) (s:ByteArray):Nat:=l.countP fun x=>blt (key x) s
def pU (key:α->ByteArray) (l:List α) (s:ByteArray):Bool:=match l[k8 key l s]? with|some x=>(key x).toList==s.toList|none=>false
theorem gz.split {l:List α} (hs:gz key l) (s:ByteArray):(∀ x∈l.take (k8 key l s),blt (key x) s=true)/\(∀ x∈l.drop (k8 key l s),blt (key x) s=false):=by
 induction l with
 | nil=>simp [k8]
 | cons a r b6 =>
  unfold gz at hs
  rw [nB] at hs
  obtain ⟨h1,ah⟩:=b6 hs.2
  cases h:blt (key a) s
  ·have aI:∀ x∈r,blt (key x) s=false:=fun x hx=>by
    cases hb:blt (key x) s
    ·rfl
    ·rw [jY (hs.1 x hx) hb] at h;cases h
   have e:k8 key (a :: r) s=0:=by
    unfold k8;rw [List.countP_eq_zero];intro x hx
    rcases fb.1 hx with rfl|hx
    ·simp [h]
    ·simp [aI x hx]
   rw [e];refine ⟨av,fun x hx=>?_⟩
   rcases fb.1 (by simpa using hx) with rfl|hx
   ·exact h
   ·exact aI x hx
  ·have e:k8 key (a :: r) s=k8 key r s+1:=by exact Kl (p:=fun x=>blt (key x) s) h
   rw [e];refine ⟨fun x hx=>?_,fun x hx=>ah x (by simpa using hx)⟩;rw [List.take_succ_cons] at hx
   rcases fb.1 hx with rfl|hx
   ·exact h
   ·exact h1 x hx
theorem zX {l:List α} {s:ByteArray} (h:pU key l s=true):∃ hi:k8 key l s<l.length,key l[k8 key l s]=s:=by
 unfold pU at h
 rcases gB (k8 key l s) l.length with aT|iy
 ·rw [dF aT] at h
  exact ⟨aT,toList_inj h⟩
 ·rw [td iy] at h;cases h
theorem aiC {l:List α} {s:ByteArray} (h:pU key l s=true):∃ x∈l,key x=s:=by
 obtain ⟨hi,e⟩:=zX h;exact ⟨_,iO hi,e⟩
theorem Nw {l:List α} (hs:gz key l) {x:α} (hx:x∈l):pU key l (key x)=true:=by
 obtain ⟨h1,ah⟩:=hs.split (key x);obtain ⟨i,hi,e⟩:=pj hx;have alq:k8 key l (key x)<=i:=by
  rcases gB i (k8 key l (key x)) with h|h
  ·have:=h1 l[i] (K5.2 ⟨i,af,rfl⟩)
   rw [e,ms] at this;cases this
  ·exact h
 have aT:k8 key l (key x)<l.length:=af;have aw:=ah l[k8 key l (key x)] (K6.2 ⟨0,af,av⟩)
 rcases gB (k8 key l (key x)) i with h|h
 ·have:=tJ.1 hs _ i aT hi h
  rw [e,aw] at this;cases this
 ·have bE:k8 key l (key x)=i:=by omega
  unfold pU;rw [dF aT];have:l[k8 key l (key x)]=x:=by
   have:l[k8 key l (key x)]=l[i]:=by congr 1
   rw [this,e]
  rw [this];simp
theorem Uh {l:List α} (hs:gz key l) (s:ByteArray):pU key l s=true↔∃ x∈l,key x=s:=⟨aiC,fun ⟨x,hx,e⟩=>e ▸ Nw hs hx⟩
theorem T9 {l:List α} (hs:gz key l) {s:ByteArray} (h:pU key l s=false):∀ x∈l,key x≠s:=fun x hx e=>by
 rw [(Uh hs s).2 ⟨x,hx,e⟩] at h;cases h
theorem gz.inj {l:List α} (hs:gz key l) {x y:α} (hx:x∈l) (hy:y∈l) (e:key x=key y):x=y:=by
 obtain ⟨i,hi,rfl⟩:=pj hx;obtain ⟨j,aD,rfl⟩:=pj hy
 rcases HA i j with h|h|h
 ·have:=tJ.1 hs i j hi aD h
  rw [e,ms] at this;cases this
 ·subst h;rfl
 ·have:=tJ.1 hs j i aD hi h
  rw [e,ms] at this;cases this
def Af (l:List α) (i:Nat) (x:α):List α:=l.take i++x :: l.drop i
def JM (l:List α) (i:Nat):List α:=l.take i++l.drop (i+1)
theorem Uc {l:List α} {i:Nat} {x y:α}:y∈Af l i x↔y=x\/y∈l:=by
 unfold Af
 constructor
 ·intro h
  rcases jl.1 h with h|h
  ·exact .inr (Ez h)
  ·rcases fb.1 h with h|h
   ·exact .inl h
   ·exact .inr (N4 h)
 ·rintro (rfl|h)
  ·simp
  ·rw [<- p1 i l] at h
   rcases jl.1 h with h|h <;> simp [h]
theorem Ub (l:List α) (i:Nat) (x:α):(Af l i x).length=l.length+1:=by unfold Af;simp;omega
theorem DN (l:List α) (i:Nat):(JM l i).Sublist l:=by
 unfold JM;have h1:(l.drop (i+1)).Sublist (l.drop i):=by rw [<- Jk];exact List.drop_sublist _ _
 have:=(HU (l.take i)).append h1
 rwa [p1] at this
theorem gz.ins {l:List α} (hs:gz key l) {x:α} (hn:∀ y∈l,key y≠key x):gz key (Af l (k8 key l (key x)) x):=by
 obtain ⟨h1,ah⟩:=hs.split (key x);have tW:=hs;unfold gz Af at *
 rw [<- p1 (k8 key l (key x)) l,List.pairwise_append] at tW
 obtain ⟨g1,g2,g3⟩:=tW;rw [List.pairwise_append,nB];refine ⟨g1,⟨fun y hy=>?_,g2⟩,fun a ha b hb=>?_⟩
 ·cases hb:blt (key x) (key y)
  ·exact absurd (r8 (ah y hy) hb) (hn y (N4 hy))
  ·rfl
 ·rcases fb.1 hb with rfl|hb
  ·exact h1 a ha
  ·exact g3 a ha b hb
theorem gz.del {l:List α} (hs:gz key l) (i:Nat):gz key (JM l i):=List.Pairwise.sublist (DN l i) hs
theorem gz.set {l:List α} (hs:gz key l) {i:Nat} (hi:i<l.length) {x:α} (e:key x=key l[i]):gz key (l.set i x):=by
 unfold gz at *
 rw [tJ] at hs ⊢
 intro a b ha hb vK;rw [tA] at ha hb
 rw [Jb,Jb]
 split
 ·rename_i h1;subst h1
  split
  ·omega
  ·rw [e];exact hs _ _ _ _ vK
 ·split
  ·rename_i ah;subst ah
   rw [e];exact hs _ _ _ _ vK
  ·exact hs _ _ _ _ vK
theorem gz.k1 {l:List α} (hs:gz key l) (f:α->α) (hf:∀ x,key (f x)=key x):gz key (l.map f):=by
 unfold gz at *
 rw [HY];exact hs.imp fun {x y} h=>by rw [hf,hf];exact h
theorem Ud {l:List α} {i:Nat} {x y:α} (h:y∈l.set i x):y=x\/y∈l:=by
 rcases List.mem_or_eq_of_mem_set h with h|h
 ·exact .inr h
 ·exact .inl h
theorem Ov {l:List α}:gz key l↔∀ (i j:Nat) (_:i<j) (aD:j<l.length),blt (key (l[i]'af)) (key l[j])=true:=by
 unfold gz;rw [tJ];exact ⟨fun h i j gO aD=>h i j _ aD gO,fun h i j _ aD gO=>h i j gO aD⟩
end
theorem aiD {l:List cv}:Iy l↔gz cv.id l:=Ov.symm
theorem VQ {l:List cf}:p8 l↔gz cf.name l:=Ov.symm
theorem Ja {l:List bj}:fB l↔gz (fun e=>e.aa.id) l:=(Ov (key:=fun e:bj=>e.aa.id)).symm
theorem Nu (l:List cv) (s:ByteArray):kD l s=pU cv.id l s:=by unfold kD pU iX k8;split <;> (split <;> simp_all)
theorem Ue (l:List cf) (s:ByteArray):h6 l s=pU cf.name l s:=by unfold h6 pU jP k8;split <;> (split <;> simp_all)
theorem FR (l:List bj) (s:ByteArray):ij l s=pU (fun e=>e.aa.id) l s:=by unfold ij pU dQ k8;split <;> (split <;> simp_all)
theorem Ua (l:List cv) (i:Nat) (x:cv):oq l i x=Af l i x:=rfl
theorem afq (l:List cf) (i:Nat) (x:cf):r6 l i x=Af l i x:=rfl
theorem afr (l:List cf) (i:Nat):Pv l i=JM l i:=rfl
abbrev mx:Int:=9223372036854775807
structure Nt (x:cv):Prop where
 s:0<=x.state/\x.state<=6/\x.state≠5
 t:0<=x.il/\x.il<=mx
 l:0<=x.last/\x.last<=mx
 i:x.id.size<=24
structure FP (x:cf):Prop where
 s:0<=x.size/\x.size<=mx
 l:0<=x.last/\x.last<=mx
 i:x.name.size<=24
structure e2 (N:Nat) (o:bA):Prop where
 zU:o.q.length<=4096
 j8:gz cv.id o.boxes
 pR:o.boxes.length<=N
 wK:∀ x∈o.boxes,Nt x
 is:gz cf.name o.eC
 pS:o.eC.length<=N
 rH:∀ x∈o.eC,FP x
theorem e2.mono {N M:Nat} {o:bA} (h:e2 N o) (hm:N<=M):e2 M o:=⟨h.zU,h.j8,gT h.pR hm,h.wK,h.is,gT h.pS hm,h.rH⟩
theorem Nn (a b:Int):0<=eg a b/\eg a b<=mx:=by
 have:eg a b<=most:=HS a b;have ah:0<=kU a/\0<=kU b:=by unfold kU;split <;> split <;> omega
 refine ⟨?_,this⟩;unfold eg
 split
 ·omega
 ·decide
theorem afl (s what:Int):0<=j' s what/\j' s what<=5:=by
 unfold j'
 repeat' split
 all_goals omega
theorem afm {x:cv} (h:Nt x) {what:Int} {dS:Bool} {ret rd:Int} (hr:0<=rd/\rd<=mx) (dk:(oZ x what dS ret rd).state≠5):Nt (oZ x what dS ret rd):=by
 obtain ⟨h1,ah,aw,bn⟩:=h;have hb:=afl x.state what;unfold oZ at dk ⊢
 split
 ·rename_i hw
  rw [bB hw] at dk
  exact ⟨⟨hb.1,by simp only;omega,dk⟩,⟨oU 0,show (0:Int)<=mx from ak⟩,hr,bn⟩
 ·split
  ·exact ⟨⟨show (0:Int)<=6 from ak,show (6:Int)<=6 from ak,av⟩,Nn _ _,aw,bn⟩
  ·exact ⟨h1,Nn _ _,aw,bn⟩
theorem afn (x:cv) (what:Int) (dS:Bool) (ret rd:Int):(oZ x what dS ret rd).id=x.id:=by
 unfold oZ
 split
 ·rfl
 ·split <;> rfl
theorem bA.T8 {o:bA} {id:ByteArray} {x:cv} (h:o.at_ id=some x):kD o.boxes id=true/\∃ hi:iX o.boxes id<o.boxes.length,o.boxes[iX o.boxes id]=x/\x.id=id:=by
 unfold bA.at_ at h
 split at h
 ·rename_i ha
  have bQ:=ha;rw [Nu] at bQ
  obtain ⟨hi,e⟩:=zX bQ;have mv:iX o.boxes id<o.boxes.length:=hi;rw [dF mv] at h
  injection h with h
  exact ⟨ha,mv,h,by rw [<- h];exact e⟩
 ·cases h
theorem bA.at_mem {o:bA} {id:ByteArray} {x:cv} (h:o.at_ id=some x):x∈o.boxes:=by
 obtain ⟨_,hi,e,_⟩:=bA.T8 h;rw [<- e];exact iO hi
section
variable {N:Nat} {o:bA} {id name:ByteArray} {rd ret what size:Int}
theorem e2.uM (h:e2 N o) (hid:id.size<=24) (hr:0<=rd/\rd<=mx):e2 (N+1) (o.uM id rd):=by
 unfold bA.uM
 split
 ·exact h.mono af
 ·rename_i ha
  have hn:pU cv.id o.boxes id=false:=by rw [<- Nu];simpa using ha
  refine ⟨h.zU,?_,?_,fun x hx=>?_,h.is,gT h.pS af,h.rH⟩
  ·exact h.j8.ins (x:=⟨id,1,0,rd⟩) (T9 h.j8 hn)
  ·show (oq o.boxes _ _).length<=_
   rw [Ua,Ub];have:=h.pR;omega
  ·rw [Ua] at hx
   rcases Uc.1 hx with rfl|hx
   ·exact ⟨⟨show (0:Int)<=1 from ak,show (1:Int)<=6 from ak,av⟩,⟨oU 0,show (0:Int)<=mx from ak⟩,hr,hid⟩
   ·exact h.wK x hx
theorem e2.act (h:e2 N o) (dS:Bool) (hr:0<=rd/\rd<=mx):e2 N (o.act id what dS ret rd):=by
 unfold bA.act
 split
 ·rename_i x hx
  obtain ⟨_,hi,aV,bE⟩:=bA.T8 hx;have FQ:=bA.at_mem hx;unfold uj
  split
  ·exact ⟨h.zU,h.j8.del _,gT (DN _ _).length_le h.pR,fun y hy=>h.wK y ((DN _ _).subset hy),h.is,h.pS,h.rH⟩
  ·rename_i dk
   refine ⟨h.zU,h.j8.set hi (by rw [afn,aV]),by simpa using h.pR,fun y hy=>?_,h.is,h.pS,h.rH⟩
   rcases Ud hy with rfl|hy
   ·exact afm (h.wK x FQ) hr dk
   ·exact h.wK y hy
 ·exact h
theorem e2.B3 (h:e2 N o):e2 N { o with q:=o.q.tail }:=⟨by have:=h.zU;simp;omega,h.j8,h.pR,h.wK,h.is,h.pS,h.rH⟩
theorem e2.ask (h:e2 N o) (hr:0<=rd/\rd<=mx):e2 N (o.ask id what ret rd).2:=by
 unfold bA.ask
 split
 ·exact h.B3.act _ hr
 ·exact h
theorem afo {l:List cf} {M:Nat} (h1:gz cf.name l) (ah:l.length<=M) (aw:∀ x∈l,FP x) (hn:name.size<=24) (hs:0<=size/\size<=mx) (hr:0<=rd/\rd<=mx) :
  gz cf.name (nX l name size rd)/\(nX l name size rd).length<=M+1/\∀ x∈nX l name size rd,FP x:=by
 cases ha:h6 l name
 ·have afp:pU cf.name l name=false:=by rw [<- Ue];exact ha
  rw [PC ha,afq];refine ⟨h1.ins (x:=⟨name,size,rd⟩) (T9 h1 afp),by rw [Ub];omega,fun x hx=>?_⟩
  rcases Uc.1 hx with rfl|hx
  ·exact ⟨hs,hr,hn⟩
  ·exact aw x hx
 ·have bQ:=ha
  rw [Ue] at bQ
  obtain ⟨hi,e⟩:=zX bQ;have mv:jP l name<l.length:=hi;rw [PB ha,PA mv];refine ⟨h1.set mv rfl,by simp;omega,fun x hx=>?_⟩
  rcases Ud hx with rfl|hx
  ·have:=aw _ (iO mv)
   exact ⟨this.s,hr,this.i⟩
  ·exact aw x hx
theorem e2.Nv (h:e2 N o) {l:List cf} {M:Nat} (oJ:N<=M) (hl:gz cf.name l/\l.length<=M/\∀ x∈l,FP x):e2 M { o with eC:=l }:=⟨h.zU,h.j8,gT h.pR oJ,h.wK,hl.1,hl.2.1,hl.2.2⟩
theorem e2.lx (h:e2 N o) (hn:name.size<=24) (hs:0<=size/\size<=mx) (hr:0<=rd/\rd<=mx):e2 (N+1) (o.lx id name size ret rd).2:=by
 have hp:=afo (name:=name) (size:=size) (rd:=rd) h.is h.pS h.rH hn hs hr;unfold bA.lx
 split
 ·split
  ·exact (h.act true hr).Nv af hp
  ·split
   ·exact (h.B3.act true hr).Nv af hp
   ·exact (h.B3.act false hr).mono af
 ·exact h.mono af
theorem e2.drop (h:e2 N o):e2 N (o.drop name).2:=by
 unfold bA.drop
 split
 ·have hd:gz cf.name (Ej o.eC name)/\(Ej o.eC name).length<=N/\∀ x∈Ej o.eC name,FP x:=by
   unfold Ej
   by_cases hc:h6 o.eC name=true
   ·rw [bB hc,afr]
    exact ⟨h.is.del _,gT (DN _ _).length_le h.pS,fun x hx=>h.rH x ((DN _ _).subset hx)⟩
   ·rw [bp hc]
    exact ⟨h.is,h.pS,h.rH⟩
  refine h.B3.Nv (e3 N) ?_
  by_cases hc:pV o.q=true
  ·rw [bB hc];exact hd
  ·rw [bp hc];exact ⟨h.is,h.pS,h.rH⟩
 ·exact h
theorem e2.lv (h:e2 N o) (us:List ByteArray) (hr:0<=rd/\rd<=mx):e2 N (o.lv us rd):=by
 refine ⟨h.zU,h.j8,h.pR,h.wK,?_,by show (kT _ _ _).length<=_;rw [AE];exact h.pS,fun x hx=>?_⟩
 ·refine h.is.k1 _ fun x=>?_
  split <;> rfl
 ·obtain ⟨y,hy,rfl⟩:=kM.1 hx
  split
  ·have:=h.rH y hy
   exact ⟨this.s,hr,this.i⟩
  ·exact h.rH y hy
theorem e2.feed (h:e2 N o) {l:List Bool} (hl:o.q.length+l.length<=4096):e2 N { o with q:=o.q++l }:=⟨by simpa using hl,h.j8,h.pR,h.wK,h.is,h.pS,h.rH⟩
theorem e2.new:e2 0 ⟨[],[],[]⟩:=⟨av,List.Pairwise.nil,av,av,List.Pairwise.nil,av,av⟩
end
theorem ajp (a b c:ByteArray) (h1:(!blt b a)=true) (ah:(!blt c b)=true):(!blt c a)=true:=by
 have h1:blt b a=false:=by simpa using h1
 have ah:blt c b=false:=by simpa using ah
 cases h:blt c a
 ·rfl
 ·cases aw:blt b c
  ·rw [r8 aw ah,h] at h1;cases h1
  ·rw [jY aw h] at h1;cases h1
theorem ajq (a b:ByteArray):((!blt b a)||(!blt a b))=true:=by
 cases h:blt b a
 ·rfl
 ·cases ah:blt a b
  ·rfl
  ·have:=jY h ah;rw [ms] at this;cases this
theorem ajr (a b c:aQ) (h1:(!gI b a)=true) (ah:(!gI c b)=true):(!gI c a)=true:=by
 have h1:gI b a=false:=by simpa using h1
 have ah:gI c b=false:=by simpa using ah
 cases h:gI c a
 ·rfl
 ·cases aw:gI b c
  ·obtain ⟨aV,bE⟩:=RR aw ah
   unfold gI at h h1
   rw [aV,bE,h] at h1;cases h1
  ·rw [LK aw h] at h1;cases h1
theorem ajs (a b:aQ):((!gI b a)||(!gI a b))=true:=by
 cases h:gI b a
 ·rfl
 ·rw [abE h];rfl
theorem ajt (a b c:cv) (h1:sT a b=true) (ah:sT b c=true):sT a c=true:=by
 unfold sT at *
 have h1:j1 b a=false:=by simpa using h1
 have ah:j1 c b=false:=by simpa using ah
 cases h:j1 c a
 ·rfl
 ·cases aw:j1 b c
  ·obtain ⟨aV,bE⟩:=Ky aw ah
   unfold j1 at h h1
   rw [aV,bE,h] at h1;cases h1
  ·rw [GS aw h] at h1;cases h1
theorem aju (a b:cv):(sT a b||sT b a)=true:=by
 unfold sT
 cases h:j1 b a
 ·rfl
 ·cases ah:j1 a b
  ·rfl
  ·have:=GS h ah;rw [Pt] at this;cases this
theorem Uk (room:cr) (p:aQ) (l:List aQ):wU room p l (jE room p l).1 (jE room p l).2:=by
 refine ⟨(kx p l).mergeSort fun x y=>!gI y x,AF _ _,?_,?_,?_,?_⟩
 ·exact (HX ajr ajs _).imp fun {x y} h=>by simpa using h
 ·unfold jE
  cases h:gp room (fV p l) <;> simp
 ·unfold jE
  cases h:gp room (fV p l)
  ·intro ah;simp at ah
  ·intro _
   rw [bB rfl];exact ⟨AF _ _,(HX ajp ajq _).imp fun {x y} h=>by simpa using h⟩
 ·unfold jE
  cases h:gp room (fV p l)
  ·intro _;simp
  ·intro ah;simp at ah
theorem Ul {l:List bj} (hs:fB l):∀ x∈dM l,∀ y∈dM l,x.id=y.id->x=y:=fun x hx y hy e=>by
 obtain ⟨u,hu,rfl⟩:=kM.1 hx;obtain ⟨v,hv,rfl⟩:=kM.1 hy;rw [(Ja.1 hs).inj hu hv e]
theorem abV {room:cr} {p:aQ} {l:List bj} {a b c:Bool} {k s err:Int} {O:List ByteArray} (hs:fB l) (h:Gu room p l a b c k s O err):mG room p l a b c=(k,s,O,err):=by
 unfold mG
 rcases h with ⟨h1,rfl,rfl,rfl,rfl⟩|⟨h1,ah,rfl,rfl,rfl,rfl⟩|⟨h1,ah,aw,rfl,rfl,rfl,rfl⟩|⟨h1,ah,aw,bn,rfl,rfl,rfl,rfl⟩|⟨h1,ah,aw,bn,rfl,rfl,eQ,hw,rfl⟩
 ·rw [bB h1]
 ·rw [bp (by rw [h1];simp),bB ah]
 ·rw [bp (by rw [h1];simp),bp (by rw [ah];simp),bB aw]
 ·rw [bp (by rw [h1];simp),bp (by rw [ah];simp),bp af,bB bn]
 ·obtain ⟨aV,bE⟩:=wU.same (Ul hs) (AG _) hw (Uk room p (dM l))
  rw [bp (by rw [h1];simp),bp (by rw [ah];simp),bp af,bp (by rw [bn];simp),aV,bE]
  cases eQ
  ·rfl
  ·cases O <;> rfl
theorem Tl {l:List cv} {ax m:List ByteArray} (hs:gz cv.id l) (h:Eg l ax m):m=na l ax:=by
 obtain ⟨S,hp,Uj,rfl⟩:=h;unfold na;have zY:∀ x,x∈l.filter (px ax)->x∈l:=fun x hx=>(vI.1 hx).1
 have:S=(l.filter (px ax)).mergeSort sT:=by
  refine List.Perm.eq_of_pairwise (le:=fun x y=>sT x y=true) (fun a b ha hb h1 ah=>?_) (Uj.imp fun {x y} h=>by unfold sT;rw [h];rfl) (HX ajt aju _) (hp.trans (AF _ _).symm);unfold sT at h1 ah
  exact hs.inj (zY _ (hp.subset ha)) (zY _ ((AF _ _).subset hb)) (Ky (by simpa using ah) (by simpa using h1)).2
 rw [this]
theorem ajv (l:List cv) (ax:List ByteArray):(na l ax).length<=l.length:=by
 unfold na;rw [lJ,(AF _ _).length_eq];exact tx _ _
theorem MK (l:List cv) (ax:List ByteArray) (keep:Int):(Bn l ax keep).length<=l.length:=by
 unfold Bn;rw [fv];have:=ajv l ax;omega
theorem Wc (x:eb) (l:List eb):mX (x :: l) (NU x l):=by
 have key:∀ (l:List eb) (x:eb) (pre:List eb),mX pre x->mX (pre++l) (l.foldl (fun M y=>if l8 y M=true then y else M) x):=by
  intro l
  induction l with
  | nil=>intro x pre h;simpa using h
  | cons y l b6 =>
   intro x pre h;rw [oP,show pre++y :: l=(pre++[y])++l from av]
   apply b6
   cases hk:l8 y x
   ·rw [bp av]
    exact QO h hk
   ·rw [bB rfl]
    refine ⟨av,fun z bI=>?_⟩
    rcases jl.1 bI with bI|bI
    ·cases ajw:l8 z y
     ·rfl
     ·have:=h.2 z bI
      rw [QL ajw hk] at this;cases this
    ·rw [mD.1 bI];exact Lc y
 exact key l x [x] (QN x)
theorem ajx {l:List eb} {M M':eb} (h:mX l M) (cI:mX l M'):M=M':=ZN (cI.2 M h.1) (h.2 M' cI.1)
theorem M0 {cL:List eb} {s:ByteArray} {b:Bool} (h:EG cL s b):firstT cL=(s,b):=by
 cases h with
 | none h=>subst h;rfl
 | some M h =>
  cases cL with
  | nil=>have:=h.1;simp at this
  | cons x l =>
   show ((NU x l).id,true)=_
   rw [ajx h (Wc x l)]
theorem afH (cL:List eb):EG cL (firstT cL).1 (firstT cL).2:=by
 cases cL with
 | nil=>exact .none rfl
 | cons x l=>exact .some _ (Wc x l)
end Go.Proofs.YtmmchlfoplcnbaaGreatDoor
