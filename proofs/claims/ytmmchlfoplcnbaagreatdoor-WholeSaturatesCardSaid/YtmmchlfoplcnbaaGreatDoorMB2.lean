/- A part of the walk. -/
import Derived.Laws.Bits64
import Derived.Laws.IdiomArrays
import Derived.Test.YtmmchlfoplcnbaaGreatDoorMA4
import Derived.Test.YtmmchlfoplcnbaaGreatDoorMB0
import Derived.Test.YtmmchlfoplcnbaaGreatDoorMB1
import Derived.Test.YtmmchlfoplcnbaaGreatDoorMA7
namespace Go.Proofs.YtmmchlfoplcnbaaGreatDoor
open Go Go.RowKit Tryz
set_option linter.all false
set_option maxRecDepth 100000
set_option maxHeartbeats 4000000
section
open Go.ChangeShapes Go.WideShapes Go.ChangeAt
section
variable {H:Type} {enc:TypeId×Value->H} {w:World} {base:Nat} {spare:Nat->Bool} {held:Bool}
theorem Pp {n:Int}:(Lit.int .i64 n).wf=true↔c' n:=by
 have aV:IntKind.i64.min = -9223372036854775808:=ak;have bE:IntKind.i64.max=9223372036854775807:=ak;unfold c';simp [Lit.wf,aV,bE]
theorem Pq {r:Reach} {b0:Nat} {v:Value} {d:DataW H} {ps:List MemPlace} (hval:Value.okWide prog w r b0 3 v) (hd:DataW.Trod enc prog w base spare held 3 v d ps):∃ n:Int,v=.int .i64 n/\c' n:=by
 obtain ⟨n,rfl⟩:=okWide_int underlying3 hval;obtain ⟨fuel,hf⟩:=hd;obtain ⟨a,hcs,_,wf⟩:=DataW.trod_int underlying3 hf;simp only [Value.cells,GH,and_true] at hcs
 injection hcs with _ hcs
 subst hcs;exact ⟨n,rfl,Pp.1 wf⟩
end
end
def oT (l:List ByteArray) (s:ByteArray):Bool:=l.any fun x=>x.toList==s.toList
theorem LG {r n m:Int} (h:n<=m) (hm:m<=most) (hf:iU r m=true):iU r n=true:=by
 unfold iU at *
 unfold most at *
 simp only [qN,Bool.not_eq_true',ji,An] at *
 omega
def cr.le (s t:cr):Prop:=s.a<=t.a/\s.b<=t.b/\s.c<=t.c
def cr.Dd (s:cr):Prop:=s.a<=most/\s.b<=most/\s.c<=most
theorem HS (a b:Int):eg a b<=most:=by unfold eg;split <;> omega
theorem LH (a b:Int) (h:a<=most):a<=eg a b:=by
 unfold eg kU
 repeat' split
 all_goals omega
theorem cr.abp (s:cr) (p:aQ):(s.add p).Dd:=⟨HS _ _,HS _ _,HS _ _⟩
theorem cr.abq {s:cr} (h:s.Dd) (p:aQ):s.le (s.add p):=⟨LH _ _ h.1,LH _ _ h.2.1,LH _ _ h.2.2⟩
theorem cr.le.trans {s t u:cr} (h1:s.le t) (ah:t.le u):s.le u:=⟨Int.le_trans h1.1 ah.1,Int.le_trans h1.2.1 ah.2.1,Int.le_trans h1.2.2 ah.2.2⟩
theorem LI (l:List aQ):∀ s:cr,s.Dd->s.le (l.foldl cr.add s)/\(l.foldl cr.add s).Dd:=by
 induction l with
 | nil=>intro s h;exact ⟨⟨oU _,oU _,oU _⟩,h⟩
 | cons p l b6 =>
  intro s h;obtain ⟨h1,ah⟩:=b6 (s.add p) (s.abp p);exact ⟨(cr.abq h p).trans h1,ah⟩
theorem RJ (l:List aQ):(l5 l).Dd:=(LI l ⟨0,0,0⟩ ⟨ak,ak,ak⟩).2
theorem abr {room:cr} {s t:cr} (h:s.le t) (ht:t.Dd) (hf:room.fits t=true):room.fits s=true:=by
 unfold cr.fits at *
 simp only [qN] at *
 exact ⟨LG h.1 ht.1 hf.1,LG h.2.1 ht.2.1 hf.2.1,LG h.2.2 ht.2.2 hf.2.2⟩
theorem RL {room:cr} {l m:List aQ} (h:gp room (l++m)=true):gp room l=true:=by
 unfold gp at *
 have e:l5 (l++m)=m.foldl cr.add (l5 l):=by unfold l5;rw [vL]
 rw [e] at h
 exact abr (LI m _ (RJ l)).1 (LI m _ (RJ l)).2 h
theorem A9 {room:cr} {l m:List aQ} (h:l.Perm m):gp room l=gp room m:=by unfold gp;rw [Zz h]
theorem abt {room:cr} {l m:List aQ} (h:l.Sublist m) (hf:gp room m=true):gp room l=true:=by
 obtain ⟨k,hk⟩:=h.exists_perm_append;rw [A9 hk] at hf
 exact RL hf
theorem abu {room:cr} {st LJ:List aQ} (h:st.Perm LJ) (cL:List aQ):(gR room st cL).2=(gR room LJ cL).2:=by
 induction cL generalizing st LJ with
 | nil=>rfl
 | cons v cL b6 =>
  unfold gR;rw [A9 (h.append_right [v])]
  split
  ·exact b6 (h.append_right [v])
  ·rw [b6 h]
theorem abv (p:aQ) (l:List aQ):(fV p l++kx p l).Perm (l++[p]):=by
 unfold fV kx;have h:(l.filter (fun v=>!mB p v)++l.filter (mB p)).Perm l:=(HT).trans (List.filter_append_perm (mB p) l);rw [HJ];exact (h.cons p).trans (HT (l₁:=[p]) (l₂:=l))
theorem RN:∀ {ct dX:List ByteArray},ct.Perm dX->(ct.Pairwise fun x y=>blt y x=false)->(dX.Pairwise fun x y=>blt y x=false)->ct=dX
 | [],dX,hp,_,_=>by rw [List.nil_perm.1 hp]
 | x :: ct,[],hp,_,_=>by simp at hp
 | x :: ct,y :: dX,hp,h1,ah=>by
  have hx:x∈y :: dX:=hp.subset av;have hy:y∈x :: ct:=hp.symm.subset av;have e:x=y:=by
   rcases fb.1 hx with h|h
   ·exact h
   ·rcases fb.1 hy with cI|cI
    ·exact cI.symm
    ·exact r8 ((nB.1 ah).1 x h) ((nB.1 h1).1 y cI)
  subst e;rw [RN ((List.perm_cons x).1 hp) (nB.1 h1).2 (nB.1 ah).2]
theorem RO {p:aQ} {l m:List aQ} (h:l.Perm m):(fV p l).Perm (fV p m):=(h.filter _).cons p
theorem abA {p:aQ} {l m:List aQ} (h:l.Perm m):(kx p l).Perm (kx p m):=h.filter _
theorem abB {p:aQ} {l m K oc:List aQ} (hi:∀ x∈l,∀ y∈l,x.id=y.id->x=y) (h:l.Perm m) (hk:K.Perm (kx p l)) (hs:K.Pairwise fun x y=>gI y x=false) (gP:oc.Perm (kx p m)) (tW:oc.Pairwise fun x y=>gI y x=false):oc=K :=
 RP (gP.trans ((abA h).symm.trans hk.symm)) (fun x hx y hy=>hi x (vI.1 (hk.subset hx)).1 y (vI.1 (hk.subset hy)).1) tW hs
theorem abC {room:cr} {p:aQ} {l m K oc:List aQ} {O tU:List ByteArray} (hi:∀ x∈l,∀ y∈l,x.id=y.id->x=y) (h:l.Perm m) (hk:K.Perm (kx p l)) (hs:K.Pairwise fun x y=>gI y x=false) (gP:oc.Perm (kx p m)) (tW:oc.Pairwise fun x y=>gI y x=false)
  (ho:O.Perm (gR room (fV p l) K).2) (q7:O.Pairwise fun x y=>blt y x=false) (j6:tU.Perm (gR room (fV p m) oc).2) (abD:tU.Pairwise fun x y=>blt y x=false):tU=O:=by
 obtain rfl:=abB hi h hk hs gP tW;rw [<- abu (RO h)] at j6
 exact RN (j6.trans ho.symm) abD q7
theorem RM {l:List ByteArray} {s:ByteArray}:oT l s=true↔s∈l:=by
 unfold oT;rw [Cw]
 constructor
 ·rintro ⟨x,hx,h⟩
  rw [<- abm h];exact hx
 ·intro h
  exact ⟨s,h,av⟩
theorem abw (room:cr) (cL:List aQ):∀ st:List aQ,∃ T,(gR room st cL).1=st++T:=by
 induction cL with
 | nil=>intro st;exact ⟨[],by simp [gR]⟩
 | cons v cL b6 =>
  intro st;unfold gR
  split
  ·obtain ⟨T,h⟩:=b6 (st++[v])
   exact ⟨v :: T,by rw [h];simp⟩
  ·exact b6 st
theorem abx (room:cr) (cL:List aQ):∀ st:List aQ,∃ gone:List aQ,(gR room st cL).2=gone.map aQ.id/\((gR room st cL).1++gone).Perm (st++cL)/\gone.Sublist cL/\(gp room st=true->gp room (gR room st cL).1=true)/\∀ g∈gone,gp room ((gR room st cL).1++[g])=false:=by
 induction cL with
 | nil=>intro st;exact ⟨[],rfl,by simp [gR],HU _,fun h=>h,av⟩
 | cons v cL b6 =>
  intro st;unfold gR
  split
  ·rename_i hv
   obtain ⟨g,h1,ah,aw,bn,dk⟩:=b6 (st++[v]);exact ⟨g,h1,by simpa using ah,aw.cons v,fun _=>bn hv,dk⟩
  ·rename_i hv
   obtain ⟨g,h1,ah,aw,bn,dk⟩:=b6 st;refine ⟨v :: g,by simp [h1],?_,aw.cons_cons v,bn,fun x hx=>?_⟩
   ·exact Hz.trans ((ah.cons v).trans Hz.symm)
   ·rcases fb.1 hx with rfl|hx
    ·obtain ⟨T,ih⟩:=abw room cL st
     show gp room ((gR room st cL).1++[x])=false
     cases hc:gp room ((gR room st cL).1++[x])
     ·rfl
     ·refine absurd ?_ hv
      rw [ih] at hc
      have hp:(st++T++[x]).Perm ((st++[x])++T):=by
       rw [mq,mq];exact (HT).append_left st
      rw [A9 hp] at hc
      exact RL hc
    ·exact dk x hx
theorem aby {l F G:List aQ} {p:aQ} (hi:∀ x∈l++[p],∀ y∈l++[p],x.id=y.id->x=y) (hn:(l++[p]).Nodup) (hp:(F++G).Perm (l++[p])) (az:p∉G) (O:List ByteArray) (ho:∀ s,s∈O↔s∈G.map aQ.id):((l.filter fun x=>!oT O x.id)++[p]).Perm F:=by
 have ph:(F++G).Nodup:=hp.nodup_iff.2 hn;have dE:∀ x∈l++[p],(oT O x.id=true↔x∈G):=fun x hx=>by
  rw [RM,ho]
  constructor
  ·intro h
   obtain ⟨y,hy,e⟩:=kM.1 h;rw [<- hi y (hp.subset (by simp [hy])) x hx e];exact hy
  ·intro h;exact kM.2 ⟨x,h,rfl⟩
 have abz:(!oT O p.id)=true:=by
  cases e:oT O p.id
  ·rfl
  ·exact absurd ((dE p av).1 e) az
 have aV:(l.filter fun x=>!oT O x.id)++[p]=(l++[p]).filter fun x=>!oT O x.id:=by
  rw [vD]
  congr 1
  rw [List.filter_cons,abz]
  rfl
 rw [aV];refine (hp.symm.filter _).trans ?_;rw [vD];have bE:F.filter (fun x=>!oT O x.id)=F:=List.filter_eq_self.2 fun x hx=>by
  cases e:oT O x.id
  ·rfl
  ·have:=(dE x (hp.subset (by simp [hx]))).1 e
   exact absurd rfl ((EV.1 ph).2.2 x hx x this)
 have cG:G.filter (fun x=>!oT O x.id) = []:=List.filter_eq_nil_iff.2 fun x hx=>by
  rw [(dE x (hp.subset (by simp [hx]))).2 hx];simp
 rw [bE,cG,rR]

def vF (s:ByteArray):List UInt8:=UInt8.ofNat s.size :: s.data.toList
def aQ.nm (p:aQ):Nat->Int
 | 0=>p.prio+1073741824
 | 1=>p.size
 | 2=>p.bg
 | 3=>p.aX
 | 4=>p.ba
 | 5=>p.bk
 | 6=>p.bl
 | _=>p.aW
def AH:Nat->Nat
 | 0=>1
 | 1=>10
 | k+2=>k+3
def aQ.AI (p:aQ):Nat->List UInt8
 | 0=>[]
 | k+1=>p.AI k++word (p.nm k)
def yB (c:Bool):UInt8:=if c then 1 else 0
def aQ.bytes (p:aQ):List UInt8:=(vF p.id++vF p.bb)++p.AI 8++[yB p.bo]
def aQ.nA (p:aQ):Nat->List UInt8
 | 0=>[]
 | 1=>vF p.id
 | _=>vF p.id++vF p.bb
theorem aQ.P0 (p:aQ) (k:Nat):(p.AI k).length=8*k:=by
 induction k with
 | zero=>rfl
 | succ k b6=>rw [aQ.AI,cd,b6];unfold word;rw [G5];omega
abbrev aQ.Es (p:aQ):Array Value:=#[.string p.id,.i (p.prio+1073741824),.bool p.bo,.i p.bg,.i p.aX,.i p.ba,.i p.bk,.i p.bl,.i p.aW,.string p.bb,.i p.size]
def aQ.upTo (p:aQ) (k j:Nat):List UInt8:=p.nA 2++p.AI k++(word (p.nm k)).take j
theorem aQ.P1 (p:aQ) (k j:Nat) (hk:k<=8) (aD:j<=8) (ht:(p.nA 2).length<=50):(p.upTo k j).length<=150:=by
 unfold aQ.upTo;rw [cd,cd,p.P0,fv];omega
theorem aQ.Yx (p:aQ) (k:Nat):p.upTo (k+1) 0=p.upTo k 8:=by
 unfold aQ.upTo;rw [pB (l:=word (p.nm k)) (by unfold word;rw [G5];omega)];simp [aQ.AI]
theorem P2 (n:Int):∀ (k j:Nat),j<k->(CM n k)[j]? = some (qZ n (k-1-j)):=by
 intro k
 induction k with
 | zero=>intro j h;omega
 | succ k b6 =>
  intro j h;rw [CM]
  cases j with
  | zero=>simp
  | succ j=>rw [yC,b6 j af];congr 2;omega
theorem aQ.Yy (p:aQ) (k j:Nat) (aD:j<8):p.upTo k (j+1)=p.upTo k j++[qZ (p.nm k) (7-j)]:=by
 unfold aQ.upTo;have:(word (p.nm k)).take (j+1)=(word (p.nm k)).take j++[qZ (p.nm k) (7-j)]:=by
  rw [List.take_add_one]
  congr 1
  unfold word;rw [P2 _ 8 j aD]
  rfl
 rw [this];simp only [mq]
theorem P3 (n:Int) (j:Nat) (aD:j<8):n / 2 ^ (56-8*j) % 256=((qZ n (7-j)).toNat:Int):=by
 rw [Yz];obtain rfl|rfl|rfl|rfl|rfl|rfl|rfl|rfl:j=0\/j=1\/j=2\/j=3\/j=4\/j=5\/j=6\/j=7:=af
 all_goals rfl
theorem YA (b k:Nat) (hk:k<8):(Eo b)[k]? = some (.pointer (some ⟨b,AH k,none⟩)):=by
 obtain rfl|rfl|rfl|rfl|rfl|rfl|rfl|rfl:k=0\/k=1\/k=2\/k=3\/k=4\/k=5\/k=6\/k=7:=af
 all_goals rfl
theorem aQ.P4 (p:aQ) (k:Nat) (hk:k<8):p.Es[AH k]? = some (.i (p.nm k)):=by
 obtain rfl|rfl|rfl|rfl|rfl|rfl|rfl|rfl:k=0\/k=1\/k=2\/k=3\/k=4\/k=5\/k=6\/k=7:=af
 all_goals rfl
theorem aQ.YB (p:aQ) (k:Nat) (hk:k<2) (aI:p.id.size<=24) (h1:p.bb.size<=24):∃ s:ByteArray,s.size<=24/\#[Value.string p.id,Value.string p.bb][k]? = some (.string s)/\p.nA (k+1)=p.nA k++vF s:=by
 obtain rfl|rfl:k=0\/k=1:=af
 ·exact ⟨p.id,aI,rfl,rfl⟩
 ·exact ⟨p.bb,h1,rfl,rfl⟩
theorem aQ.YC (p:aQ) (k:Nat) (hk:k<=2) (aI:p.id.size<=24) (h1:p.bb.size<=24):(p.nA k).length<=50:=by
 have iz:(vF p.id).length=p.id.size+1:=rfl;have aV:(vF p.bb).length=p.bb.size+1:=rfl;obtain rfl|rfl|rfl:k=0\/k=1\/k=2:=af
 ·simp [aQ.nA]
 ·simp only [aQ.nA];omega
 ·simp only [aQ.nA,cd];omega
theorem aQ.P5 (p:aQ) (h:p.right=true):p.id.size<=24/\p.bb.size<=24:=by
 unfold aQ.right named at h
 simp only [qN,jZ] at h
 exact ⟨h.2.1.1.2,h.2.2.1.1.2⟩
theorem aQ.YD (p:aQ) (h:p.right=true) : -1073741824<=p.prio/\p.prio<=1073741824/\0<=p.size:=by
 unfold aQ.right aQ.rest at h
 simp only [qN,jZ] at h
 exact h.2.2.2
theorem YE (n:Nat) (h:n<=24):((UInt8.ofNat n).toNat:Int)=n:=by
 rw [tF];omega
theorem YF (p:aQ) (w:World) (hp:p.fe) (hr:p.right=true) :
  Calls prog 185 #[.agg p.cells] w fun e w'=>∃ A c,e=.returned (.tuple #[.slice A p.bytes.length c,.i 0])/\Own w' w.heap.size 5 cO (.slice A p.bytes.length c) p.bytes/\Below w.heap.size w w':=by
 have bx:=J hr;obtain ⟨DX,c7⟩:=p.P5 hr;obtain ⟨ajY,ajZ,_⟩:=p.YD hr;clear hr
 go_enter func185,ntmps185
 go_wp2_with fail;refine (OZ p _ hp).mono ?_;rintro e aC ⟨rfl,hb⟩;rw [bx.out];have bM:ar aC w.heap.size 40 p.cells:=(ar.new w _ _).bw hb;have bt:aC.cell? ⟨w.heap.size,0,none⟩=some (.string p.id):=bM.cell 0;have ix:aC.cell? ⟨w.heap.size,9,none⟩=some (.string p.bb):=bM.cell 9;go_wp2_with fail;have iB:ar (aC.alloc (.cells #[.string p.id,.string p.bb] 9)) w.heap.size 40 p.cells:=bM.alloc _;have kf:ar (aC.alloc (.cells #[.string p.id,.string p.bb] 9)) aC.heap.size 9 #[.string p.id,.string p.bb]:=ar.new _ _ _;have kr:w.heap.size+1<=aC.heap.size:=by have:=hb.size;simpa using this
 have yD:Below w.heap.size w (aC.alloc (.cells #[.string p.id,.string p.bb] 9)):=(((aO _ _).alloc aF _).trans (hb.mono av)).alloc af _;clear hb bt ix bM
 go_loopw [4,19] (fun b i wr=>∃ (k:Nat) (A:Option Addr) (c:Nat),k<=2/\i=.i k/\b=.slice A (p.nA k).length c /\
   Own wr w.heap.size 5 cO (.slice A (p.nA k).length c) (p.nA k)/\Below w.heap.size w wr/\ar wr w.heap.size 40 p.cells/\ar wr aC.heap.size 9 #[.string p.id,.string p.bb])
  (fun _ i _=>2-(intOf i).toNat)
 case atStart=>exact ⟨0,none,0,af,rfl,rfl,Own.e8 _ _ _ _,yD,iB,kf⟩
 case round =>
  obtain ⟨k,A,c,hk,rfl,rfl,hown,jx,bM,hS⟩:=hrel;have cH:=jx.size;have hl:=p.YC k hk DX c7
  by_cases aT:k<2
  ·obtain ⟨s,hs,hcs,ih⟩:=p.YB k aT DX c7
   have cs:wr.cell? ⟨aC.heap.size,k,none⟩=some (.string s):=(hS.cell k).trans hcs;have gC:a7 (wr.alloc (.cells #[.int .u8 s.size] 5)) cO (some ⟨wr.heap.size,0,none⟩) [UInt8.ofNat s.size]:=a7.made _ _ _ _ _ _ (by rw [s7,ny,YE _ hs];rfl);have H:=J (ae gC (ae ih (ae hcs (ae hS bM))));have bJ:=J (hown.alloc (.cells #[.int .u8 s.size] 5));clear gC ih hcs hS bM hown iB kf yD
   go_wp2_with (first|(at_builtin;refine hW tG cO rfl (.tmp 23) (.tmp 27) rfl w.heap.size _ (p.nA k) rfl bJ.out (some ⟨wr.heap.size,0,none⟩) [UInt8.ofNat s.size] 1 rfl H.1 (by simp;omega) (by simp;omega) (by simp;omega) ?_;intro bz c1 aM oK tH _;have G:=J tH;clear tH)|(at_builtin;refine Xe tG YG underlying9 rfl (.tmp 28) (.tmp 29) rfl w.heap.size _ _ rfl oK s rfl (by simp;omega) (by have:=G.size;simp at this;omega) ?_;intro A2 c2 w3 xh tE))
   obtain ⟨gC,ih,hcs,hS,bM⟩:=H.out;have KO:(p.nA k++[UInt8.ofNat s.size])++s.data.toList=p.nA (k+1):=by rw [ih];simp [vF]
   have tI:(p.nA k++[UInt8.ofNat s.size]).length+s.size=(p.nA (k+1)).length:=by rw [<- KO];simp only [cd];rfl
   rw [KO,tI] at xh
   have et:=G.out;have bV:Below w.heap.size w aM:=bJ.jX (jx.alloc cH _) et aF (by simp;omega);have bY:Below w.heap.size w w3:=Own.jX oK bV tE aF (by have:=et.size;simp at this;omega);have lj:ar w3 w.heap.size 40 p.cells:=((bM.alloc _).grown et (bJ.fK (bM.alloc _) ak)).grown tE (oK.fK ((bM.alloc _).grown et (bJ.fK (bM.alloc _) ak)) ak);have P6:ar w3 aC.heap.size 9 #[.string p.id,.string p.bb]:=((hS.alloc _).grown et (bJ.fK (hS.alloc _) ak)).grown tE (oK.fK ((hS.alloc _).grown et (bJ.fK (hS.alloc _) ak)) ak);have R:=ae xh (ae bY (ae lj P6));clear gC ih hcs hS bM KO et tE oK bV xh bY lj P6 H G bJ
   go_roundw
   case rel=>exact ⟨k+1,A2,c2,af,cm,by rw [<- tI];simp,R.1,R.2.1,R.2.2.1,R.2.2.2⟩
   case measure=>exact c4
  ·obtain rfl:k=2:=by omega
   have c1:wr.cell? ⟨w.heap.size,1,none⟩=some (.i p.prio):=bM.cell 1;have f1:wr.frozen? ⟨w.heap.size,1,none⟩=false:=bM.frozen 1;have h4:ar (wr.setCell ⟨w.heap.size,1,none⟩ (.i (p.prio+1073741824))) w.heap.size 40 p.Es:=bM.eW 1 _;have yE:=hown.Ao bM ak 1 (.i (p.prio+1073741824));have yz:=jx.setCell (p:=⟨w.heap.size,1,none⟩) aF (.i (p.prio+1073741824));have H:=J (ae h4 (ae yE yz));have YH:=bM.lt;clear h4 yE yz hown bM hS jx iB kf yD;go_wp2_with fail;refine (Yg _ _).mono ?_;rintro e eD ⟨rfl,ku,iA,AJ⟩;obtain ⟨h4,yE,yz⟩:=H.out;have P7:=h4.bw iA;have KP:=yE.below iA aF;have P8:=yz.trans (iA.mono (by simp;omega));simp only [World.size_setCell] at ku AJ
   clear h4 yE yz iA c1 f1 H;have xi:=hl;have aj0:w.heap.size<wr.heap.size:=YH;obtain ⟨eh,rfl⟩:∃ eh:World,eh=wr:=⟨_,rfl⟩
   have KQ:p.upTo 0 0=p.nA 2:=by simp [aQ.upTo,aQ.AI]
   rw [<- KQ] at KP
   have gD:=J KQ;clear KQ;have CN:=J (ae P7 (ae ku (ae KP P8)));clear P7 ku KP P8;go_wp2_with fail
   go_loopw [4,38] (fun b i jy=>∃ (k:Nat) (A:Option Addr) (c:Nat),k<=8/\i=.i k/\b=.slice A (p.upTo k 0).length c /\
     Own jy w.heap.size 5 cO (.slice A (p.upTo k 0).length c) (p.upTo k 0)/\Below w.heap.size w jy/\ar jy w.heap.size 40 p.Es/\ar jy eh.heap.size 202 (Eo w.heap.size))
    (fun _ i _=>8-(intOf i).toNat)
   case atStart=>exact ⟨0,A,c,af,rfl,by rw [gD.out],by rw [gD.out] at CN ⊢;exact CN.2.2.1,CN.2.2.2,CN.1,CN.2.1⟩
   case round =>
    clear CN gD;obtain ⟨k,A,c,hk,rfl,rfl,hown,jx,bM,ku⟩:=hrel
    by_cases aT:k<8
    ·have rP:wr.cell? ⟨eh.heap.size,k,none⟩=some (.pointer (some ⟨w.heap.size,AH k,none⟩)):=(ku.cell k).trans (YA _ _ aT)
     have ks:wr.cell? ⟨w.heap.size,AH k,none⟩=some (.i (p.nm k)):=(bM.cell (AH k)).trans (p.P4 k aT);have cH:=jx.size;have H:=J (ae hown (ae jx (ae bM ku)));have cg:decide ((k:Int)<8)=true:=bO af;clear hown jx bM ku ks;go_wp2_with fail
     go_loopw [4,9] (fun b s jy=>∃ (j:Nat) (A:Option Addr) (c:Nat),j<=8/\s=.i (56-8*(j:Int))/\b=.slice A (p.upTo k j).length c /\
       Own jy w.heap.size 5 cO (.slice A (p.upTo k j).length c) (p.upTo k j)/\Below w.heap.size w jy/\ar jy w.heap.size 40 p.Es/\ar jy eh.heap.size 202 (Eo w.heap.size))
      (fun _ s _=>(intOf s+8).toNat)
     case atStart=>exact ⟨0,A,c,af,rfl,rfl,H.1,H.2.1,H.2.2.1,H.2.2.2⟩
     case round =>
      clear H;obtain ⟨j,A,c,aD,rfl,rfl,hown,jx,bM,ku⟩:=hrel
      by_cases AK:j<8
      ·have dj:decide (8*(j:Int)<=56)=true:=bO af
       have ks:wr.cell? ⟨w.heap.size,AH k,none⟩=some (.i (p.nm k)):=(bM.cell (AH k)).trans (p.P4 k aT);have cH:=jx.size;have hl:=p.P1 k j hk aD xi;have ih:=p.Yy k j AK;have gC:a7 (wr.alloc (.cells #[.int .u8 (p.nm k / 2 ^ (56-8*j) % 256)] 5)) cO (some ⟨wr.heap.size,0,none⟩) [qZ (p.nm k) (7-j)]:=a7.made _ _ _ _ _ _ (by rw [s7,P3 _ _ AK];rfl);have H:=J (ae gC (ae ih (ae jx (ae ku bM))));have bJ:=J (hown.alloc (.cells #[.int .u8 (p.nm k / 2 ^ (56-8*j) % 256)] 5));clear gC ih hown jx bM ku
       go_wp2_with (at_builtin;refine hW tG cO rfl (.tmp 46) (.tmp 53) rfl w.heap.size _ (p.upTo k j) rfl bJ (some ⟨wr.heap.size,0,none⟩) [qZ (p.nm k) (7-j)] 1 rfl H.1 (by simp;omega) (by simp;omega) (by simp;omega) ?_;intro bz c1 aM oK tH _;have G:=J tH;clear tH)
       obtain ⟨gC,ih,jx,ku,bM⟩:=H.out;rw [<- ih] at oK
       have tI:(p.upTo k j).length + [qZ (p.nm k) (7-j)].length=(p.upTo k (j+1)).length:=by rw [ih,cd]
       rw [tI] at oK
       have bV:Below w.heap.size w aM:=bJ.jX (jx.alloc cH _) G.out aF (by simp;omega);have lj:ar aM w.heap.size 40 p.Es:=(bM.alloc _).grown G.out (bJ.fK (bM.alloc _) ak);have P9:ar aM eh.heap.size 202 (Eo w.heap.size):=(ku.alloc _).grown G.out (bJ.fK (ku.alloc _) ak);have R:=ae oK (ae bV (ae lj P9));clear gC ih jx ku bM oK bV lj P9 H bJ G ks rP
       go_roundw
       case rel=>exact ⟨j+1,bz,c1,af,cm,by rw [<- tI];rfl,R.1,R.2.1,R.2.2.1,R.2.2.2⟩
       case measure=>exact c4
      ·obtain rfl:j=8:=by omega
       have l2:=p.Yx k;rw [<- l2] at hown
       have YI:=J l2;have R:=ae hown (ae jx (ae bM ku));clear l2 hown jx bM ku rP;go_wp2_with fail
       go_roundw
       case rel=>exact ⟨k+1,A,c,af,cm,by rw [YI.out],R.1,R.2.1,R.2.2.1,R.2.2.2⟩
       case measure=>exact c4
    ·obtain rfl:k=8:=by omega
     have yF:wr.cell? ⟨w.heap.size,2,none⟩=some (.bool p.bo):=bM.cell 2;have cH:=jx.size;have hl:=p.P1 8 0 af af xi;have l2:p.upTo 8 0++[yB p.bo]=p.bytes:=by simp [aQ.upTo,aQ.bytes,aQ.nA]
     clear bM ku
     cases CO:p.bo
     ·have gC:a7 (wr.alloc (.cells #[.int .u8 0] 5)) cO (some ⟨wr.heap.size,0,none⟩) [yB p.bo]:=a7.made _ _ _ _ _ _ (by rw [s7,CO];rfl)
      rw [CO] at yF
      have H:=J (ae gC (ae l2 jx));have bJ:=J (hown.alloc (.cells #[.int .u8 0] 5));clear gC hown jx CO l2
      go_wp2_with (at_builtin;refine hW tG cO rfl (.tmp 61) (.tmp 62) rfl w.heap.size _ (p.upTo 8 0) rfl bJ (some ⟨wr.heap.size,0,none⟩) [yB p.bo] 1 rfl H.1 (by simp;omega) (by simp;omega) (by simp;omega) ?_;intro bz c1 aM oK tH _;have G:=J tH;clear tH)
      obtain ⟨gC,l2,jx⟩:=H.out;have bV:Below w.heap.size w aM:=bJ.jX (jx.alloc cH _) G.out aF (by simp;omega);have tI:(p.upTo 8 0).length + [yB p.bo].length=p.bytes.length:=by rw [<- l2,cd]
      rw [tI,l2] at oK
      go_ret2
      exact ⟨bz,c1,by rw [<- tI];rfl,oK,bV⟩
     ·have gC:a7 (wr.alloc (.cells #[.int .u8 1] 5)) cO (some ⟨wr.heap.size,0,none⟩) [yB p.bo]:=a7.made _ _ _ _ _ _ (by rw [s7,CO];rfl)
      rw [CO] at yF
      have H:=J (ae gC (ae l2 jx));have bJ:=J (hown.alloc (.cells #[.int .u8 1] 5));clear gC hown jx CO l2
      go_wp2_with (at_builtin;refine hW tG cO rfl (.tmp 58) (.tmp 59) rfl w.heap.size _ (p.upTo 8 0) rfl bJ (some ⟨wr.heap.size,0,none⟩) [yB p.bo] 1 rfl H.1 (by simp;omega) (by simp;omega) (by simp;omega) ?_;intro bz c1 aM oK tH _;have G:=J tH;clear tH)
      obtain ⟨gC,l2,jx⟩:=H.out;have bV:Below w.heap.size w aM:=bJ.jX (jx.alloc cH _) G.out aF (by simp;omega);have tI:(p.upTo 8 0).length + [yB p.bo].length=p.bytes.length:=by rw [<- l2,cd]
      rw [tI,l2] at oK
      go_ret2
      exact ⟨bz,c1,by rw [<- tI];rfl,oK,bV⟩








section
open Go.ChangeShapes Go.WideShapes Go.ChangeAt
def aQ.data (H:Type) (p:aQ):DataW H:=.agg [.lit (.string p.id.data.toList),.lit (.int .i64 p.prio),.lit (.bool p.bo),.agg [.lit (.int .i64 p.bg),.lit (.int .i64 p.aX),.lit (.int .i64 p.ba)],.agg [.lit (.int .i64 p.bk),.lit (.int .i64 p.bl),.lit (.int .i64 p.aW)],.lit (.string p.bb.data.toList),.lit (.int .i64 p.size)]
section
variable {H:Type} {enc:TypeId×Value->H} {w:World} {base:Nat} {spare:Nat->Bool} {held:Bool}
end
end
end Go.Proofs.YtmmchlfoplcnbaaGreatDoor
