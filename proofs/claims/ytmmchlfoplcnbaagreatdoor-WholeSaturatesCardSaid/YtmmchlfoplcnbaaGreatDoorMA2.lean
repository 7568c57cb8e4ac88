/- A part of the walk. -/
import Derived.BigQuiet
import Derived.Deep.QuietTactic
import Derived.Sort.Walk0
import Derived.Outline
import Derived.Lib.ItoaNum
import Derived.Lib.Atoi
import Derived.Lib.IndexMore
import Derived.Lib.Split
import Derived.Lib.Strings
import Derived.Test.YtmmchlfoplcnbaaGreatDoorMA1
namespace Go.Proofs.YtmmchlfoplcnbaaGreatDoor
open Go Go.RowKit Tryz
set_option linter.all false
set_option maxRecDepth 100000
set_option maxHeartbeats 4000000
def encS:cu ByteArray 1:=⟨fun s=>[.string s],fun _=>rfl,fun _ u hu=>by simp at hu;subst hu;rfl,ak⟩
theorem a7.str {w:World} {A:Option Addr} {l:List ByteArray} (h:a7 w encS A l) {i:Nat} (hi:i<l.length):∃ b off,A=some ⟨b,off,none⟩/\b<w.heap.size/\w.cell? ⟨b,off+i,none⟩=some (.string l[i]):=by
 obtain ⟨b,off,e,hb,hc⟩:=h.at_ hi;have:=hc 0 (.string l[i]) rfl;exact ⟨b,off,e,hb,by simpa using this⟩
def blt (a b:ByteArray):Bool:=Op.bytesLess a.toList b.toList
theorem blt_eq (a b:ByteArray):blt a b=decide (a.data.toList<b.data.toList):=by
 unfold blt;rw [bytesLess_eq,oG,oG]
theorem ms (a:ByteArray):blt a a=false:=by rw [blt_eq];exact cX (List.lt_irrefl _)
theorem jY {a b c:ByteArray} (h1:blt a b=true) (ah:blt b c=true):blt a c=true:=by
 rw [blt_eq] at *
 exact bO (List.lt_trans (x9 h1) (x9 ah))
theorem data_inj {a b:ByteArray} (h:a.data.toList=b.data.toList):a=b:=by
 obtain ⟨⟨x⟩⟩:=a;obtain ⟨⟨y⟩⟩:=b;simp only at h
 rw [h]
theorem r8 {a b:ByteArray} (h1:blt a b=false) (ah:blt b a=false):a=b:=by
 rw [blt_eq] at *
 have CL:=of_decide_eq_false h1;have qO:=of_decide_eq_false ah;refine data_inj ?_;exact List.le_antisymm (Ep.1 qO) (Ep.1 CL)
theorem toList_inj {a b:ByteArray} (h:(a.toList==b.toList)=true):a=b:=by
 have h:=eq_of_beq h;rw [oG,oG] at h
 obtain ⟨⟨x⟩⟩:=a;obtain ⟨⟨y⟩⟩:=b;simp only at h
 rw [h]
theorem En:lH prog 170 9 1 16:=by
 obtain ⟨i,h1,ah,aw,bn⟩:=info_parts (show (prog.info? 9).map (fun i=>(i.zero,i.size,i.bytes))=some (some (.string ⟨#[]⟩),1,16) by kernel_rfl);exact ⟨underlying170,i,_,h1,ah,aw,bn,rfl⟩
def sign (c:UInt8):Bool:=(97<=c&&c<=122)||((48<=c&&c<=57)||c==45)
def named (l:List UInt8):Bool:=decide (1<=l.length)&&decide (l.length<=24)&&l.all sign
structure aQ where
 id:ByteArray
 prio:Int
 bo:Bool
 bg:Int
 aX:Int
 ba:Int
 bk:Int
 bl:Int
 aW:Int
 bb:ByteArray
 size:Int
abbrev aQ.cells (p:aQ):Array Value:=#[.string p.id,.i p.prio,.bool p.bo,.i p.bg,.i p.aX,.i p.ba,.i p.bk,.i p.bl,.i p.aW,.string p.bb,.i p.size]
structure aQ.fe (p:aQ):Prop where
 prio:c' p.prio
 bg:c' p.bg
 aX:c' p.aX
 ba:c' p.ba
 bk:c' p.bk
 bl:c' p.bl
 aW:c' p.aW
 size:c' p.size
 id:p.id.size<=9223372036854775807
 bb:p.bb.size<=9223372036854775807
def bad (q l:Int):Bool:=decide (q<0)||(decide (l<0)||(decide (0<l)&&decide (l<q)))
def aQ.wZ (p:aQ):Bool:=!bad p.bg p.bk&&(!bad p.aX p.bl&&!bad p.ba p.aW)
def aQ.rest (p:aQ):Bool:=decide (-1073741824<=p.prio)&&(decide (p.prio<=1073741824)&&decide (0<=p.size))
def aQ.right (p:aQ):Bool:=p.wZ&&(named p.id.data.toList&&(named p.bb.data.toList&&p.rest))
def aQ.qY (p:aQ) (k:Nat):Bool:=(decide (k<=0)||!bad p.bg p.bk)&&((decide (k<=1)||!bad p.aX p.bl)&&(decide (k<=2)||!bad p.ba p.aW))
theorem aQ.Yo (p:aQ):p.qY 0=true:=by simp [aQ.qY]
theorem aQ.Yq (p:aQ) (h:bad p.bg p.bk=false):p.qY 1=true:=by simp [aQ.qY,h]
theorem aQ.Ys (p:aQ) (aI:p.qY 1=true) (h:bad p.aX p.bl=false):p.qY 2=true:=by simp [aQ.qY,h] at aI ⊢;exact aI
theorem aQ.Yu (p:aQ) (aI:p.qY 2=true) (h:bad p.ba p.aW=false):p.qY 3=true:=by simp [aQ.qY,h] at aI ⊢;exact aI
theorem aQ.Yv (p:aQ) (h:p.qY 3=true):p.wZ=true:=by simpa [aQ.qY,aQ.wZ] using h
theorem aQ.Yp (p:aQ) (h:bad p.bg p.bk=true):p.right=false:=by simp [aQ.right,aQ.wZ,h]
theorem aQ.Yr (p:aQ) (h:bad p.aX p.bl=true):p.right=false:=by simp [aQ.right,aQ.wZ,h]
theorem aQ.Yt (p:aQ) (h:bad p.ba p.aW=true):p.right=false:=by simp [aQ.right,aQ.wZ,h]
theorem KM (q l:Int):(bad q l=true/\(q<0\/(0<=q/\l<0)\/(0<=q/\0<l/\l<q)))\/(bad q l=false/\0<=q/\(l=0\/(0<l/\q<=l))):=by
 unfold bad
 by_cases h1:q<0 <;> by_cases ah:l<0 <;> by_cases aw:0<l <;> by_cases bn:l<q <;> simp [h1,ah,aw,bn] <;> omega
theorem PW (dK c8 dT:Value) (w:World):(Instr.index 23 (.agg #[dK,c8,dT]) (.i 0)).run prog w=.ok dK w:=ai
theorem PX (dK c8 dT:Value) (w:World):(Instr.index 23 (.agg #[dK,c8,dT]) (.i 1)).run prog w=.ok c8 w:=ai
theorem PY (dK c8 dT:Value) (w:World):(Instr.index 23 (.agg #[dK,c8,dT]) (.i 2)).run prog w=.ok dT w:=ai
attribute [go_sem] PW PX PY
def gv:cu aQ 11:=⟨fun p=>p.cells.toList,fun _=>rfl,fun p u hu=>by simp at hu;rcases hu with h|h|h|h|h|h|h|h|h|h|h <;> subst h <;> rfl,ak⟩
theorem PT:(prog.info? 40).map (·.size)=some 11:=ai
theorem a7.range {w:World} {l:List aQ} {b off k:Nat} (hk:k<l.length) (hc:∀ j u,(gv.enc l[k])[j]? = some u->w.cell? ⟨b,off+(k*11+j),none⟩=some u):w.rangeAt b (off+k*11) l[k].cells.toList:=fun j v hv=>by
 rw [D4];exact hc j v hv
abbrev Yk:Array Value:=#[.string ⟨#[]⟩,.i 0,.bool false,.i 0,.i 0,.i 0,.i 0,.i 0,.i 0,.string ⟨#[]⟩,.i 0]
theorem cells_one (p:aQ):(p.cells.all (·.oneCell'))=true:=cc
def dY (u:Nat):List UInt8:=Lib.decDigits u
theorem B' {u:Nat} (h:u<10):dY u = [UInt8.ofNat (48+u)]:=by unfold dY;rw [Lib.decDigits,dif_pos h]
theorem FZ {u:Nat} (h:¬ u<10):dY u=dY (u / 10)++[UInt8.ofNat (48+u % 10)]:=by unfold dY;rw [Lib.decDigits,dif_neg h]
def pX (b:UInt8):Bool:=decide (48<=b.toNat/\b.toNat<=57)
theorem VX (d:Nat) (h:d<10):pX (UInt8.ofNat (48+d))=true:=by
 unfold pX;rw [tF];simp;omega
theorem z8 (u:Nat):∀ b∈dY u,pX b=true:=by
 induction u using Nat.strongRecOn with
 | ind u b6 =>
  intro b hb
  by_cases h:u<10
  ·rw [B' h] at hb
   simp only [mD] at hb
   rw [hb];exact VX u h
  ·rw [FZ h,jl] at hb
   rcases hb with hb|hb
   ·exact b6 (u / 10) af b hb
   ·simp only [mD] at hb
    rw [hb];exact VX _ af
theorem Oh (u:Nat):dY u≠[]:=by
 by_cases h:u<10
 ·rw [B' h];simp
 ·rw [FZ h];simp
def oz (n:Nat):List UInt8->Nat
 | []=>n
 | b :: l=>oz (n*10+(b.toNat-48)) l
theorem Og (n:Nat) (l m:List UInt8):oz n (l++m)=oz (oz n l) m:=by
 induction l generalizing n with
 | nil=>rfl
 | cons b l b6=>exact b6 _
theorem VC (u:Nat):oz 0 (dY u)=u:=by
 induction u using Nat.strongRecOn with
 | ind u b6 =>
  by_cases h:u<10
  ·rw [B' h]
   show 0*10+((UInt8.ofNat (48+u)).toNat-48)=u
   rw [tF];omega
  ·rw [FZ h,Og,b6 (u / 10) af]
   show u / 10*10+((UInt8.ofNat (48+u % 10)).toNat-48)=u
   rw [tF];omega
theorem ahN (l:List UInt8):∀ n,n<=oz n l:=by
 induction l with
 | nil=>intro n;exact e3 _
 | cons b l b6=>intro n;have:=b6 (n*10+(b.toNat-48));show n<=oz _ l;omega
theorem zC {u:Nat} (k:Nat) (h:u<10 ^ k) (hk:0<k):(dY u).length<=k:=by
 induction k generalizing u with
 | zero=>omega
 | succ k b6 =>
  by_cases h1:u<10
  ·rw [B' h1];simp
  ·rw [FZ h1,cd]
   have q4:0<k:=by
    rcases Nat.eq_zero_or_pos k with rfl|aI
    ·simp at h;omega
    ·exact aI
   have:=b6 (u:=u / 10) (by rw [Nat.pow_succ] at h;omega) q4;simp;omega
def k6:List (List UInt8×Nat):=[([84,105],1099511627776),([84],1000000000000),([71,105],1073741824),([71],1000000000),([77,105],1048576),([77],1000000),([75,105],1024),([107],1000)]
def wP (n:Nat):List UInt8×Nat:=(k6.find? fun u=>n % u.2==0).getD ([],1)
def dO (n:Nat):List UInt8:=if n=0 then [48] else dY (n / (wP n).2)++(wP n).1
theorem ai0 (n:Nat):wP n∈k6\/wP n=([],1):=by
 unfold wP
 cases h:k6.find? fun u=>n % u.2==0 with
 | none=>exact .inr rfl
 | some u=>exact .inl (M2 h)
theorem ai1 (n:Nat):n / (wP n).2*(wP n).2=n:=by
 have:n % (wP n).2=0:=by
  unfold wP
  cases h:k6.find? fun u=>n % u.2==0 with
  | none=>simp [Nat.mod_one]
  | some u=>simpa using List.find?_some h
 exact Nat.div_mul_cancel (Nat.dvd_of_mod_eq_zero this)
theorem Gb {u:List UInt8×Nat} (h:u∈k6):0<u.2/\u.1≠[]/\u.1.length<=2/\∀ b∈u.1,pX b=false/\64<=b.toNat/\b.toNat<=126:=by
 simp only [k6,fb,mr,l1] at h
 rcases h with rfl|rfl|rfl|rfl|rfl|rfl|rfl|rfl <;> exact ⟨ak,ak,ak,ak⟩
theorem JG (n:Nat):∃ (m:Nat) (s:List UInt8) (u:Nat),dO n=dY m++s/\(s,u)∈([],1) :: k6/\m*u=n:=by
 unfold dO
 by_cases h:n=0
 ·rw [bB h]
  exact ⟨0,[],1,by rw [B' af];rfl,av,af⟩
 ·rw [bp h]
  refine ⟨_,_,_,rfl,?_,ai1 n⟩
  rcases ai0 n with h|h
  ·exact EI _ h
  ·rw [h];exact List.mem_cons_self
def qF (b:UInt8):Bool:=decide (36<=b.toNat/\b.toNat<=126)
theorem Oy {b:UInt8} (h:pX b=true):qF b=true:=by unfold pX at h;unfold qF;simp at h ⊢;omega
theorem Cs (n:Nat):dO n≠[]/\∀ b∈dO n,qF b=true:=by
 obtain ⟨m,s,u,e,hs,_⟩:=JG n;rw [e];refine ⟨by simp [Oh],fun b hb=>?_⟩
 rcases jl.1 hb with hb|hb
 ·exact Oy (z8 m b hb)
 ·rcases fb.1 hs with hs|hs
  ·injection hs with h1 ah;subst h1;simp at hb
  ·have:=(Gb hs).2.2.2 b hb
   unfold qF;simp;omega
theorem gy {n:Nat} (h:n<=9223372036854775807):(dO n).length<=21:=by
 obtain ⟨m,s,u,e,hs,hm⟩:=JG n;have fY:s.length<=2/\0<u:=by
  rcases fb.1 hs with hs|hs
  ·injection hs with h1 ah;subst h1;subst ah;simp
  ·exact ⟨(Gb hs).2.2.1,(Gb hs).1⟩
 have ahP:m<=n:=by rw [<- hm];exact C2 _ fY.2
 rw [e,cd];have:=zC (u:=m) 19 af af;omega
theorem index_none {c:UInt8}:∀ {l:List UInt8},c∉l->Lib.index l [c] = -1
 | [],_=>rfl
 | b :: l,h=>by
  have h1:b≠c:=fun e=>h (by simp [e])
  have ah:=index_none (c:=c) (l:=l) fun e=>h (by simp [e])
  have aw:([c]:List UInt8).isPrefixOf (b :: l)=false:=by simp [List.isPrefixOf];exact fun e=>h1 e.symm
  unfold Lib.index;rw [aw,ah];rfl
theorem index_one {c:UInt8} (r:List UInt8):∀ {l:List UInt8},c∉l->Lib.index (l++c :: r) [c]=(l.length:Int)
 | [],_=>by
  show Lib.index (c :: r) [c]=0
  unfold Lib.index;simp [List.isPrefixOf]
 | b :: l,h=>by
  have h1:b≠c:=fun e=>h (by simp [e])
  have ah:=index_one (c:=c) r (l:=l) fun e=>h (by simp [e])
  have aw:([c]:List UInt8).isPrefixOf (b :: (l++c :: r))=false:=by simp [List.isPrefixOf];exact fun e=>h1 e.symm
  show Lib.index (b :: (l++c :: r)) [c]=_
  unfold Lib.index;rw [aw,ah];have:((l.length:Int)==-1)=false:=ji.2 af;simp [this]
theorem ai2 {c:UInt8} {l:List UInt8} (h:c∉l):Lib.cut l [c]=(l,[],false):=by
 unfold Lib.cut;rw [index_none h];rfl
theorem Oz {c:UInt8} {l:List UInt8} (r:List UInt8) (h:c∉l):Lib.cut (l++c :: r) [c]=(l,r,true):=by
 unfold Lib.cut;rw [index_one r h,bB af];have e:((l.length:Int)).toNat=l.length:=af;rw [e];simp
theorem ai3 {c:UInt8} {l:List UInt8} (h:c∉l):∀ k,Lib.countFrom [c] k l=0
 | 0=>rfl
 | k+1=>by unfold Lib.countFrom;rw [index_none h];rfl
def glue (c:UInt8):List (List UInt8)->List UInt8
 | []=>[]
 | l :: ls=>l++c :: glue c ls
theorem UE (c:UInt8) (ls:List (List UInt8)):ls.length<=(glue c ls).length:=by
 induction ls with
 | nil=>simp [glue]
 | cons l ls b6=>unfold glue;rw [cd,cy,cy];omega
theorem VY {c:UInt8}:∀ {ls:List (List UInt8)} (k:Nat),(∀ l∈ls,c∉l)->ls.length<=k->Lib.countFrom [c] k (glue c ls)=ls.length
 | [],k,_,_=>ai3 (by simp [glue]) k
 | l :: ls,0,_,hk=>by simp at hk
 | l :: ls,k+1,h,hk=>by
  have b6:=VY (c:=c) (ls:=ls) k (fun x hx=>h x (by simp [hx])) (by simpa using hk);have hl:=h l av;unfold Lib.countFrom
  show (if Lib.index (l++c :: glue c ls) [c]==-1 then 0 else _)=_
  rw [show glue c (l :: ls)=l++c :: glue c ls from rfl,index_one _ hl];have e:((l.length:Int)==-1)=false:=ji.2 af;have bE:((l.length:Int)).toNat=l.length:=af;have cG:(l++c :: glue c ls).drop (l.length+1)=glue c ls:=by rw [<- Jk];simp
  simp only [e,bE,cy];simp;omega
theorem VZ {c:UInt8}:∀ {ls:List (List UInt8)},(∀ l∈ls,c∉l)->Lib.splitK [c] 0 ls.length (glue c ls)=ls++[[]]
 | [],_=>rfl
 | l :: ls,h=>by
  have b6:=VZ (c:=c) (ls:=ls) fun x hx=>h x (by simp [hx])
  have hl:=h l av
  show Lib.splitK [c] 0 (ls.length+1) (l++c :: glue c ls)=_
  unfold Lib.splitK;rw [index_one _ hl];have e:((l.length:Int)==-1)=false:=ji.2 af;have bE:((l.length:Int)).toNat=l.length:=af;have cG:(l++c :: glue c ls).drop (l.length+1)=glue c ls:=by rw [<- Jk];simp
  simp only [e,bE,List.length_singleton,cG,b6];simp
theorem af0 {ls:List (List UInt8)} (h:∀ l∈ls,(10:UInt8)∉l) (s:ByteArray) (hs:s.data.toList=glue 10 ls) (sep:ByteArray) (hp:sep.data.toList = [10]) :
  Lib.countB s sep=ls.length/\(Lib.splitB sep 0 (Lib.countB s sep) s).map (·.data.toList)=ls++[[]]:=by
 have e:Lib.countB s sep=ls.length:=by
  show Lib.count s.data.toList sep.data.toList=_
  rw [hs,hp];exact VY _ h (by have:=UE 10 ls;omega)
 exact ⟨e,by rw [e,Lib.splitB_data,hs,hp,VZ h]⟩
def je:List (List UInt8)->List UInt8
 | []=>[]
 | [a]=>a
 | a :: l=>a++32 :: je l
def Word (a:List UInt8):Prop:=a≠[]/\∀ b∈a,qF b=true
theorem MC (a b:List UInt8) (l:List (List UInt8)):je (a :: b :: l)=a++32 :: je (b :: l):=rfl
theorem V0 {l:List (List UInt8)} (h:∀ a∈l,Word a):∀ b∈je l,b=32\/qF b=true:=by
 induction l with
 | nil=>simp [je]
 | cons a l b6 =>
  cases l with
  | nil=>intro b hb;exact .inr ((h a av).2 b hb)
  | cons a' l =>
   intro b hb;rw [MC,jl,fb] at hb
   rcases hb with hb|hb|hb
   ·exact .inr ((h a av).2 b hb)
   ·exact .inl hb
   ·exact b6 (fun x hx=>h x (by simp [hx])) b hb
theorem Yh {V:Type} (cur vs:List V) (o n:Nat) (h:o+vs.length<=n) (hn:n<=cur.length):(cur.take o++vs++cur.drop (o+vs.length)).take n=(cur.take n).take o++vs++(cur.take n).drop (o+vs.length):=by
 obtain ⟨p,r,rfl,hp⟩:∃ p r,cur=p++r/\p.length=n:=⟨cur.take n,cur.drop n,(p1 n cur).symm,by rw [fv];omega⟩
 have aV:(p++r).take o=p.take o:=D7 af;have bE:(p++r).drop (o+vs.length)=p.drop (o+vs.length)++r:=List.drop_append_of_le_length af;rw [aV,bE,<- mq,rU (by simp;omega),rU hp]
section
variable {α:Type} {size:Nat}
theorem cu.xb (E:cu α size) (l:List α) (k:Nat) (hk:k<=l.length):E.all (l.take k)=(E.all l).take (k*size):=by
 have e:E.all l=E.all (l.take k)++E.all (l.drop k):=by rw [<- E.all_append,p1]
 rw [e,rU (by rw [E.h3,fv,oF hk])]
theorem cu.Pd (E:cu α size) (l:List α) (k:Nat) (hk:k<=l.length):E.all (l.drop k)=(E.all l).drop (k*size):=by
 have e:E.all l=E.all (l.take k)++E.all (l.drop k):=by rw [<- E.all_append,p1]
 rw [e,List.drop_left' (by rw [E.h3,fv,oF hk])]
theorem cu.KC (E:cu α size) (l:List α) (k:Nat) (x:α) (hk:k<l.length):E.all (l.set k x)=(E.all l).take (k*size)++E.enc x++(E.all l).drop (k*size+size):=by
 rw [KJ,bB hk,E.all_append,E.all_cons,E.xb l k af,E.Pd l (k+1) af,w1,w2,mq]
variable {E:cu α size} {w:World} {base:Nat} {e:TypeId} {v:Value} {l:List α}
theorem th (h:Own w base e E v l) (hl:l≠[]):∃ g cap cur,v=.slice (some ⟨g,0,none⟩) l.length cap/\base<=g/\ar w g e cur/\l.length<=cap/\cap<=maxLen/\cur.size=cap*size/\cur.toList.take (l.length*size)=E.all l:=by
 rcases h.2 with ⟨rfl,aI⟩|⟨g,cap,cur,rfl,hb,az,hn,hm,hcs,ht⟩
 ·exact absurd (Cx aI) hl
 ·exact ⟨g,cap,cur,rfl,hb,az,hn,hm,hcs,ht⟩
theorem Yi {g c:Nat} (h:Own w base e E (.slice (some ⟨g,0,none⟩) l.length c) l) {k:Nat} (hk:k<l.length) (x:α) :
  Own (w.setCells g (k*size) (E.enc x)) base e E (.slice (some ⟨g,0,none⟩) l.length c) (l.set k x)/\w.grownBy (w.setCells g (k*size) (E.enc x)) (some g)/\(w.setCells g (k*size) (E.enc x)).heap.size=w.heap.size:=by
 obtain ⟨g',cap,cur,hv,hb,az,hn,hm,hcs,ht⟩:=th h (by intro e;subst e;simp at hk);injection hv with hv DW x7
 injection hv with hv
 injection hv with hv
 subst hv;subst x7;have hp:=E.pos;have h1:(k+1)*size<=l.length*size:=vB _ hk;have ah:l.length*size<=c*size:=vB _ hn;have aw:k*size+size<=l.length*size:=by rwa [w1,w2] at h1
 have bZ:cur.toList.length=c*size:=by rw [mm];exact hcs
 obtain ⟨s1,s2,qX⟩:=rS g e (E.enc x) (k*size) w cur.toList (by rw [E.len,bZ];omega) (by simpa using az);have qV:(l.set k x).length=l.length:=tA;have key:Own (w.setCells g (k*size) (E.enc x)) base e E (.slice (some ⟨g,0,none⟩) (l.set k x).length c) (l.set k x):=⟨E.h3 _,.inr ⟨g,c,_,rfl,hb,s1,af,hm,?_,?_⟩⟩
 ·rw [qV] at key
  exact ⟨key,s2,qX⟩
 ·rw [pp,cd,cd,fv,rV,E.len,bZ];omega
 ·have aV:(E.enc x).length=size:=E.len x
  have ts:=Yh cur.toList (E.enc x) (k*size) (l.length*size) (by rw [aV];exact aw) (by rw [bZ];exact ah);rw [ht,aV] at ts
  rw [qV,E.KC l k x hk,aV];exact ts
theorem KK {g c:Nat} (h:Own w base e E (.slice (some ⟨g,0,none⟩) l.length c) l) {k:Nat} (hk:k<l.length):w.there g (k*size) size:=by
 obtain ⟨g',cap,cur,hv,hb,az,hn,hm,hcs,ht⟩:=th h (by intro e;subst e;simp at hk);injection hv with hv DW x7
 injection hv with hv
 injection hv with hv
 subst hv;subst x7;have h1:(k+1)*size<=l.length*size:=vB _ hk;have ah:l.length*size<=c*size:=vB _ hn;rw [w1,w2] at h1
 intro j aD;exact ⟨by rw [az.cell,s4 af];rfl,az.frozen _⟩
theorem Yj {P:Program} {ops:Array Oper} {rest:List Oper} {op:Oper} {a:Act} {Q:Exit->Act->World->Prop} (kq:op.guard=none) (ty:TypeId) (x y:Operand) (ho:op.op=.store ty x y)
  (g c:Nat) {k:Nat} (u:α) (cells:Array Value) (hx:a.eval x=.pointer (some ⟨g,k*size,none⟩)) (hy:a.eval y=.agg cells)
  (hown:Own w base e E (.slice (some ⟨g,0,none⟩) l.length c) l) (hk:k<l.length) (ea:E.enc u=cells.toList) (hi:(P.info? ty).map (·.size)=some cells.size)
  (h:∀ w',Own w' base e E (.slice (some ⟨g,0,none⟩) l.length c) (l.set k u)->w.grownBy w' (some g)->w'.heap.size=w.heap.size->wpList P ops Q rest (a.put op.dst undef) w'):wpList P ops Q (op :: rest) a w:=by
 have hcs:cells.size=size:=by rw [<- E.len u,ea,mm]
 obtain ⟨s1,s2,qX⟩:=Yi hown hk u;rw [ea] at s1 s2 qX
 refine wpList_store_mid kq ty x y ho g (k*size) cells hx hy (by rw [hcs];exact KK hown hk) hi ?_ (h _ s1 s2 qX);refine Array.all_eq_true_iff_forall_mem.2 fun v hv=>E.one u v ?_
 rw [ea];simpa using hv
theorem PE {g c:Nat} (h:Own w base e E (.slice (some ⟨g,0,none⟩) l.length c) l) {i:Nat} (hi:i<l.length) (j:Nat) (u:Value) (hu:(E.enc l[i])[j]? = some u):w.cell? ⟨g,i*size+j,none⟩=some u:=by
 obtain ⟨b,off,aV,_,hc⟩:=h.cZ.at_ hi;injection aV with aV
 injection aV with aV bE
 subst aV;subst bE;have:=hc j u hu
 rwa [fw] at this
theorem CF {A:Option Addr} {c:Nat} (h:Own w base e E (.slice A l.length c) l) (hl:l≠[]):∃ g,A=some ⟨g,0,none⟩/\base<=g:=by
 obtain ⟨g,cap,cur,hv,hb,_⟩:=th h hl;injection hv with hv
 exact ⟨g,hv,hb⟩
theorem PF {g n c:Nat} (h:Own w base e E (.slice (some ⟨g,0,none⟩) n c) l) (hn:l.length=n) (hl:l≠[]) (i:Nat):w.frozen? ⟨g,i,none⟩=false:=by
 subst hn;obtain ⟨g',cap,cur,hv,hb,az,_⟩:=th h hl;injection hv with hv
 injection hv with hv
 injection hv with hv
 subst hv;exact az.frozen i
theorem Ks {P:Program} {t:TypeId} {bytes:Nat} {w0:World} (T:lH P t e size bytes) (E:cu α size) {ops:Array Oper} {rest:List Oper} {o:Oper} {a:Act} {Q:Exit->Act->World->Prop} (kq:o.guard=none) (s x:Operand)
  (ho:o.op=.call { callee:=.builtin .append,args:=#[s,x],argTypes:=#[t,t] })
  (hs:a.eval s=.slice (some ⟨w0.heap.size,0,none⟩) 0 0)
  (A:Option Addr) (aW:List α) (c:Nat) (hx:a.eval x=.slice A aW.length c) (hr:a7 w0 E A aW) (hb:aW.length*bytes<=140737488355328) (vt:aW.length<=9223372036854775807)
  (h:∀ br a8 w',Own w' w0.heap.size e E (.slice br aW.length a8) aW->Below w0.heap.size w0 w'->wpList P ops Q rest (a.put o.dst (.slice br aW.length a8)) w'):wpList P ops Q (o :: rest) a (w0.alloc (.cells #[] e)):=by
 have PS:Own (w0.alloc (.cells #[] e)) w0.heap.size e E (.slice (some ⟨w0.heap.size,0,none⟩) 0 0) []:=Own.made w0 w0.heap.size e E [] #[] rfl aF av;have KL:Below w0.heap.size w0 (w0.alloc (.cells #[] e)):=(aO _ _).alloc aF _;refine hW T E kq s x ho w0.heap.size _ [] hs PS A aW c hx (hr.below KL) (by simpa using hb) (by simpa using vt) av ?_;intro br a8 w' h1 ah _;rw [dD,fw,List.nil_append] at h1
 rw [dD,fw];exact h br a8 w' h1 (PS.jX KL ah aF KL.size)
end
def j3 (b:Nat):Nat:=b / 4503599627370496 % 2048
def l6 (b:Nat):Nat:=b % 4503599627370496
def lN (b:Nat):Bool:=decide (9223372036854775808<=b)
def si (s:Bool) (e m:Nat):Int:=if e=2047 then (if 0<m then 1 else if s=true then 2 else 7) else if e=0/\m=0 then (if s=true then 4 else 5) else if s=true then 3 else 6
def eu (b:Nat):Int:=si (lN b) (j3 b) (l6 b)
def xm (e m:Nat):Nat:=if e<1075 then (m+4503599627370496) / 2 ^ (1075-e) else (m+4503599627370496)*2 ^ (e-1075)
def AQ (s:Bool) (e m:Nat):Int:=if si s e m<=5 then 0 else if 1086<=e then 9223372036854775807 else if e<1023 then 0 else (xm e m:Int)
def dW (b:Nat):Int:=AQ (lN b) (j3 b) (l6 b)
theorem Ho (b:Nat):l6 b<4503599627370496:=CC _ ak
theorem CX (b:Nat):j3 b<2048:=CC _ ak
theorem ZU {e m:Nat} (he:e<1086) (hm:m<4503599627370496):xm e m<=9223372036854775807:=by
 unfold xm
 split
 ·exact gT (Nat.div_le_self _ _) af
 ·have h:e-1075<=10:=by omega
  have ah:2 ^ (e-1075)<=2 ^ 10:=EB ak h;have aw:(m+4503599627370496)*2 ^ (e-1075)<=(m+4503599627370496)*2 ^ 10:=Nat.mul_le_mul_left _ ah;have bn:(2:Nat) ^ 10=1024:=ak;rw [bn] at aw
  have iT:m+4503599627370496<=9007199254740991:=af;exact gT aw (gT (vB _ iT) ak)
theorem ZV (s:Bool) (e m:Nat) (hm:m<4503599627370496):0<=AQ s e m/\AQ s e m<=9223372036854775807:=by
 unfold AQ
 split
 ·omega
 ·split
  ·omega
  ·split
   ·omega
   ·have:=@ZU e m af hm
    omega
theorem vM (b:Nat):0<=dW b/\dW b<=9223372036854775807:=ZV _ _ _ (Ho b)
structure gW where
 id:ByteArray
 f0:Nat
 f1:Nat
 f2:Nat
abbrev gW.cells (p:gW):Array Value:=#[.string p.id,.float .f64 p.f0,.float .f64 p.f1,.float .f64 p.f2]
structure gW.fe (g:gW):Prop where
 aI:g.f0<18446744073709551616
 h1:g.f1<18446744073709551616
 ah:g.f2<18446744073709551616
instance:Inhabited gW:=⟨⟨⟨#[]⟩,0,0,0⟩⟩
def yL:cu gW 4:=⟨fun p=>p.cells.toList,fun _=>rfl,fun p u hu=>by simp at hu;rcases hu with h|h|h|h <;> subst h <;> rfl,ak⟩
theorem a7.yM {w:World} {A:Option Addr} {l:List gW} (h:a7 w yL A l) {i:Nat} (hi:i<l.length):∃ b off,A=some ⟨b,off,none⟩/\b<w.heap.size /\
  w.cell? ⟨b,off+i*4,none⟩=some (.string l[i].id)/\w.cell? ⟨b,off+i*4+1,none⟩=some (.float .f64 l[i].f0)/\w.cell? ⟨b,off+i*4+2,none⟩=some (.float .f64 l[i].f1)/\w.cell? ⟨b,off+i*4+3,none⟩=some (.float .f64 l[i].f2):=by
 obtain ⟨b,off,e,hb,hc⟩:=h.at_ hi;exact ⟨b,off,e,hb,by have:=hc 0 (.string l[i].id) rfl;simpa using this,hc 1 (.float .f64 l[i].f0) rfl,hc 2 (.float .f64 l[i].f1) rfl,hc 3 (.float .f64 l[i].f2) rfl⟩
structure gH where
 time:Int
 v0:Nat
 v1:Nat
 v2:Nat
 A:Option Addr
 uses:List gW
 c:Nat
abbrev gH.cells (s:gH):Array Value:=#[.i s.time,.float .f64 s.v0,.float .f64 s.v1,.float .f64 s.v2,.slice s.A s.uses.length s.c]
structure gH.fe (r:gH) (w:World):Prop where
 aI:r.v0<18446744073709551616
 h1:r.v1<18446744073709551616
 ah:r.v2<18446744073709551616
 time:c' r.time
 kp:a7 w yL r.A r.uses
 us:∀ g∈r.uses,g.fe
 ids:∀ g∈r.uses,g.id.size<=9223372036854775807
 len:r.uses.length<=r.c
 cap:r.c<=9223372036854775807
end Go.Proofs.YtmmchlfoplcnbaaGreatDoor
