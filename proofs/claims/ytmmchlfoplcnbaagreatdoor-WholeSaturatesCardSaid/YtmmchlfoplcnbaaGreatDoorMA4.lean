/- A part of the walk. -/
import Derived.ChangeStays
import Derived.ReadAgain
import Derived.WideShapes
import Derived.ChangeArms
import Derived.ChangeMaps5
import Derived.Deep.DeepHandedRow
import Derived.Deep.DeepWitnessRowRef
import Derived.Test.YtmmchlfoplcnbaaGreatDoorMA2
import Derived.Test.YtmmchlfoplcnbaaGreatDoorMA3
namespace Go.Proofs.YtmmchlfoplcnbaaGreatDoor
open Go Go.RowKit Tryz
set_option linter.all false
set_option maxRecDepth 100000
set_option maxHeartbeats 4000000
section
open Go.ChangeShapes Go.WideShapes Go.ChangeAt
theorem W3:Kids prog (· < prog.types.size):=kids_rows ai ai
theorem W4:∀ {t e:TypeId},t<prog.types.size->prog.underlying t=some (.slice e)->0<prog.cellsOf e:=fun {t e} h1 ah=>slices_full_of prog ai t e h1 ah
theorem W5 {W W':World} (hb:Below W.heap.size W W') {p:MemPlace} (hp:p.block<W.heap.size):W.sameAt W' p:=by
 cases p with
 | cell b off=>exact (nw hb).1 b off hp
 | map b=>exact hb.block b hp
section
variable {H:Type} {enc:TypeId×Value->H} {W W':World}
theorem O6 (hb:Below W.heap.size W W'):∀ {ts:List TypeId} {vs:List Value} {ds:List (DataW H)} {ps:List MemPlace},(∀ t∈ts,t<prog.types.size) ->
  DataW.TrodAll enc prog W 0 (fun _=>true) true ts vs ds ps->(∀ p∈ps,p.block<W.heap.size)->DataW.TrodAll enc prog W' 0 (fun b=>decide (b<W.heap.size)) true ts vs ds ps
 | [],[],[],_,_,h,_=>h
 | t :: ts,v :: vs,d :: ds,_,ih,⟨p,q,⟨n,h1⟩,ah,e⟩,hl =>
  ⟨p,q,⟨n,DataW.trod_stays W3 W4 (fun h=>by cases h) (ih t (fb.2 (Or.inl rfl))) h1 (fun x hx=>W5 hb (hl x (by rw [e];exact J8 _ hx))) (fun x hx=>bO (hl x (by rw [e];exact J8 _ hx)))⟩,
   O6 hb (fun t ht=>ih t (fb.2 (Or.inr ht))) ah (fun x hx=>hl x (by rw [e];exact List.mem_append_right _ hx)),e⟩
theorem W6 {f:Func} {s:ChangeSpec} {args:Array Value} {ds gs:List (DataW H)} {before:List MemPlace} (dZ:DataW.Whole enc prog f.params.toList s.vars false W args.toList ds gs before)
  (hv:s.vars = []) (hr:f.resultTypes=#[4]) (ih:∀ t∈f.params.toList,t<prog.types.size) (D1:s.fn H (ds++[]) = { results:=[.lit (.bool true)],args:=ds }) (hb:Below W.heap.size W W') :
  s.post enc prog f false true false false W args (.bool true) W':=by
 have aT:∀ p∈before,p.block<W.heap.size:=fun p hp=>dZ.lt p hp
 have Gx:=dZ;obtain ⟨p,q,hA,h2,rfl,oE,ph⟩:=dZ;rw [hv] at h2
 obtain ⟨rfl,rfl⟩:=trodVars_none h2;rw [rR] at aT
 refine ⟨ds,[],_,[],p,[],Gx,?_,?_,?_,hb.frame _,fun h=>by cases h⟩
 ·rw [D1,hr];exact trodAll_mk1 (shut_bool underlying4 _)
 ·rw [D1];exact O6 hb ih hA aT
 ·rw [D1,hv];rfl
end
section
variable {H:Type} {enc:TypeId×Value->H} {P:Program} {w:World} {base:Nat} {spare:Nat->Bool} {held:Bool} {α:Type} {size:Nat}
end
theorem W7 {f:Func} (h:(f.params.toList.all fun t=>decide (t<prog.types.size))=true):∀ t∈f.params.toList,t<prog.types.size:=fun t ht=>x9 (List.all_eq_true.1 h t ht)
theorem W8:ownKnob prog.godebug=none:=ai
end
section
open Ieee
def q3 (s:Bool) (e m:Nat):Datum:=if e=0 then .number s m (-1074) else if e<2047 then .number s (4503599627370496+m) ((e:Int)-1075) else if m=0 then .infinity s else .nan s m
theorem ZJ:double.signWeight=9223372036854775808:=ak
theorem QF:double.binade=4503599627370496:=ak
theorem QG:double.infRung=9218868437227405312:=ak
theorem QH:double.leastPlace = -1074:=ak
theorem ZK:double.fractionBits=52:=rfl
theorem xl {b:Nat} (h:b<18446744073709551616):double.read b=q3 (lN b) (j3 b) (l6 b):=by
 unfold Format.read q3 lN j3 l6;rw [ZJ,QF,QG,QH];have hs:(b / 9223372036854775808 % 2==1)=decide (9223372036854775808<=b):=by
  by_cases h1:9223372036854775808<=b
  ·rw [bO h1];have:b / 9223372036854775808 % 2=1:=by omega
   rw [this];rfl
  ·rw [cX h1];have:b / 9223372036854775808 % 2=0:=by omega
   rw [this];rfl
 simp only [hs];have hm:b % 9223372036854775808 % 4503599627370496=b % 4503599627370496:=af;have he:b % 9223372036854775808 / 4503599627370496=b / 4503599627370496 % 2048:=af
 by_cases aI:b / 4503599627370496 % 2048=0
 ·have hr:b % 9223372036854775808=b % 4503599627370496:=by omega
  have aT:b % 9223372036854775808<4503599627370496:=af;rw [bB aT,bB aI,hr]
 ·have aT:¬ b % 9223372036854775808<4503599627370496:=by omega
  rw [bp aT,bp aI]
  by_cases h1:b / 4503599627370496 % 2048<2047
  ·have aT:b % 9223372036854775808<9218868437227405312:=by omega
   rw [bB aT,bB h1,hm,he]
   congr 1
   omega
  ·have aT:¬ b % 9223372036854775808<9218868437227405312:=by omega
   rw [bp aT,bp h1]
   by_cases ah:b % 4503599627370496=0
   ·have bd:b % 9223372036854775808=9218868437227405312:=by omega
    rw [bB bd,bB ah]
   ·have bd:¬ b % 9223372036854775808=9218868437227405312:=by omega
    rw [bp bd,bp ah];have bI:b % 9223372036854775808-9218868437227405312=b % 4503599627370496:=af;rw [bI]
theorem Hp (n d:Nat):Toward.down.cut false n d=n / 2 ^ d:=by
 unfold Toward.cut;simp only [Bool.false_and,Bool.toNat_false,vw,Nat.one_shiftLeft]
 by_cases h:d<=n.log2+2
 ·rw [oF h]
 ·rw [Nat.min_eq_right af]
  have h1:n<2 ^ (n.log2+1):=Nat.lt_log2_self;have ah:(2:Nat) ^ (n.log2+1)<=2 ^ (n.log2+2):=EB ak af;have aw:(2:Nat) ^ (n.log2+2)<=2 ^ d:=EB ak af;rw [Hq af,Hq af]
theorem QI (s:Bool) (n d:Nat):Toward.zero.cut s n d=n / 2 ^ d:=by
 have:=Hp n d;unfold Toward.cut at this ⊢
 simpa using this
theorem QJ {k j:Nat} (hk:k<9007199254740992) (aD:j=0\/4503599627370496<=k) (bQ:j<=10) :
  (double.read (double.write (.number false (k*2 ^ j) 0))).toInt .zero=some ((k*2 ^ j:Nat):Int):=by
 show (double.read (double.nearest false (k*2 ^ j) 0)).toInt .zero=_
 unfold Format.nearest;have hp:0<2 ^ j:=CZ ak
 by_cases aI:k*2 ^ j=0
 ·rw [bB aI,aI]
  have hw:double.word false 0=0:=rfl;rw [hw,xl ak]
  decide
 rw [bp aI];simp only [ZK,QH,QF,QG];have q4:k≠0:=fun e=>aI (by rw [e,w4])
 have hl:(k*2 ^ j).log2=k.log2+j:=by
  rw [Nat.log2_eq_iff aI];have h1:=Nat.log2_self_le q4;have ah:k<2 ^ (k.log2+1):=Nat.lt_log2_self
  constructor
  ·rw [C0];exact vB _ h1
  ·rw [show k.log2+j+1=(k.log2+1)+j from af,C0];exact Nat.mul_lt_mul_of_pos_right ah hp
 rw [hl];have akh:k.log2<=52:=by
  have:=(Nat.log2_lt q4 (k:=53)).2 (by simpa using hk);omega
 have hr:∀ (t:Nat),∀ kept:Nat,4503599627370496<=kept->kept<9007199254740992->t<=1084->double.read (double.word false (min (t*4503599627370496+kept) 9218868437227405312))=.number false kept ((t:Int)-1074):=by
  intro t kept h1 ah aw;have bn:t*4503599627370496+kept<=9218868437227405312:=af;rw [oF bn];have hw:double.word false (t*4503599627370496+kept)=t*4503599627370496+kept:=rfl;rw [hw,xl af];have aV:j3 (t*4503599627370496+kept)=t+1:=by unfold j3;omega
  have bE:l6 (t*4503599627370496+kept)=kept-4503599627370496:=by unfold l6;omega
  have cG:lN (t*4503599627370496+kept)=false:=by unfold lN;exact cX af
  rw [aV,bE,cG];unfold q3;rw [bp af,bB af];have gu:4503599627370496+(kept-4503599627370496)=kept:=af;have z2:((t+1:Nat):Int)-1075=(t:Int)-1074:=af;rw [gu,z2]
 rcases aD with rfl|aD
 ·have aV:max ((0:Int)+((k.log2+0:Nat):Int)-(52:Nat)) (-1074)=(k.log2:Int)-52:=by omega
  rw [aV];have bE:((0:Int)-((k.log2:Int)-52)).toNat=52-k.log2:=af;have cG:(((k.log2:Int)-52)-0).toNat=0:=af;have po:(((k.log2:Int)-52) - -1074).toNat=k.log2+1022:=af;rw [bE,cG,po];have hc:Toward.even.cut false ((k*2 ^ 0) <<< (52-k.log2)) 0=k*2 ^ (52-k.log2):=by
   unfold Toward.cut;simp [Nat.mod_one,AR]
  rw [hc];have g1:4503599627370496<=k*2 ^ (52-k.log2):=by
   have h1:=Nat.log2_self_le q4;have ah:=vB (2 ^ (52-k.log2)) h1;rw [<- C0,show k.log2+(52-k.log2)=52 from af] at ah
   simpa using ah
  have g2:k*2 ^ (52-k.log2)<9007199254740992:=by
   have h1:k<2 ^ (k.log2+1):=Nat.lt_log2_self;have ah:=Nat.mul_lt_mul_of_pos_right h1 (CZ (n:=52-k.log2) (by decide:0<2));rw [<- C0,show k.log2+1+(52-k.log2)=53 from af] at ah
   simpa using ah
  rw [hr _ _ g1 g2 af]
  show some (signed false (Toward.zero.cut false _ _) 0)=_
  rw [QI];have sj:(((k.log2+1022:Nat):Int)-1074).toNat=0:=af;have pD:(-(((k.log2+1022:Nat):Int)-1074)).toNat=52-k.log2:=af;rw [sj,pD];unfold signed;simp only [oQ,ml,C1,yK,nW];rw [Nat.mul_div_cancel _ (CZ ak)]
 ·have QK:k.log2=52:=by
   have:=(Nat.log2_lt q4 (k:=52))
   by_cases h:k.log2<52
   ·have:=this.1 h
    omega
   ·omega
  rw [QK];have aV:max ((0:Int)+((52+j:Nat):Int)-(52:Nat)) (-1074)=(j:Int):=af;rw [aV];have bE:((0:Int)-(j:Int)).toNat=0:=af;have cG:((j:Int)-0).toNat=j:=af;have po:((j:Int) - -1074).toNat=j+1074:=af;rw [bE,cG,po];have hc:Toward.even.cut false ((k*2 ^ j) <<< 0) j=k:=by
   unfold Toward.cut;rw [C1,hl,QK,oF af];simp only [Nat.one_shiftLeft,Nat.mul_mod_left,Nat.mul_div_cancel _ hp];have:¬ 2 ^ j<2*0:=af;simp [this]
  rw [hc,hr _ _ aD hk af]
  show some (signed false (Toward.zero.cut false _ _) 0)=_
  rw [QI];have sj:(((j+1074:Nat):Int)-1074).toNat=j:=af;have pD:(-(((j+1074:Nat):Int)-1074)).toNat=0:=af;rw [sj,pD];unfold signed;simp only [oQ,ml,C1,yK,Nat.div_one];rw [AR]
theorem ZL (e m:Nat) (h1:1023<=e) (ah:e<1086) (hm:m<4503599627370496):∃ k j,xm e m=k*2 ^ j/\k<9007199254740992/\(j=0\/4503599627370496<=k)/\j<=10:=by
 unfold xm
 by_cases h:e<1075
 ·rw [bB h]
  exact ⟨_,0,(nW _).symm,Nat.lt_of_le_of_lt (Nat.div_le_self _ _) af,.inl rfl,af⟩
 ·rw [bp h]
  exact ⟨_,_,rfl,af,.inr af,af⟩
theorem ZH {e m:Nat} (hm:m<4503599627370496) (ah:e<1086) :
  (double.read (double.write ((q3 false e m).integral .down))).toInt .zero=some (if e<1023 then 0 else (xm e m:Int)):=by
 by_cases h1:e<1023
 ·rw [bB h1]
  have bI:(q3 false e m).integral .down=.number false (0*2 ^ 0) 0:=by
   unfold q3
   by_cases aw:e=0
   ·rw [bB aw]
    show Datum.number false (Toward.down.cut false _ _) 0=_
    rw [Hp];have hd:52<=(-(-1074:Int)).toNat:=ak;generalize (-(-1074:Int)).toNat=d at *
    have:((-1074:Int)).toNat=0:=rfl;rw [this,C1,Hq (qb hm (gT (by decide:4503599627370496<=2 ^ 52) (EB ak hd)))]
   ·rw [bp aw,bB af]
    show Datum.number false (Toward.down.cut false _ _) 0=_
    rw [Hp];have aV:((e:Int)-1075).toNat=0:=af;have bE:(-((e:Int)-1075)).toNat=53+(1022-e):=af;rw [aV,bE,C1,Hq];have:(2:Nat) ^ 53<=2 ^ (53+(1022-e)):=EB ak af;have:(2:Nat) ^ 53=9007199254740992:=ak;omega
  rw [bI,QJ ak (.inl rfl) ak]
  rfl
 ·rw [bp h1]
  have bI:(q3 false e m).integral .down=.number false (xm e m) 0:=by
   unfold q3 xm;rw [bp af,bB af]
   show Datum.number false (Toward.down.cut false _ _) 0=_
   rw [Hp,Nat.add_comm 4503599627370496 m]
   by_cases h:e<1075
   ·have aV:((e:Int)-1075).toNat=0:=by omega
    have bE:(-((e:Int)-1075)).toNat=1075-e:=af;rw [bB h,aV,bE,C1]
   ·have aV:((e:Int)-1075).toNat=e-1075:=by omega
    have bE:(-((e:Int)-1075)).toNat=0:=af;rw [bp h,aV,bE,yK,Nat.div_one,AR]
  rw [bI];obtain ⟨k,j,hf,a,b,c⟩:=ZL e m af ah hm;rw [hf];exact QJ a b c
theorem ZD (b:Nat) (h:b<18446744073709551616):double.order b b=if eu b=1 then none else some .eq:=by
 unfold Format.order eu;rw [xl h];have hm:=CX b;generalize lN b=s;generalize j3 b=e at *
 generalize l6 b=m;unfold q3 si
 by_cases aI:e=0
 ·subst aI
  simp only [ll]
  cases s <;> by_cases mV:m=0 <;> simp [mV,Datum.order]
 ·rw [bp aI]
  by_cases h1:e<2047
  ·rw [bB h1,bp af]
   cases s <;> simp [Datum.order]
  ·have:e=2047:=by omega
   subst this
   by_cases mV:m=0
   ·subst mV;cases s <;> simp [Datum.order]
   ·have:0<m:=by omega
    cases s <;> simp [mV,this,Datum.order]
theorem ZE (b:Nat) (h:b<18446744073709551616):double.order b 0=if eu b=1 then none else if eu b<=3 then some .lt else if eu b<=5 then some .eq else some .gt:=by
 unfold Format.order eu;rw [xl h,show double.read 0=.number false 0 (-1074) from ak];have hm:=CX b;generalize lN b=s;generalize j3 b=e at *
 generalize l6 b=m;have la:∀ (s:Bool) (n:Nat) (u:Nat),compare (signed s n u) (signed false 0 0)=if n=0 then .eq else if s=true then .lt else .gt:=by
  intro s n u;unfold signed;have hp:0<2 ^ u:=CZ ak;rw [AR]
  by_cases hn:n=0
  ·subst hn;cases s <;> simp
  ·have bd:0<n*2 ^ u:=Nat.mul_pos af hp
   rw [bp hn]
   cases s
   ·simp only [oQ,ml,Nat.zero_shiftLeft]
    exact Int.compare_eq_gt.2 (by show ((0:Nat):Int)<_;exact Int.ofNat_lt.2 bd)
   ·simp only [ll,oQ,ml,Nat.zero_shiftLeft]
    exact Int.compare_eq_lt.2 af
 unfold q3 si
 by_cases aI:e=0
 ·subst aI
  simp only [ll]
  show some (compare (signed s m ((-1074:Int)-min (-1074) (-1074)).toNat) (signed false 0 ((-1074:Int)-min (-1074) (-1074)).toNat))=_
  have:((-1074:Int)-min (-1074) (-1074)).toNat=0:=ak;rw [this,la]
  cases s <;> by_cases mV:m=0 <;> simp [mV]
 ·rw [bp aI]
  by_cases h1:e<2047
  ·rw [bB h1,bp af]
   show some (compare (signed s _ (((e:Int)-1075)-min ((e:Int)-1075) (-1074)).toNat) (signed false 0 ((-1074:Int)-min ((e:Int)-1075) (-1074)).toNat))=_
   have:((-1074:Int)-min ((e:Int)-1075) (-1074)).toNat=0:=af;rw [this,la];have ah:e≠2047:=af
   cases s <;> simp [aI,ah]
  ·have:e=2047:=by omega
   subst this
   by_cases mV:m=0
   ·subst mV;cases s <;> simp [Datum.order]
   ·have:0<m:=by omega
    cases s <;> simp [mV,this,Datum.order]
theorem ZI (b:Nat) (h:b<18446744073709551616) (hk:6<=eu b):double.order b 4890909195324358656=if j3 b<1086 then some .lt else if j3 b=1086/\l6 b=0 then some .eq else some .gt:=by
 have hs:lN b=false:=by
  unfold eu si at hk
  cases CY:lN b
  ·rfl
  ·rw [CY] at hk
   split at hk
   ·split at hk
    ·omega
    ·simp at hk
   ·split at hk <;> simp at hk
 have bI:¬ (j3 b=2047/\0<l6 b):=by
  intro hc;unfold eu si at hk
  rw [bB hc.1,bB hc.2] at hk
  omega
 unfold Format.order;rw [xl h,hs,show double.read 4890909195324358656=.number false 4503599627370496 11 from ak];have hm:=CX b;have hf:=Ho b;generalize j3 b=e at *
 generalize l6 b=m at *
 unfold q3;have hp:∀ u,0<2 ^ u:=fun u=>CZ ak
 by_cases aI:e=0
 ·subst aI
  rw [bB rfl,bB af]
  show some (compare (signed false m ((-1074:Int)-min (-1074) 11).toNat) (signed false 4503599627370496 ((11:Int)-min (-1074) 11).toNat))=_
  have aV:((-1074:Int)-min (-1074) 11).toNat=0:=ak;generalize ((11:Int)-min (-1074) 11).toNat=u at *
  rw [aV];unfold signed;simp only [oQ,ml,AR];have hx:m*2 ^ 0<4503599627370496*2 ^ u:=qb (by rw [yK,nW];exact hf) (C2 _ (hp _));rw [Int.compare_eq_lt.2 (Int.ofNat_lt.2 hx)]
 ·rw [bp aI]
  by_cases h1:e<2047
  ·rw [bB h1]
   show some (compare (signed false _ (((e:Int)-1075)-min ((e:Int)-1075) 11).toNat) (signed false 4503599627370496 ((11:Int)-min ((e:Int)-1075) 11).toNat))=_
   unfold signed;simp only [oQ,ml,AR]
   by_cases ah:e<1086
   ·rw [bB ah]
    have aV:(((e:Int)-1075)-min ((e:Int)-1075) 11).toNat=0:=af;have bE:((11:Int)-min ((e:Int)-1075) 11).toNat=1+(1085-e):=af;rw [aV,bE,yK,nW,C0];have hx:4503599627370496+m<4503599627370496*(2 ^ 1*2 ^ (1085-e)):=by
     rw [<- Nat.mul_assoc];exact qb af (C2 _ (hp _))
    rw [Int.compare_eq_lt.2 (Int.ofNat_lt.2 hx)]
   ·rw [bp ah]
    have aV:(((e:Int)-1075)-min ((e:Int)-1075) 11).toNat=e-1086:=af;have bE:((11:Int)-min ((e:Int)-1075) 11).toNat=0:=af;rw [aV,bE,yK,nW]
    by_cases aw:e=1086/\m=0
    ·rw [bB aw,aw.1,aw.2];rfl
    ·rw [bp aw]
     have hx:4503599627370496<(4503599627370496+m)*2 ^ (e-1086):=?_
     ·rw [Int.compare_eq_gt.2 (Int.ofNat_lt.2 hx)]
     by_cases bn:e=1086
     ·rw [bn,Nat.sub_self,yK,nW]
      have:m≠0:=fun h=>aw ⟨bn,h⟩
      omega
     ·rw [show e-1086=1+(e-1087) from af,C0,<- Nat.mul_assoc]
      exact qb af (C2 _ (hp _))
  ·have:e=2047:=by omega
   subst this;have:m=0:=af;subst this
   rfl
theorem ZM {b:Nat} (h:b<18446744073709551616):b ^^^ 2 ^ 63=if 9223372036854775808<=b then b-9223372036854775808 else b+9223372036854775808:=by
 have h1:=Nat.xor_mod_two_pow (a:=b) (b:=2 ^ 63) (n:=63);have ah:(b ^^^ 2 ^ 63) / 2 ^ 63=(b / 2 ^ 63) ^^^ (2 ^ 63 / 2 ^ 63):=Nat.xor_div_two_pow;rw [Nat.mod_self,Nat.xor_zero] at h1
 rw [Nat.div_self ak] at ah
 have e:(2:Nat) ^ 63=9223372036854775808:=ak;rw [e] at h1 ah ⊢
 generalize b ^^^ 9223372036854775808=c at *
 by_cases hb:9223372036854775808<=b
 ·have aw:b / 9223372036854775808=1:=by omega
  rw [aw] at ah
  have bn:(1:Nat) ^^^ 1=0:=ak;rw [bn] at ah
  rw [bB hb];omega
 ·have aw:b / 9223372036854775808=0:=by omega
  rw [aw] at ah
  have bn:(0:Nat) ^^^ 1=1:=ak;rw [bn] at ah
  rw [bp hb];omega
theorem QC {b:Nat} (h:b<18446744073709551616):(b ^^^ 2 ^ 63)<18446744073709551616/\lN (b ^^^ 2 ^ 63)=!lN b/\j3 (b ^^^ 2 ^ 63)=j3 b/\l6 (b ^^^ 2 ^ 63)=l6 b:=by
 rw [ZM h];unfold lN j3 l6
 by_cases hb:9223372036854775808<=b
 ·rw [bB hb]
  refine ⟨af,?_,af,af⟩;rw [bO hb];exact cX af
 ·rw [bp hb]
  refine ⟨af,?_,af,af⟩;rw [cX hb];exact bO af
theorem ZA {b:Nat} (h:b<18446744073709551616):(eu (b ^^^ 2 ^ 63)==7)=(eu b==2):=by
 obtain ⟨_,aV,bE,cG⟩:=QC h;unfold eu si;rw [aV,bE,cG];have hm:=CX b;generalize j3 b=e at *
 generalize l6 b=m at *
 cases lN b <;> by_cases h1:e=2047 <;> by_cases ah:e=0 <;> by_cases aw:m=0 <;> by_cases bn:0<m <;> simp [h1,ah,aw,bn] <;> omega
theorem QB {b:Nat} (h:b<18446744073709551616):(double.order b 9218868437227405311==some .gt)=(eu b==7):=by
 unfold Format.order eu;rw [xl h,show double.read 9218868437227405311=.number false 9007199254740991 971 by rw [xl af];decide];have hm:=CX b;have hf:=Ho b;generalize lN b=s at *
 generalize j3 b=e at *
 generalize l6 b=m at *
 have key:∀ (x y:Nat) (i:Int),x<=9007199254740991->-1074<=i->i<=971->((some (compare (signed s x (i-min i 971).toNat) (signed false 9007199254740991 ((971:Int)-min i 971).toNat)):Option Ordering)==some .gt)=false:=by
  intro x y i hx h1 ah;have aV:(i-min i 971).toNat=0:=af;rw [aV];generalize ((971:Int)-min i 971).toNat=u;unfold signed;simp only [oQ,ml,AR,yK,nW];have hp:x<=9007199254740991*2 ^ u:=gT hx (C2 _ (CZ ak));generalize 9007199254740991*2 ^ u=X at *
  have hle:(if s=true then -((x:Nat):Int) else ((x:Nat):Int))<=((X:Nat):Int):=by cases s <;> simp <;> omega
  cases hc:compare (if s=true then -((x:Nat):Int) else ((x:Nat):Int)) ((X:Nat):Int)
  ·rfl
  ·rfl
  ·have:=Int.compare_eq_gt.1 hc
   omega
 unfold q3 si
 by_cases aI:e=0
 ·subst aI
  rw [bB rfl,bp af];have:=key m 0 (-1074) af af af;refine Eq.trans this ?_
  cases s <;> by_cases mV:m=0 <;> simp [mV]
 ·rw [bp aI]
  by_cases h1:e<2047
  ·rw [bB h1,bp af]
   have:=key (4503599627370496+m) 0 ((e:Int)-1075) af af af;refine Eq.trans this ?_
   cases s <;> simp [aI]
  ·have:e=2047:=by omega
   subst this
   by_cases mV:m=0
   ·subst mV;cases s <;> simp [Datum.order] <;> rfl
   ·have:0<m:=by omega
    cases s <;> simp [mV,this,Datum.order]
theorem QD (b:Nat):eu b=1\/eu b=2\/eu b=3\/eu b=4\/eu b=5\/eu b=6\/eu b=7:=by
 unfold eu si
 split
 ·split
  ·simp
  ·split <;> simp
 ·split
  ·split <;> simp
  ·split <;> simp
theorem ZF {b:Nat} (h:eu b=4\/eu b=5):lN b=(eu b==4):=by
 unfold eu si at *
 cases hs:lN b <;> rw [hs] at h <;> revert h <;> by_cases h1:j3 b=2047 <;> by_cases ah:j3 b=0 <;> by_cases aw:l6 b=0 <;> by_cases bn:0<l6 b <;> simp [h1,ah,aw,bn]
end
section
open Go.MapKept
abbrev jG (a b:Int):Value:=.agg #[.i a,.i b]
theorem agb (d:Nat) (a b x y:Int) (w:World):(Op.equalIn (d+2) 404 (jG a b) (jG x y)).run prog w=.ok ((a==x)&&(b==y)) w:=by
 have hu:=mn (P:=prog) underlying404 w;have hs:(sizeOf 3).run prog w=.ok 1 w:=ai;have key:∀ p q:Int,(Op.equalIn (d+1) 3 (.i p) (.i q)).run prog w=.ok (p==q) w:=fun p q=>D0 w d _ _ _ p q underlying3
 unfold Op.equalIn;simp only [kN,hu,pZ,hs];have h5:∀ (u v:Value),(part 3 #[u,v] 0).run prog w=.ok u w:=fun u v=>ai
 have dc:∀ (u v:Value),(part 3 #[u,v] 1).run prog w=.ok v w:=fun u v=>ai
 rw [GO];simp only [show Std.Legacy.Range.size [:2]=2 from rfl,List.range',GP,kN,fw,nW,h5,pZ,key]
 cases h1:(a==x)
 ·simp [nv]
 ·by_cases ah:b=y <;> simp [nv,kN,dc,key,ah]
theorem agc (a b x y:Int) (w:World):(Op.equal 404 (jG a b) (jG x y)).run prog w=.ok ((a==x)&&(b==y)) w:=agb 9998 a b x y w
theorem NR (em:Bool) (a b:Int) (w:World):(Instr.checkKey em 10000 404 (jG a b)).run prog w=.ok () w:=by
 have hu:=mn (P:=prog) underlying404 w;have hs:(sizeOf 3).run prog w=.ok 1 w:=ai;have key:∀ p:Int,(Instr.checkKey em 9999 3 (.i p)).run prog w=.ok () w:=fun p=>run_checkKey (k:=.i p) underlying3 rfl em 9998
 have h5:∀ (u v:Value),(part 3 #[u,v] 0).run prog w=.ok u w:=fun u v=>ai
 have dc:∀ (u v:Value),(part 3 #[u,v] 1).run prog w=.ok v w:=fun u v=>ai
 unfold Instr.checkKey;simp only [kN,hu,pZ];rw [GO];simp [List.range',GP,kN,hs,h5,dc,key,nv]
def Me (es:Array MapEntry):Prop:=∀ x∈es.toList,∃ a b,x.key=jG a b
theorem UL (a b:Int) (w:World):∀ (l:List MapEntry) (i:Nat),(∀ x∈l,∃ c d,x.key=jG c d) ->
  ((Instr.findAsking 404 (jG a b) l i).run prog w=.ok none w/\∀ x∈l,x.key≠jG a b)\/∃ j e,(Instr.findAsking 404 (jG a b) l i).run prog w=.ok (some (i+j,e.val)) w/\l[j]? = some e/\e.key=jG a b
 | [],i,_=>.inl ⟨rfl,av⟩
 | e :: es,i,h=>by
  obtain ⟨c,d,he⟩:=h e (.head _);have bd:=agc a b c d w
  cases hr:((a==c)&&(b==d)) with
  | true =>
   rw [hr] at bd
   simp only [qN,qQ] at hr
   obtain ⟨rfl,rfl⟩:=hr;refine .inr ⟨0,e,?_,rfl,he⟩;simp [Instr.findAsking,kN,he,bd,nv,Result.andThen]
  | false =>
   have bW:e.key≠jG a b:=fun q=>by
    rw [he] at q
    injection q with q
    simp at q
    obtain ⟨h1,ah⟩:=q;rw [h1,ah] at hr
    simp at hr
   have hstep:(Instr.findAsking 404 (jG a b) (e :: es) i).run prog w=(Instr.findAsking 404 (jG a b) es (i+1)).run prog w:=by
    rw [hr] at bd
    simp [Instr.findAsking,kN,he,bd,Result.andThen]
   rcases UL a b w es (i+1) (fun x hx=>h x (.tail _ hx)) with ⟨h1,ah⟩|⟨j,e',h1,ah,aw⟩
   ·refine .inl ⟨by rw [hstep,h1],fun x hx=>?_⟩
    rcases fb.1 hx with rfl|hx
    ·exact bW
    ·exact ah x hx
   ·exact .inr ⟨j+1,e',by rw [hstep,h1,show i+1+j=i+(j+1) from af],by simpa using ah,aw⟩
theorem UM (a b:Int) (w:World) (l:List MapEntry) (h:∀ x∈l,∃ c d,x.key=jG c d) :
  ((Instr.findKey 404 (jG a b) l).run prog w=.ok none w/\∀ x∈l,x.key≠jG a b)\/∃ j e,(Instr.findKey 404 (jG a b) l).run prog w=.ok (some (j,e.val)) w/\l[j]? = some e/\e.key=jG a b:=by
 have hu:=mn (P:=prog) underlying404 w
 cases l with
 | nil=>exact .inl ⟨by simp [Instr.findKey,hu,Instr.findNow,Result.andThen],av⟩
 | cons e es =>
  obtain ⟨c,d,he⟩:=h e (.head _);have dU:(Instr.findKey 404 (jG a b) (e :: es)).run prog w=(Instr.findAsking 404 (jG a b) (e :: es)).run prog w:=by
   simp [Instr.findKey,kN,hu,Instr.findNow,he,Instr.sameNow,Result.andThen]
  rcases UL a b w (e :: es) 0 h with ⟨h1,ah⟩|⟨j,e',h1,ah,aw⟩
  ·exact .inl ⟨by rw [dU,h1],ah⟩
  ·exact .inr ⟨j,e',by rw [dU,h1,fw],ah,aw⟩
section
variable {w:World} {t e:TypeId} {b:Nat} {es:Array MapEntry} {clock:Nat}
theorem Bz (ht:prog.underlying t=some (.map 404 e)) (hb:w.heap[b]? = some (.map es clock)) (h:Me es) {x y:Int} (hn:∀ z∈es.toList,z.key≠jG x y) (v:Value) :
  (Instr.mapUpdate t (.map (some b)) (jG x y) v).run prog w=.ok () { w with heap:=w.heap.setIfInBounds b (.map (es.push ⟨jG x y,v,clock⟩) (clock+1)) }:=by
 rcases UM x y w es.toList h with ⟨h1,_⟩|⟨j,z,_,ah,aw⟩
 ·simp [Instr.mapUpdate,mn ht,wF hb,NR,h1,FD _ hb,Result.andThen]
 ·exact absurd aw (hn z (qB ah))
theorem acW (ht:prog.underlying t=some (.map 404 e)) (hb:w.heap[b]? = some (.map es clock)) (h:Me es) {z:Value} (bI:(zeroValue e).run prog w=.ok z w) (x y:Int) :
  ((Instr.lookup t (.map (some b)) (jG x y) true).run prog w=.ok (.tuple #[z,.bool false]) w/\∀ q∈es.toList,q.key≠jG x y)\/∃ q∈es.toList,q.key=jG x y/\(Instr.lookup t (.map (some b)) (jG x y) true).run prog w=.ok (.tuple #[q.val,.bool true]) w:=by
 rcases UM x y w es.toList h with ⟨h1,ah⟩|⟨j,q,h1,ah,aw⟩
 ·exact .inl ⟨by simp [Instr.lookup,mn ht,wF hb,NR,h1,bI,Result.andThen],ah⟩
 ·exact .inr ⟨q,qB ah,aw,by simp [Instr.lookup,mn ht,wF hb,NR,h1,Result.andThen]⟩
end
end
end Go.Proofs.YtmmchlfoplcnbaaGreatDoor
