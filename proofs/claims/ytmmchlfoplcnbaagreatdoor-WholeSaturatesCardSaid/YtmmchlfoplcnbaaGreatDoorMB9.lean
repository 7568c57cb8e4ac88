/- A part of the walk. -/
import Derived.Lib.Overlaps
import Derived.Laws.Externs
import Derived.Test.YtmmchlfoplcnbaaGreatDoorMB0
import Derived.Test.YtmmchlfoplcnbaaGreatDoorMB1
import Derived.Test.YtmmchlfoplcnbaaGreatDoorMA4
import Derived.Test.YtmmchlfoplcnbaaGreatDoorMB3
namespace Go.Proofs.YtmmchlfoplcnbaaGreatDoor
open Go Go.RowKit Tryz
set_option linter.all false
set_option maxRecDepth 100000
set_option maxHeartbeats 4000000
theorem WY (p:aQ) (w:World):(Op.equalIn 9999 40 (.agg p.cells) (.agg p.cells)).run prog w=.ok true w:=by
 have cw:(Op.equalIn 9998 9 (.string p.id) (.string p.id)).run prog w=.ok true w:=by rw [run_equalIn_string w 9997 _ _ _ underlying9];simp
 have r1:(Op.equalIn 9998 3 (.i p.prio) (.i p.prio)).run prog w=.ok true w:=by rw [D0 w 9997 _ _ _ _ _ underlying3];simp
 have r2:(Op.equalIn 9998 4 (.bool p.bo) (.bool p.bo)).run prog w=.ok true w:=by rw [run_equalIn_bool' w 9997 _ _ _ underlying4];simp
 have pg:=O4 9996 p.bg p.aX p.ba w;have vq:=O4 9996 p.bk p.bl p.aW w;have Gw:(Op.equalIn 9998 9 (.string p.bb) (.string p.bb)).run prog w=.ok true w:=by rw [run_equalIn_string w 9997 _ _ _ underlying9];simp
 have J6:(Op.equalIn 9998 3 (.i p.size) (.i p.size)).run prog w=.ok true w:=by rw [D0 w 9997 _ _ _ _ _ underlying3];simp
 have t0:∀ (bt c1 c2 c3 fA c5 dG fU i1 ix i6:Value),(part 9 #[bt,c1,c2,c3,fA,c5,dG,fU,i1,ix,i6] 0).run prog w=.ok (bt) w:=fun bt c1 c2 c3 fA c5 dG fU i1 ix i6=>ai
 have t1:∀ (bt c1 c2 c3 fA c5 dG fU i1 ix i6:Value),(part 3 #[bt,c1,c2,c3,fA,c5,dG,fU,i1,ix,i6] 1).run prog w=.ok (c1) w:=fun bt c1 c2 c3 fA c5 dG fU i1 ix i6=>ai
 have t2:∀ (bt c1 c2 c3 fA c5 dG fU i1 ix i6:Value),(part 4 #[bt,c1,c2,c3,fA,c5,dG,fU,i1,ix,i6] 2).run prog w=.ok (c2) w:=fun bt c1 c2 c3 fA c5 dG fU i1 ix i6=>ai
 have t3:∀ (bt c1 c2 c3 fA c5 dG fU i1 ix i6:Value),(part 23 #[bt,c1,c2,c3,fA,c5,dG,fU,i1,ix,i6] 3).run prog w=.ok (.agg #[c3,fA,c5]) w:=fun bt c1 c2 c3 fA c5 dG fU i1 ix i6=>ai
 have t4:∀ (bt c1 c2 c3 fA c5 dG fU i1 ix i6:Value),(part 23 #[bt,c1,c2,c3,fA,c5,dG,fU,i1,ix,i6] 6).run prog w=.ok (.agg #[dG,fU,i1]) w:=fun bt c1 c2 c3 fA c5 dG fU i1 ix i6=>ai
 have t5:∀ (bt c1 c2 c3 fA c5 dG fU i1 ix i6:Value),(part 9 #[bt,c1,c2,c3,fA,c5,dG,fU,i1,ix,i6] 9).run prog w=.ok (ix) w:=fun bt c1 c2 c3 fA c5 dG fU i1 ix i6=>ai
 have t6:∀ (bt c1 c2 c3 fA c5 dG fU i1 ix i6:Value),(part 3 #[bt,c1,c2,c3,fA,c5,dG,fU,i1,ix,i6] 10).run prog w=.ok (i6) w:=fun bt c1 c2 c3 fA c5 dG fU i1 ix i6=>ai
 rw [run_equalIn_agg w 9998 40 _ _ WZ ai];unfold Program.fieldsOf;rw [underlying40];simp [Op.eqFields,kN,nv,t0,cw,t1,r1,t2,r2,t3,pg,t4,vq,t5,Gw,t6,J6]
theorem W0:prog.underlying 66=some (.struct (prog.fieldsOf 66)):=by
 unfold Program.fieldsOf;rw [underlying66]
theorem W1 (p:aQ) (qM:Int) (w:World):(binOp .neq 66 (.agg #[.string p.id,.i p.prio,.bool p.bo,.i p.bg,.i p.aX,.i p.ba,.i p.bk,.i p.bl,.i p.aW,.string p.bb,.i p.size,.i qM]) (.agg #[.string p.id,.i p.prio,.bool p.bo,.i p.bg,.i p.aX,.i p.ba,.i p.bk,.i p.bl,.i p.aW,.string p.bb,.i p.size,.i qM])).run prog w=.ok (.bool false) w:=by
 have cw:=WY p w;have r1:(Op.equalIn 9999 3 (.i qM) (.i qM)).run prog w=.ok true w:=by rw [D0 w 9998 _ _ _ _ _ underlying3];simp
 have t0:∀ (bt c1 c2 c3 fA c5 dG fU i1 ix i6 wY:Value),(part 40 #[bt,c1,c2,c3,fA,c5,dG,fU,i1,ix,i6,wY] 0).run prog w=.ok (.agg #[bt,c1,c2,c3,fA,c5,dG,fU,i1,ix,i6]) w:=fun bt c1 c2 c3 fA c5 dG fU i1 ix i6 wY=>ai
 have t1:∀ (bt c1 c2 c3 fA c5 dG fU i1 ix i6 wY:Value),(part 3 #[bt,c1,c2,c3,fA,c5,dG,fU,i1,ix,i6,wY] 11).run prog w=.ok (wY) w:=fun bt c1 c2 c3 fA c5 dG fU i1 ix i6 wY=>ai
 rw [run_neq_struct,run_equalIn_agg w 9999 66 _ _ W0 ai];unfold Program.fieldsOf;rw [underlying66];simp [Op.eqFields,kN,nv,t0,cw,t1,r1]
theorem J7:lH prog 32 66 12 112:=by
 obtain ⟨i,h1,ah,aw,bn⟩:=info_parts (show (prog.info? 66).map (fun i=>(i.zero,i.size,i.bytes))=some (some (.agg #[.string ⟨#[]⟩,.i 0,.bool false,.i 0,.i 0,.i 0,.i 0,.i 0,.i 0,.string ⟨#[]⟩,.i 0,.i 0]),12,112) by kernel_rfl);exact ⟨underlying32,i,_,h1,ah,aw,bn,rfl⟩
attribute [go_sem high] W1
def nU (l:List bj) (i:Nat) (x:bj):List bj:=l.take i++x :: l.drop i
theorem Kt (l:List bj) (i:Nat) (x:bj) (hi:i<=l.length):(nU l i x).length=l.length+1:=by unfold nU;simp;omega
def CE (l:List bj) (i:Nat) (x:bj) (A:Option Addr) (c base:Nat) (w:World) (e:Ending) (w':World):Prop :=
 ∃ br a8,e=.returned (.slice br (l.length+1) a8)/\Own w' base 66 cR (.slice br (l.length+1) a8) (nU l i x)/\w.grownBy w' (Value.slice A l.length c).ownBlock
theorem Ku {w w':World} (hb:Below w.heap.size w w') (row:Option Nat):w.grownBy w' row:=⟨hb.os,hb.tape,hb.output,hb.size,fun k hk _=>hb.block k hk⟩
theorem yg {α:Type} {size:Nat} {E:cu α size} {w:World} {base:Nat} {e:TypeId} {l:List α} {g c:Nat} (h:Own w base e E (.slice (some ⟨g,0,none⟩) l.length c) l) (j:Nat) (u:Value) (hu:(E.all l)[j]? = some u):w.cell? ⟨g,j,none⟩=some u:=by
 obtain ⟨b,off,aV,_,hc⟩:=h.cZ (by intro e;subst e;simp [cu.all] at hu);injection aV with aV
 injection aV with aV bE
 subst aV;subst bE;have:=hc j u hu
 rwa [fw] at this
theorem yh {α:Type} {size:Nat} (E:cu α size) (l:List α) (i j:Nat) (hi:i<=l.length):(E.all (l.drop i))[j]? = (E.all l)[i*size+j]?:=by
 rw [E.Pd l i hi,GL]
theorem Pe (l:List bj) (i:Nat) (x:bj):cR.all (nU l i x)=cR.all (l.take i)++cR.enc x++cR.all (l.drop i):=by
 unfold nU;rw [cR.all_append,cR.all_cons,mq]
theorem Xp:∀ v∈(Value.agg #[.string ⟨#[]⟩,.i 0,.bool false,.i 0,.i 0,.i 0,.i 0,.i 0,.i 0,.string ⟨#[]⟩,.i 0,.i 0]).cells.toList,v.oneCell'=true:=by
 intro v hv;have:(Value.agg #[.string ⟨#[]⟩,.i 0,.bool false,.i 0,.i 0,.i 0,.i 0,.i 0,.i 0,.string ⟨#[]⟩,.i 0,.i 0]).cells=#[.string ⟨#[]⟩,.i 0,.bool false,.i 0,.i 0,.i 0,.i 0,.i 0,.i 0,.string ⟨#[]⟩,.i 0,.i 0]:=rfl;rw [this] at hv
 simp only [fb,mr,l1] at hv
 rcases hv with h|h|h|h|h|h|h|h|h|h|h|h <;> subst h <;> rfl
theorem Ko:∃ i0,prog.info? 66=some i0/\i0.zero=some (.agg #[.string ⟨#[]⟩,.i 0,.bool false,.i 0,.i 0,.i 0,.i 0,.i 0,.i 0,.string ⟨#[]⟩,.i 0,.i 0])/\i0.size=12/\i0.bytes=112 :=
 info_parts (show (prog.info? 66).map (fun i=>(i.zero,i.size,i.bytes))=some (some (.agg #[.string ⟨#[]⟩,.i 0,.bool false,.i 0,.i 0,.i 0,.i 0,.i 0,.i 0,.string ⟨#[]⟩,.i 0,.i 0]),12,112) by kernel_rfl)
section
variable {l:List bj} {i:Nat} {x:bj} {A:Option Addr} {c base vb:Nat} {w:World}
theorem Xt (hown:Own w base 66 cR (.slice A l.length c) l) (hv:ar w vb 66 x.cells) (hbase:base<=w.heap.size) (hl:l.length<=100000) :
  Calls prog 127 #[.slice A l.length c,.i l.length,.slice (some ⟨vb,0,none⟩) 1 1] w (CE l l.length x A c base w):=by
 have jO:=hown.cap;have yi:a7 w cR (some ⟨vb,0,none⟩) [x]:=fun _=>⟨vb,0,rfl,hv.lt,fun j u hu=>by
  rw [fw,hv.cell];rw [cu.D2] at hu
  simpa [cR] using hu⟩
 have bJ:=J (ae hown yi);have hle:l.length<=c:=jO.2.1;have Av:c<=9223372036854775807:=jO.2.2;clear jO hown yi hv;have d1:((l.length:Int)==(l.length:Int))=true:=av;have bC:Hid (l++[x]=nU l l.length x):=by show _=_;unfold nU;simp
 by_cases hce:c=l.length
 ·subst hce
  go_enter func127,ntmps127
  go_wp2_with (at_builtin;refine hW J7 cR rfl (.tmp 23) (.tmp 24) rfl base _ l rfl bJ.1 _ [x] 1 rfl bJ.2 (by simp;omega) (by simp;omega) hbase ?_;intro b5 fP w3 eX eF _;have cD:=J (ae eX eF);clear eX eF)
  go_ret;exact ⟨b5,fP,rfl,by rw [<- bC.out];exact cD.1,cD.2⟩
 ·have xc:l.length<c:=by omega
  go_enter func127,ntmps127
  go_wp2_with (at_builtin;refine hW J7 cR rfl (.tmp 23) (.tmp 24) rfl base _ l rfl bJ.1 _ [x] 1 rfl bJ.2 (by simp;omega) (by simp;omega) hbase ?_;intro b5 fP w3 eX eF _;have cD:=J (ae eX eF);clear eX eF)
  go_ret;exact ⟨b5,fP,rfl,by rw [<- bC.out];exact cD.1,cD.2⟩
theorem Xu (hown:Own w base 66 cR (.slice A l.length l.length) l) (hv:ar w vb 66 x.cells) (hbase:base<=w.heap.size) (hl:l.length<=100000) (hi:i<l.length) :
  Calls prog 127 #[.slice A l.length l.length,.i i,.slice (some ⟨vb,0,none⟩) 1 1] w (CE l i x A l.length base w):=by
 have bW:l≠[]:=by intro e;subst e;simp at hi
 obtain ⟨g,hA,iy⟩:=CF hown bW;subst hA;have D':=(hown.iw g rfl).2;obtain ⟨n,hn⟩:∃ n,n=l.length:=⟨_,rfl⟩
 have fX:=yg hown;unfold CE;rw [<- hn] at hown hi hl ⊢
 obtain ⟨i0,i',iP,hN,kP⟩:=Ko;have p5:=hv.cell;have pq:=hv.lt;have fM:(cR.all (l.take i)).length=i*12:=by rw [cR.h3,fv];omega
 have dH:(cR.all (l.drop i)).length=(n-i)*12:=by rw [cR.h3,rV];omega
 have fy:x.cells.toList.length=12:=rfl;have r0:i+(n+1-i)=n+1:=af;have nV:(n:Int)+1-(i:Int)=((n+1-i:Nat):Int):=af;have hold:(Builtin.firstCells i0.size i (.slice (some ⟨g,0,none⟩) i n)).run prog w.drew=.ok (cR.all (l.take i)).toArray w.drew:=by
  rw [hN];refine run_firstCells_some w.drew 12 i ⟨g,0,none⟩ i n (cR.all (l.take i)) fM (fun j v aD=>?_);rw [ko,fw];rw [cR.xb l i af,GM] at aD
  split at aD
  ·exact fX j v aD
  ·cases aD
 have p6:(Builtin.append_ #[32,3] 32 #[.slice (some ⟨g,0,none⟩) i n,.i ((n:Int)+1-(i:Int))]).run prog w =
   .ok (.slice (some ⟨w.heap.size,0,none⟩) (n+1) (grownCap w (n+1) n 66)) (w.drew.alloc (.cells ((cR.all (l.take i)).toArray++Builtin.zeroCells (Value.agg #[.string ⟨#[]⟩,.i 0,.bool false,.i 0,.i 0,.i 0,.i 0,.i 0,.i 0,.string ⟨#[]⟩,.i 0,.i 0]).cells (n+1-i)++Builtin.zeroCells (Value.agg #[.string ⟨#[]⟩,.i 0,.bool false,.i 0,.i 0,.i 0,.i 0,.i 0,.i 0,.string ⟨#[]⟩,.i 0,.i 0]).cells (grownCap w (n+1) n 66-(n+1))) 66)):=by
  have h:=Lib.run_append_grow_zeros w 32 3 32 66 i0 _ .i64 .i64 underlying32 underlying3 i' iP (some ⟨g,0,none⟩) i n (cR.all (l.take i)) hold (n+1-i) af af af af (by rw [kP];omega) (by rw [kP,r0];exact growslice_fits af af);rw [r0] at h
  rw [nV];exact h
 have Pf:=grownCap_ge w (n+1) n 66;have yj:=GN w (n+1) n 66 (by unfold maxLen;omega);generalize grownCap w (n+1) n 66=G at *
 obtain ⟨cur,ik⟩:∃ cur:List Value,cur=cR.all (l.take i)++(Builtin.zeroCells (Value.agg #[.string ⟨#[]⟩,.i 0,.bool false,.i 0,.i 0,.i 0,.i 0,.i 0,.i 0,.string ⟨#[]⟩,.i 0,.i 0]).cells (n+1-i)).toList++(Builtin.zeroCells (Value.agg #[.string ⟨#[]⟩,.i 0,.bool false,.i 0,.i 0,.i 0,.i 0,.i 0,.i 0,.string ⟨#[]⟩,.i 0,.i 0]).cells (G-(n+1))).toList:=⟨_,rfl⟩
 have p7:(cR.all (l.take i)).toArray++Builtin.zeroCells (Value.agg #[.string ⟨#[]⟩,.i 0,.bool false,.i 0,.i 0,.i 0,.i 0,.i 0,.i 0,.string ⟨#[]⟩,.i 0,.i 0]).cells (n+1-i)++Builtin.zeroCells (Value.agg #[.string ⟨#[]⟩,.i 0,.bool false,.i 0,.i 0,.i 0,.i 0,.i 0,.i 0,.string ⟨#[]⟩,.i 0,.i 0]).cells (G-(n+1))=cur.toArray:=by
  rw [ik];simp
 rw [p7] at p6
 have bZ:cur.length=G*12:=by
  have mR:(Value.agg #[.string ⟨#[]⟩,.i 0,.bool false,.i 0,.i 0,.i 0,.i 0,.i 0,.i 0,.string ⟨#[]⟩,.i 0,.i 0]).cells.size=12:=rfl;rw [ik,cd,cd,fM,mm,mm,w9,w9,mR];omega
 have lh:cur.take (i*12)=cR.all (l.take i):=by
  rw [ik,mq];exact rU fM
 clear p7 ik hold;have nS:G<=9223372036854775807:=by simpa only [maxLen] using yj
 have iB:ar (w.drew.alloc (.cells cur.toArray 66)) w.heap.size 66 cur.toArray:=ar.new w.drew _ _;have bV:Below w.heap.size w (w.drew.alloc (.cells cur.toArray 66)):=((aO _ _).drew).alloc aF _;obtain ⟨tq,yk⟩:∃ tq,tq=w.drew.alloc (.cells cur.toArray 66):=⟨_,rfl⟩
 rw [<- yk] at p6 iB bV
 clear yk;have cH:(prog.info? 66).map (·.size)=some 12:=by rw [i'];simp [hN]
 obtain ⟨eJ,hA,h4,fQ,fY⟩:=rX tq 32 32 3 66 66 12 w.heap.size (i*12) (n+1-i) (G-i) ⟨vb,0,none⟩ 1 1 1 cur x.cells.toList iB (by rw [fy,bZ];omega) underlying32 cH (by simp only [r3];split <;> omega) rfl
  (fun j v aD=>by rw [ko,fw,(nw bV).1 vb j pq,p5];simpa using aD) (fun v hv=>cR.one x v hv)
 have bY:Below w.heap.size w eJ:=bV.grown fQ bV.size (fun k hk=>by injection hk with hk;omega);obtain ⟨gU,lj,li,er,kQ⟩:=rX eJ.drew 32 32 3 66 66 12 w.heap.size ((i+1)*12) (n+1-(i+1)) (G-(i+1)) ⟨g,i*12,none⟩ (n-i) (n-i) (n-i) _ (cR.all (l.drop i)) h4.drew (by rw [jN _ _ _ (by rw [fy,bZ];omega),dH,bZ];omega) underlying32 cH (by simp only [r3];split <;> omega) dH
  (fun j v aD=>by
   rw [ko]
   show eJ.cell? _=_
   rw [(nw bY).1 g _ D'];rw [yh cR l i j af] at aD
   exact fX _ v aD) (cR.s3 _)
 have bu:Below w.heap.size w gU:=(bY.drew).grown er bY.size (fun k hk=>by injection hk with hk;omega);have ap:Hid (Own gU base 66 cR (.slice (some ⟨w.heap.size,0,none⟩) (n+1) G) (nU l i x)/\Below w.heap.size w gU):=by
  refine ⟨?_,bu⟩;have fC:=Kt l i x af;rw [<- hn] at fC
  rw [<- fC];refine ⟨cR.h3 _,.inr ⟨w.heap.size,G,_,rfl,hbase,li,af,yj,?_,?_⟩⟩
  ·rw [pp,jN,jN,bZ]
   ·rw [fy,bZ];omega
   ·rw [jN _ _ _ (by rw [fy,bZ];omega),dH,bZ];omega
  ·have ah:=Ke cur x.cells.toList (cR.all (l.drop i)) (i*12) (by rw [fy,dH,bZ];omega)
   rw [fy,dH] at ah
   rw [Pe l i x,fC];rw [show (i+1)*12=i*12+12 from af,fy,dH,show (n+1)*12=i*12+12+(n-i)*12 from af];exact ah.trans (by rw [lh];rfl)
 have dC:=J hA;have tr:=J lj;have Ea:=J p6;have vy:((i:Int)==(n:Int))=false:=ji.2 af;have mR:decide ((n:Int)<(n:Int)+1)=true:=bO af;have xd:(n:Int)<(n:Int)+1:=af;have r4:IntKind.i64.wrap ((n:Int)+1)=(n:Int)+1:=by rw [mS];omega
 have cU:IntKind.i64.wrap ((i:Int)+1)=(i:Int)+1:=by rw [mS];omega
 have iA:(0:Int)<=(i:Int)+1:=af;have Ax:((i:Int)+1).toNat=i+1:=af;have Pg:¬ (n=i):=af;have Ph:¬ (G=i):=af;have Pj:¬ (G=i+1):=af;have vz:i<=n:=af;have Eb:(i:Int)<=(n:Int):=af;clear fX p5 pq fM dH fy r0 nV i' iP hN kP p6 hA lj iB h4 li fQ er fY kQ bV bY bu lh bZ cH hn hown hv
 go_enter func127,ntmps127
 go_wp2_with (first
  | (at_builtin;refine Kj rfl (.tmp 34) (.tmp 39) 32 3 rfl _ _ rfl rfl Ea ?_)
  | (refine CA rfl (.tmp 43) (.tmp 44) 32 32 rfl _ _ rfl rfl dC.out ?_))
 have mixed:prog.follows Departure.mixedOrders=true:=ai
 go_region_law_o (refine CB rfl (.tmp 50) (.tmp 53) 32 32 rfl _ _ (by simp [Act.eval,Act.put]) (by simp [Act.eval,Act.put]) tr.out ?_)
 go_wp2_with fail;go_ret;exact ⟨_,_,rfl,ap.1,Ku ap.2 _⟩
theorem CG {g:Nat} {t:TypeId} {cs:Array Value} (h:ar w g t cs):w.shape? g=some (t,cs.size):=by
 unfold ar at h
 simp [World.shape?,h]
theorem Xv (hown:Own w base 66 cR (.slice A l.length c) l) (hv:ar w vb 66 x.cells) (tu:some vb≠(Value.slice A l.length c).ownBlock) (hl:l.length<=100000) (hi:i<l.length) (hc:l.length<c) :
  Calls prog 127 #[.slice A l.length c,.i i,.slice (some ⟨vb,0,none⟩) 1 1] w (CE l i x A c base w):=by
 have bW:l≠[]:=by intro e;subst e;simp at hi
 obtain ⟨g,cap,p4,hval,iy,az,xa,nS,hcs,kO⟩:=th hown bW;injection hval with hA _ jO
 subst hA;subst jO;have yl:vb≠g:=fun e=>tu (by rw [e];rfl)
 have fX:=yg hown;obtain ⟨n,hn⟩:∃ n,n=l.length:=⟨_,rfl⟩
 unfold CE;rw [<- hn] at hown hi hl hc xa kO ⊢
 obtain ⟨cur,ik⟩:∃ cur:List Value,cur=p4.toList:=⟨_,rfl⟩
 have oH:p4=cur.toArray:=by rw [ik]
 rw [oH] at az hcs
 rw [<- ik] at kO
 have bZ:cur.length=c*12:=by simpa using hcs
 clear oH ik hcs;obtain ⟨i0,i',iP,hN,kP⟩:=Ko;have p5:=hv.cell;have pq:=hv.lt;have dH:(cR.all (l.drop i)).length=(n-i)*12:=by rw [cR.h3,rV];omega
 have fy:x.cells.toList.length=12:=rfl;have lh:cur.take (i*12)=cR.all (l.take i):=by
  rw [cR.xb l i af,<- kO,vu,oF af]
 have Av:c<=9223372036854775807:=by simpa only [maxLen] using nS
 have cH:(prog.info? 66).map (·.size)=some 12:=by rw [i'];simp [hN]
 have ym:∀ j0 hq,(callFunc 183 #[.slice (some ⟨vb,0,none⟩) 1 1,.slice (some ⟨g,(i+1)*12,none⟩) j0 hq]).run prog w=.ok (.value (.bool false)) w:=fun j0 hq=>by
  rw [run_callFunc_extern func183 ai ai ai (e:=Extern.SlicesOverlaps.overlaps #[32,32] #[4]) ai,
   Lib.run_overlaps_apart w 32 4 66 underlying32 12 (fun w=>by simp [sizeOf,typeInfo,i',hN]) ⟨vb,0,none⟩ ⟨g,(i+1)*12,none⟩ 1 1 j0 hq yl _ _ _ _ (CG hv) (CG az) (by rw [pp,bZ];omega) (hv.frozen 0) (hv.frozen _)]
  rfl
 obtain ⟨eJ,hA,h4,fQ,fY⟩:=rX w.drew 32 32 3 66 66 12 g ((i+1)*12) (n+1-(i+1)) (c-(i+1)) ⟨g,i*12,none⟩ (n+1-i) (c-i) (n-i) cur (cR.all (l.drop i)) az.drew (by rw [dH,bZ];omega) underlying32 cH (by simp only [r3];split <;> omega) dH
  (fun j v aD=>by
   rw [ko]
   show w.cell? _=_
   rw [yh cR l i j af] at aD
   exact fX _ v aD) (cR.s3 _)
 obtain ⟨gU,lj,li,er,kQ⟩:=rX eJ 32 32 3 66 66 12 g (i*12) (n+1-i) (c-i) ⟨vb,0,none⟩ 1 1 1 _ x.cells.toList h4 (by rw [jN _ _ _ (by rw [dH,bZ];omega),fy,bZ];omega) underlying32 cH (by simp only [r3];split <;> omega) rfl
  (fun j v aD=>by
   rw [ko,fw,(hv.drew.grown fQ (by intro e;injection e with e;exact yl e)).cell]
   simpa using aD) (fun v hv=>cR.one x v hv)
 have fL:w.grownBy gU (some g):=⟨er.os.trans fQ.os,er.tape.trans fQ.tape,er.output.trans fQ.output,by rw [kQ,fY];exact e3 _,fun k hk bW=>(er.block k (by rw [fY];exact hk) bW).trans (fQ.block k hk bW)⟩
 have ap:Hid (Own gU base 66 cR (.slice (some ⟨g,0,none⟩) (n+1) c) (nU l i x)/\w.grownBy gU (some g)):=by
  refine ⟨?_,fL⟩;have fC:=Kt l i x af;rw [<- hn] at fC
  rw [<- fC];refine ⟨cR.h3 _,.inr ⟨g,c,_,rfl,iy,li,af,nS,?_,?_⟩⟩
  ·rw [pp,jN,jN,bZ]
   ·rw [dH,bZ];omega
   ·rw [jN _ _ _ (by rw [dH,bZ];omega),fy,bZ];omega
  ·have ah:=Kf cur x.cells.toList (cR.all (l.drop i)) (i*12) (by rw [fy,dH,bZ];omega)
   rw [lh,fy,dH] at ah
   rw [Pe l i x,fC];rw [show (i+1)*12=i*12+12 from af,fy,dH,show (n+1)*12=i*12+12+(n-i)*12 from af];exact ah
 have dC:=J hA;have tr:=J lj;have Ec:=J ym;have vy:((i:Int)==(n:Int))=false:=ji.2 af;have mR:decide ((c:Int)<(n:Int)+1)=false:=cX af;have xd:(n:Int)+1<=(c:Int):=af;have r4:IntKind.i64.wrap ((n:Int)+1)=(n:Int)+1:=by rw [mS];omega
 have cU:IntKind.i64.wrap ((i:Int)+1)=(i:Int)+1:=by rw [mS];omega
 have iA:(0:Int)<=(i:Int)+1:=af;have dI:(0:Int)<=(n:Int)+1:=af;have Ax:((i:Int)+1).toNat=i+1:=af;have Pk:((n:Int)+1).toNat=n+1:=af;have yn:¬ (c=i):=af;have Pl:¬ (c=i+1):=af;have vz:i<=n:=af;have Eb:(i:Int)<=(n:Int):=af;have Pm:(i:Int)<=(n:Int)+1:=af;clear fX p5 pq dH fy i' iP hN kP hA lj az h4 li fQ er fY kQ fL lh bZ cH hn hown hv ym kO
 go_enter func127,ntmps127
 go_wp2_with (simp only [Ec.out])
 have mixed:prog.follows Departure.mixedOrders=true:=ai
 go_region_law_o (refine CB rfl (.tmp 73) (.tmp 76) 32 32 rfl _ _ (by simp [Act.eval,Act.put]) (by simp [Act.eval,Act.put]) dC.out ?_)
 go_wp2_with (refine CA rfl (.tmp 80) (.tmp 81) 32 32 rfl _ _ rfl rfl tr.out ?_)
 go_ret;exact ⟨_,_,rfl,ap.1,ap.2⟩
theorem Xw (hown:Own w base 66 cR (.slice A l.length c) l) (hv:ar w vb 66 x.cells) (tu:some vb≠(Value.slice A l.length c).ownBlock) (hbase:base<=w.heap.size) (hl:l.length<=100000) (hi:i<=l.length) :
  Calls prog 127 #[.slice A l.length c,.i i,.slice (some ⟨vb,0,none⟩) 1 1] w (CE l i x A c base w):=by
 rcases gB i l.length with h|h
 ·rcases gB l.length c with ah|ah
  ·exact Xv hown hv tu hl h ah
  ·have:=hown.cap.2.1
   obtain rfl:c=l.length:=af;exact Xu hown hv hbase hl h
 ·obtain rfl:i=l.length:=by omega
  exact Xt hown hv hbase hl
end
def wj (k:Nat):Int×Int:=match k with
 | 0=>(1,1)
 | 1=>(2,2)
 | 2=>(3,3)
 | 3=>(1,4)
 | 4=>(2,4)
 | 5=>(4,4)
 | _=>(6,4)
def zh (k:Nat):Int:=match k with
 | 0=>2
 | 1=>3
 | 2=>4
 | _=>5
theorem acO:∀ j k:Fin 7,wj j.val=wj k.val->j=k:=ak
abbrev rq (k:Nat):Value:=jG (wj k).1 (wj k).2
structure Ss (es:Array MapEntry):Prop where
 lV:∀ e∈es.toList,∃ k,k<7/\e.key=rq k/\e.val=.i (zh k)
 has:∀ k,k<7->∃ e∈es.toList,e.key=rq k
structure om (w0:World) (b0:Bool) (i:Nat->Bool) (x y:Bool) (v1 v9 v0:Value) (es:Array MapEntry) (clock:Nat) (w:World):Prop where
 aR:Below w0.heap.size w0 w
 map:b0=true->∃ aN,v1=.map (some aN)/\w0.heap.size<=aN/\w.heap[aN]? = some (.map es clock)
 ul:∀ k,k<7->i k=true->b0=true
 lV:∀ e∈es.toList,∃ k,k<7/\i k=true/\e.key=rq k/\e.val=.i (zh k)
 has:∀ k,k<7->i k=true->∃ e∈es.toList,e.key=rq k
 zi:b0=false->es=#[]
 c8:x=true->b0=true/\v9=v1
 um:y=true->x=true/\v0=v9
section
variable {w0 w:World} {b0:Bool} {i:Nat->Bool} {x y:Bool} {v1 v9 v0:Value} {es:Array MapEntry} {clock:Nat}
theorem om.keys (h:om w0 b0 i x y v1 v9 v0 es clock w):Me es:=fun e he=>by
 obtain ⟨k,_,_,hk,_⟩:=h.lV e he;exact ⟨_,_,hk⟩
theorem acP {j k:Nat} (aD:j<7) (hk:k<7) (h:rq j=rq k):j=k:=by
 have e:wj j=wj k:=by
  injection h with h
  simp at h
  exact Prod.ext h.1 h.2
 have:=acO ⟨j,aD⟩ ⟨k,hk⟩ e;injection this
theorem om.fresh (h:om w0 b0 i x y v1 v9 v0 es clock w) (k:Nat) (hk:k<7) (hi:i k=false):∀ e∈es.toList,e.key≠rq k:=fun e he bQ=>by
 obtain ⟨j,h1,ah,aw,_⟩:=h.lV e he;rw [aw] at bQ
 have:=acP h1 hk bQ;subst this;rw [hi] at ah;cases ah
theorem om.makeMap (h:om w0 b0 i x y v1 v9 v0 es clock w) (hb:b0=false):om w0 true i x y (.map (some w.heap.size)) v9 v0 #[] 0 (w.alloc (.map #[] 0)):=by
 have he:=h.zi hb;subst he;refine ⟨h.aR.alloc h.aR.size _,fun _=>⟨_,rfl,h.aR.size,(Is w _).1⟩,fun k hk hi=>?_,h.lV,h.has,(fun e=>by cases e),fun e=>?_,h.um⟩
 ·exact absurd (h.ul k hk hi) (by rw [hb];simp)
 ·have:=(h.c8 e).1;rw [hb] at this;cases this
theorem om.Mf (h:om w0 b0 i x y v1 v9 v0 es clock w) (hb:b0=true) (hx:x=false):om w0 b0 i true y v1 v1 v0 es clock w :=
 ⟨h.aR,h.map,h.ul,h.lV,h.has,h.zi,fun _=>⟨hb,rfl⟩,fun e=>by have:=(h.um e).1;rw [hx] at this;cases this⟩
theorem om.Mg (h:om w0 b0 i x y v1 v9 v0 es clock w) (hx:x=true):om w0 b0 i x true v1 v9 v9 es clock w :=
 ⟨h.aR,h.map,h.ul,h.lV,h.has,h.zi,h.c8,fun _=>⟨hx,rfl⟩⟩
theorem om.insert {aN:Nat} (h:om w0 b0 i x y (.map (some aN)) v9 v0 es clock w) (k:Nat) (hk:k<7) (hb:b0=true) (hm:w.heap[aN]? = some (.map es clock)) :
  om w0 b0 (hI i k true) x y (.map (some aN)) v9 v0 (es.push ⟨rq k,.i (zh k),clock⟩) (clock+1) { w with heap:=w.heap.setIfInBounds aN (.map (es.push ⟨rq k,.i (zh k),clock⟩) (clock+1)) }:=by
 obtain ⟨acQ,aV,ah,_⟩:=h.map hb;injection aV with aV
 injection aV with aV
 subst aV;have Bx:=Ib (o':=.map (es.push ⟨rq k,.i (zh k),clock⟩) (clock+1)) hm;refine ⟨h.aR.grown (H' w aN _) h.aR.size (fun j aD=>by injection aD with aD;omega),fun _=>⟨aN,rfl,ah,Bx.1⟩,fun _ _ _=>hb,fun e he=>?_,fun j aD gO=>?_,fun e=>(by rw [hb] at e;cases e),h.c8,h.um⟩
 ·simp only [wk,jl,mD] at he
  rcases he with he|rfl
  ·obtain ⟨j,g1,g2,g3,g4⟩:=h.lV e he
   exact ⟨j,g1,by simp [hI,g2],g3,g4⟩
  ·exact ⟨k,hk,by simp [hI],rfl,rfl⟩
 ·by_cases e:j=k
  ·subst e;exact ⟨⟨rq j,.i (zh j),clock⟩,av,rfl⟩
  ·obtain ⟨q,aX,ba⟩:=h.has j aD (by simpa [hI,e] using gO)
   exact ⟨q,by simp [aX],ba⟩
end
def uo (b0:Bool) (i:Nat->Bool) (x y:Bool):Array Bool:=#[b0,true,(i 0),true,(i 1),true,(i 2),true,(i 3),true,(i 4),true,(i 5),true,(i 6),x,y]
def o1 (v1 v9 v0:Value):Array Value:=#[v0,v1,.agg #[.i 1,.i 1],.agg #[.i 2,.i 2],.agg #[.i 3,.i 3],.agg #[.i 1,.i 4],.agg #[.i 2,.i 4],.agg #[.i 4,.i 4],.agg #[.i 6,.i 4],v9]
theorem acR {b0:Bool} {i:Nat->Bool} {x y:Bool}:∀ j,j<17->(uo b0 i x y).getD j true=false->j∈[0,2,4,6,8,10,12,14,15,16]
 | 0,_,_=>by simp
 | 1,_,h=>absurd (show true=false from h) ak
 | 2,_,_=>by simp
 | 3,_,h=>absurd (show true=false from h) ak
 | 4,_,_=>by simp
 | 5,_,h=>absurd (show true=false from h) ak
 | 6,_,_=>by simp
 | 7,_,h=>absurd (show true=false from h) ak
 | 8,_,_=>by simp
 | 9,_,h=>absurd (show true=false from h) ak
 | 10,_,_=>by simp
 | 11,_,h=>absurd (show true=false from h) ak
 | 12,_,_=>by simp
 | 13,_,h=>absurd (show true=false from h) ak
 | 14,_,_=>by simp
 | 15,_,_=>by simp
 | 16,_,_=>by simp
 | n+17,hn,_=>absurd hn af
def acS (w0:World) (L:Array Bool) (a:Act) (w:World):Prop :=
 ∃ (b0:Bool) (i:Nat->Bool) (x y:Bool) (v1 v9 v0:Value) (es:Array MapEntry) (clock:Nat),L=uo b0 i x y/\a=⟨o1 v1 v9 v0,[]⟩/\om w0 b0 i x y v1 v9 v0 es clock w
def acT (w:World) (e:Ending) (w':World):Prop:=∃ (aN:Nat) (es:Array MapEntry) (clock:Nat),e=.returned (.map (some aN))/\w'.heap[aN]? = some (.map es clock)/\Ss es/\Below w.heap.size w w'
theorem St (w:World):Calls prog 303 #[] w (acT w):=by
 have mixed:prog.follows Departure.mixedOrders=true:=ai
 go_enter func303,ntmps303
 go_wp2_with fail;refine wp_region_held_drew (S:=fun _=>True) ai trivial (fun hHeld=>?_);refine aj 1 ?_;refine aj 3 ?_;refine aj 5 ?_;refine aj 7 ?_;refine aj 9 ?_;refine aj 11 ?_;refine aj 13 ?_;refine Mh (acS w) ?_ ?_ _ _ _ _ ak ?_
 ·intro L a aC q2 hr
  obtain ⟨b0,i,x,y,v1,v9,v0,es,clock,rfl,rfl,H⟩:=q2;have f0:b0=true:=by
   cases hb:b0 with
   | true=>rfl
   | false=>exact (kG hr (j:=0) (by rw [hb];rfl) rfl rfl).elim
  have zj:i 0=true:=by
   cases hb:i 0 with
   | true=>rfl
   | false=>exact (kG hr (j:=2) hb rfl (by simp [uo,Region.binds,f0])).elim
  have zk:i 1=true:=by
   cases hb:i 1 with
   | true=>rfl
   | false=>exact (kG hr (j:=4) hb rfl (by simp [uo,Region.binds,f0])).elim
  have zl:i 2=true:=by
   cases hb:i 2 with
   | true=>rfl
   | false=>exact (kG hr (j:=6) hb rfl (by simp [uo,Region.binds,f0])).elim
  have zm:i 3=true:=by
   cases hb:i 3 with
   | true=>rfl
   | false=>exact (kG hr (j:=8) hb rfl (by simp [uo,Region.binds,f0])).elim
  have zn:i 4=true:=by
   cases hb:i 4 with
   | true=>rfl
   | false=>exact (kG hr (j:=10) hb rfl (by simp [uo,Region.binds,f0])).elim
  have zo:i 5=true:=by
   cases hb:i 5 with
   | true=>rfl
   | false=>exact (kG hr (j:=12) hb rfl (by simp [uo,Region.binds,f0])).elim
  have Mi:i 6=true:=by
   cases hb:i 6 with
   | true=>rfl
   | false=>exact (kG hr (j:=14) hb rfl (by simp [uo,Region.binds,f0])).elim
  have By:x=true:=by
   cases hb:x with
   | true=>rfl
   | false=>exact (kG hr (j:=15) (by rw [hb];rfl) rfl (by simp [uo,Region.binds,f0,zj,zk,zl,zm,zn,zo,Mi])).elim
  have E':y=true:=by
   cases hb:y with
   | true=>rfl
   | false=>exact (kG hr (j:=16) (by rw [hb];rfl) rfl (by simp [uo,Region.binds,f0,By,zj,zk,zl,zm,zn,zo,Mi])).elim
  obtain ⟨aN,cG,_,hm⟩:=H.map f0;obtain ⟨_,Mj⟩:=H.c8 By;obtain ⟨_,bE⟩:=H.um E';subst cG;subst Mj;subst bE;have fz:=J H;have ag:=J hm;have hX:=J (show ∀ k,k<7->i k=true from fun k hk=>by
   obtain rfl|rfl|rfl|rfl|rfl|rfl|rfl:k=0\/k=1\/k=2\/k=3\/k=4\/k=5\/k=6:=af
   all_goals assumption)
  clear H hm hr f0 By E' zj zk zl zm zn zo Mi;unfold o1;go_wp2_with fail;go_ret;exact ⟨aN,es,clock,rfl,ag.out,⟨fun e he=>by
   obtain ⟨k,dv,_,fP,kz⟩:=fz.lV e he;exact ⟨k,dv,fP,kz⟩,fun k hk=>fz.has k hk (hX.out k hk)⟩,fz.aR⟩
 ·intro L a aC j q2 aD
  obtain ⟨b0,i,x,y,v1,v9,v0,es,clock,rfl,rfl,H⟩:=q2;obtain ⟨hf,oj,qs,_⟩:=mem_ready.1 aD;have aT:j<17:=(w5.1 qs).1;have hl:=acR j aT hf;simp only [fb,mr,l1] at hl
  clear qs aT
  rcases hl with rfl|rfl|rfl|rfl|rfl|rfl|rfl|rfl|rfl|rfl
  ·have eI:b0=false:=hf
   refine kH (oi:=_) rfl rfl fun K hK=>?_
   go_simp;refine hK _ _ ?_;exact ⟨true,i,x,y,_,v9,v0,#[],0,rfl,rfl,H.makeMap eI⟩
  ·have eI:i 0=false:=hf
   have fS:b0=true:=lz (d:=0) aD rfl rfl;obtain ⟨aN,cG,_,hm⟩:=H.map fS;subst cG;have gj:(Instr.mapUpdate 402 (.map (some aN)) (.agg #[.i 1,.i 1]) (.i 2)).run prog aC=.ok () _:=Bz underlying402 hm H.keys (H.fresh 0 ak eI) _;refine kH (oi:=_) rfl rfl fun K hK=>?_
   go_simp;rw [show (o1 (.map (some aN)) v9 v0)[1]?.getD undef=.map (some aN) from rfl,show (o1 (.map (some aN)) v9 v0)[2]?.getD undef=.agg #[.i 1,.i 1] from rfl,gj];simp only [Result.andThen,Oper.upon];refine hK _ _ ?_;exact ⟨b0,hI i 0 true,x,y,_,v9,v0,_,_,rfl,rfl,H.insert 0 ak fS hm⟩
  ·have eI:i 1=false:=hf
   have fS:b0=true:=lz (d:=0) aD rfl rfl;obtain ⟨aN,cG,_,hm⟩:=H.map fS;subst cG;have gj:(Instr.mapUpdate 402 (.map (some aN)) (.agg #[.i 2,.i 2]) (.i 3)).run prog aC=.ok () _:=Bz underlying402 hm H.keys (H.fresh 1 ak eI) _;refine kH (oi:=_) rfl rfl fun K hK=>?_
   go_simp;rw [show (o1 (.map (some aN)) v9 v0)[1]?.getD undef=.map (some aN) from rfl,show (o1 (.map (some aN)) v9 v0)[3]?.getD undef=.agg #[.i 2,.i 2] from rfl,gj];simp only [Result.andThen,Oper.upon];refine hK _ _ ?_;exact ⟨b0,hI i 1 true,x,y,_,v9,v0,_,_,rfl,rfl,H.insert 1 ak fS hm⟩
  ·have eI:i 2=false:=hf
   have fS:b0=true:=lz (d:=0) aD rfl rfl;obtain ⟨aN,cG,_,hm⟩:=H.map fS;subst cG;have gj:(Instr.mapUpdate 402 (.map (some aN)) (.agg #[.i 3,.i 3]) (.i 4)).run prog aC=.ok () _:=Bz underlying402 hm H.keys (H.fresh 2 ak eI) _;refine kH (oi:=_) rfl rfl fun K hK=>?_
   go_simp;rw [show (o1 (.map (some aN)) v9 v0)[1]?.getD undef=.map (some aN) from rfl,show (o1 (.map (some aN)) v9 v0)[4]?.getD undef=.agg #[.i 3,.i 3] from rfl,gj];simp only [Result.andThen,Oper.upon];refine hK _ _ ?_;exact ⟨b0,hI i 2 true,x,y,_,v9,v0,_,_,rfl,rfl,H.insert 2 ak fS hm⟩
  ·have eI:i 3=false:=hf
   have fS:b0=true:=lz (d:=0) aD rfl rfl;obtain ⟨aN,cG,_,hm⟩:=H.map fS;subst cG;have gj:(Instr.mapUpdate 402 (.map (some aN)) (.agg #[.i 1,.i 4]) (.i 5)).run prog aC=.ok () _:=Bz underlying402 hm H.keys (H.fresh 3 ak eI) _;refine kH (oi:=_) rfl rfl fun K hK=>?_
   go_simp;rw [show (o1 (.map (some aN)) v9 v0)[1]?.getD undef=.map (some aN) from rfl,show (o1 (.map (some aN)) v9 v0)[5]?.getD undef=.agg #[.i 1,.i 4] from rfl,gj];simp only [Result.andThen,Oper.upon];refine hK _ _ ?_;exact ⟨b0,hI i 3 true,x,y,_,v9,v0,_,_,rfl,rfl,H.insert 3 ak fS hm⟩
  ·have eI:i 4=false:=hf
   have fS:b0=true:=lz (d:=0) aD rfl rfl;obtain ⟨aN,cG,_,hm⟩:=H.map fS;subst cG;have gj:(Instr.mapUpdate 402 (.map (some aN)) (.agg #[.i 2,.i 4]) (.i 5)).run prog aC=.ok () _:=Bz underlying402 hm H.keys (H.fresh 4 ak eI) _;refine kH (oi:=_) rfl rfl fun K hK=>?_
   go_simp;rw [show (o1 (.map (some aN)) v9 v0)[1]?.getD undef=.map (some aN) from rfl,show (o1 (.map (some aN)) v9 v0)[6]?.getD undef=.agg #[.i 2,.i 4] from rfl,gj];simp only [Result.andThen,Oper.upon];refine hK _ _ ?_;exact ⟨b0,hI i 4 true,x,y,_,v9,v0,_,_,rfl,rfl,H.insert 4 ak fS hm⟩
  ·have eI:i 5=false:=hf
   have fS:b0=true:=lz (d:=0) aD rfl rfl;obtain ⟨aN,cG,_,hm⟩:=H.map fS;subst cG;have gj:(Instr.mapUpdate 402 (.map (some aN)) (.agg #[.i 4,.i 4]) (.i 5)).run prog aC=.ok () _:=Bz underlying402 hm H.keys (H.fresh 5 ak eI) _;refine kH (oi:=_) rfl rfl fun K hK=>?_
   go_simp;rw [show (o1 (.map (some aN)) v9 v0)[1]?.getD undef=.map (some aN) from rfl,show (o1 (.map (some aN)) v9 v0)[7]?.getD undef=.agg #[.i 4,.i 4] from rfl,gj];simp only [Result.andThen,Oper.upon];refine hK _ _ ?_;exact ⟨b0,hI i 5 true,x,y,_,v9,v0,_,_,rfl,rfl,H.insert 5 ak fS hm⟩
  ·have eI:i 6=false:=hf
   have fS:b0=true:=lz (d:=0) aD rfl rfl;obtain ⟨aN,cG,_,hm⟩:=H.map fS;subst cG;have gj:(Instr.mapUpdate 402 (.map (some aN)) (.agg #[.i 6,.i 4]) (.i 5)).run prog aC=.ok () _:=Bz underlying402 hm H.keys (H.fresh 6 ak eI) _;refine kH (oi:=_) rfl rfl fun K hK=>?_
   go_simp;rw [show (o1 (.map (some aN)) v9 v0)[1]?.getD undef=.map (some aN) from rfl,show (o1 (.map (some aN)) v9 v0)[8]?.getD undef=.agg #[.i 6,.i 4] from rfl,gj];simp only [Result.andThen,Oper.upon];refine hK _ _ ?_;exact ⟨b0,hI i 6 true,x,y,_,v9,v0,_,_,rfl,rfl,H.insert 6 ak fS hm⟩
  ·have eI:x=false:=hf
   have fS:b0=true:=lz (d:=0) aD rfl rfl;refine kH (oi:=_) rfl rfl fun K hK=>?_
   go_simp;refine hK _ _ ?_;exact ⟨b0,i,true,y,v1,v1,v0,es,clock,rfl,rfl,H.Mf fS eI⟩
  ·have fS:x=true:=lz (d:=15) aD rfl rfl
   refine kH (oi:=_) rfl rfl fun K hK=>?_
   go_simp;refine hK _ _ ?_;exact ⟨b0,i,x,true,v1,v9,v9,es,clock,rfl,rfl,H.Mg fS⟩
 ·exact ⟨false,fun _=>false,false,false,undef,undef,.map none,#[],0,rfl,rfl,⟨(aO _ _).drew,(fun e=>by cases e),(fun k _ e=>by cases e),av,(fun k _ e=>by cases e),fun _=>rfl,(fun e=>by cases e),fun e=>by cases e⟩⟩
end Go.Proofs.YtmmchlfoplcnbaaGreatDoor
