/- A part of the walk. -/
import Derived.Test.YtmmchlfoplcnbaaGreatDoorMC2
import Derived.Test.YtmmchlfoplcnbaaGreatDoorMB9
namespace Go.Proofs.YtmmchlfoplcnbaaGreatDoor
open Go Go.RowKit Tryz
set_option linter.all false
set_option maxRecDepth 100000
set_option maxHeartbeats 4000000
def r6 (l:List cf) (i:Nat) (x:cf):List cf:=l.take i++x :: l.drop i
theorem KF (l:List cf) (i:Nat) (x:cf) (hi:i<=l.length):(r6 l i x).length=l.length+1:=by unfold r6;simp;omega
def CK (l:List cf) (i:Nat) (x:cf) (A:Option Addr) (c base:Nat) (w:World) (e:Ending) (w':World):Prop :=
 ∃ br a8,e=.returned (.slice br (l.length+1) a8)/\Own w' base 146 encI (.slice br (l.length+1) a8) (r6 l i x)/\w.grownBy w' (Value.slice A l.length c).ownBlock
theorem PL (l:List cf) (i:Nat) (x:cf):encI.all (r6 l i x)=encI.all (l.take i)++encI.enc x++encI.all (l.drop i):=by
 unfold r6;rw [encI.all_append,encI.all_cons,mq]
theorem PM:∃ i0,prog.info? 146=some i0/\i0.zero=some (.agg #[.string ⟨#[]⟩,.i 0,.i 0])/\i0.size=3/\i0.bytes=32 :=
 info_parts (show (prog.info? 146).map (fun i=>(i.zero,i.size,i.bytes))=some (some (.agg #[.string ⟨#[]⟩,.i 0,.i 0]),3,32) by kernel_rfl)
section
variable {l:List cf} {i:Nat} {x:cf} {A:Option Addr} {c base vb:Nat} {w:World}
theorem X5 (hown:Own w base 146 encI (.slice A l.length c) l) (hv:ar w vb 146 x.cells) (hbase:base<=w.heap.size) (hl:l.length<=100000) :
  Calls prog 259 #[.slice A l.length c,.i l.length,.slice (some ⟨vb,0,none⟩) 1 1] w (CK l l.length x A c base w):=by
 have jO:=hown.cap;have yi:a7 w encI (some ⟨vb,0,none⟩) [x]:=fun _=>⟨vb,0,rfl,hv.lt,fun j u hu=>by
  rw [fw,hv.cell];rw [cu.D2] at hu
  simpa [encI] using hu⟩
 have bJ:=J (ae hown yi);have hle:l.length<=c:=jO.2.1;have Av:c<=9223372036854775807:=jO.2.2;clear jO hown yi hv;have d1:((l.length:Int)==(l.length:Int))=true:=av;have bC:Hid (l++[x]=r6 l l.length x):=by show _=_;unfold r6;simp
 by_cases hce:c=l.length
 ·subst hce
  go_enter func259,ntmps259
  go_wp2_with (at_builtin;refine hW Kz encI rfl (.tmp 23) (.tmp 24) rfl base _ l rfl bJ.1 _ [x] 1 rfl bJ.2 (by simp;omega) (by simp;omega) hbase ?_;intro b5 fP w3 eX eF _;have cD:=J (ae eX eF);clear eX eF)
  go_ret;exact ⟨b5,fP,rfl,by rw [<- bC.out];exact cD.1,cD.2⟩
 ·have xc:l.length<c:=by omega
  go_enter func259,ntmps259
  go_wp2_with (at_builtin;refine hW Kz encI rfl (.tmp 23) (.tmp 24) rfl base _ l rfl bJ.1 _ [x] 1 rfl bJ.2 (by simp;omega) (by simp;omega) hbase ?_;intro b5 fP w3 eX eF _;have cD:=J (ae eX eF);clear eX eF)
  go_ret;exact ⟨b5,fP,rfl,by rw [<- bC.out];exact cD.1,cD.2⟩
theorem X6 (hown:Own w base 146 encI (.slice A l.length l.length) l) (hv:ar w vb 146 x.cells) (hbase:base<=w.heap.size) (hl:l.length<=100000) (hi:i<l.length) :
  Calls prog 259 #[.slice A l.length l.length,.i i,.slice (some ⟨vb,0,none⟩) 1 1] w (CK l i x A l.length base w):=by
 have bW:l≠[]:=by intro e;subst e;simp at hi
 obtain ⟨g,hA,iy⟩:=CF hown bW;subst hA;have D':=(hown.iw g rfl).2;obtain ⟨n,hn⟩:∃ n,n=l.length:=⟨_,rfl⟩
 have fX:=yg hown;unfold CK;rw [<- hn] at hown hi hl ⊢
 obtain ⟨i0,i',iP,hN,kP⟩:=PM;have p5:=hv.cell;have pq:=hv.lt;have fM:(encI.all (l.take i)).length=i*3:=by rw [encI.h3,fv];omega
 have dH:(encI.all (l.drop i)).length=(n-i)*3:=by rw [encI.h3,rV];omega
 have fy:x.cells.toList.length=3:=rfl;have r0:i+(n+1-i)=n+1:=af;have nV:(n:Int)+1-(i:Int)=((n+1-i:Nat):Int):=af;have hold:(Builtin.firstCells i0.size i (.slice (some ⟨g,0,none⟩) i n)).run prog w.drew=.ok (encI.all (l.take i)).toArray w.drew:=by
  rw [hN];refine run_firstCells_some w.drew 3 i ⟨g,0,none⟩ i n (encI.all (l.take i)) fM (fun j v aD=>?_);rw [ko,fw];rw [encI.xb l i af,GM] at aD
  split at aD
  ·exact fX j v aD
  ·cases aD
 have p6:(Builtin.append_ #[79,3] 79 #[.slice (some ⟨g,0,none⟩) i n,.i ((n:Int)+1-(i:Int))]).run prog w =
   .ok (.slice (some ⟨w.heap.size,0,none⟩) (n+1) (grownCap w (n+1) n 146)) (w.drew.alloc (.cells ((encI.all (l.take i)).toArray++Builtin.zeroCells (Value.agg #[.string ⟨#[]⟩,.i 0,.i 0]).cells (n+1-i)++Builtin.zeroCells (Value.agg #[.string ⟨#[]⟩,.i 0,.i 0]).cells (grownCap w (n+1) n 146-(n+1))) 146)):=by
  have h:=Lib.run_append_grow_zeros w 79 3 79 146 i0 _ .i64 .i64 underlying79 underlying3 i' iP (some ⟨g,0,none⟩) i n (encI.all (l.take i)) hold (n+1-i) af af af af (by rw [kP];omega) (by rw [kP,r0];exact growslice_fits af af);rw [r0] at h
  rw [nV];exact h
 have Pf:=grownCap_ge w (n+1) n 146;have yj:=GN w (n+1) n 146 (by unfold maxLen;omega);generalize grownCap w (n+1) n 146=G at *
 obtain ⟨cur,ik⟩:∃ cur:List Value,cur=encI.all (l.take i)++(Builtin.zeroCells (Value.agg #[.string ⟨#[]⟩,.i 0,.i 0]).cells (n+1-i)).toList++(Builtin.zeroCells (Value.agg #[.string ⟨#[]⟩,.i 0,.i 0]).cells (G-(n+1))).toList:=⟨_,rfl⟩
 have p7:(encI.all (l.take i)).toArray++Builtin.zeroCells (Value.agg #[.string ⟨#[]⟩,.i 0,.i 0]).cells (n+1-i)++Builtin.zeroCells (Value.agg #[.string ⟨#[]⟩,.i 0,.i 0]).cells (G-(n+1))=cur.toArray:=by
  rw [ik];simp
 rw [p7] at p6
 have bZ:cur.length=G*3:=by
  have mR:(Value.agg #[.string ⟨#[]⟩,.i 0,.i 0]).cells.size=3:=rfl;rw [ik,cd,cd,fM,mm,mm,w9,w9,mR];omega
 have lh:cur.take (i*3)=encI.all (l.take i):=by
  rw [ik,mq];exact rU fM
 clear p7 ik hold;have nS:G<=9223372036854775807:=by simpa only [maxLen] using yj
 have iB:ar (w.drew.alloc (.cells cur.toArray 146)) w.heap.size 146 cur.toArray:=ar.new w.drew _ _;have bV:Below w.heap.size w (w.drew.alloc (.cells cur.toArray 146)):=((aO _ _).drew).alloc aF _;obtain ⟨tq,yk⟩:∃ tq,tq=w.drew.alloc (.cells cur.toArray 146):=⟨_,rfl⟩
 rw [<- yk] at p6 iB bV
 clear yk;have cH:(prog.info? 146).map (·.size)=some 3:=by rw [i'];simp [hN]
 obtain ⟨eJ,hA,h4,fQ,fY⟩:=rX tq 79 79 3 146 146 3 w.heap.size (i*3) (n+1-i) (G-i) ⟨vb,0,none⟩ 1 1 1 cur x.cells.toList iB (by rw [fy,bZ];omega) underlying79 cH (by simp only [r3];split <;> omega) rfl
  (fun j v aD=>by rw [ko,fw,(nw bV).1 vb j pq,p5];simpa using aD) (fun v hv=>encI.one x v hv)
 have bY:Below w.heap.size w eJ:=bV.grown fQ bV.size (fun k hk=>by injection hk with hk;omega);obtain ⟨gU,lj,li,er,kQ⟩:=rX eJ.drew 79 79 3 146 146 3 w.heap.size ((i+1)*3) (n+1-(i+1)) (G-(i+1)) ⟨g,i*3,none⟩ (n-i) (n-i) (n-i) _ (encI.all (l.drop i)) h4.drew (by rw [jN _ _ _ (by rw [fy,bZ];omega),dH,bZ];omega) underlying79 cH (by simp only [r3];split <;> omega) dH
  (fun j v aD=>by
   rw [ko]
   show eJ.cell? _=_
   rw [(nw bY).1 g _ D'];rw [yh encI l i j af] at aD
   exact fX _ v aD) (encI.s3 _)
 have bu:Below w.heap.size w gU:=(bY.drew).grown er bY.size (fun k hk=>by injection hk with hk;omega);have ap:Hid (Own gU base 146 encI (.slice (some ⟨w.heap.size,0,none⟩) (n+1) G) (r6 l i x)/\Below w.heap.size w gU):=by
  refine ⟨?_,bu⟩;have fC:=KF l i x af;rw [<- hn] at fC
  rw [<- fC];refine ⟨encI.h3 _,.inr ⟨w.heap.size,G,_,rfl,hbase,li,af,yj,?_,?_⟩⟩
  ·rw [pp,jN,jN,bZ]
   ·rw [fy,bZ];omega
   ·rw [jN _ _ _ (by rw [fy,bZ];omega),dH,bZ];omega
  ·have ah:=Ke cur x.cells.toList (encI.all (l.drop i)) (i*3) (by rw [fy,dH,bZ];omega)
   rw [fy,dH] at ah
   rw [PL l i x,fC];rw [show (i+1)*3=i*3+3 from af,fy,dH,show (n+1)*3=i*3+3+(n-i)*3 from af];exact ah.trans (by rw [lh];rfl)
 have dC:=J hA;have tr:=J lj;have Ea:=J p6;have vy:((i:Int)==(n:Int))=false:=ji.2 af;have mR:decide ((n:Int)<(n:Int)+1)=true:=bO af;have xd:(n:Int)<(n:Int)+1:=af;have r4:IntKind.i64.wrap ((n:Int)+1)=(n:Int)+1:=by rw [mS];omega
 have cU:IntKind.i64.wrap ((i:Int)+1)=(i:Int)+1:=by rw [mS];omega
 have iA:(0:Int)<=(i:Int)+1:=af;have Ax:((i:Int)+1).toNat=i+1:=af;have Pg:¬ (n=i):=af;have Ph:¬ (G=i):=af;have Pj:¬ (G=i+1):=af;have vz:i<=n:=af;have Eb:(i:Int)<=(n:Int):=af;clear fX p5 pq fM dH fy r0 nV i' iP hN kP p6 hA lj iB h4 li fQ er fY kQ bV bY bu lh bZ cH hn hown hv
 go_enter func259,ntmps259
 go_wp2_with (first
  | (at_builtin;refine Kj rfl (.tmp 34) (.tmp 39) 79 3 rfl _ _ rfl rfl Ea ?_)
  | (refine CA rfl (.tmp 43) (.tmp 44) 79 79 rfl _ _ rfl rfl dC.out ?_))
 have mixed:prog.follows Departure.mixedOrders=true:=ai
 go_region_law_o (refine CB rfl (.tmp 50) (.tmp 53) 79 79 rfl _ _ (by simp [Act.eval,Act.put]) (by simp [Act.eval,Act.put]) tr.out ?_)
 go_wp2_with fail;go_ret;exact ⟨_,_,rfl,ap.1,Ku ap.2 _⟩
theorem X7 (hown:Own w base 146 encI (.slice A l.length c) l) (hv:ar w vb 146 x.cells) (tu:some vb≠(Value.slice A l.length c).ownBlock) (hl:l.length<=100000) (hi:i<l.length) (hc:l.length<c) :
  Calls prog 259 #[.slice A l.length c,.i i,.slice (some ⟨vb,0,none⟩) 1 1] w (CK l i x A c base w):=by
 have bW:l≠[]:=by intro e;subst e;simp at hi
 obtain ⟨g,cap,p4,hval,iy,az,xa,nS,hcs,kO⟩:=th hown bW;injection hval with hA _ jO
 subst hA;subst jO;have yl:vb≠g:=fun e=>tu (by rw [e];rfl)
 have fX:=yg hown;obtain ⟨n,hn⟩:∃ n,n=l.length:=⟨_,rfl⟩
 unfold CK;rw [<- hn] at hown hi hl hc xa kO ⊢
 obtain ⟨cur,ik⟩:∃ cur:List Value,cur=p4.toList:=⟨_,rfl⟩
 have oH:p4=cur.toArray:=by rw [ik]
 rw [oH] at az hcs
 rw [<- ik] at kO
 have bZ:cur.length=c*3:=by simpa using hcs
 clear oH ik hcs;obtain ⟨i0,i',iP,hN,kP⟩:=PM;have p5:=hv.cell;have pq:=hv.lt;have dH:(encI.all (l.drop i)).length=(n-i)*3:=by rw [encI.h3,rV];omega
 have fy:x.cells.toList.length=3:=rfl;have lh:cur.take (i*3)=encI.all (l.take i):=by
  rw [encI.xb l i af,<- kO,vu,oF af]
 have Av:c<=9223372036854775807:=by simpa only [maxLen] using nS
 have cH:(prog.info? 146).map (·.size)=some 3:=by rw [i'];simp [hN]
 have ym:∀ j0 hq,(callFunc 318 #[.slice (some ⟨vb,0,none⟩) 1 1,.slice (some ⟨g,(i+1)*3,none⟩) j0 hq]).run prog w=.ok (.value (.bool false)) w:=fun j0 hq=>by
  rw [run_callFunc_extern func318 ai ai ai (e:=Extern.SlicesOverlaps.overlaps #[79,79] #[4]) ai,
   Lib.run_overlaps_apart w 79 4 146 underlying79 3 (fun w=>by simp [sizeOf,typeInfo,i',hN]) ⟨vb,0,none⟩ ⟨g,(i+1)*3,none⟩ 1 1 j0 hq yl _ _ _ _ (CG hv) (CG az) (by rw [pp,bZ];omega) (hv.frozen 0) (hv.frozen _)]
  rfl
 obtain ⟨eJ,hA,h4,fQ,fY⟩:=rX w.drew 79 79 3 146 146 3 g ((i+1)*3) (n+1-(i+1)) (c-(i+1)) ⟨g,i*3,none⟩ (n+1-i) (c-i) (n-i) cur (encI.all (l.drop i)) az.drew (by rw [dH,bZ];omega) underlying79 cH (by simp only [r3];split <;> omega) dH
  (fun j v aD=>by
   rw [ko]
   show w.cell? _=_
   rw [yh encI l i j af] at aD
   exact fX _ v aD) (encI.s3 _)
 obtain ⟨gU,lj,li,er,kQ⟩:=rX eJ 79 79 3 146 146 3 g (i*3) (n+1-i) (c-i) ⟨vb,0,none⟩ 1 1 1 _ x.cells.toList h4 (by rw [jN _ _ _ (by rw [dH,bZ];omega),fy,bZ];omega) underlying79 cH (by simp only [r3];split <;> omega) rfl
  (fun j v aD=>by
   rw [ko,fw,(hv.drew.grown fQ (by intro e;injection e with e;exact yl e)).cell]
   simpa using aD) (fun v hv=>encI.one x v hv)
 have fL:w.grownBy gU (some g):=⟨er.os.trans fQ.os,er.tape.trans fQ.tape,er.output.trans fQ.output,by rw [kQ,fY];exact e3 _,fun k hk bW=>(er.block k (by rw [fY];exact hk) bW).trans (fQ.block k hk bW)⟩
 have ap:Hid (Own gU base 146 encI (.slice (some ⟨g,0,none⟩) (n+1) c) (r6 l i x)/\w.grownBy gU (some g)):=by
  refine ⟨?_,fL⟩;have fC:=KF l i x af;rw [<- hn] at fC
  rw [<- fC];refine ⟨encI.h3 _,.inr ⟨g,c,_,rfl,iy,li,af,nS,?_,?_⟩⟩
  ·rw [pp,jN,jN,bZ]
   ·rw [dH,bZ];omega
   ·rw [jN _ _ _ (by rw [dH,bZ];omega),fy,bZ];omega
  ·have ah:=Kf cur x.cells.toList (encI.all (l.drop i)) (i*3) (by rw [fy,dH,bZ];omega)
   rw [lh,fy,dH] at ah
   rw [PL l i x,fC];rw [show (i+1)*3=i*3+3 from af,fy,dH,show (n+1)*3=i*3+3+(n-i)*3 from af];exact ah
 have dC:=J hA;have tr:=J lj;have Ec:=J ym;have vy:((i:Int)==(n:Int))=false:=ji.2 af;have mR:decide ((c:Int)<(n:Int)+1)=false:=cX af;have xd:(n:Int)+1<=(c:Int):=af;have r4:IntKind.i64.wrap ((n:Int)+1)=(n:Int)+1:=by rw [mS];omega
 have cU:IntKind.i64.wrap ((i:Int)+1)=(i:Int)+1:=by rw [mS];omega
 have iA:(0:Int)<=(i:Int)+1:=af;have dI:(0:Int)<=(n:Int)+1:=af;have Ax:((i:Int)+1).toNat=i+1:=af;have Pk:((n:Int)+1).toNat=n+1:=af;have yn:¬ (c=i):=af;have Pl:¬ (c=i+1):=af;have vz:i<=n:=af;have Eb:(i:Int)<=(n:Int):=af;have Pm:(i:Int)<=(n:Int)+1:=af;clear fX p5 pq dH fy i' iP hN kP hA lj az h4 li fQ er fY kQ fL lh bZ cH hn hown hv ym kO
 go_enter func259,ntmps259
 go_wp2_with (simp only [Ec.out])
 have mixed:prog.follows Departure.mixedOrders=true:=ai
 go_region_law_o (refine CB rfl (.tmp 73) (.tmp 76) 79 79 rfl _ _ (by simp [Act.eval,Act.put]) (by simp [Act.eval,Act.put]) dC.out ?_)
 go_wp2_with (refine CA rfl (.tmp 80) (.tmp 81) 79 79 rfl _ _ rfl rfl tr.out ?_)
 go_ret;exact ⟨_,_,rfl,ap.1,ap.2⟩
theorem XO (hown:Own w base 146 encI (.slice A l.length c) l) (hv:ar w vb 146 x.cells) (tu:some vb≠(Value.slice A l.length c).ownBlock) (hbase:base<=w.heap.size) (hl:l.length<=100000) (hi:i<=l.length) :
  Calls prog 259 #[.slice A l.length c,.i i,.slice (some ⟨vb,0,none⟩) 1 1] w (CK l i x A c base w):=by
 rcases gB i l.length with h|h
 ·rcases gB l.length c with ah|ah
  ·exact X7 hown hv tu hl h ah
  ·have:=hown.cap.2.1
   obtain rfl:c=l.length:=af;exact X6 hown hv hbase hl h
 ·obtain rfl:i=l.length:=by omega
  exact X5 hown hv hbase hl
end
end Go.Proofs.YtmmchlfoplcnbaaGreatDoor
