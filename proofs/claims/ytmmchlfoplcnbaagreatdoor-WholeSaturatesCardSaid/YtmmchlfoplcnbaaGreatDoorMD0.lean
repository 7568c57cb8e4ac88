/- A part of the walk. -/
import Derived.Test.YtmmchlfoplcnbaaGreatDoorMC0
import Derived.Test.YtmmchlfoplcnbaaGreatDoorMC1
import Derived.Test.YtmmchlfoplcnbaaGreatDoorMC9
namespace Go.Proofs.YtmmchlfoplcnbaaGreatDoor
open Go Go.RowKit Tryz
set_option linter.all false
set_option maxRecDepth 100000
set_option maxHeartbeats 4000000
theorem He:(prog.info? 35).map (·.size)=some 5:=ai
theorem YV:(prog.info? 66).map (·.size)=some 12:=ai
theorem YW {l:List bj} (h:AL l l.length):fB l:=fun i j gO aD=>by
 obtain ⟨d,rfl⟩:∃ d,j=i+1+d:=⟨j-(i+1),af⟩
 induction d with
 | zero=>exact (h (i+1) aD af).s i rfl
 | succ d b6=>exact jY (b6 af af) ((h (i+1+(d+1)) aD af).s (i+1+d) af)
theorem jb.iq {rd:Int} {l:List bj} (h:jb rd l):fB l:=YW h.ok
theorem KX (rd:Int) (l:List bj) (s:ByteArray) (A:Option Addr) (c:Nat) (aU aL aS:Bool) (w:World) (hr:a7 w cR A l) (hm:l.length<=1000000) (hs:fB l) :
  Calls prog 125 #[.agg #[.i rd,.slice A l.length c,.bool aU,.bool aL,.bool aS],.string s] w fun e w'=>e=.returned (.tuple #[.i (dQ l s),.bool (ij l s)])/\Below w.heap.size w w':=by
 have ao:=J (oL.new rd A l c aU aL aS w);have bx:=J hr;have aP:=J hs;clear hr hs
 go_enter func125,ntmps125
 have cs:=ao.dV.cell;go_wp2_with fail;refine (Xn l s A c _ (bx.below ao.aR) hm aP).mono ?_;rintro e aC ⟨rfl,hb⟩;have ao:=J (ao.below hb);clear hb cs;go_wp2_with fail
 go_ret2
 exact ⟨rfl,ao.aR⟩
def CR (l:List bj) (s:ByteArray):Int×Bool:=if ij l s=true then (dQ l s,true) else (0,false)
theorem KY {l:List bj} {s:ByteArray} {i:Int} {v:Bool} (hv:CR l s=(i,v)) (rd:Int) (A:Option Addr) (c:Nat) (aU aL aS:Bool) (w:World) (hr:a7 w cR A l) (hm:l.length<=1000000) (hs:fB l) :
  Calls prog 86 #[.agg #[.i rd,.slice A l.length c,.bool aU,.bool aL,.bool aS],.string s] w fun e w'=>e=.returned (.tuple #[.i i,.bool v])/\Below w.heap.size w w':=by
 have ao:=J (oL.new rd A l c aU aL aS w);have bx:=J hr;have aP:=J hs;have bF:=J hv;clear hr hs hv
 go_enter func86,ntmps86
 have cs:=ao.dV.cell;go_wp2_with fail;refine (KX rd l s A c aU aL aS _ (bx.below ao.aR) hm aP).mono ?_;rintro e aC ⟨rfl,hb⟩;have ao:=J (ao.below hb);clear hb cs
 cases dz:ij l s
 ·have bd:=bF.out
  unfold CR at bd
  rw [dz] at bd
  obtain ⟨rfl,rfl⟩:(0:Int)=i/\false=v:=by simpa using bd
  clear bd dz bF;go_wp2_with fail
  go_ret2
  exact ⟨rfl,ao.aR⟩
 ·have bd:=bF.out
  unfold CR at bd
  rw [dz] at bd
  obtain ⟨rfl,rfl⟩:(dQ l s:Int)=i/\true=v:=by simpa using bd
  clear bd dz bF;go_wp2_with fail
  go_ret2
  exact ⟨rfl,ao.aR⟩
theorem yG {l:List bj} {s:ByteArray} (h:ij l s=true):∃ hi:dQ l s<l.length,l[dQ l s].aa.id=s:=by
 unfold ij at h
 split at h
 ·rename_i x hx
  obtain ⟨hi,e⟩:=jv.1 hx;exact ⟨hi,by rw [e];exact toList_inj h⟩
 ·cases h
def fZ (l:List bj) (e:bj):List bj:=if ij l e.aa.id=true then l.set (dQ l e.aa.id) e else nU l (dQ l e.aa.id) e
def im (l:List bj) (s:ByteArray):List bj:=if ij l s=true then nz l (dQ l s) else l
def Hf (rd:Int) (aU aL aS:Bool) (L:List bj) (w:World) (x:Ending) (w':World):Prop:=∃ (A:Option Addr) (c:Nat),x=.returned (.agg #[.i rd,.slice A L.length c,.bool aU,.bool aL,.bool aS])/\Own w' w.heap.size 66 cR (.slice A L.length c) L/\Below w.heap.size w w'
structure l3 (rd:Int) (A:Option Addr) (n c:Nat) (aU aL aS:Bool) (e:bj) (w W:World):Prop where
 dV:ar W (w.heap.size) 35 #[.i rd,.slice A n c,.bool aU,.bool aL,.bool aS]
 q0:ar W (w.heap.size+1) 66 #[.string e.aa.id,.i e.aa.prio,.bool e.aa.bo,.i e.aa.bg,.i e.aa.aX,.i e.aa.ba,.i e.aa.bk,.i e.aa.bl,.i e.aa.aW,.string e.aa.bb,.i e.aa.size,.i e.phase]
 jQ:ar W (w.heap.size+1+1) 35 #[.i 0,.slice none 0 0,.bool false,.bool false,.bool false]
 aR:Below w.heap.size w W
theorem l3.below {rd:Int} {A:Option Addr} {n c:Nat} {aU aL aS:Bool} {e:bj} {w W W':World} (h:l3 rd A n c aU aL aS e w W) (hb:Below W.heap.size W W'):l3 rd A n c aU aL aS e w W':=⟨h.dV.bw hb,h.q0.bw hb,h.jQ.bw hb,h.aR.trans (hb.mono h.aR.size)⟩
theorem l3.alloc {rd:Int} {A:Option Addr} {n c:Nat} {aU aL aS:Bool} {e:bj} {w W:World} (h:l3 rd A n c aU aL aS e w W) (o:Obj):l3 rd A n c aU aL aS e w (W.alloc o):=⟨h.dV.alloc o,h.q0.alloc o,h.jQ.alloc o,h.aR.alloc h.aR.size o⟩
theorem l3.drew {rd:Int} {A:Option Addr} {n c:Nat} {aU aL aS:Bool} {e:bj} {w W:World} (h:l3 rd A n c aU aL aS e w W):l3 rd A n c aU aL aS e w W.drew:=⟨h.dV.drew,h.q0.drew,h.jQ.drew,h.aR.drew⟩
theorem l3.new (rd:Int) (A:Option Addr) (n c:Nat) (aU aL aS:Bool) (e:bj) (w:World):l3 rd A n c aU aL aS e w (((w.alloc (.cells #[.i rd,.slice A n c,.bool aU,.bool aL,.bool aS] 35)).alloc (.cells #[.string e.aa.id,.i e.aa.prio,.bool e.aa.bo,.i e.aa.bg,.i e.aa.aX,.i e.aa.ba,.i e.aa.bk,.i e.aa.bl,.i e.aa.aW,.string e.aa.bb,.i e.aa.size,.i e.phase] 66)).alloc (.cells #[.i 0,.slice none 0 0,.bool false,.bool false,.bool false] 35)):=by
 have gu:(w.alloc (.cells #[.i rd,.slice A n c,.bool aU,.bool aL,.bool aS] 35)).heap.size=w.heap.size+1:=av;have z2:((w.alloc (.cells #[.i rd,.slice A n c,.bool aU,.bool aL,.bool aS] 35)).alloc (.cells #[.string e.aa.id,.i e.aa.prio,.bool e.aa.bo,.i e.aa.bg,.i e.aa.aX,.i e.aa.ba,.i e.aa.bk,.i e.aa.bl,.i e.aa.aW,.string e.aa.bb,.i e.aa.size,.i e.phase] 66)).heap.size=w.heap.size+1+1:=av;have b0:=ar.new w 35 #[.i rd,.slice A n c,.bool aU,.bool aL,.bool aS];have bX:=ar.new (w.alloc (.cells #[.i rd,.slice A n c,.bool aU,.bool aL,.bool aS] 35)) 66 #[.string e.aa.id,.i e.aa.prio,.bool e.aa.bo,.i e.aa.bg,.i e.aa.aX,.i e.aa.ba,.i e.aa.bk,.i e.aa.bl,.i e.aa.aW,.string e.aa.bb,.i e.aa.size,.i e.phase];rw [gu] at bX
 have cY:=ar.new ((w.alloc (.cells #[.i rd,.slice A n c,.bool aU,.bool aL,.bool aS] 35)).alloc (.cells #[.string e.aa.id,.i e.aa.prio,.bool e.aa.bo,.i e.aa.bg,.i e.aa.aX,.i e.aa.ba,.i e.aa.bk,.i e.aa.bl,.i e.aa.aW,.string e.aa.bb,.i e.aa.size,.i e.phase] 66)) 35 #[.i 0,.slice none 0 0,.bool false,.bool false,.bool false];rw [z2] at cY
 have aR:Below w.heap.size w (((w.alloc (.cells #[.i rd,.slice A n c,.bool aU,.bool aL,.bool aS] 35)).alloc (.cells #[.string e.aa.id,.i e.aa.prio,.bool e.aa.bo,.i e.aa.bg,.i e.aa.aX,.i e.aa.ba,.i e.aa.bk,.i e.aa.bl,.i e.aa.aW,.string e.aa.bb,.i e.aa.size,.i e.phase] 66)).alloc (.cells #[.i 0,.slice none 0 0,.bool false,.bool false,.bool false] 35)):=(((aO w.heap.size w).alloc aF _).alloc (by rw [gu];omega) _).alloc (by rw [z2];omega) _;exact ⟨((b0.alloc _).alloc _),(bX.alloc _),cY,aR⟩
theorem l3.ax {rd:Int} {A:Option Addr} {n c:Nat} {aU aL aS:Bool} {e:bj} {w W:World} (h:l3 rd A n c aU aL aS e w W) (A2:Option Addr) (n2 c2:Nat):l3 rd A2 n2 c2 aU aL aS e w (W.setCell ⟨w.heap.size,1,none⟩ (.slice A2 n2 c2)) :=
 ⟨h.dV.eW 1 _,h.q0.cF (by show w.heap.size+1≠w.heap.size;omega) _,h.jQ.cF (by show w.heap.size+1+1≠w.heap.size;omega) _,h.aR.setCell aF _⟩
theorem l3.grown {rd:Int} {A:Option Addr} {n c:Nat} {aU aL aS:Bool} {e:bj} {w W W':World} (h:l3 rd A n c aU aL aS e w W) {row:Option Nat} (az:W.grownBy W' row) (bW:∀ k,row=some k->w.heap.size+1+1<k):l3 rd A n c aU aL aS e w W' :=
 ⟨h.dV.grown az (by intro e';have:=bW _ e'.symm;omega),h.q0.grown az (by intro e';have:=bW _ e'.symm;omega),h.jQ.grown az (by intro e';have:=bW _ e'.symm;omega),h.aR.grown az h.aR.size (by intro k hk;have:=bW k hk;omega)⟩
theorem l3.Eu {rd:Int} {A:Option Addr} {n c:Nat} {aU aL aS:Bool} {e:bj} {w W:World} (h:l3 rd A n c aU aL aS e w W) {A2:Option Addr} {n2 c2:Nat} {base:Nat} {v:Value} {L:List bj} (ho:Own W base 66 cR v L) (hl:w.heap.size+1+1<base) :
  ∃ v1,W.setCell ⟨w.heap.size,1,none⟩ (.slice A2 n2 c2)=v1/\l3 rd A2 n2 c2 aU aL aS e w v1/\Own v1 base 66 cR v L/\v1.heap.size=W.heap.size:=⟨_,rfl,h.ax A2 n2 c2,ho.Qp af 1 _,by simp [World.setCell]⟩
structure l4 (rd:Int) (A:Option Addr) (n c:Nat) (aU aL aS:Bool) (w W:World):Prop where
 dV:ar W (w.heap.size) 35 #[.i rd,.slice A n c,.bool aU,.bool aL,.bool aS]
 jQ:ar W (w.heap.size+1) 35 #[.i 0,.slice none 0 0,.bool false,.bool false,.bool false]
 aR:Below w.heap.size w W
theorem l4.below {rd:Int} {A:Option Addr} {n c:Nat} {aU aL aS:Bool} {w W W':World} (h:l4 rd A n c aU aL aS w W) (hb:Below W.heap.size W W'):l4 rd A n c aU aL aS w W':=⟨h.dV.bw hb,h.jQ.bw hb,h.aR.trans (hb.mono h.aR.size)⟩
theorem l4.alloc {rd:Int} {A:Option Addr} {n c:Nat} {aU aL aS:Bool} {w W:World} (h:l4 rd A n c aU aL aS w W) (o:Obj):l4 rd A n c aU aL aS w (W.alloc o):=⟨h.dV.alloc o,h.jQ.alloc o,h.aR.alloc h.aR.size o⟩
theorem l4.drew {rd:Int} {A:Option Addr} {n c:Nat} {aU aL aS:Bool} {w W:World} (h:l4 rd A n c aU aL aS w W):l4 rd A n c aU aL aS w W.drew:=⟨h.dV.drew,h.jQ.drew,h.aR.drew⟩
theorem l4.new (rd:Int) (A:Option Addr) (n c:Nat) (aU aL aS:Bool) (w:World):l4 rd A n c aU aL aS w ((w.alloc (.cells #[.i rd,.slice A n c,.bool aU,.bool aL,.bool aS] 35)).alloc (.cells #[.i 0,.slice none 0 0,.bool false,.bool false,.bool false] 35)):=by
 have gu:(w.alloc (.cells #[.i rd,.slice A n c,.bool aU,.bool aL,.bool aS] 35)).heap.size=w.heap.size+1:=av;have b0:=ar.new w 35 #[.i rd,.slice A n c,.bool aU,.bool aL,.bool aS];have bX:=ar.new (w.alloc (.cells #[.i rd,.slice A n c,.bool aU,.bool aL,.bool aS] 35)) 35 #[.i 0,.slice none 0 0,.bool false,.bool false,.bool false];rw [gu] at bX
 have aR:Below w.heap.size w ((w.alloc (.cells #[.i rd,.slice A n c,.bool aU,.bool aL,.bool aS] 35)).alloc (.cells #[.i 0,.slice none 0 0,.bool false,.bool false,.bool false] 35)):=((aO w.heap.size w).alloc aF _).alloc (by rw [gu];omega) _;exact ⟨(b0.alloc _),bX,aR⟩
theorem l4.ax {rd:Int} {A:Option Addr} {n c:Nat} {aU aL aS:Bool} {w W:World} (h:l4 rd A n c aU aL aS w W) (A2:Option Addr) (n2 c2:Nat):l4 rd A2 n2 c2 aU aL aS w (W.setCell ⟨w.heap.size,1,none⟩ (.slice A2 n2 c2)) :=
 ⟨h.dV.eW 1 _,h.jQ.cF (by show w.heap.size+1≠w.heap.size;omega) _,h.aR.setCell aF _⟩
theorem l4.grown {rd:Int} {A:Option Addr} {n c:Nat} {aU aL aS:Bool} {w W W':World} (h:l4 rd A n c aU aL aS w W) {row:Option Nat} (az:W.grownBy W' row) (bW:∀ k,row=some k->w.heap.size+1<k):l4 rd A n c aU aL aS w W' :=
 ⟨h.dV.grown az (by intro e';have:=bW _ e'.symm;omega),h.jQ.grown az (by intro e';have:=bW _ e'.symm;omega),h.aR.grown az h.aR.size (by intro k hk;have:=bW k hk;omega)⟩
theorem l4.Eu {rd:Int} {A:Option Addr} {n c:Nat} {aU aL aS:Bool} {w W:World} (h:l4 rd A n c aU aL aS w W) {A2:Option Addr} {n2 c2:Nat} {base:Nat} {v:Value} {L:List bj} (ho:Own W base 66 cR v L) (hl:w.heap.size+1<base) :
  ∃ v1,W.setCell ⟨w.heap.size,1,none⟩ (.slice A2 n2 c2)=v1/\l4 rd A2 n2 c2 aU aL aS w v1/\Own v1 base 66 cR v L/\v1.heap.size=W.heap.size:=⟨_,rfl,h.ax A2 n2 c2,ho.Qp af 1 _,by simp [World.setCell]⟩
theorem KZ (rd:Int) (l:List bj) (e:bj) (A:Option Addr) (c:Nat) (aU aL aS:Bool) (w:World) (hr:a7 w cR A l) (hl:l.length<=100000) (hs:fB l) :
  Calls prog 84 #[.agg #[.i rd,.slice A l.length c,.bool aU,.bool aL,.bool aS],.agg #[.string e.aa.id,.i e.aa.prio,.bool e.aa.bo,.i e.aa.bg,.i e.aa.aX,.i e.aa.ba,.i e.aa.bk,.i e.aa.bl,.i e.aa.aW,.string e.aa.bb,.i e.aa.size,.i e.phase]] w (Hf rd aU aL aS (fZ l e) w):=by
 have ao:=J (l3.new rd A l.length c aU aL aS e w);have bx:=J hr;have aP:=J hs;clear hr hs
 go_enter func84,ntmps84
 have cs:=ao.dV.cell;have ce:=ao.q0.cell;go_wp2_with fail;refine (KX rd l e.aa.id A c aU aL aS _ (bx.below ao.aR) af aP).mono ?_;rintro x aC ⟨rfl,hb⟩;have ao:=J (ao.below hb);clear hb cs ce;have cs:=ao.dV.cell;have fs:=ao.dV.frozen;go_wp2_with fail;refine (GK l A c _ (bx.below ao.aR) hl).mono ?_;rintro x aM ⟨A2,c2,rfl,hO,hb⟩;have mU:=J ao.jQ.lt;have ao:=J (ao.below hb);have ff:=hb.size;clear hb cs fs;have gb:=J ff;clear ff;obtain ⟨v1,nR,yH,gV,kr⟩:=ao.Eu (A2:=A2) (n2:=l.length) (c2:=c2) hO mU.out;have K0:=J kr;generalize aC.heap.size=B at *
 have cs:=ao.dV.cell;have fs:=ao.dV.frozen;have bJ:=J gV;have my:=J yH;clear gV yH hO kr
 cases dz:ij l e.aa.id
 ·have qc:=J (show fZ l e=nU l (dQ l e.aa.id) e by unfold fZ;rw [dz];rfl)
  have hle:=Xm l e.aa.id;have kS:=J (show (fZ l e).length=l.length+1 by rw [qc.out];exact Kt l _ _ hle);clear dz;obtain ⟨i,hi⟩:∃ i,i=dQ l e.aa.id:=⟨_,rfl⟩
  rw [<- hi] at hle qc ⊢
  clear hi;have YX:=J (ar.new v1 66 #[.string e.aa.id,.i e.aa.prio,.bool e.aa.bo,.i e.aa.bg,.i e.aa.aX,.i e.aa.ba,.i e.aa.bk,.i e.aa.bl,.i e.aa.aW,.string e.aa.bb,.i e.aa.size,.i e.phase]);have jk:=J (bJ.alloc (.cells #[.string e.aa.id,.i e.aa.prio,.bool e.aa.bo,.i e.aa.bg,.i e.aa.aX,.i e.aa.ba,.i e.aa.bk,.i e.aa.bl,.i e.aa.aW,.string e.aa.bb,.i e.aa.size,.i e.phase] 66));have py:=J (show some v1.heap.size≠(Value.slice A2 l.length c2).ownBlock from fun e'=>by have:=(bJ.iw _ e'.symm).2;omega);have jz:=J (my.alloc (.cells #[.string e.aa.id,.i e.aa.prio,.bool e.aa.bo,.i e.aa.bg,.i e.aa.aX,.i e.aa.ba,.i e.aa.bk,.i e.aa.bl,.i e.aa.aW,.string e.aa.bb,.i e.aa.size,.i e.phase] 66));have iR:=J jk.out;have ce:=ao.q0.cell;have yH:=my.out;have gQ:=my.dV.cell;have K1:=my.q0.cell;clear yH;have YY:Hid (B<=(v1.alloc (.cells #[.string e.aa.id,.i e.aa.prio,.bool e.aa.bo,.i e.aa.bg,.i e.aa.aX,.i e.aa.ba,.i e.aa.bk,.i e.aa.bl,.i e.aa.aW,.string e.aa.bb,.i e.aa.size,.i e.phase] 66)).heap.size):=by show _<=_;have h1:=gb.out;have ah:=K0.out;simp;omega
  go_wp2_with fail;refine (Xw (x:=e) jk YX py YY hl hle).mono ?_;rintro x w3 ⟨b5,c3,rfl,yq,er⟩;have ao:=J (jz.grown er (fun k hk=>by have:=(jk.iw k hk).1;have:=mU.out;omega));clear cs fs ce gQ K1 nR my jz er;obtain ⟨v4,YZ,Ev,oM,xd⟩:=ao.Eu (A2:=b5) (n2:=l.length+1) (c2:=c3) yq mU.out;have cs:=ao.dV.cell;have fs:=ao.dV.frozen;have CS:=J Ev;have Ew:=J oM;have Y0:=CS.dV.cell;have aj6:=J CS.aR.size;clear Ev oM xd yq;have ao:=CS
  go_wp2_with (refine ch rfl 35 (.tmp 4) (.tmp 32) rfl (w.heap.size+1+1) 35 #[.i 0,.slice none 0 0,.bool false,.bool false,.bool false] #[.i rd,.slice b5 (l.length+1) c3,.bool aU,.bool aL,.bool aS] rfl rfl ao.jQ rfl He cc ?_;intro bc bS bP dx)
  have dn:=bS.cell;have dp:Below w.heap.size w bc:=ao.aR.grown bP ao.aR.size dP;exact cS (v:=.agg #[.i rd,.slice b5 (l.length+1) c3,.bool aU,.bool aL,.bool aS]) (by simp [results,results84,go_sem,dn]) rfl ⟨b5,c3,by rw [kS.out],by rw [kS.out,qc.out];exact (Ew.grown bP (.inr fun e'=>by have:=(Ew.iw _ e').1;have:=mU.out;omega)).mono (by have:=mU.out;omega),dp⟩
 ·obtain ⟨aT,_⟩:=yG dz
  have qc:=J (show fZ l e=l.set (dQ l e.aa.id) e by unfold fZ;rw [bB dz]);have kS:=J (show (fZ l e).length=l.length by rw [qc.out,tA]);have bW:l≠[]:=by intro e';subst e';simp at aT
  clear dz;obtain ⟨i,hi⟩:∃ i,i=dQ l e.aa.id:=⟨_,rfl⟩
  rw [<- hi] at aT qc ⊢
  clear hi;obtain ⟨g,yt,iy⟩:=CF bJ.out bW;subst yt;have gQ:=my.dV.cell;have K1:=my.q0.cell;have cg:(i:Int)<(l.length:Int):=af
  go_wp2_with (first|(refine Yj rfl 66 (.tmp 24) (.tmp 23) rfl g c2 e #[.string e.aa.id,.i e.aa.prio,.bool e.aa.bo,.i e.aa.bg,.i e.aa.aX,.i e.aa.ba,.i e.aa.bk,.i e.aa.bl,.i e.aa.aW,.string e.aa.bb,.i e.aa.size,.i e.phase] (by first|rfl|simp) rfl bJ.out aT rfl YV ?_;intro w3 ho az _;have kV:=J ho;have ao:=J (my.grown az (fun k hk=>by injection hk with hk;have:=mU.out;omega));clear ho az cs fs gQ K1 nR;have aj7:=ao.dV.cell)|(refine ch rfl 35 (.tmp 4) (.tmp 32) rfl (w.heap.size+1+1) 35 #[.i 0,.slice none 0 0,.bool false,.bool false,.bool false] #[.i rd,.slice (some ⟨g,0,none⟩) l.length c2,.bool aU,.bool aL,.bool aS] rfl rfl ao.jQ rfl He cc ?_;intro bc bS bP dx))
  have dn:=bS.cell;have dp:Below w.heap.size w bc:=ao.aR.grown bP ao.aR.size dP;exact cS (v:=.agg #[.i rd,.slice (some ⟨g,0,none⟩) l.length c2,.bool aU,.bool aL,.bool aS]) (by simp [results,results84,go_sem,dn]) rfl ⟨some ⟨g,0,none⟩,c2,by rw [kS.out],by rw [kS.out,qc.out];exact (kV.grown bP (.inr fun e'=>by have:=(kV.iw _ e').1;have:=mU.out;omega)).mono (by have:=mU.out;omega),dp⟩
theorem Hg (rd:Int) (l:List bj) (s:ByteArray) (A:Option Addr) (c:Nat) (aU aL aS:Bool) (w:World) (hr:a7 w cR A l) (hl:l.length<=100000) (hs:fB l) :
  Calls prog 83 #[.agg #[.i rd,.slice A l.length c,.bool aU,.bool aL,.bool aS],.string s] w (Hf rd aU aL aS (im l s) w):=by
 have ao:=J (l4.new rd A l.length c aU aL aS w);have bx:=J hr;have aP:=J hs;clear hr hs
 go_enter func83,ntmps83
 have cs:=ao.dV.cell;go_wp2_with fail;refine (KX rd l s A c aU aL aS _ (bx.below ao.aR) af aP).mono ?_;rintro x aC ⟨rfl,hb⟩;have ao:=J (ao.below hb);clear hb cs;have cs:=ao.dV.cell;have fs:=ao.dV.frozen;go_wp2_with fail;refine (GK l A c _ (bx.below ao.aR) hl).mono ?_;rintro x aM ⟨A2,c2,rfl,hO,hb⟩;have mU:=J ao.jQ.lt;have ao:=J (ao.below hb);clear hb cs fs;obtain ⟨v1,nR,yH,gV,kr⟩:=ao.Eu (A2:=A2) (n2:=l.length) (c2:=c2) hO mU.out;generalize aC.heap.size=B at *
 have cs:=ao.dV.cell;have fs:=ao.dV.frozen;have bJ:=J gV;have my:=J yH;clear gV yH hO kr
 cases dz:ij l s
 ·have qc:=J (show im l s=l by unfold im;rw [dz];rfl)
  clear dz;have gQ:=my.dV.cell;have ao:=my
  go_wp2_with (refine ch rfl 35 (.tmp 4) (.tmp 25) rfl (w.heap.size+1) 35 #[.i 0,.slice none 0 0,.bool false,.bool false,.bool false] #[.i rd,.slice A2 l.length c2,.bool aU,.bool aL,.bool aS] rfl rfl ao.jQ rfl He cc ?_;intro bc bS bP dx)
  have dn:=bS.cell;have dp:Below w.heap.size w bc:=ao.aR.grown bP ao.aR.size dP;exact cS (v:=.agg #[.i rd,.slice A2 l.length c2,.bool aU,.bool aL,.bool aS]) (by simp [results,results83,go_sem,dn]) rfl ⟨A2,c2,by rw [qc.out],by rw [qc.out];exact (bJ.grown bP (.inr fun e'=>by have:=(bJ.iw _ e').1;have:=mU.out;omega)).mono (by have:=mU.out;omega),dp⟩
 ·obtain ⟨aT,_⟩:=yG dz
  have qc:=J (show im l s=nz l (dQ l s) by unfold im;rw [bB dz]);have kS:=J (show (im l s).length=l.length-1 by rw [qc.out];exact GJ _ _ aT);clear dz;obtain ⟨i,hi⟩:∃ i,i=dQ l s:=⟨_,rfl⟩
  rw [<- hi] at aT qc ⊢
  clear hi;have cU:IntKind.i64.wrap ((i:Int)+1)=(i:Int)+1:=by rw [mS];omega
  have gQ:=my.dV.cell;go_wp2_with fail;refine (Xo bJ hl aT).mono ?_;rintro x w3 ⟨b5,c3,rfl,yq,er⟩;have ao:=J (my.grown er (fun k hk=>by have:=(bJ.iw k hk).1;have:=mU.out;omega));clear cs fs gQ nR my er;obtain ⟨v4,YZ,Ev,oM,xd⟩:=ao.Eu (A2:=b5) (n2:=l.length-1) (c2:=c3) yq mU.out;have cs:=ao.dV.cell;have fs:=ao.dV.frozen;have CS:=J Ev;have Ew:=J oM;have Y0:=CS.dV.cell;clear Ev oM xd yq;have ao:=CS
  go_wp2_with (refine ch rfl 35 (.tmp 4) (.tmp 25) rfl (w.heap.size+1) 35 #[.i 0,.slice none 0 0,.bool false,.bool false,.bool false] #[.i rd,.slice b5 (l.length-1) c3,.bool aU,.bool aL,.bool aS] rfl rfl ao.jQ rfl He cc ?_;intro bc bS bP dx)
  have dn:=bS.cell;have dp:Below w.heap.size w bc:=ao.aR.grown bP ao.aR.size dP;exact cS (v:=.agg #[.i rd,.slice b5 (l.length-1) c3,.bool aU,.bool aL,.bool aS]) (by simp [results,results83,go_sem,dn]) rfl ⟨b5,c3,by rw [kS.out],by rw [kS.out,qc.out];exact (Ew.grown bP (.inr fun e'=>by have:=(Ew.iw _ e').1;have:=mU.out;omega)).mono (by have:=mU.out;omega),dp⟩
def ir (a b c:Bool) (k:Nat):Int:=(if (a&&decide (0<k))=true then 1 else 0)+(if (b&&decide (1<k))=true then 2 else 0)+(if (c&&decide (2<k))=true then 4 else 0)
def K2 (a b c:Bool):UInt8:=UInt8.ofNat (ir a b c 3).toNat
theorem Y1 (a b c:Bool):0<=ir a b c 3/\ir a b c 3<=7:=by cases a <;> cases b <;> cases c <;> exact ⟨ak,ak⟩
theorem Y2 (a b c:Bool):((K2 a b c).toNat:Int)=ir a b c 3:=by cases a <;> cases b <;> cases c <;> rfl
def Hh (e:bj):List UInt8:=UInt8.ofNat e.phase.toNat :: e.aa.bytes
def pC:List bj->List UInt8
 | []=>[]
 | e :: l=>Hh e++pC l
theorem Y3 (l m:List bj):pC (l++m)=pC l++pC m:=by
 induction l with
 | nil=>rfl
 | cons e l b6=>simp [pC,b6]
theorem Y4 (l:List bj) (i:Nat) (hi:i<l.length):pC (l.take (i+1))=pC (l.take i)++Hh l[i]:=by
 rw [gS hi,Y3];simp [pC]
def CT (rd:Int) (a b c:Bool) (n:Nat):List UInt8:=word rd++[K2 a b c,UInt8.ofNat n]
def AO (rd:Int) (a b c:Bool) (l:List bj):List UInt8:=CT rd a b c l.length++pC l
theorem Qi (rd:Int) (a b c:Bool) (n:Nat):(CT rd a b c n).length=10:=by unfold CT word;rw [cd,G5];rfl
theorem Qq {p:aQ} (h:p.right=true):p.bytes.length<=115/\3<=p.bytes.length:=by
 obtain ⟨aI,h1⟩:=p.P5 h;have iz:p.id.data.toList.length=p.id.size:=mm (xs:=p.id.data);have aV:p.bb.data.toList.length=p.bb.size:=mm (xs:=p.bb.data);unfold aQ.bytes vF;simp only [cd,cy,dD,aQ.P0,iz,aV];omega
theorem Qh {l:List bj} (h:∀ x∈l,x.aa.right=true):(pC l).length<=116*l.length:=by
 induction l with
 | nil=>simp [pC]
 | cons e l b6 =>
  have h1:=(Qq (h e av)).1;have ah:=b6 fun x hx=>h x (by simp [hx])
  simp only [pC,Hh,cd,cy];omega
theorem jb.each {rd:Int} {l:List bj} (h:jb rd l):∀ x∈l,x.aa.right=true/\1<=x.phase/\x.phase<=3:=fun x hx=>by
 obtain ⟨i,hi,rfl⟩:=pj hx;exact KT (h.ok i hi hi).r
theorem Y5 (n:Int) (j:Nat) (aD:j<8):(word n).take (j+1)=(word n).take j++[qZ n (7-j)]:=by
 rw [List.take_add_one]
 congr 1
 unfold word;rw [P2 _ 8 j aD]
 rfl
theorem K3 (n:Int):(word n).length=8:=G5 n 8
theorem jb.Y6 {rd:Int} {l:List bj} (h:jb rd l):(true:Bool)=true↔jb rd l:=⟨fun _=>h,fun _=>rfl⟩
def Y7 (L:List UInt8) (w:World) (e:Ending) (w':World):Prop:=∃ (A:Option Addr) (c:Nat),e=.returned (.tuple #[.slice A L.length c,.i 0])/\Own w' w.heap.size 5 cO (.slice A L.length c) L/\Below w.heap.size w w'
theorem Qr (rd:Int) (l:List bj) (h:jb rd l) (A:Option Addr) (c:Nat) (aU aL aS:Bool) (w:World) (hr:a7 w cR A l) (hw:∀ x∈l,x.aa.fe) :
  Calls prog 128 #[.agg #[.i rd,.slice A l.length c,.bool aU,.bool aL,.bool aS]] w (Y7 (AO rd aU aL aS l) w):=by
 have ao:=J (oL.new rd A l c aU aL aS w);have bx:=J hr;have fk:=J hw;have bs:=J h;have Qs:=J h.each;have hlen:=h.len;have kW:=J (ae h.lI h.hi);clear hr hw h
 go_enter func128,ntmps128
 have cs:=ao.dV.cell;go_wp2_with fail;refine (YL (v:=true) (jb.Y6 bs) A c aU aL aS _ (bx.below ao.aR) fk af).mono ?_;rintro e gF ⟨rfl,hb⟩;have ao:=J (ao.below hb);clear hb cs;have Ex:=J (bx.below ao.aR);have Hi:=ao;have Y8:=Ex;have aj8:=ao;have Y9:0<=rd:=kW.1;have Y':rd<=1099511627776:=kW.2;go_wp2_with fail
 go_loopw [4,5] (fun b s jy=>∃ (j:Nat) (bz:Option Addr) (c1:Nat),j<=8/\s=.i (56-8*(j:Int))/\b=.slice bz ((word rd).take j).length c1/\Own jy gF.heap.size 5 cO (.slice bz ((word rd).take j).length c1) ((word rd).take j)/\Below gF.heap.size gF jy) (fun _ s _=>(intOf s+8).toNat)
 case atStart=>exact ⟨0,none,0,af,rfl,rfl,Own.e8 _ _ _ _,aO _ _⟩
 case round =>
  obtain ⟨j,bz,c1,aD,rfl,rfl,ho,du⟩:=hrel;have ap:=J (ae ho du);clear ho du
  by_cases AK:j<8
  ·have dj:decide (8*(j:Int)<=56)=true:=bO af
   have cs:=(ao.below ap.2).dV.cell;have cC:=J (Y5 rd j AK);have hl:((word rd).take j).length<=8:=by rw [fv];omega
   have yI:Hid (a7 (wr.alloc (.cells #[.int .u8 (rd / 2 ^ (56-8*j) % 256)] 5)) cO (some ⟨wr.heap.size,0,none⟩) [qZ rd (7-j)]):=a7.made _ _ _ _ _ _ (by rw [s7,P3 _ _ AK];rfl);have bJ:=J (ap.1.alloc (.cells #[.int .u8 (rd / 2 ^ (56-8*j) % 256)] 5));have aA:=J (ap.2.alloc ap.2.size (.cells #[.int .u8 (rd / 2 ^ (56-8*j) % 256)] 5));generalize (word rd).take j=S at *
   go_wp2_with (at_builtin;refine hW tG cO rfl (.tmp 20) (.tmp 26) rfl gF.heap.size _ S rfl bJ (some ⟨wr.heap.size,0,none⟩) [qZ rd (7-j)] 1 rfl yI (by simp;omega) (by simp;omega) aA.size ?_;intro A2 c2 aM ho az _;have aB:=J ho;have bG:=J (bJ.jX aA az aF aA.size);clear ho az)
   go_roundw
   case rel=>exact ⟨j+1,A2,c2,af,cm,by rw [cC.out,cd];rfl,by rw [cC.out,cd];exact aB.out,bG.out⟩
   case measure=>exact c4
  ·obtain rfl:j=8:=by omega
   rw [pB (by rw [K3];omega)] at ap ⊢
   have sa:=K3 rd;have ao:=J (ao.below ap.2);have Ex:=J (Ex.below ap.2);have cs:=ao.dV.cell;have sb:bits .or .i64 0 1=1:=ak;have se:bits .or .i64 0 2=2:=ak;have sf:bits .or .i64 1 2=3:=ak;have aj9:bits .or .i64 0 4=4:=ak;have aka:bits .or .i64 1 4=5:=ak;have akb:bits .or .i64 2 4=6:=ak;have akc:bits .or .i64 3 4=7:=ak;go_wp2_with fail
   go_loopw [6,30] (fun on ii Ey=>∃ (i:Nat) (z:Int),i<=3/\ii=.i i/\on=.i z/\z=ir aU aL aS i/\Below wr.heap.size wr Ey) (fun _ ii _=>3-(intOf ii).toNat)
   case atStart=>exact ⟨0,0,af,rfl,rfl,by simp [ir],aO _ _⟩
   case round =>
    obtain ⟨i,z,hi,rfl,rfl,bI,du⟩:=hrel;have gG:=J du;clear du;obtain rfl|rfl|rfl|rfl:i=0\/i=1\/i=2\/i=3:=af
    ·cases aU
     ·obtain rfl:z=0:=by simpa [ir] using bI
      clear bI;go_wp2_with fail
      go_roundw
      case rel=>exact ⟨1,0,af,aH,rfl,by first|rfl|simp [ir],gG.out⟩
      case measure=>exact ef
     ·obtain rfl:z=0:=by simpa [ir] using bI
      clear bI;go_wp2_with fail
      go_roundw
      case rel=>exact ⟨1,1,af,aH,rfl,by first|rfl|simp [ir],gG.out⟩
      case measure=>exact ef
    ·cases aU
     ·cases aL
      ·obtain rfl:z=0:=by simpa [ir] using bI
       clear bI;go_wp2_with fail
       go_roundw
       case rel=>exact ⟨2,0,af,aH,rfl,by first|rfl|simp [ir],gG.out⟩
       case measure=>exact ef
      ·obtain rfl:z=0:=by simpa [ir] using bI
       clear bI;go_wp2_with fail
       go_roundw
       case rel=>exact ⟨2,2,af,aH,rfl,by first|rfl|simp [ir],gG.out⟩
       case measure=>exact ef
     ·cases aL
      ·obtain rfl:z=1:=by simpa [ir] using bI
       clear bI;go_wp2_with fail
       go_roundw
       case rel=>exact ⟨2,1,af,aH,rfl,by first|rfl|simp [ir],gG.out⟩
       case measure=>exact ef
      ·obtain rfl:z=1:=by simpa [ir] using bI
       clear bI;go_wp2_with fail
       go_roundw
       case rel=>exact ⟨2,3,af,aH,rfl,by first|rfl|simp [ir],gG.out⟩
       case measure=>exact ef
    ·cases aU
     ·cases aL
      ·cases aS
       ·obtain rfl:z=0:=by simpa [ir] using bI
        clear bI;go_wp2_with fail
        go_roundw
        case rel=>exact ⟨3,0,af,aH,rfl,by first|rfl|simp [ir],gG.out⟩
        case measure=>exact ef
       ·obtain rfl:z=0:=by simpa [ir] using bI
        clear bI;go_wp2_with fail
        go_roundw
        case rel=>exact ⟨3,4,af,aH,rfl,by first|rfl|simp [ir],gG.out⟩
        case measure=>exact ef
      ·cases aS
       ·obtain rfl:z=2:=by simpa [ir] using bI
        clear bI;go_wp2_with fail
        go_roundw
        case rel=>exact ⟨3,2,af,aH,rfl,by first|rfl|simp [ir],gG.out⟩
        case measure=>exact ef
       ·obtain rfl:z=2:=by simpa [ir] using bI
        clear bI;go_wp2_with fail
        go_roundw
        case rel=>exact ⟨3,6,af,aH,rfl,by first|rfl|simp [ir],gG.out⟩
        case measure=>exact ef
     ·cases aL
      ·cases aS
       ·obtain rfl:z=1:=by simpa [ir] using bI
        clear bI;go_wp2_with fail
        go_roundw
        case rel=>exact ⟨3,1,af,aH,rfl,by first|rfl|simp [ir],gG.out⟩
        case measure=>exact ef
       ·obtain rfl:z=1:=by simpa [ir] using bI
        clear bI;go_wp2_with fail
        go_roundw
        case rel=>exact ⟨3,5,af,aH,rfl,by first|rfl|simp [ir],gG.out⟩
        case measure=>exact ef
      ·cases aS
       ·obtain rfl:z=3:=by simpa [ir] using bI
        clear bI;go_wp2_with fail
        go_roundw
        case rel=>exact ⟨3,3,af,aH,rfl,by first|rfl|simp [ir],gG.out⟩
        case measure=>exact ef
       ·obtain rfl:z=3:=by simpa [ir] using bI
        clear bI;go_wp2_with fail
        go_roundw
        case rel=>exact ⟨3,7,af,aH,rfl,by first|rfl|simp [ir],gG.out⟩
        case measure=>exact ef
    ·have kP:=Y1 aU aL aS
     rw [<- bI] at kP
     obtain ⟨iP,akd⟩:=kP;have cq:=J ((Y2 aU aL aS).trans bI.symm);clear bI;obtain ⟨x,hx⟩:=aE (K2 aU aL aS);obtain ⟨y,hy⟩:∃ y:UInt8,UInt8.ofNat l.length=y:=⟨_,rfl⟩
     have Za:(y.toNat:Int)=(l.length:Int):=by rw [<- hy,tF];omega
     have Zb:(x.toNat:Int)=z:=by rw [<- hx];exact cq.out
     have f1:IntKind.u8.wrap z=(x.toNat:Int):=by unfold IntKind.wrap;simp [IntKind.bits,IntKind.signed];omega
     have f2:IntKind.u8.wrap (l.length:Int)=(y.toNat:Int):=by unfold IntKind.wrap;simp [IntKind.bits,IntKind.signed];omega
     have fz:Hid (word rd++[x,y]=CT rd aU aL aS l.length):=by show _=_;unfold CT;rw [hx,hy]
     clear hx hy Za Zb;have ao:=J (ao.below gG);have ap:=J (ae (ap.1.below gG aF) (vk ap.2 gG));have Ex:=J (Ex.below gG);clear gG cs;have cs:=ao.dV.cell
     rename World=>Ey
     have yI:Hid (a7 (Ey.alloc (.cells #[.int .u8 x.toNat,.int .u8 y.toNat] 5)) cO (some ⟨Ey.heap.size,0,none⟩) [x,y]):=a7.made _ _ _ _ _ _ rfl;have bJ:=J (ap.1.alloc (.cells #[.int .u8 x.toNat,.int .u8 y.toNat] 5));have aA:=J (ap.2.alloc ap.2.size (.cells #[.int .u8 x.toNat,.int .u8 y.toNat] 5));have ake:=J (ao.alloc (.cells #[.int .u8 x.toNat,.int .u8 y.toNat] 5));have Qt:(word rd).length=8:=K3 rd;have CU:=J (Qi rd aU aL aS l.length);generalize word rd=Qu at *
     go_wp2_with (at_builtin;refine hW tG cO rfl (.tmp 40) (.tmp 47) rfl gF.heap.size _ Qu rfl bJ (some ⟨Ey.heap.size,0,none⟩) [x,y] 2 rfl yI (by simp;omega) (by simp;omega) aA.size ?_;intro A2 c2 aM ho az _;have aB:=J ho;have bG:=J (bJ.jX aA az aF aA.size);have ao:=J (Hi.below bG);clear ho az cs;have cs:=ao.dV.cell)
     rw [fz.out] at aB
     obtain ⟨bq,Hj⟩:∃ h,h=CT rd aU aL aS l.length:=⟨_,rfl⟩
     have Hk:bq.length=10:=by rw [Hj];exact CU.out
     have Zc:=J Hj;rw [<- Hj] at aB
     have nC:Hid (Own aM gF.heap.size 5 cO (.slice A2 bq.length c2) bq):=by
      have h:=aB.out;rw [Hk];have e:Qu.length + [x,y].length=10:=by rw [Qt];rfl
      rw [e] at h
      exact h
     clear Hj fz aB
     go_loopw [4,52] (fun b ii wv=>∃ (i:Nat) (S:List UInt8) (b5:Option Addr) (c3:Nat),i<=l.length/\ii=.i i/\b=.slice b5 S.length c3/\S=bq++pC (l.take i)/\Own wv gF.heap.size 5 cO (.slice b5 S.length c3) S/\Below gF.heap.size gF wv) (fun _ ii _=>l.length-(intOf ii).toNat)
     case atStart=>exact ⟨0,bq,A2,c2,af,rfl,by first|rfl|(rw [Hk,Qt];rfl)|(simp [Hk]),by simp [pC],nC.out,bG.out⟩
     case round =>
      obtain ⟨i,S,b5,c3,hi,rfl,rfl,hS,ho,du⟩:=hrel;have G3:S.length<=8000:=by
       rw [hS,cd,Hk];have:=Qh (l:=l.take i) fun x hx=>(Qs.out x (Ez hx)).1
       rw [fv] at this
       omega
      have aP:=J hS;have ap:=J (ae ho du);have Zd:=J (Hi.below du);have Ze:=J (Y8.below du);clear hS ho du;have cs:=Zd.dV.cell
      by_cases aT:i<l.length
      ·obtain ⟨b,off,hA,_⟩:=bx.jM aT
       obtain rfl:A=some ⟨b,off,none⟩:=hA;have cg:decide ((i:Int)<(l.length:Int))=true:=bO af;have lG:(i:Int)<(l.length:Int):=af;have oC:=J (dF aT);have wW:=J (Y4 l i aT);have vG:=J (fk.out _ (iO aT));have hz:=J (Qs.out _ (iO aT));generalize l[i]=e at *
       obtain ⟨dK,c8,dT,hj,jt,o8,oD,o9,pa,pb,pc,vh⟩:=Ze.wT (aO _ _) oC.out;have bC:=J (ar.new wr 66 #[.string e.aa.id,.i e.aa.prio,.bool e.aa.bo,.i e.aa.bg,.i e.aa.aX,.i e.aa.ba,.i e.aa.bk,.i e.aa.bl,.i e.aa.aW,.string e.aa.bb,.i e.aa.size,.i e.phase]);have ap:=J (ae (ap.1.alloc (.cells #[.string e.aa.id,.i e.aa.prio,.bool e.aa.bo,.i e.aa.bg,.i e.aa.aX,.i e.aa.ba,.i e.aa.bk,.i e.aa.bl,.i e.aa.aW,.string e.aa.bb,.i e.aa.size,.i e.phase] 66)) (ap.2.alloc ap.2.size (.cells #[.string e.aa.id,.i e.aa.prio,.bool e.aa.bo,.i e.aa.bg,.i e.aa.aX,.i e.aa.ba,.i e.aa.bk,.i e.aa.bl,.i e.aa.aW,.string e.aa.bb,.i e.aa.size,.i e.phase] 66)));go_wp2_with fail;refine (YF e.aa _ vG hz.1).mono ?_;rintro q w3 ⟨oN,fA,rfl,oM,hb⟩;have Zf:=J (pA.later ap.1 oM);have bC:=J (bC.bw hb);have ap:=J (ae (ap.1.below hb aF) (vk ap.2 hb));have tL:=J oM;have akf:=(Qq hz.1).1;clear oM hb cs dK  c8  dT  hj  jt  o8  oD  o9  pa  pb  pc  vh;obtain ⟨x,hx⟩:∃ x:UInt8,UInt8.ofNat e.phase.toNat=x:=⟨_,rfl⟩
       have f1:IntKind.u8.wrap e.phase=(x.toNat:Int):=by
        have h1:=hz.2.1;have ah:=hz.2.2;have aw:(x.toNat:Int)=e.phase:=by rw [<- hx,tF];omega
        rw [aw];unfold IntKind.wrap;simp [IntKind.bits,IntKind.signed];omega
       have lm:Hid ((S++[x])++e.aa.bytes=bq++pC (l.take (i+1))):=by show _=_;rw [wW.out,aP.out];unfold Hh;rw [hx];simp
       clear hx;have ce:=bC.cell;have yI:Hid (a7 (w3.alloc (.cells #[.int .u8 x.toNat] 5)) cO (some ⟨w3.heap.size,0,none⟩) [x]):=a7.made _ _ _ _ _ _ rfl;have bJ:=J (ap.1.alloc (.cells #[.int .u8 x.toNat] 5));have aA:=J (ap.2.alloc ap.2.size (.cells #[.int .u8 x.toNat] 5));have tL:=J (tL.alloc (.cells #[.int .u8 x.toNat] 5));generalize e.aa.bytes=BY at *
       go_wp2_with (first
        | (at_builtin;refine hW tG cO rfl (.tmp 62) (.tmp 66) rfl gF.heap.size _ S rfl bJ (some ⟨w3.heap.size,0,none⟩) [x] 1 rfl yI (by simp;omega) (by simp;omega) aA.size ?_;intro hQ c5 bc ho az _;have xj:=J ho;have dp:=J (bJ.jX aA az aF aA.size);have Zg:=J (tL.grown az Zf.ne).cZ;clear ho az)
        | (at_builtin;refine hW tG cO rfl (.tmp 67) (.tmp 68) rfl gF.heap.size _ (S++[x]) rfl xj oN BY fA rfl Zg (by simp;omega) (by simp;omega) dp.size ?_;intro hB dG bm ho az _;have j2:=J ho;have tM:=J (xj.jX dp az aF dp.size);clear ho az))
       go_roundw
       case rel=>exact ⟨i+1,(S++[x])++BY,hB,dG,af,cm,by rw [cd,cd];rfl,lm.out,by have h:=j2.out;rw [show ((S++[x])++BY).length=(S++[x]).length+BY.length from cd];exact h,tM.out⟩
       case measure=>exact c4
      ·obtain rfl:i=l.length:=by omega
       have cg:decide ((l.length:Int)<(l.length:Int))=false:=av;have bC:=J (show S=AO rd aU aL aS l by have h:=aP.out;rw [kn] at h;rw [h,Zc.out];rfl);go_wp2_with fail
       go_ret2
       exact ⟨b5,c3,by rw [<- bC.out];rfl,by rw [<- bC.out];exact ap.1.mono Hi.aR.size,(Hi.below ap.2).aR⟩
end Go.Proofs.YtmmchlfoplcnbaaGreatDoor
