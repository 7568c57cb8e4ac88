/- A part of the walk. -/
import Derived.Deep.RegionLaw
import Derived.Test.YtmmchlfoplcnbaaGreatDoorMA3
import Derived.Test.YtmmchlfoplcnbaaGreatDoorMA2
namespace Go.Proofs.YtmmchlfoplcnbaaGreatDoor
open Go Go.RowKit Tryz
set_option linter.all false
set_option maxRecDepth 100000
set_option maxHeartbeats 4000000
structure cr where
 a:Int
 b:Int
 c:Int
def cr.add (s:cr) (p:aQ):cr:=⟨eg s.a p.bg,eg s.b p.aX,eg s.c p.ba⟩
def l5 (l:List aQ):cr:=l.foldl cr.add ⟨0,0,0⟩
theorem Zq (l:List aQ) (k:Nat) (h:k<l.length):l5 (l.take (k+1))=(l5 (l.take k)).add l[k]:=by
 unfold l5;rw [gS h,vL]
 rfl
def cr.part (s:cr) (p:aQ):Nat->cr
 | 0=>s
 | 1=>⟨eg s.a p.bg,s.b,s.c⟩
 | 2=>⟨eg s.a p.bg,eg s.b p.aX,s.c⟩
 | _=>s.add p
def cr.ok (s:cr):Prop:=c' s.a/\c' s.b/\c' s.c
theorem cr.Zr (s:cr) (p:aQ) (hs:s.ok) (hp:p.fe):(s.add p).ok:=⟨KR _ _ hs.1 hp.bg,KR _ _ hs.2.1 hp.aX,KR _ _ hs.2.2 hp.ba⟩
theorem Zs (l:List aQ) (h:∀ p∈l,p.fe):(l5 l).ok:=by
 unfold l5;have key:∀ (l:List aQ) (s:cr),s.ok->(∀ p∈l,p.fe)->(l.foldl cr.add s).ok:=by
  intro l
  induction l with
  | nil=>intro s hs _;exact hs
  | cons p l b6=>intro s hs h;exact b6 _ (cr.Zr s p hs (h p av)) fun q bd=>h q (by simp [bd])
 exact key l _ ⟨by show c' 0;unfold c';omega,by show c' 0;unfold c';omega,by show c' 0;unfold c';omega⟩ h
abbrev cr.cells (s:cr):Array Value:=#[.i s.a,.i s.b,.i s.c]
theorem Zt:(prog.info? 23).map (·.size)=some 3:=ai
theorem Zu (s:cr):(s.cells.all (·.oneCell'))=true:=cc
theorem Zv (l:List aQ) (A:Option Addr) (c:Nat) (w:World) (hr:a7 w gv A l) (q1:∀ p∈l,p.fe) (hn:l.length<=140737488355328) :
  Calls prog 172 #[.slice A l.length c] w fun e w'=>e=.returned (.agg (l5 l).cells)/\Below w.heap.size w w':=by
 have bx:=J hr;have fk:=J q1;clear hr q1
 go_enter func172,ntmps172
 go_wp2_with fail;have z0:(w.alloc (.cells (cr.mk 0 0 0).cells 23)).heap.size=w.heap.size+1:=av;have gD:Hid (ar ((w.alloc (.cells (cr.mk 0 0 0).cells 23)).alloc (.cells (cr.mk 0 0 0).cells 23)) w.heap.size 23 (cr.mk 0 0 0).cells/\ar ((w.alloc (.cells (cr.mk 0 0 0).cells 23)).alloc (.cells (cr.mk 0 0 0).cells 23)) (w.heap.size+1) 23 (cr.mk 0 0 0).cells/\Below w.heap.size w ((w.alloc (.cells (cr.mk 0 0 0).cells 23)).alloc (.cells (cr.mk 0 0 0).cells 23))) :=
  ⟨(ar.new _ _ _).alloc _,by rw [<- z0];exact ar.new _ _ _,((aO _ _).alloc aF _).alloc av _⟩
 clear z0
 go_loopw [10] (fun i wr=>∃ k:Nat,k<=l.length/\i=.i k/\ar wr w.heap.size 23 (cr.mk 0 0 0).cells/\ar wr (w.heap.size+1) 23 (l5 (l.take k)).cells/\Below w.heap.size w wr) (fun i _=>l.length-(intOf i).toNat)
 case atStart=>exact ⟨0,af,rfl,gD.1,gD.2.1,gD.2.2⟩
 case round =>
  clear gD;obtain ⟨k,hk,rfl,hR,hS,bM⟩:=hrel
  by_cases aT:k<l.length
  ·obtain ⟨b,off,rfl,hb,hcell⟩:=bx.at_ aT
   have cg:decide ((k:Int)<(l.length:Int))=true:=bO af;have lG:(k:Int)<(l.length:Int):=af;have Qx:wr.rangeAt b (off+k*11) l[k].cells.toList:=fun j v hv=>(bM.cell (p:=⟨b,off+k*11+j,none⟩) hb).trans (a7.range aT hcell j v hv)
   have jR:=Zq l k aT;have tN:=fk.out l[k] (iO aT);have Qy:=Zs (l.take k) fun p hp=>fk.out p (Ez hp)
   generalize l[k]=p at *
   generalize l5 (l.take k)=s at *
   have H:=J (ae hR (ae hS (ae bM (ae Qx (ae jR Qy)))));have vo:=J tN;clear hR hS bM hcell Qx jR tN Qy
   go_wp2_with (first|(refine wpList_load_mid rfl 40 (.tmp 12) rfl b (off+k*11) rfl p.cells.toList _ H.2.2.2.1 underlying40 rfl PT ?_)|(refine ch rfl 40 (.tmp 5) (.tmp 13) rfl wr.heap.size 40 Yk p.cells rfl rfl (ar.new _ _ _) rfl PT (cells_one p) ?_;intro bc Hm bP dx;have nD:bc.cell? ⟨wr.heap.size,3,none⟩=some (.i p.bg):=Hm.cell 3;have sg:bc.cell? ⟨wr.heap.size,4,none⟩=some (.i p.aX):=Hm.cell 4;have xk:bc.cell? ⟨wr.heap.size,5,none⟩=some (.i p.ba):=Hm.cell 5;have b4:=J bP;clear bP Hm))
   have bS:ar bc w.heap.size 23 (cr.mk 0 0 0).cells:=(H.1.alloc _).grown b4.out (by have:=H.1.lt;intro e;injection e with e;omega);have Qz:ar bc (w.heap.size+1) 23 s.cells:=(H.2.1.alloc _).grown b4.out (by have:=H.2.1.lt;intro e;injection e with e;omega);have Hn:Below w.heap.size w bc:=(H.2.2.1.alloc H.2.2.1.size _).grown b4.out (by have:=H.2.2.1.size;simp;omega) (by intro g az;injection az with az;have:=H.2.2.1.size;omega);have hX:=J (ae bS (ae Qz Hn));clear bS Qz Hn b4 dx nD sg xk
   go_loopw [16] (fun i jy=>∃ j:Nat,j<=3/\i=.i j/\ar jy w.heap.size 23 (cr.mk 0 0 0).cells/\ar jy (w.heap.size+1) 23 (s.part p j).cells/\Below w.heap.size w jy) (fun i _=>3-(intOf i).toNat)
   case atStart=>exact ⟨0,af,rfl,hX.1,hX.2.1,hX.2.2⟩
   case round =>
    clear hX;obtain ⟨j,aD,rfl,hR,hS,bM⟩:=hrel;obtain rfl|rfl|rfl|rfl:j=0\/j=1\/j=2\/j=3:=af
    ·have cs:wr.cell? ⟨w.heap.size+1,0,none⟩=some (.i s.a):=hS.cell 0
     have fs:wr.frozen? ⟨w.heap.size+1,0,none⟩=false:=hS.frozen 0;have lM:=hR.cF (p:=⟨w.heap.size+1,0,none⟩) av (.i (eg s.a p.bg));have kf:ar (wr.setCell ⟨w.heap.size+1,0,none⟩ (.i (eg s.a p.bg))) (w.heap.size+1) 23 (s.part p 1).cells:=hS.eW 0 _;have iB:=bM.setCell (p:=⟨w.heap.size+1,0,none⟩) av (.i (eg s.a p.bg));have fz:=J (ae lM (ae kf iB));have q2:=H.2.2.2.2.2.1;clear hR hS bM lM kf iB;go_wp2_with fail;refine (CP _ _ _ q2 vo.bg).mono ?_;rintro e bm ⟨rfl,rfl⟩;go_wp2_with fail
     go_roundw
     case rel=>exact ⟨1,af,rfl,fz.1,fz.2.1,fz.2.2⟩
     case measure=>exact ef
    ·have cs:wr.cell? ⟨w.heap.size+1,1,none⟩=some (.i s.b):=hS.cell 1
     have fs:wr.frozen? ⟨w.heap.size+1,1,none⟩=false:=hS.frozen 1;have lM:=hR.cF (p:=⟨w.heap.size+1,1,none⟩) av (.i (eg s.b p.aX));have kf:ar (wr.setCell ⟨w.heap.size+1,1,none⟩ (.i (eg s.b p.aX))) (w.heap.size+1) 23 (s.part p 2).cells:=hS.eW 1 _;have iB:=bM.setCell (p:=⟨w.heap.size+1,1,none⟩) av (.i (eg s.b p.aX));have fz:=J (ae lM (ae kf iB));have q2:=H.2.2.2.2.2.2.1;clear hR hS bM lM kf iB;go_wp2_with fail;refine (CP _ _ _ q2 vo.aX).mono ?_;rintro e bm ⟨rfl,rfl⟩;go_wp2_with fail
     go_roundw
     case rel=>exact ⟨2,af,rfl,fz.1,fz.2.1,fz.2.2⟩
     case measure=>exact ef
    ·have cs:wr.cell? ⟨w.heap.size+1,2,none⟩=some (.i s.c):=hS.cell 2
     have fs:wr.frozen? ⟨w.heap.size+1,2,none⟩=false:=hS.frozen 2;have lM:=hR.cF (p:=⟨w.heap.size+1,2,none⟩) av (.i (eg s.c p.ba));have kf:ar (wr.setCell ⟨w.heap.size+1,2,none⟩ (.i (eg s.c p.ba))) (w.heap.size+1) 23 (s.part p 3).cells:=hS.eW 2 _;have iB:=bM.setCell (p:=⟨w.heap.size+1,2,none⟩) av (.i (eg s.c p.ba));have fz:=J (ae lM (ae kf iB));have q2:=H.2.2.2.2.2.2.2;clear hR hS bM lM kf iB;go_wp2_with fail;refine (CP _ _ _ q2 vo.ba).mono ?_;rintro e bm ⟨rfl,rfl⟩;go_wp2_with fail
     go_roundw
     case rel=>exact ⟨3,af,rfl,fz.1,fz.2.1,fz.2.2⟩
     case measure=>exact ef
    ·have fz:=J (ae hR (ae hS bM))
     have jR:=J H.2.2.2.2.1;clear hR hS bM;go_wp2_with fail
     go_roundw
     case rel=>exact ⟨k+1,af,cm,fz.1,by rw [jR.out];exact fz.2.1,fz.2.2⟩
     case measure=>exact c4
  ·obtain rfl:k=l.length:=by omega
   rw [kn] at hS
   have cg:decide ((l.length:Int)<(l.length:Int))=false:=av;have b0:=hS.cell 0;have bX:=hS.cell 1;have cY:=hS.cell 2;have bt:wr.cell? ⟨w.heap.size+1,0,none⟩=some (.i (l5 l).a):=hS.cell 0;have c1:wr.cell? ⟨w.heap.size+1,1,none⟩=some (.i (l5 l).b):=hS.cell 1;have c2:wr.cell? ⟨w.heap.size+1,2,none⟩=some (.i (l5 l).c):=hS.cell 2;clear b0 bX cY;have H:=J (ae hR bM);clear hR bM hS
   go_wp2_with (refine ch rfl 23 (.tmp 2) (.tmp 29) rfl w.heap.size 23 (cr.mk 0 0 0).cells (l5 l).cells rfl rfl H.1 rfl Zt (Zu _) ?_;intro bc bS bP dx)
   have dn:=bS.cell;exact cS (v:=.agg (l5 l).cells) (by simp [results,results172,go_sem,dn]) rfl ⟨rfl,H.2.grown bP H.2.size (by intro k hk;cases hk;exact e3 _)⟩
theorem K' (a x y:Int):eg (eg a x) y=eg (eg a y) x:=by
 unfold eg kU most
 repeat' split
 all_goals omega
theorem cr.add_comm (s:cr) (p q:aQ):(s.add p).add q=(s.add q).add p:=by
 unfold cr.add;simp only [K' _ p.bg q.bg,K' _ p.aX q.aX,K' _ p.ba q.ba]
theorem Zw {α β:Type} {f:β->α->β} (hf:∀ b x y,f (f b x) y=f (f b y) x) {l m:List α} (h:l.Perm m):∀ b,l.foldl f b=m.foldl f b:=by
 induction h with
 | nil=>intro b;rfl
 | cons x _ b6=>intro b;exact b6 _
 | swap x y l=>intro b;simp only [oP];rw [hf]
 | trans _ _ Zx Zy=>intro b;exact (Zx b).trans (Zy b)
theorem Zz {l m:List aQ} (h:l.Perm m):l5 l=l5 m:=Zw cr.add_comm h _
def mB (p v:aQ):Bool:=p.bo&&(!v.bo&&decide (v.prio<p.prio))
theorem abn (p v:aQ) (w:World) :
  Calls prog 232 #[.agg p.cells,.agg v.cells] w fun e w'=>e=.returned (.bool (mB p v))/\Below w.heap.size w w':=by
 have aA:=J (((aO w.heap.size w).alloc aF (.cells p.cells 40)).alloc av (.cells v.cells 40));have ag:Hid (mB p v=(p.bo&&(!v.bo&&decide (v.prio<p.prio)))):=rfl
 cases hc:p.bo <;> cases hd:v.bo <;> cases hl:decide (v.prio<p.prio)
 all_goals
  have bF:=J ag.out;rw [hc,hd,hl] at bF
  clear ag
  go_enter func232,ntmps232
  go_wp2_with fail;go_ret;exact ⟨gw bF.symm,aA.out⟩
theorem Rp {p v:aQ} {b:Bool} (hb:mB p v=b) (w:World):Calls prog 232 #[.agg p.cells,.agg v.cells] w fun e w'=>e=.returned (.bool b)/\Below w.heap.size w w':=by subst hb;exact abn p v w
theorem xw {n:Int} {b:Bool} (hb:(n==most)=b) (w:World):Calls prog 173 #[.i n] w fun e w'=>e=.returned (.bool b)/\w=w':=by
 have aA:=J hb;clear hb
 go_enter func173,ntmps173
 go_wp2_with fail;go_ret;exact ⟨gw aA.out,rfl⟩
def iU (r n:Int):Bool:=!(n==most)&&!decide (r<n)
def cr.fits (room s:cr):Bool:=iU room.a s.a&&(iU room.b s.b&&iU room.c s.c)
def gp (room:cr) (l:List aQ):Bool:=room.fits (l5 l)
def cr.EU (room s:cr):Nat->Prop
 | 0=>True
 | 1=>iU room.a s.a=true
 | 2=>iU room.a s.a=true/\iU room.b s.b=true
 | _=>iU room.a s.a=true/\iU room.b s.b=true/\iU room.c s.c=true
theorem LB {r n:Int} (h:(n==most)=true):iU r n=false:=by unfold iU;rw [h];rfl
theorem LC {r n:Int} (h:decide (r<n)=true):iU r n=false:=by unfold iU;rw [h];simp
theorem LD {r n:Int} (h:(n==most)=false) (ah:decide (r<n)=false):iU r n=true:=by unfold iU;rw [h,ah];rfl
theorem RF {room s:cr} (h:iU room.a s.a=false):room.fits s=false:=by unfold cr.fits;rw [h];rfl
theorem RG {room s:cr} (h:iU room.b s.b=false):room.fits s=false:=by unfold cr.fits;rw [h];simp
theorem RH {room s:cr} (h:iU room.c s.c=false):room.fits s=false:=by unfold cr.fits;rw [h];simp
theorem abo {room s:cr} (h:room.EU s 3):room.fits s=true:=by obtain ⟨h1,ah,aw⟩:=h;unfold cr.fits;rw [h1,ah,aw];rfl
theorem abb (room:cr) (l:List aQ) (A:Option Addr) (c:Nat) (w:World) (hr:a7 w gv A l) (q1:∀ p∈l,p.fe) (hn:l.length<=140737488355328) :
  Calls prog 115 #[.agg #[.i room.a,.i room.b,.i room.c],.slice A l.length c] w fun e w'=>e=.returned (.bool (gp room l))/\Below w.heap.size w w':=by
 have LF:Below w.heap.size w (w.alloc (.cells #[.i room.a,.i room.b,.i room.c] 23)):=(aO _ _).alloc aF _;have ap:=J (ae (ar.new w 23 #[.i room.a,.i room.b,.i room.c]) (ae (hr.below LF) LF));have fk:=J q1;clear hr q1 LF;unfold gp;obtain ⟨s,hs⟩:=aE (l5 l);have aP:=J (fun (W:World) (h:a7 W gv A l)=>hs ▸ Zv l A c W h fk.out hn);rw [hs];clear hs
 go_enter func115,ntmps115
 go_wp2_with fail;refine (aP.out _ ap.2.1).mono ?_;rintro e aC ⟨rfl,hb⟩;have en:=J (ae (ap.1.bw hb) (ap.2.2.trans (hb.mono ap.2.2.size)));clear hb ap aP fk;have cw:aC.cell? ⟨w.heap.size,0,none⟩=some (.i room.a):=en.1.cell 0;have r1:aC.cell? ⟨w.heap.size,1,none⟩=some (.i room.b):=en.1.cell 1;have r2:aC.cell? ⟨w.heap.size,2,none⟩=some (.i room.c):=en.1.cell 2;have i0:=fun (w:World)=>PW (.i s.a) (.i s.b) (.i s.c) w
 have RI:=fun (w:World)=>PX (.i s.a) (.i s.b) (.i s.c) w
 have i2:=fun (w:World)=>PY (.i s.a) (.i s.b) (.i s.c) w
 go_wp2_with fail
 go_loop [9] (fun ii=>∃ j:Nat,j<=3/\ii=.i j/\room.EU s j) (fun ii=>3-(intOf ii).toNat)
 case atStart=>exact ⟨0,af,rfl,trivial⟩
 case round =>
  obtain ⟨j,aD,rfl,tV⟩:=hrel;have cC:=J tV;clear tV;obtain rfl|rfl|rfl|rfl:j=0\/j=1\/j=2\/j=3:=af
  ·cases hf:(s.a==most)
   ·cases hr:decide (room.a<s.a)
    ·have bs:Hid (room.EU s 1):=LD hf hr
     have bN:=J hf;clear hf;go_wp2_with fail;refine (xw bN _).mono ?_;rintro e aM ⟨rfl,rfl⟩;go_wp2_with fail
     go_round
     case rel=>exact ⟨1,af,rfl,bs.out⟩
     case measure=>exact ef
    ·have bs:=J (RF (LC hr):room.fits s=false)
     have bN:=J hf;clear hf;go_wp2_with fail;refine (xw bN _).mono ?_;rintro e aM ⟨rfl,rfl⟩;go_wp2_with fail;go_ret;exact ⟨gw bs.symm,en.2⟩
   ·have bs:=J (RF (LB (r:=room.a) hf):room.fits s=false)
    have bN:=J hf;clear hf;go_wp2_with fail;refine (xw bN _).mono ?_;rintro e aM ⟨rfl,rfl⟩;go_wp2_with fail;go_ret;exact ⟨gw bs.symm,en.2⟩
  ·cases hf:(s.b==most)
   ·cases hr:decide (room.b<s.b)
    ·have bs:Hid (room.EU s 2):=⟨cC.out,LD hf hr⟩
     have bN:=J hf;clear hf;go_wp2_with fail;refine (xw bN _).mono ?_;rintro e aM ⟨rfl,rfl⟩;go_wp2_with fail
     go_round
     case rel=>exact ⟨2,af,rfl,bs.out⟩
     case measure=>exact ef
    ·have bs:=J (RG (LC hr):room.fits s=false)
     have bN:=J hf;clear hf;go_wp2_with fail;refine (xw bN _).mono ?_;rintro e aM ⟨rfl,rfl⟩;go_wp2_with fail;go_ret;exact ⟨gw bs.symm,en.2⟩
   ·have bs:=J (RG (LB (r:=room.b) hf):room.fits s=false)
    have bN:=J hf;clear hf;go_wp2_with fail;refine (xw bN _).mono ?_;rintro e aM ⟨rfl,rfl⟩;go_wp2_with fail;go_ret;exact ⟨gw bs.symm,en.2⟩
  ·cases hf:(s.c==most)
   ·cases hr:decide (room.c<s.c)
    ·have bs:Hid (room.EU s 3):=⟨cC.1,cC.2,LD hf hr⟩
     have bN:=J hf;clear hf;go_wp2_with fail;refine (xw bN _).mono ?_;rintro e aM ⟨rfl,rfl⟩;go_wp2_with fail
     go_round
     case rel=>exact ⟨3,af,rfl,bs.out⟩
     case measure=>exact ef
    ·have bs:=J (RH (LC hr):room.fits s=false)
     have bN:=J hf;clear hf;go_wp2_with fail;refine (xw bN _).mono ?_;rintro e aM ⟨rfl,rfl⟩;go_wp2_with fail;go_ret;exact ⟨gw bs.symm,en.2⟩
   ·have bs:=J (RH (LB (r:=room.c) hf):room.fits s=false)
    have bN:=J hf;clear hf;go_wp2_with fail;refine (xw bN _).mono ?_;rintro e aM ⟨rfl,rfl⟩;go_wp2_with fail;go_ret;exact ⟨gw bs.symm,en.2⟩
  ·have bs:=J (abo cC)
   go_wp2_with fail;go_ret;exact ⟨gw bs.symm,en.2⟩
end Go.Proofs.YtmmchlfoplcnbaaGreatDoor
