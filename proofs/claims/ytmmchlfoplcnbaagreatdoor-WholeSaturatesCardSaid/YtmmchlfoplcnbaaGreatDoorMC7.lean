/- A part of the walk. -/
import Derived.Deep.Cut
import Derived.Test.YtmmchlfoplcnbaaGreatDoorMC4
namespace Go.Proofs.YtmmchlfoplcnbaaGreatDoor
open Go Go.RowKit Tryz
set_option linter.all false
set_option maxRecDepth 100000
set_option maxHeartbeats 4000000
def ck (k:Int) (x:dJ):Int:=if k=0 then x.a0 else if k=1 then x.c6 else x.a2
def eL (k:Int) (p:aQ) (l:List dJ):Int:=ck k (sk l p.id)-asked p k
def vN (k:Int) (p:aQ) (l:List dJ):eb:=⟨if 0<eL k p l then 0 else 1,p.prio,eL k p l,p.id⟩
theorem ZW {s:mz} {id:ByteArray} {x:dJ} (hx:sk s.uses id=x) (w:World) (hr:a7 w jA s.A s.uses) (hl:s.uses.length<=100000) (hs:oR s.uses) :
  Calls prog 315 #[.agg s.cells,.string id] w fun e w'=>e=.returned (.agg #[.i x.a0,.i x.c6,.i x.a2])/\Below w.heap.size w w':=by subst hx;exact ZX s id w hr hl hs
theorem ZY {p:aQ} {k q:Int} (bd:asked p k=q) (w:World) :
  Calls prog 316 #[.agg p.cells,.i k] w fun e w'=>e=.returned (.i q)/\Below w.heap.size w w':=by subst bd;exact ZZ p k w
theorem yN:(prog.info? 306).map (·.size)=some 4:=ai
theorem yO (x:eb):x.cells.all (·.oneCell')=true:=cc
structure ln (p:aQ) (s:mz) (w W:World):Prop where
 qe:a7 w jA s.A s.uses
 aa:ar W w.heap.size 40 p.cells
 kw:ar W (w.heap.size+1) 136 s.cells
 fg:ar W (w.heap.size+1+1) 306 #[.i 0,.i 0,.i 0,.string ⟨#[]⟩]
 aR:Below w.heap.size w W
theorem ln.kp {p:aQ} {s:mz} {w W:World} (h:ln p s w W):a7 W jA s.A s.uses:=h.qe.below h.aR
theorem ln.cF {p:aQ} {s:mz} {w W:World} (h:ln p s w W) {a:Addr} (ha:w.heap.size+1+1<a.block) (u:Value):ln p s w (W.setCell a u) :=
 ⟨h.qe,h.aa.cF af u,h.kw.cF af u,h.fg.cF af u,h.aR.setCell af u⟩
theorem ln.lt {p:aQ} {s:mz} {w W:World} (h:ln p s w W):w.heap.size+1+1<W.heap.size:=h.fg.lt
theorem ln.drew {p:aQ} {s:mz} {w W:World} (h:ln p s w W):ln p s w W.drew:=⟨h.qe,h.aa.drew,h.kw.drew,h.fg.drew,h.aR.drew⟩
theorem ln.alloc {p:aQ} {s:mz} {w W:World} (h:ln p s w W) (o:Obj):ln p s w (W.alloc o):=⟨h.qe,h.aa.alloc o,h.kw.alloc o,h.fg.alloc o,h.aR.alloc h.aR.size o⟩
theorem ln.below {p:aQ} {s:mz} {w W W':World} (h:ln p s w W) (hb:Below W.heap.size W W'):ln p s w W':=⟨h.qe,h.aa.bw hb,h.kw.bw hb,h.fg.bw hb,h.aR.trans (hb.mono h.aR.size)⟩
theorem ln.cells {p:aQ} {s:mz} {w W:World} (h:ln p s w W):W.cell? ⟨w.heap.size,0,none⟩=some (.string p.id)/\W.cell? ⟨w.heap.size,1,none⟩=some (.i p.prio)/\W.cell? ⟨w.heap.size,2,none⟩=some (.bool p.bo)/\W.cell? ⟨w.heap.size,3,none⟩=some (.i p.bg)/\W.cell? ⟨w.heap.size,4,none⟩=some (.i p.aX)/\W.cell? ⟨w.heap.size,5,none⟩=some (.i p.ba)/\W.cell? ⟨w.heap.size,6,none⟩=some (.i p.bk)/\W.cell? ⟨w.heap.size,7,none⟩=some (.i p.bl)/\W.cell? ⟨w.heap.size,8,none⟩=some (.i p.aW)/\W.cell? ⟨w.heap.size,9,none⟩=some (.string p.bb)/\W.cell? ⟨w.heap.size,10,none⟩=some (.i p.size)/\W.cell? ⟨w.heap.size+1,0,none⟩=some (.i s.time)/\W.cell? ⟨w.heap.size+1,1,none⟩=some (.i s.v0)/\W.cell? ⟨w.heap.size+1,2,none⟩=some (.i s.v1)/\W.cell? ⟨w.heap.size+1,3,none⟩=some (.i s.v2)/\W.cell? ⟨w.heap.size+1,4,none⟩=some (.slice s.A s.uses.length s.c) :=
 ⟨h.aa.cell 0,h.aa.cell 1,h.aa.cell 2,h.aa.cell 3,h.aa.cell 4,h.aa.cell 5,h.aa.cell 6,h.aa.cell 7,h.aa.cell 8,h.aa.cell 9,h.aa.cell 10,h.kw.cell 0,h.kw.cell 1,h.kw.cell 2,h.kw.cell 3,h.kw.cell 4⟩
theorem ln.new (p:aQ) (s:mz) (w:World) (hr:a7 w jA s.A s.uses):ln p s w (((w.alloc (.cells p.cells 40)).alloc (.cells s.cells 136)).alloc (.cells #[.i 0,.i 0,.i 0,.string ⟨#[]⟩] 306)):=by
 have ff:Below w.heap.size w (((w.alloc (.cells p.cells 40)).alloc (.cells s.cells 136)).alloc (.cells #[.i 0,.i 0,.i 0,.string ⟨#[]⟩] 306)):=(((aO _ _).alloc aF _).alloc av _).alloc (by simp;omega) _;have kr:(w.alloc (.cells p.cells 40)).heap.size=w.heap.size+1:=av;have vy:((w.alloc (.cells p.cells 40)).alloc (.cells s.cells 136)).heap.size=w.heap.size+1+1:=av;have Hs:=ar.new (w.alloc (.cells p.cells 40)) 136 s.cells;have C3:=ar.new ((w.alloc (.cells p.cells 40)).alloc (.cells s.cells 136)) 306 #[.i 0,.i 0,.i 0,.string ⟨#[]⟩];rw [kr] at Hs
 rw [vy] at C3
 exact ⟨hr,((ar.new w 40 p.cells).alloc _).alloc _,Hs.alloc _,C3,ff⟩
theorem sq {p:aQ} {s:mz} {w W:World} {id:ByteArray} {x:dJ} (hx:sk s.uses id=x) (h:ln p s w W) (hl:s.uses.length<=100000) (hs:oR s.uses) :
  Calls prog 315 #[.agg s.cells,.string id] W fun e w'=>e=.returned (.agg #[.i x.a0,.i x.c6,.i x.a2])/\Below W.heap.size W w':=ZW hx W h.kp hl hs
theorem sr {p:aQ} {s:mz} {w W:World} {k q:Int} (bd:asked p k=q) (_:ln p s w W) :
  Calls prog 316 #[.agg p.cells,.i k] W fun e w'=>e=.returned (.i q)/\Below W.heap.size W w':=ZY bd W
theorem Z0 (k:Int) (hk:k=0\/k=1\/k=2) (p:aQ) (s:mz) (w:World) (hr:a7 w jA s.A s.uses) (hl:s.uses.length<=100000) (hs:oR s.uses) (Z1 : -9223372036854775808<=eL k p s.uses) (Kw:eL k p s.uses<=9223372036854775807) :
  Calls prog 254 #[.i k,.agg p.cells,.agg s.cells] w fun e w'=>e=.returned (.agg (vN k p s.uses).cells)/\Below w.heap.size w w':=by
 have mixed:prog.follows Departure.mixedOrders=true:=ai;have ao:=J (ln.new p s w hr);have aP:=J hs;clear hr hs;obtain ⟨x,aB⟩:∃ x,Hid (sk s.uses p.id=x):=⟨_,J rfl⟩
 obtain ⟨q,dC⟩:∃ q,Hid (asked p k=q):=⟨_,J rfl⟩
 obtain ⟨e,ea⟩:=aE (eL k p s.uses);have dl:Hid (vN k p s.uses=⟨if 0<e then 0 else 1,p.prio,e,p.id⟩):=by show _=_;unfold vN;rw [ea]
 have bC:Hid (ck k x-q=e):=by show _=_;rw [<- ea];unfold eL;rw [aB.out,dC.out]
 rw [ea] at Z1 Kw
 clear ea;have ss:Hid ((0<e->vN k p s.uses=⟨0,p.prio,e,p.id⟩)/\(¬ 0<e->vN k p s.uses=⟨1,p.prio,e,p.id⟩)):=⟨fun h=>by rw [dl.out,bB h],fun h=>by rw [dl.out,bp h]⟩
 clear dl;have gx:IntKind.i64.wrap e=e:=by rw [mS];omega
 rcases hk with rfl|rfl|rfl
 ·have mW:x.a0-q=e:=bC.out
  have cU:IntKind.i64.wrap (x.a0-q)=e:=by rw [mW];exact gx
  go_enter func254,ntmps254
  go_wp2_with fail;have lo:=ao;clear ao;generalize (((w.alloc (.cells p.cells 40)).alloc (.cells s.cells 136)).alloc (.cells #[.i 0,.i 0,.i 0,.string ⟨#[]⟩] 306))=gF at *
  have ao:=J lo.drew
  go_cut [7] (fun v W=>∃ n,v=.pointer (some ⟨n,0,none⟩)/\w.heap.size+1+1<n/\ar W n 306 (⟨1,p.prio,e,p.id⟩:eb).cells/\ar W (w.heap.size+1+1) 306 #[.i 0,.i 0,.i 0,.string ⟨#[]⟩]/\Below w.heap.size w W)
  case first =>
   go_region_held3 (fun w'=>w'.cell? ⟨w.heap.size,0,none⟩=some (.string p.id)/\w'.cell? ⟨w.heap.size,1,none⟩=some (.i p.prio)/\w'.cell? ⟨w.heap.size,2,none⟩=some (.bool p.bo)/\w'.cell? ⟨w.heap.size,3,none⟩=some (.i p.bg)/\w'.cell? ⟨w.heap.size,4,none⟩=some (.i p.aX)/\w'.cell? ⟨w.heap.size,5,none⟩=some (.i p.ba)/\w'.cell? ⟨w.heap.size,6,none⟩=some (.i p.bk)/\w'.cell? ⟨w.heap.size,7,none⟩=some (.i p.bl)/\w'.cell? ⟨w.heap.size,8,none⟩=some (.i p.aW)/\w'.cell? ⟨w.heap.size,9,none⟩=some (.string p.bb)/\w'.cell? ⟨w.heap.size,10,none⟩=some (.i p.size)/\w'.cell? ⟨w.heap.size+1,0,none⟩=some (.i s.time)/\w'.cell? ⟨w.heap.size+1,1,none⟩=some (.i s.v0)/\w'.cell? ⟨w.heap.size+1,2,none⟩=some (.i s.v1)/\w'.cell? ⟨w.heap.size+1,3,none⟩=some (.i s.v2)/\w'.cell? ⟨w.heap.size+1,4,none⟩=some (.slice s.A s.uses.length s.c)) (first|with_reducible exact ao.out.cells|with_reducible exact (ao.out.alloc _).cells|with_reducible exact (lo.out.alloc _).drew.cells|with_reducible exact ((((ao.out.cF fl.out _).cF fl.out _).cF fl.out _).cF fl.out _).cells)
    (first
     | (go_at_call 315;have lO:=bK.out;with_reducible refine (sq aB.out ao.out hl aP.out).mono ?_;rintro e v1 ⟨rfl,hb⟩;have ao:=J (ao.out.below hb);have bK:=J (lO.bw hb);have h7:=bK.out.cell 0;have h8:=bK.out.cell 1;have h9:=bK.out.cell 2;have h':=bK.out.cell 3;simp only [List.getElem?_toArray,List.getElem?_cons_zero,List.getElem?_cons_succ] at h7 h8 h9 h';have n9:=bK.out.frozen 0;have n':=bK.out.frozen 1;have oa:=bK.out.frozen 2;have ob:=bK.out.frozen 3;clear hb lO)
     | (go_at_call 316;have lO:=bK.out;with_reducible refine (sr dC.out ao.out).mono ?_;rintro e v1 ⟨rfl,hb⟩;have ao:=J (ao.out.below hb);have bK:=J (lO.bw hb);have h7:=bK.out.cell 0;have h8:=bK.out.cell 1;have h9:=bK.out.cell 2;have h':=bK.out.cell 3;simp only [List.getElem?_toArray,List.getElem?_cons_zero,List.getElem?_cons_succ] at h7 h8 h9 h';have n9:=bK.out.frozen 0;have n':=bK.out.frozen 1;have oa:=bK.out.frozen 2;have ob:=bK.out.frozen 3;clear hb lO)
     | (go_at_call 315;with_reducible refine (sq aB.out ao.out hl aP.out).mono ?_;rintro e v1 ⟨rfl,hb⟩;have ao:=J (ao.out.below hb);clear hb)
     | (go_at_call 316;with_reducible refine (sr dC.out ao.out).mono ?_;rintro e v1 ⟨rfl,hb⟩;have ao:=J (ao.out.below hb);clear hb)
     | (go_at_call 315;with_reducible refine (sq aB.out ((ao.out.alloc _)) hl aP.out).mono ?_;rintro e v1 ⟨rfl,hb⟩;have fl:=J ao.out.lt;have bK:=J ((ar.new _ 306 #[.i 0,.i 0,.i 0,.string ⟨#[]⟩]).bw hb);have ao:=J (((ao.out.alloc _)).below hb);have h7:=bK.out.cell 0;have h8:=bK.out.cell 1;have h9:=bK.out.cell 2;have h':=bK.out.cell 3;simp only [List.getElem?_toArray,List.getElem?_cons_zero,List.getElem?_cons_succ] at h7 h8 h9 h';have n9:=bK.out.frozen 0;have n':=bK.out.frozen 1;have oa:=bK.out.frozen 2;have ob:=bK.out.frozen 3;clear hb)
     | (go_at_call 316;with_reducible refine (sr dC.out ((ao.out.alloc _))).mono ?_;rintro e v1 ⟨rfl,hb⟩;have fl:=J ao.out.lt;have bK:=J ((ar.new _ 306 #[.i 0,.i 0,.i 0,.string ⟨#[]⟩]).bw hb);have ao:=J (((ao.out.alloc _)).below hb);have h7:=bK.out.cell 0;have h8:=bK.out.cell 1;have h9:=bK.out.cell 2;have h':=bK.out.cell 3;simp only [List.getElem?_toArray,List.getElem?_cons_zero,List.getElem?_cons_succ] at h7 h8 h9 h';have n9:=bK.out.frozen 0;have n':=bK.out.frozen 1;have oa:=bK.out.frozen 2;have ob:=bK.out.frozen 3;clear hb)
     | (go_at_call 315;with_reducible refine (sq aB.out ((lo.out.alloc _).drew) hl aP.out).mono ?_;rintro e v1 ⟨rfl,hb⟩;have fl:=J ao.out.lt;have bK:=J ((ar.new _ 306 #[.i 0,.i 0,.i 0,.string ⟨#[]⟩]).drew.bw hb);have ao:=J (((lo.out.alloc _).drew).below hb);have h7:=bK.out.cell 0;have h8:=bK.out.cell 1;have h9:=bK.out.cell 2;have h':=bK.out.cell 3;simp only [List.getElem?_toArray,List.getElem?_cons_zero,List.getElem?_cons_succ] at h7 h8 h9 h';have n9:=bK.out.frozen 0;have n':=bK.out.frozen 1;have oa:=bK.out.frozen 2;have ob:=bK.out.frozen 3;clear hb)
     | (go_at_call 316;with_reducible refine (sr dC.out ((lo.out.alloc _).drew)).mono ?_;rintro e v1 ⟨rfl,hb⟩;have fl:=J ao.out.lt;have bK:=J ((ar.new _ 306 #[.i 0,.i 0,.i 0,.string ⟨#[]⟩]).drew.bw hb);have ao:=J (((lo.out.alloc _).drew).below hb);have h7:=bK.out.cell 0;have h8:=bK.out.cell 1;have h9:=bK.out.cell 2;have h':=bK.out.cell 3;simp only [List.getElem?_toArray,List.getElem?_cons_zero,List.getElem?_cons_succ] at h7 h8 h9 h';have n9:=bK.out.frozen 0;have n':=bK.out.frozen 1;have oa:=bK.out.frozen 2;have ob:=bK.out.frozen 3;clear hb))
   all_goals
    go_wp2_with fail
    go_meet
    first
     | exact ⟨_,rfl,ao.lt,ar.new _ _ _,(ao.alloc _).fg,(ao.alloc _).aR⟩
     | exact ⟨_,rfl,fl.out,by simpa using (((bK.eW 0 _).eW 1 _).eW 2 _).eW 3 _,((((ao.cF fl.out _).cF fl.out _).cF fl.out _).cF fl.out _).fg,((((ao.cF fl.out _).cF fl.out _).cF fl.out _).cF fl.out _).aR⟩
  case rest =>
   obtain ⟨n,rfl,hn,bM,hR,yP⟩:=hcut;clear ao lo cU mW bC aB dC aP;have bx:=J (ae hn (ae bM (ae hR yP)));have EC:=bM.cell 0;have ED:=bM.cell 1;have EE:=bM.cell 2;have EF:=bM.cell 3;have QM:=bM.frozen 0;simp only [s8,yQ,yC] at EC ED EE EF
   clear hn bM hR yP
   by_cases aI:0<e
   ·have d0:decide (0<e)=true:=bO aI
    have bF:=J (ss.1 aI);clear ss aI
    go_wp2_with (refine ch rfl 306 (.tmp 6) (.tmp 27) rfl (w.heap.size+1+1) 306 #[.i 0,.i 0,.i 0,.string ⟨#[]⟩] (⟨0,p.prio,e,p.id⟩:eb).cells rfl rfl (bx.2.2.1.cF (p:=⟨n,0,none⟩) (by have:=bx.1;show ¬ _=n;omega) _) rfl yN (yO _) ?_;intro bc bS bP dx)
    have dn:=bS.cell;exact cS (v:=.agg (⟨0,p.prio,e,p.id⟩:eb).cells) (by simp [results,results254,go_sem,dn]) rfl ⟨by rw [bF.out],(bx.2.2.2.setCell (by have:=bx.1;show _<=n;omega) _).grown bP (bx.2.2.2.setCell (by have:=bx.1;show _<=n;omega) _).size dP⟩
   ·have d0:decide (0<e)=false:=cX aI
    have bF:=J (ss.2 af);clear ss aI
    go_wp2_with (refine ch rfl 306 (.tmp 6) (.tmp 27) rfl (w.heap.size+1+1) 306 #[.i 0,.i 0,.i 0,.string ⟨#[]⟩] (⟨1,p.prio,e,p.id⟩:eb).cells rfl rfl bx.2.2.1 rfl yN (yO _) ?_;intro bc bS bP dx)
    have dn:=bS.cell;exact cS (v:=.agg (⟨1,p.prio,e,p.id⟩:eb).cells) (by simp [results,results254,go_sem,dn]) rfl ⟨by rw [bF.out],bx.2.2.2.grown bP bx.2.2.2.size dP⟩
 ·have mW:x.c6-q=e:=bC.out
  have cU:IntKind.i64.wrap (x.c6-q)=e:=by rw [mW];exact gx
  go_enter func254,ntmps254
  go_wp2_with fail;have lo:=ao;clear ao;generalize (((w.alloc (.cells p.cells 40)).alloc (.cells s.cells 136)).alloc (.cells #[.i 0,.i 0,.i 0,.string ⟨#[]⟩] 306))=gF at *
  have ao:=J lo.drew
  go_cut [7] (fun v W=>∃ n,v=.pointer (some ⟨n,0,none⟩)/\w.heap.size+1+1<n/\ar W n 306 (⟨1,p.prio,e,p.id⟩:eb).cells/\ar W (w.heap.size+1+1) 306 #[.i 0,.i 0,.i 0,.string ⟨#[]⟩]/\Below w.heap.size w W)
  case first =>
   go_region_held3 (fun w'=>w'.cell? ⟨w.heap.size,0,none⟩=some (.string p.id)/\w'.cell? ⟨w.heap.size,1,none⟩=some (.i p.prio)/\w'.cell? ⟨w.heap.size,2,none⟩=some (.bool p.bo)/\w'.cell? ⟨w.heap.size,3,none⟩=some (.i p.bg)/\w'.cell? ⟨w.heap.size,4,none⟩=some (.i p.aX)/\w'.cell? ⟨w.heap.size,5,none⟩=some (.i p.ba)/\w'.cell? ⟨w.heap.size,6,none⟩=some (.i p.bk)/\w'.cell? ⟨w.heap.size,7,none⟩=some (.i p.bl)/\w'.cell? ⟨w.heap.size,8,none⟩=some (.i p.aW)/\w'.cell? ⟨w.heap.size,9,none⟩=some (.string p.bb)/\w'.cell? ⟨w.heap.size,10,none⟩=some (.i p.size)/\w'.cell? ⟨w.heap.size+1,0,none⟩=some (.i s.time)/\w'.cell? ⟨w.heap.size+1,1,none⟩=some (.i s.v0)/\w'.cell? ⟨w.heap.size+1,2,none⟩=some (.i s.v1)/\w'.cell? ⟨w.heap.size+1,3,none⟩=some (.i s.v2)/\w'.cell? ⟨w.heap.size+1,4,none⟩=some (.slice s.A s.uses.length s.c)) (first|with_reducible exact ao.out.cells|with_reducible exact (ao.out.alloc _).cells|with_reducible exact (lo.out.alloc _).drew.cells|with_reducible exact ((((ao.out.cF fl.out _).cF fl.out _).cF fl.out _).cF fl.out _).cells)
    (first
     | (go_at_call 315;have lO:=bK.out;with_reducible refine (sq aB.out ao.out hl aP.out).mono ?_;rintro e v1 ⟨rfl,hb⟩;have ao:=J (ao.out.below hb);have bK:=J (lO.bw hb);have h7:=bK.out.cell 0;have h8:=bK.out.cell 1;have h9:=bK.out.cell 2;have h':=bK.out.cell 3;simp only [List.getElem?_toArray,List.getElem?_cons_zero,List.getElem?_cons_succ] at h7 h8 h9 h';have n9:=bK.out.frozen 0;have n':=bK.out.frozen 1;have oa:=bK.out.frozen 2;have ob:=bK.out.frozen 3;clear hb lO)
     | (go_at_call 316;have lO:=bK.out;with_reducible refine (sr dC.out ao.out).mono ?_;rintro e v1 ⟨rfl,hb⟩;have ao:=J (ao.out.below hb);have bK:=J (lO.bw hb);have h7:=bK.out.cell 0;have h8:=bK.out.cell 1;have h9:=bK.out.cell 2;have h':=bK.out.cell 3;simp only [List.getElem?_toArray,List.getElem?_cons_zero,List.getElem?_cons_succ] at h7 h8 h9 h';have n9:=bK.out.frozen 0;have n':=bK.out.frozen 1;have oa:=bK.out.frozen 2;have ob:=bK.out.frozen 3;clear hb lO)
     | (go_at_call 315;with_reducible refine (sq aB.out ao.out hl aP.out).mono ?_;rintro e v1 ⟨rfl,hb⟩;have ao:=J (ao.out.below hb);clear hb)
     | (go_at_call 316;with_reducible refine (sr dC.out ao.out).mono ?_;rintro e v1 ⟨rfl,hb⟩;have ao:=J (ao.out.below hb);clear hb)
     | (go_at_call 315;with_reducible refine (sq aB.out ((ao.out.alloc _)) hl aP.out).mono ?_;rintro e v1 ⟨rfl,hb⟩;have fl:=J ao.out.lt;have bK:=J ((ar.new _ 306 #[.i 0,.i 0,.i 0,.string ⟨#[]⟩]).bw hb);have ao:=J (((ao.out.alloc _)).below hb);have h7:=bK.out.cell 0;have h8:=bK.out.cell 1;have h9:=bK.out.cell 2;have h':=bK.out.cell 3;simp only [List.getElem?_toArray,List.getElem?_cons_zero,List.getElem?_cons_succ] at h7 h8 h9 h';have n9:=bK.out.frozen 0;have n':=bK.out.frozen 1;have oa:=bK.out.frozen 2;have ob:=bK.out.frozen 3;clear hb)
     | (go_at_call 316;with_reducible refine (sr dC.out ((ao.out.alloc _))).mono ?_;rintro e v1 ⟨rfl,hb⟩;have fl:=J ao.out.lt;have bK:=J ((ar.new _ 306 #[.i 0,.i 0,.i 0,.string ⟨#[]⟩]).bw hb);have ao:=J (((ao.out.alloc _)).below hb);have h7:=bK.out.cell 0;have h8:=bK.out.cell 1;have h9:=bK.out.cell 2;have h':=bK.out.cell 3;simp only [List.getElem?_toArray,List.getElem?_cons_zero,List.getElem?_cons_succ] at h7 h8 h9 h';have n9:=bK.out.frozen 0;have n':=bK.out.frozen 1;have oa:=bK.out.frozen 2;have ob:=bK.out.frozen 3;clear hb)
     | (go_at_call 315;with_reducible refine (sq aB.out ((lo.out.alloc _).drew) hl aP.out).mono ?_;rintro e v1 ⟨rfl,hb⟩;have fl:=J ao.out.lt;have bK:=J ((ar.new _ 306 #[.i 0,.i 0,.i 0,.string ⟨#[]⟩]).drew.bw hb);have ao:=J (((lo.out.alloc _).drew).below hb);have h7:=bK.out.cell 0;have h8:=bK.out.cell 1;have h9:=bK.out.cell 2;have h':=bK.out.cell 3;simp only [List.getElem?_toArray,List.getElem?_cons_zero,List.getElem?_cons_succ] at h7 h8 h9 h';have n9:=bK.out.frozen 0;have n':=bK.out.frozen 1;have oa:=bK.out.frozen 2;have ob:=bK.out.frozen 3;clear hb)
     | (go_at_call 316;with_reducible refine (sr dC.out ((lo.out.alloc _).drew)).mono ?_;rintro e v1 ⟨rfl,hb⟩;have fl:=J ao.out.lt;have bK:=J ((ar.new _ 306 #[.i 0,.i 0,.i 0,.string ⟨#[]⟩]).drew.bw hb);have ao:=J (((lo.out.alloc _).drew).below hb);have h7:=bK.out.cell 0;have h8:=bK.out.cell 1;have h9:=bK.out.cell 2;have h':=bK.out.cell 3;simp only [List.getElem?_toArray,List.getElem?_cons_zero,List.getElem?_cons_succ] at h7 h8 h9 h';have n9:=bK.out.frozen 0;have n':=bK.out.frozen 1;have oa:=bK.out.frozen 2;have ob:=bK.out.frozen 3;clear hb))
   all_goals
    go_wp2_with fail
    go_meet
    first
     | exact ⟨_,rfl,ao.lt,ar.new _ _ _,(ao.alloc _).fg,(ao.alloc _).aR⟩
     | exact ⟨_,rfl,fl.out,by simpa using (((bK.eW 0 _).eW 1 _).eW 2 _).eW 3 _,((((ao.cF fl.out _).cF fl.out _).cF fl.out _).cF fl.out _).fg,((((ao.cF fl.out _).cF fl.out _).cF fl.out _).cF fl.out _).aR⟩
  case rest =>
   obtain ⟨n,rfl,hn,bM,hR,yP⟩:=hcut;clear ao lo cU mW bC aB dC aP;have bx:=J (ae hn (ae bM (ae hR yP)));have EC:=bM.cell 0;have ED:=bM.cell 1;have EE:=bM.cell 2;have EF:=bM.cell 3;have QM:=bM.frozen 0;simp only [s8,yQ,yC] at EC ED EE EF
   clear hn bM hR yP
   by_cases aI:0<e
   ·have d0:decide (0<e)=true:=bO aI
    have bF:=J (ss.1 aI);clear ss aI
    go_wp2_with (refine ch rfl 306 (.tmp 6) (.tmp 27) rfl (w.heap.size+1+1) 306 #[.i 0,.i 0,.i 0,.string ⟨#[]⟩] (⟨0,p.prio,e,p.id⟩:eb).cells rfl rfl (bx.2.2.1.cF (p:=⟨n,0,none⟩) (by have:=bx.1;show ¬ _=n;omega) _) rfl yN (yO _) ?_;intro bc bS bP dx)
    have dn:=bS.cell;exact cS (v:=.agg (⟨0,p.prio,e,p.id⟩:eb).cells) (by simp [results,results254,go_sem,dn]) rfl ⟨by rw [bF.out],(bx.2.2.2.setCell (by have:=bx.1;show _<=n;omega) _).grown bP (bx.2.2.2.setCell (by have:=bx.1;show _<=n;omega) _).size dP⟩
   ·have d0:decide (0<e)=false:=cX aI
    have bF:=J (ss.2 af);clear ss aI
    go_wp2_with (refine ch rfl 306 (.tmp 6) (.tmp 27) rfl (w.heap.size+1+1) 306 #[.i 0,.i 0,.i 0,.string ⟨#[]⟩] (⟨1,p.prio,e,p.id⟩:eb).cells rfl rfl bx.2.2.1 rfl yN (yO _) ?_;intro bc bS bP dx)
    have dn:=bS.cell;exact cS (v:=.agg (⟨1,p.prio,e,p.id⟩:eb).cells) (by simp [results,results254,go_sem,dn]) rfl ⟨by rw [bF.out],bx.2.2.2.grown bP bx.2.2.2.size dP⟩
 ·have mW:x.a2-q=e:=bC.out
  have cU:IntKind.i64.wrap (x.a2-q)=e:=by rw [mW];exact gx
  go_enter func254,ntmps254
  go_wp2_with fail;have lo:=ao;clear ao;generalize (((w.alloc (.cells p.cells 40)).alloc (.cells s.cells 136)).alloc (.cells #[.i 0,.i 0,.i 0,.string ⟨#[]⟩] 306))=gF at *
  have ao:=J lo.drew
  go_cut [7] (fun v W=>∃ n,v=.pointer (some ⟨n,0,none⟩)/\w.heap.size+1+1<n/\ar W n 306 (⟨1,p.prio,e,p.id⟩:eb).cells/\ar W (w.heap.size+1+1) 306 #[.i 0,.i 0,.i 0,.string ⟨#[]⟩]/\Below w.heap.size w W)
  case first =>
   go_region_held3 (fun w'=>w'.cell? ⟨w.heap.size,0,none⟩=some (.string p.id)/\w'.cell? ⟨w.heap.size,1,none⟩=some (.i p.prio)/\w'.cell? ⟨w.heap.size,2,none⟩=some (.bool p.bo)/\w'.cell? ⟨w.heap.size,3,none⟩=some (.i p.bg)/\w'.cell? ⟨w.heap.size,4,none⟩=some (.i p.aX)/\w'.cell? ⟨w.heap.size,5,none⟩=some (.i p.ba)/\w'.cell? ⟨w.heap.size,6,none⟩=some (.i p.bk)/\w'.cell? ⟨w.heap.size,7,none⟩=some (.i p.bl)/\w'.cell? ⟨w.heap.size,8,none⟩=some (.i p.aW)/\w'.cell? ⟨w.heap.size,9,none⟩=some (.string p.bb)/\w'.cell? ⟨w.heap.size,10,none⟩=some (.i p.size)/\w'.cell? ⟨w.heap.size+1,0,none⟩=some (.i s.time)/\w'.cell? ⟨w.heap.size+1,1,none⟩=some (.i s.v0)/\w'.cell? ⟨w.heap.size+1,2,none⟩=some (.i s.v1)/\w'.cell? ⟨w.heap.size+1,3,none⟩=some (.i s.v2)/\w'.cell? ⟨w.heap.size+1,4,none⟩=some (.slice s.A s.uses.length s.c)) (first|with_reducible exact ao.out.cells|with_reducible exact (ao.out.alloc _).cells|with_reducible exact (lo.out.alloc _).drew.cells|with_reducible exact ((((ao.out.cF fl.out _).cF fl.out _).cF fl.out _).cF fl.out _).cells)
    (first
     | (go_at_call 315;have lO:=bK.out;with_reducible refine (sq aB.out ao.out hl aP.out).mono ?_;rintro e v1 ⟨rfl,hb⟩;have ao:=J (ao.out.below hb);have bK:=J (lO.bw hb);have h7:=bK.out.cell 0;have h8:=bK.out.cell 1;have h9:=bK.out.cell 2;have h':=bK.out.cell 3;simp only [List.getElem?_toArray,List.getElem?_cons_zero,List.getElem?_cons_succ] at h7 h8 h9 h';have n9:=bK.out.frozen 0;have n':=bK.out.frozen 1;have oa:=bK.out.frozen 2;have ob:=bK.out.frozen 3;clear hb lO)
     | (go_at_call 316;have lO:=bK.out;with_reducible refine (sr dC.out ao.out).mono ?_;rintro e v1 ⟨rfl,hb⟩;have ao:=J (ao.out.below hb);have bK:=J (lO.bw hb);have h7:=bK.out.cell 0;have h8:=bK.out.cell 1;have h9:=bK.out.cell 2;have h':=bK.out.cell 3;simp only [List.getElem?_toArray,List.getElem?_cons_zero,List.getElem?_cons_succ] at h7 h8 h9 h';have n9:=bK.out.frozen 0;have n':=bK.out.frozen 1;have oa:=bK.out.frozen 2;have ob:=bK.out.frozen 3;clear hb lO)
     | (go_at_call 315;with_reducible refine (sq aB.out ao.out hl aP.out).mono ?_;rintro e v1 ⟨rfl,hb⟩;have ao:=J (ao.out.below hb);clear hb)
     | (go_at_call 316;with_reducible refine (sr dC.out ao.out).mono ?_;rintro e v1 ⟨rfl,hb⟩;have ao:=J (ao.out.below hb);clear hb)
     | (go_at_call 315;with_reducible refine (sq aB.out ((ao.out.alloc _)) hl aP.out).mono ?_;rintro e v1 ⟨rfl,hb⟩;have fl:=J ao.out.lt;have bK:=J ((ar.new _ 306 #[.i 0,.i 0,.i 0,.string ⟨#[]⟩]).bw hb);have ao:=J (((ao.out.alloc _)).below hb);have h7:=bK.out.cell 0;have h8:=bK.out.cell 1;have h9:=bK.out.cell 2;have h':=bK.out.cell 3;simp only [List.getElem?_toArray,List.getElem?_cons_zero,List.getElem?_cons_succ] at h7 h8 h9 h';have n9:=bK.out.frozen 0;have n':=bK.out.frozen 1;have oa:=bK.out.frozen 2;have ob:=bK.out.frozen 3;clear hb)
     | (go_at_call 316;with_reducible refine (sr dC.out ((ao.out.alloc _))).mono ?_;rintro e v1 ⟨rfl,hb⟩;have fl:=J ao.out.lt;have bK:=J ((ar.new _ 306 #[.i 0,.i 0,.i 0,.string ⟨#[]⟩]).bw hb);have ao:=J (((ao.out.alloc _)).below hb);have h7:=bK.out.cell 0;have h8:=bK.out.cell 1;have h9:=bK.out.cell 2;have h':=bK.out.cell 3;simp only [List.getElem?_toArray,List.getElem?_cons_zero,List.getElem?_cons_succ] at h7 h8 h9 h';have n9:=bK.out.frozen 0;have n':=bK.out.frozen 1;have oa:=bK.out.frozen 2;have ob:=bK.out.frozen 3;clear hb)
     | (go_at_call 315;with_reducible refine (sq aB.out ((lo.out.alloc _).drew) hl aP.out).mono ?_;rintro e v1 ⟨rfl,hb⟩;have fl:=J ao.out.lt;have bK:=J ((ar.new _ 306 #[.i 0,.i 0,.i 0,.string ⟨#[]⟩]).drew.bw hb);have ao:=J (((lo.out.alloc _).drew).below hb);have h7:=bK.out.cell 0;have h8:=bK.out.cell 1;have h9:=bK.out.cell 2;have h':=bK.out.cell 3;simp only [List.getElem?_toArray,List.getElem?_cons_zero,List.getElem?_cons_succ] at h7 h8 h9 h';have n9:=bK.out.frozen 0;have n':=bK.out.frozen 1;have oa:=bK.out.frozen 2;have ob:=bK.out.frozen 3;clear hb)
     | (go_at_call 316;with_reducible refine (sr dC.out ((lo.out.alloc _).drew)).mono ?_;rintro e v1 ⟨rfl,hb⟩;have fl:=J ao.out.lt;have bK:=J ((ar.new _ 306 #[.i 0,.i 0,.i 0,.string ⟨#[]⟩]).drew.bw hb);have ao:=J (((lo.out.alloc _).drew).below hb);have h7:=bK.out.cell 0;have h8:=bK.out.cell 1;have h9:=bK.out.cell 2;have h':=bK.out.cell 3;simp only [List.getElem?_toArray,List.getElem?_cons_zero,List.getElem?_cons_succ] at h7 h8 h9 h';have n9:=bK.out.frozen 0;have n':=bK.out.frozen 1;have oa:=bK.out.frozen 2;have ob:=bK.out.frozen 3;clear hb))
   all_goals
    go_wp2_with fail
    go_meet
    first
     | exact ⟨_,rfl,ao.lt,ar.new _ _ _,(ao.alloc _).fg,(ao.alloc _).aR⟩
     | exact ⟨_,rfl,fl.out,by simpa using (((bK.eW 0 _).eW 1 _).eW 2 _).eW 3 _,((((ao.cF fl.out _).cF fl.out _).cF fl.out _).cF fl.out _).fg,((((ao.cF fl.out _).cF fl.out _).cF fl.out _).cF fl.out _).aR⟩
  case rest =>
   obtain ⟨n,rfl,hn,bM,hR,yP⟩:=hcut;clear ao lo cU mW bC aB dC aP;have bx:=J (ae hn (ae bM (ae hR yP)));have EC:=bM.cell 0;have ED:=bM.cell 1;have EE:=bM.cell 2;have EF:=bM.cell 3;have QM:=bM.frozen 0;simp only [s8,yQ,yC] at EC ED EE EF
   clear hn bM hR yP
   by_cases aI:0<e
   ·have d0:decide (0<e)=true:=bO aI
    have bF:=J (ss.1 aI);clear ss aI
    go_wp2_with (refine ch rfl 306 (.tmp 6) (.tmp 27) rfl (w.heap.size+1+1) 306 #[.i 0,.i 0,.i 0,.string ⟨#[]⟩] (⟨0,p.prio,e,p.id⟩:eb).cells rfl rfl (bx.2.2.1.cF (p:=⟨n,0,none⟩) (by have:=bx.1;show ¬ _=n;omega) _) rfl yN (yO _) ?_;intro bc bS bP dx)
    have dn:=bS.cell;exact cS (v:=.agg (⟨0,p.prio,e,p.id⟩:eb).cells) (by simp [results,results254,go_sem,dn]) rfl ⟨by rw [bF.out],(bx.2.2.2.setCell (by have:=bx.1;show _<=n;omega) _).grown bP (bx.2.2.2.setCell (by have:=bx.1;show _<=n;omega) _).size dP⟩
   ·have d0:decide (0<e)=false:=cX aI
    have bF:=J (ss.2 af);clear ss aI
    go_wp2_with (refine ch rfl 306 (.tmp 6) (.tmp 27) rfl (w.heap.size+1+1) 306 #[.i 0,.i 0,.i 0,.string ⟨#[]⟩] (⟨1,p.prio,e,p.id⟩:eb).cells rfl rfl bx.2.2.1 rfl yN (yO _) ?_;intro bc bS bP dx)
    have dn:=bS.cell;exact cS (v:=.agg (⟨1,p.prio,e,p.id⟩:eb).cells) (by simp [results,results254,go_sem,dn]) rfl ⟨by rw [bF.out],bx.2.2.2.grown bP bx.2.2.2.size dP⟩
end Go.Proofs.YtmmchlfoplcnbaaGreatDoor
