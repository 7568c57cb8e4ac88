/- A part of the walk. -/
import Derived.Test.YtmmchlfoplcnbaaGreatDoorMA3
namespace Go.Proofs.YtmmchlfoplcnbaaGreatDoor
open Go Go.RowKit Tryz
set_option linter.all false
set_option maxRecDepth 100000
set_option maxHeartbeats 4000000
def lZ (k:Nat):ByteArray:=match k with
 | 0=>⟨#[99,97,112,97,99,105,116,121]⟩
 | 1=>⟨#[97,108,108,111,99,97,116,97,98,108,101]⟩
 | 2=>⟨#[112,101,114,105,111,100]⟩
 | 3=>⟨#[114,101,116,114,105,101,115]⟩
 | 4=>⟨#[109,97,120,97,103,101]⟩
 | _=>⟨#[100,101,97,100]⟩
theorem agB:∀ j k:Fin 6,lZ j.val=lZ k.val->j=k:=ak
theorem NH (j k:Nat) (aD:j<6) (hk:k<6) (h:lZ j=lZ k):j=k:=by
 have:=agB ⟨j,aD⟩ ⟨k,hk⟩ h;injection this
def gZ (k:Nat):List Nat:=match k with
 | 0=>[0,1,2]
 | 1=>[3,4,5]
 | 2=>[7]
 | 3=>[8]
 | 4=>[9]
 | _=>[10]
def zP (g:Nat) (k:Nat):Array Value:=((gZ k).map fun o=>Value.pointer (some ⟨g,o,none⟩)).toArray
def hI (c:Nat->Bool) (k:Nat) (b:Bool):Nat->Bool:=fun j=>if j=k then b else c j
def wM (c:Nat->Value) (k:Nat) (b:Value):Nat->Value:=fun j=>if j=k then b else c j
def wN (b0:Bool) (c i:Nat->Bool) (x y:Bool):Array Bool:=#[b0,true,true,true,true,true,true,true,true,true,true,true,true,(c 0),(i 0),true,true,true,true,true,true,true,true,true,true,true,true,(c 1),(i 1),true,true,true,(c 2),(i 2),true,true,true,(c 3),(i 3),true,true,true,(c 4),(i 4),true,true,true,(c 5),(i 5),x,y]
def qG (g:Nat) (v3:Value) (v:Nat->Value) (v46 v2:Value):Array Value:=#[.pointer (some ⟨g,0,none⟩),undef,v2,v3,.pointer (some ⟨g,0,none⟩),.pointer (some ⟨g,0,none⟩),.pointer (some ⟨g,0,none⟩),.pointer (some ⟨g,0,none⟩),.pointer (some ⟨g,0,none⟩),.pointer (some ⟨g,0,none⟩),.pointer (some ⟨g,0,none⟩),.pointer (some ⟨g,1,none⟩),.pointer (some ⟨g,0,none⟩),.pointer (some ⟨g,0,none⟩),.pointer (some ⟨g,0,none⟩),.pointer (some ⟨g,2,none⟩),(v 0),.pointer (some ⟨g,0,none⟩),.pointer (some ⟨g,0,none⟩),.pointer (some ⟨g,3,none⟩),.pointer (some ⟨g,3,none⟩),.pointer (some ⟨g,0,none⟩),.pointer (some ⟨g,0,none⟩),.pointer (some ⟨g,3,none⟩),.pointer (some ⟨g,4,none⟩),.pointer (some ⟨g,0,none⟩),.pointer (some ⟨g,0,none⟩),.pointer (some ⟨g,3,none⟩),.pointer (some ⟨g,5,none⟩),(v 1),.pointer (some ⟨g,0,none⟩),.pointer (some ⟨g,0,none⟩),.pointer (some ⟨g,7,none⟩),(v 2),.pointer (some ⟨g,0,none⟩),.pointer (some ⟨g,0,none⟩),.pointer (some ⟨g,8,none⟩),(v 3),.pointer (some ⟨g,0,none⟩),.pointer (some ⟨g,0,none⟩),.pointer (some ⟨g,9,none⟩),(v 4),.pointer (some ⟨g,0,none⟩),.pointer (some ⟨g,0,none⟩),.pointer (some ⟨g,10,none⟩),(v 5),v46]
structure mN (g:Nat) (w0:World) (b0:Bool) (c i:Nat->Bool) (x y:Bool) (v3:Value) (v:Nat->Value) (v46 v2:Value) (es:Array MapEntry) (clock:Nat) (w:World):Prop where
 aR:Below w0.heap.size w0 w
 map:b0=true->∃ aN,v3=.map (some aN)/\w0.heap.size<=aN/\w.heap[aN]? = some (.map es clock)
 sl:∀ k,k<6->c k=true->∃ G,v k=.slice (some ⟨G,0,none⟩) (gZ k).length (gZ k).length/\w0.heap.size<=G/\w.heap[G]? = some (.cells (zP g k) 202)
 ul:∀ k,k<6->i k=true->b0=true/\c k=true
 lV:∀ e∈es.toList,∃ k,k<6/\i k=true/\e.key=.string (lZ k)/\e.val=v k
 has:∀ k,k<6->i k=true->∃ e∈es.toList,e.key=.string (lZ k)
 lT:(es.toList.map (·.key)).Nodup
 zi:b0=false->es=#[]
 size:es.size=(i 0).toNat+(i 1).toNat+(i 2).toNat+(i 3).toNat+(i 4).toNat+(i 5).toNat
 c8:x=true->b0=true/\v46=v3
 um:y=true->x=true/\v2=v46
section
variable {g:Nat} {w0 w:World} {b0:Bool} {c i:Nat->Bool} {x y:Bool} {v3:Value} {v:Nat->Value} {v46 v2:Value} {es:Array MapEntry} {clock:Nat}
theorem mN.keys (h:mN g w0 b0 c i x y v3 v v46 v2 es clock w):uJ es:=fun e he=>by
 obtain ⟨k,_,_,hk,_⟩:=h.lV e he;exact ⟨_,hk⟩
theorem mN.fresh (h:mN g w0 b0 c i x y v3 v v46 v2 es clock w) (k:Nat) (hk:k<6) (hi:i k=false):∀ e∈es.toList,e.key≠.string (lZ k):=fun e he bQ=>by
 obtain ⟨j,h1,ah,aw,_⟩:=h.lV e he;rw [aw] at bQ
 injection bQ with bQ
 have:=NH j k h1 hk bQ;subst this;rw [hi] at ah;cases ah
theorem M3 {n:Nat} {o:Obj} (h:w.heap[n]? = some o):n<w.heap.size:=(w5.1 h).1
theorem NW (o:Obj) {n:Nat} {q:Obj} (h:w.heap[n]? = some q):(w.alloc o).heap[n]? = some q:=by
 rw [(Is w o).2 n (M3 h)];exact h
theorem mN.makeMap (h:mN g w0 b0 c i x y v3 v v46 v2 es clock w) (hb:b0=false):mN g w0 true c i x y (.map (some w.heap.size)) v v46 v2 #[] 0 (w.alloc (.map #[] 0)):=by
 have he:=h.zi hb;subst he;refine ⟨h.aR.alloc h.aR.size _,fun _=>⟨_,rfl,h.aR.size,(Is w _).1⟩,fun k hk hc=>?_,fun k hk hi=>?_,h.lV,h.has,h.lT,(fun e=>by cases e),h.size,fun e=>?_,h.um⟩
 ·obtain ⟨G,h1,ah,aw⟩:=h.sl k hk hc
  exact ⟨G,h1,ah,NW _ aw⟩
 ·have:=(h.ul k hk hi).1;rw [hb] at this;cases this
 ·have:=(h.c8 e).1;rw [hb] at this;cases this
theorem mN.slice (h:mN g w0 b0 c i x y v3 v v46 v2 es clock w) (k:Nat) (hk:k<6) (hc:c k=false) :
  mN g w0 b0 (hI c k true) i x y v3 (wM v k (.slice (some ⟨w.heap.size,0,none⟩) (gZ k).length (gZ k).length)) v46 v2 es clock (w.alloc (.cells (zP g k) 202)):=by
 have bW:∀ j,j<6->i j=true->j≠k:=fun j aD hi e=>by
  subst e;have:=(h.ul j aD hi).2;rw [hc] at this;cases this
 refine ⟨h.aR.alloc h.aR.size _,fun e=>?_,fun j aD NX=>?_,fun j aD hi=>?_,fun e he=>?_,h.has,h.lT,h.zi,h.size,h.c8,h.um⟩
 ·obtain ⟨aN,h1,ah,aw⟩:=h.map e
  exact ⟨aN,h1,ah,NW _ aw⟩
 ·by_cases e:j=k
  ·subst e
   exact ⟨w.heap.size,by simp [wM],h.aR.size,(Is w _).1⟩
  ·have agC:c j=true:=by simpa [hI,e] using NX
   obtain ⟨G,h1,ah,aw⟩:=h.sl j aD agC;exact ⟨G,by simp [wM,e,h1],ah,NW _ aw⟩
 ·have:=h.ul j aD hi
  exact ⟨this.1,by simp [hI,bW j aD hi,this.2]⟩
 ·obtain ⟨j,h1,ah,aw,bn⟩:=h.lV e he
  exact ⟨j,h1,ah,aw,by simp [wM,bW j h1 ah,bn]⟩
theorem mN.Mf (h:mN g w0 b0 c i x y v3 v v46 v2 es clock w) (hb:b0=true) (hx:x=false):mN g w0 b0 c i true y v3 v v3 v2 es clock w :=
 ⟨h.aR,h.map,h.sl,h.ul,h.lV,h.has,h.lT,h.zi,h.size,fun _=>⟨hb,rfl⟩,fun e=>by have:=(h.um e).1;rw [hx] at this;cases this⟩
theorem mN.Mg (h:mN g w0 b0 c i x y v3 v v46 v2 es clock w) (hx:x=true):mN g w0 b0 c i x true v3 v v46 v46 es clock w :=
 ⟨h.aR,h.map,h.sl,h.ul,h.lV,h.has,h.lT,h.zi,h.size,h.c8,fun _=>⟨hx,rfl⟩⟩
theorem lz {ops:Array Oper} {md:Region.Mode} {L:Array Bool} {j d:Nat} {oj:Oper} (hi:j∈Region.ready md ops L) (aD:ops[j]? = some oj) (ha:(oj.after.toList.any fun e=>e.on==d&&Region.binds md e)=true):L.getD d false=true:=by
 obtain ⟨_,o,ho,fX⟩:=mem_ready.1 hi;rw [aD] at ho
 injection ho with ho
 subst ho;obtain ⟨e,he,ah⟩:=Cw.1 ha;simp only [qN,qQ] at ah
 have:=fX e (by simpa using he) ah.2
 rwa [ah.1] at this
theorem kG {ops:Array Oper} {md:Region.Mode} {L:Array Bool} {j:Nat} {oj:Oper} (hr:Region.ready md ops L = []) (h1:L.getD j true=false) (aD:ops[j]? = some oj) (fX:(oj.after.toList.all fun e=>!Region.binds md e||L.getD e.on false)=true):False:=by
 have:j∈Region.ready md ops L:=mem_ready.2 ⟨h1,oj,aD,fun e he hb=>by
  have:=List.all_eq_true.1 fX e (by simpa using he);rw [hb] at this
  simpa using this⟩
 rw [hr] at this;cases this
theorem agD (k:Nat) (hk:k<6) (hi:i k=false):(hI i k true 0).toNat+(hI i k true 1).toNat+(hI i k true 2).toNat+(hI i k true 3).toNat+(hI i k true 4).toNat+(hI i k true 5).toNat=(i 0).toNat+(i 1).toNat+(i 2).toNat+(i 3).toNat+(i 4).toNat+(i 5).toNat+1:=by
 obtain rfl|rfl|rfl|rfl|rfl|rfl:k=0\/k=1\/k=2\/k=3\/k=4\/k=5:=af
 all_goals
  simp [hI,hi]
  try omega
theorem mN.insert {aN:Nat} (h:mN g w0 b0 c i x y (.map (some aN)) v v46 v2 es clock w) (k:Nat) (hk:k<6) (hi:i k=false) (hb:b0=true) (hc:c k=true) (hm:w.heap[aN]? = some (.map es clock)) :
  mN g w0 b0 c (hI i k true) x y (.map (some aN)) v v46 v2 (es.push ⟨.string (lZ k),v k,clock⟩) (clock+1) { w with heap:=w.heap.setIfInBounds aN (.map (es.push ⟨.string (lZ k),v k,clock⟩) (clock+1)) }:=by
 obtain ⟨acQ,aV,ah,_⟩:=h.map hb;injection aV with aV
 injection aV with aV
 subst aV;have Bx:=Ib (o':=.map (es.push ⟨.string (lZ k),v k,clock⟩) (clock+1)) hm;refine ⟨h.aR.grown (H' w aN _) h.aR.size (fun j aD=>by injection aD with aD;omega),fun _=>⟨aN,rfl,ah,Bx.1⟩,fun j aD NX=>?_,fun j aD gO=>?_,fun e he=>?_,fun j aD gO=>?_,?_,fun e=>(by rw [hb] at e;cases e),?_,h.c8,h.um⟩
 ·obtain ⟨G,g1,g2,g3⟩:=h.sl j aD NX
  refine ⟨G,g1,g2,?_⟩;have bW:G≠aN:=fun e=>by subst e;rw [hm] at g3;cases g3
  exact (Bx.2 G bW).trans g3
 ·by_cases e:j=k
  ·subst e;exact ⟨hb,hc⟩
  ·exact h.ul j aD (by simpa [hI,e] using gO)
 ·simp only [wk,jl,mD] at he
  rcases he with he|rfl
  ·obtain ⟨j,g1,g2,g3,g4⟩:=h.lV e he
   exact ⟨j,g1,by simp [hI,g2],g3,g4⟩
  ·exact ⟨k,hk,by simp [hI],rfl,rfl⟩
 ·by_cases e:j=k
  ·subst e;exact ⟨⟨.string (lZ j),v j,clock⟩,av,rfl⟩
  ·obtain ⟨q,aX,ba⟩:=h.has j aD (by simpa [hI,e] using gO)
   exact ⟨q,by simp [aX],ba⟩
 ·rw [wk,nQ,EV]
  refine ⟨h.lT,av,?_⟩;intro a ha b oO vK;simp only [ny,rT,mD] at oO
  subst oO;obtain ⟨e,he,rfl⟩:=kM.1 ha;exact h.fresh k hk hi e he vK
 ·rw [Array.size_push,h.size,agD k hk hi]
end
theorem agE {b0:Bool} {c i:Nat->Bool} {x y:Bool}:∀ n,n<51->(wN b0 c i x y).getD n true=false->n∈[0,13,14,27,28,32,33,37,38,42,43,47,48,49,50]
 | 0,_,h=>by simp
 | 1,_,h=>absurd (show true=false from h) ak
 | 2,_,h=>absurd (show true=false from h) ak
 | 3,_,h=>absurd (show true=false from h) ak
 | 4,_,h=>absurd (show true=false from h) ak
 | 5,_,h=>absurd (show true=false from h) ak
 | 6,_,h=>absurd (show true=false from h) ak
 | 7,_,h=>absurd (show true=false from h) ak
 | 8,_,h=>absurd (show true=false from h) ak
 | 9,_,h=>absurd (show true=false from h) ak
 | 10,_,h=>absurd (show true=false from h) ak
 | 11,_,h=>absurd (show true=false from h) ak
 | 12,_,h=>absurd (show true=false from h) ak
 | 13,_,h=>by simp
 | 14,_,h=>by simp
 | 15,_,h=>absurd (show true=false from h) ak
 | 16,_,h=>absurd (show true=false from h) ak
 | 17,_,h=>absurd (show true=false from h) ak
 | 18,_,h=>absurd (show true=false from h) ak
 | 19,_,h=>absurd (show true=false from h) ak
 | 20,_,h=>absurd (show true=false from h) ak
 | 21,_,h=>absurd (show true=false from h) ak
 | 22,_,h=>absurd (show true=false from h) ak
 | 23,_,h=>absurd (show true=false from h) ak
 | 24,_,h=>absurd (show true=false from h) ak
 | 25,_,h=>absurd (show true=false from h) ak
 | 26,_,h=>absurd (show true=false from h) ak
 | 27,_,h=>by simp
 | 28,_,h=>by simp
 | 29,_,h=>absurd (show true=false from h) ak
 | 30,_,h=>absurd (show true=false from h) ak
 | 31,_,h=>absurd (show true=false from h) ak
 | 32,_,h=>by simp
 | 33,_,h=>by simp
 | 34,_,h=>absurd (show true=false from h) ak
 | 35,_,h=>absurd (show true=false from h) ak
 | 36,_,h=>absurd (show true=false from h) ak
 | 37,_,h=>by simp
 | 38,_,h=>by simp
 | 39,_,h=>absurd (show true=false from h) ak
 | 40,_,h=>absurd (show true=false from h) ak
 | 41,_,h=>absurd (show true=false from h) ak
 | 42,_,h=>by simp
 | 43,_,h=>by simp
 | 44,_,h=>absurd (show true=false from h) ak
 | 45,_,h=>absurd (show true=false from h) ak
 | 46,_,h=>absurd (show true=false from h) ak
 | 47,_,h=>by simp
 | 48,_,h=>by simp
 | 49,_,h=>by simp
 | 50,_,h=>by simp
 | n+51,hn,_=>absurd hn af
def agF (g:Nat) (w0:World) (L:Array Bool) (a:Act) (w:World):Prop :=
 ∃ (b0:Bool) (c i:Nat->Bool) (x y:Bool) (v3:Value) (v:Nat->Value) (v46 v2:Value) (es:Array MapEntry) (clock:Nat),L=wN b0 c i x y/\a=⟨qG g v3 v v46 v2,[]⟩/\mN g w0 b0 c i x y v3 v v46 v2 es clock w
structure agG (g base:Nat) (es:Array MapEntry) (w:World):Prop where
 keys:uJ es
 lT:(es.toList.map (·.key)).Nodup
 size:es.size=6
 has:∀ k,k<6->∃ e∈es.toList,e.key=.string (lZ k)/\∃ G,e.val=.slice (some ⟨G,0,none⟩) (gZ k).length (gZ k).length/\base<=G/\w.heap[G]? = some (.cells (zP g k) 202)
def agH (g:Nat) (w:World) (e:Ending) (w':World):Prop :=
 ∃ (aN:Nat) (es:Array MapEntry) (clock:Nat),e=.returned (.map (some aN))/\w'.heap[aN]? = some (.map es clock)/\agG g w.heap.size es w'/\Below w.heap.size w w'
theorem Tb (g:Nat) (w:World):Calls prog 74 #[.pointer (some ⟨g,0,none⟩)] w (agH g w):=by
 have mixed:prog.follows Departure.mixedOrders=true:=ai
 go_enter func74,ntmps74
 go_wp2_with fail;refine wp_region_held_drew (S:=fun _=>True) ai trivial (fun hHeld=>?_);refine aj 1 ?_;refine aj 2 ?_;refine aj 3 ?_;refine aj 4 ?_;refine aj 5 ?_;refine aj 6 ?_;refine aj 7 ?_;refine aj 8 ?_;refine aj 9 ?_;refine aj 10 ?_;refine aj 11 ?_;refine aj 12 ?_;refine aj 15 ?_;refine aj 16 ?_;refine aj 17 ?_;refine aj 18 ?_;refine aj 19 ?_;refine aj 20 ?_;refine aj 21 ?_;refine aj 22 ?_;refine aj 23 ?_;refine aj 24 ?_;refine aj 25 ?_;refine aj 26 ?_;refine aj 29 ?_;refine aj 30 ?_;refine aj 31 ?_;refine aj 34 ?_;refine aj 35 ?_;refine aj 36 ?_;refine aj 39 ?_;refine aj 40 ?_;refine aj 41 ?_;refine aj 44 ?_;refine aj 45 ?_;refine aj 46 ?_;refine Mh (agF g w) ?_ ?_ _ _ _ _ ak ?_
 ·intro L a aC q2 hr
  obtain ⟨b0,c,i,x,y,v3,v,v46,v2,es,clock,rfl,rfl,H⟩:=q2;have f0:b0=true:=by
   cases hb:b0 with
   | true=>rfl
   | false=>exact (kG hr (j:=0) (by rw [hb];rfl) rfl rfl).elim
  have Jm:c 0=true:=by
   cases hb:c 0 with
   | true=>rfl
   | false=>exact (kG hr (j:=13) hb rfl rfl).elim
  have Jn:c 1=true:=by
   cases hb:c 1 with
   | true=>rfl
   | false=>exact (kG hr (j:=27) hb rfl rfl).elim
  have Jo:c 2=true:=by
   cases hb:c 2 with
   | true=>rfl
   | false=>exact (kG hr (j:=32) hb rfl rfl).elim
  have Jp:c 3=true:=by
   cases hb:c 3 with
   | true=>rfl
   | false=>exact (kG hr (j:=37) hb rfl rfl).elim
  have Jq:c 4=true:=by
   cases hb:c 4 with
   | true=>rfl
   | false=>exact (kG hr (j:=42) hb rfl rfl).elim
  have Jr:c 5=true:=by
   cases hb:c 5 with
   | true=>rfl
   | false=>exact (kG hr (j:=47) hb rfl rfl).elim
  have zj:i 0=true:=by
   cases hb:i 0 with
   | true=>rfl
   | false=>exact (kG hr (j:=14) hb rfl (by simp [wN,Region.binds,f0,Jm])).elim
  have zk:i 1=true:=by
   cases hb:i 1 with
   | true=>rfl
   | false=>exact (kG hr (j:=28) hb rfl (by simp [wN,Region.binds,f0,Jn])).elim
  have zl:i 2=true:=by
   cases hb:i 2 with
   | true=>rfl
   | false=>exact (kG hr (j:=33) hb rfl (by simp [wN,Region.binds,f0,Jo])).elim
  have zm:i 3=true:=by
   cases hb:i 3 with
   | true=>rfl
   | false=>exact (kG hr (j:=38) hb rfl (by simp [wN,Region.binds,f0,Jp])).elim
  have zn:i 4=true:=by
   cases hb:i 4 with
   | true=>rfl
   | false=>exact (kG hr (j:=43) hb rfl (by simp [wN,Region.binds,f0,Jq])).elim
  have zo:i 5=true:=by
   cases hb:i 5 with
   | true=>rfl
   | false=>exact (kG hr (j:=48) hb rfl (by simp [wN,Region.binds,f0,Jr])).elim
  have By:x=true:=by
   cases hb:x with
   | true=>rfl
   | false=>exact (kG hr (j:=49) (by rw [hb];rfl) rfl (by simp [wN,Region.binds,f0,zj,zk,zl,zm,zn,zo,Jm,Jn,Jo,Jp,Jq,Jr])).elim
  have E':y=true:=by
   cases hb:y with
   | true=>rfl
   | false=>exact (kG hr (j:=50) (by rw [hb];rfl) rfl (by simp [wN,Region.binds,f0,By,zj,zk,zl,zm,zn,zo,Jm,Jn,Jo,Jp,Jq,Jr])).elim
  obtain ⟨aN,cG,_,hm⟩:=H.map f0;obtain ⟨_,Mj⟩:=H.c8 By;obtain ⟨_,bE⟩:=H.um E';subst cG;subst Mj;subst bE;have fz:=J H;have ag:=J hm;have aP:=J (show es.size=6 by rw [H.size,zj,zk,zl,zm,zn,zo];rfl);have hX:=J (show ∀ k,k<6->i k=true from fun k hk=>by
   obtain rfl|rfl|rfl|rfl|rfl|rfl:k=0\/k=1\/k=2\/k=3\/k=4\/k=5:=af
   all_goals assumption)
  clear H hm hr f0 By E' Jm zj Jn zk Jo zl Jp zm Jq zn Jr zo;unfold qG;go_wp2_with fail;go_ret;exact ⟨aN,es,clock,rfl,ag.out,⟨fz.keys,fz.lT,aP.out,fun k hk=>by
   obtain ⟨e,h1,ah⟩:=fz.has k hk (hX.out k hk);obtain ⟨j,zM,FT,zZ,agI⟩:=fz.lV e h1;have B1:j=k:=NH j k zM hk (by rw [ah] at zZ;injection zZ with zZ;exact zZ.symm);subst B1;obtain ⟨G,g1,g2,g3⟩:=fz.sl j hk (fz.ul j hk FT).2;exact ⟨e,h1,ah,G,by rw [agI,g1],g2,g3⟩⟩,fz.aR⟩
 ·intro L a aC j q2 aD
  obtain ⟨b0,c,i,x,y,v3,v,v46,v2,es,clock,rfl,rfl,H⟩:=q2;obtain ⟨hf,oj,qs,_⟩:=mem_ready.1 aD;have aT:j<51:=(w5.1 qs).1;have hl:=agE j aT hf;simp only [fb,mr,l1] at hl
  clear qs aT
  rcases hl with rfl|rfl|rfl|rfl|rfl|rfl|rfl|rfl|rfl|rfl|rfl|rfl|rfl|rfl|rfl
  ·have eI:b0=false:=hf
   refine kH (oi:=_) rfl rfl fun K hK=>?_
   go_simp;refine hK _ _ ?_;exact ⟨true,c,i,x,y,_,v,v46,v2,#[],0,rfl,rfl,H.makeMap eI⟩
  ·have eI:c 0=false:=hf
   refine kH (oi:=_) rfl rfl fun K hK=>?_
   go_simp;refine hK _ _ ?_;exact ⟨b0,hI c 0 true,i,x,y,v3,wM v 0 _,v46,v2,es,clock,rfl,rfl,H.slice 0 ak eI⟩
  ·have eI:i 0=false:=hf
   have fS:b0=true:=lz (d:=0) aD rfl rfl;have uO:c 0=true:=lz (d:=13) aD rfl rfl;obtain ⟨aN,cG,_,hm⟩:=H.map fS;subst cG;have gj:(Instr.mapUpdate 156 (.map (some aN)) (.string ⟨#[99,97,112,97,99,105,116,121]⟩) (v 0)).run prog aC=.ok () _:=zN underlying156 underlying9 hm H.keys (H.fresh 0 ak eI) (v 0);refine kH (oi:=_) rfl rfl fun K hK=>?_
   go_simp;rw [show (qG g (.map (some aN)) v v46 v2)[3]?.getD undef=.map (some aN) from rfl,show (qG g (.map (some aN)) v v46 v2)[16]?.getD undef=v 0 from rfl,gj];simp only [Result.andThen,Oper.upon];refine hK _ _ ?_;exact ⟨b0,c,hI i 0 true,x,y,_,v,v46,v2,_,_,rfl,rfl,H.insert 0 ak eI fS uO hm⟩
  ·have eI:c 1=false:=hf
   refine kH (oi:=_) rfl rfl fun K hK=>?_
   go_simp;refine hK _ _ ?_;exact ⟨b0,hI c 1 true,i,x,y,v3,wM v 1 _,v46,v2,es,clock,rfl,rfl,H.slice 1 ak eI⟩
  ·have eI:i 1=false:=hf
   have fS:b0=true:=lz (d:=0) aD rfl rfl;have uO:c 1=true:=lz (d:=27) aD rfl rfl;obtain ⟨aN,cG,_,hm⟩:=H.map fS;subst cG;have gj:(Instr.mapUpdate 156 (.map (some aN)) (.string ⟨#[97,108,108,111,99,97,116,97,98,108,101]⟩) (v 1)).run prog aC=.ok () _:=zN underlying156 underlying9 hm H.keys (H.fresh 1 ak eI) (v 1);refine kH (oi:=_) rfl rfl fun K hK=>?_
   go_simp;rw [show (qG g (.map (some aN)) v v46 v2)[3]?.getD undef=.map (some aN) from rfl,show (qG g (.map (some aN)) v v46 v2)[29]?.getD undef=v 1 from rfl,gj];simp only [Result.andThen,Oper.upon];refine hK _ _ ?_;exact ⟨b0,c,hI i 1 true,x,y,_,v,v46,v2,_,_,rfl,rfl,H.insert 1 ak eI fS uO hm⟩
  ·have eI:c 2=false:=hf
   refine kH (oi:=_) rfl rfl fun K hK=>?_
   go_simp;refine hK _ _ ?_;exact ⟨b0,hI c 2 true,i,x,y,v3,wM v 2 _,v46,v2,es,clock,rfl,rfl,H.slice 2 ak eI⟩
  ·have eI:i 2=false:=hf
   have fS:b0=true:=lz (d:=0) aD rfl rfl;have uO:c 2=true:=lz (d:=32) aD rfl rfl;obtain ⟨aN,cG,_,hm⟩:=H.map fS;subst cG;have gj:(Instr.mapUpdate 156 (.map (some aN)) (.string ⟨#[112,101,114,105,111,100]⟩) (v 2)).run prog aC=.ok () _:=zN underlying156 underlying9 hm H.keys (H.fresh 2 ak eI) (v 2);refine kH (oi:=_) rfl rfl fun K hK=>?_
   go_simp;rw [show (qG g (.map (some aN)) v v46 v2)[3]?.getD undef=.map (some aN) from rfl,show (qG g (.map (some aN)) v v46 v2)[33]?.getD undef=v 2 from rfl,gj];simp only [Result.andThen,Oper.upon];refine hK _ _ ?_;exact ⟨b0,c,hI i 2 true,x,y,_,v,v46,v2,_,_,rfl,rfl,H.insert 2 ak eI fS uO hm⟩
  ·have eI:c 3=false:=hf
   refine kH (oi:=_) rfl rfl fun K hK=>?_
   go_simp;refine hK _ _ ?_;exact ⟨b0,hI c 3 true,i,x,y,v3,wM v 3 _,v46,v2,es,clock,rfl,rfl,H.slice 3 ak eI⟩
  ·have eI:i 3=false:=hf
   have fS:b0=true:=lz (d:=0) aD rfl rfl;have uO:c 3=true:=lz (d:=37) aD rfl rfl;obtain ⟨aN,cG,_,hm⟩:=H.map fS;subst cG;have gj:(Instr.mapUpdate 156 (.map (some aN)) (.string ⟨#[114,101,116,114,105,101,115]⟩) (v 3)).run prog aC=.ok () _:=zN underlying156 underlying9 hm H.keys (H.fresh 3 ak eI) (v 3);refine kH (oi:=_) rfl rfl fun K hK=>?_
   go_simp;rw [show (qG g (.map (some aN)) v v46 v2)[3]?.getD undef=.map (some aN) from rfl,show (qG g (.map (some aN)) v v46 v2)[37]?.getD undef=v 3 from rfl,gj];simp only [Result.andThen,Oper.upon];refine hK _ _ ?_;exact ⟨b0,c,hI i 3 true,x,y,_,v,v46,v2,_,_,rfl,rfl,H.insert 3 ak eI fS uO hm⟩
  ·have eI:c 4=false:=hf
   refine kH (oi:=_) rfl rfl fun K hK=>?_
   go_simp;refine hK _ _ ?_;exact ⟨b0,hI c 4 true,i,x,y,v3,wM v 4 _,v46,v2,es,clock,rfl,rfl,H.slice 4 ak eI⟩
  ·have eI:i 4=false:=hf
   have fS:b0=true:=lz (d:=0) aD rfl rfl;have uO:c 4=true:=lz (d:=42) aD rfl rfl;obtain ⟨aN,cG,_,hm⟩:=H.map fS;subst cG;have gj:(Instr.mapUpdate 156 (.map (some aN)) (.string ⟨#[109,97,120,97,103,101]⟩) (v 4)).run prog aC=.ok () _:=zN underlying156 underlying9 hm H.keys (H.fresh 4 ak eI) (v 4);refine kH (oi:=_) rfl rfl fun K hK=>?_
   go_simp;rw [show (qG g (.map (some aN)) v v46 v2)[3]?.getD undef=.map (some aN) from rfl,show (qG g (.map (some aN)) v v46 v2)[41]?.getD undef=v 4 from rfl,gj];simp only [Result.andThen,Oper.upon];refine hK _ _ ?_;exact ⟨b0,c,hI i 4 true,x,y,_,v,v46,v2,_,_,rfl,rfl,H.insert 4 ak eI fS uO hm⟩
  ·have eI:c 5=false:=hf
   refine kH (oi:=_) rfl rfl fun K hK=>?_
   go_simp;refine hK _ _ ?_;exact ⟨b0,hI c 5 true,i,x,y,v3,wM v 5 _,v46,v2,es,clock,rfl,rfl,H.slice 5 ak eI⟩
  ·have eI:i 5=false:=hf
   have fS:b0=true:=lz (d:=0) aD rfl rfl;have uO:c 5=true:=lz (d:=47) aD rfl rfl;obtain ⟨aN,cG,_,hm⟩:=H.map fS;subst cG;have gj:(Instr.mapUpdate 156 (.map (some aN)) (.string ⟨#[100,101,97,100]⟩) (v 5)).run prog aC=.ok () _:=zN underlying156 underlying9 hm H.keys (H.fresh 5 ak eI) (v 5);refine kH (oi:=_) rfl rfl fun K hK=>?_
   go_simp;rw [show (qG g (.map (some aN)) v v46 v2)[3]?.getD undef=.map (some aN) from rfl,show (qG g (.map (some aN)) v v46 v2)[45]?.getD undef=v 5 from rfl,gj];simp only [Result.andThen,Oper.upon];refine hK _ _ ?_;exact ⟨b0,c,hI i 5 true,x,y,_,v,v46,v2,_,_,rfl,rfl,H.insert 5 ak eI fS uO hm⟩
  ·have eI:x=false:=hf
   have fS:b0=true:=lz (d:=0) aD rfl rfl;refine kH (oi:=_) rfl rfl fun K hK=>?_
   go_simp;refine hK _ _ ?_;exact ⟨b0,c,i,true,y,v3,v,v3,v2,es,clock,rfl,rfl,H.Mf fS eI⟩
  ·have fS:x=true:=lz (d:=49) aD rfl rfl
   refine kH (oi:=_) rfl rfl fun K hK=>?_
   go_simp;refine hK _ _ ?_;exact ⟨b0,c,i,x,true,v3,v,v46,v46,es,clock,rfl,rfl,H.Mg fS⟩
 ·exact ⟨false,fun _=>false,fun _=>false,false,false,undef,fun _=>undef,undef,.map none,#[],0,rfl,rfl,⟨(aO _ _).drew,(fun e=>by cases e),(fun k _ e=>by cases e),(fun k _ e=>by cases e),av,(fun k _ e=>by cases e),av,fun _=>rfl,rfl,(fun e=>by cases e),fun e=>by cases e⟩⟩
end Go.Proofs.YtmmchlfoplcnbaaGreatDoor
