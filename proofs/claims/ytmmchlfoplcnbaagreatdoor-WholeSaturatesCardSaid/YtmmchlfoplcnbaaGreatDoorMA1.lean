/- A part of the walk. -/
import Derived.WalkKit
import Derived.WalkSpells
import Derived.WalkLawsBesides
import Derived.WalkSmall
import Derived.Lib.AppendStr
import Derived.Maps.AppendAt
import Derived.Deep.AppendLies
import Derived.Deep.MidRow
import Derived.Deep.RegionHeld3
import Derived.Test.YtmmchlfoplcnbaaGreatDoorMA0
namespace Go.Proofs.YtmmchlfoplcnbaaGreatDoor
open Go Go.RowKit Tryz
set_option linter.all false
set_option maxRecDepth 100000
set_option maxHeartbeats 4000000
section
def c' (a:Int):Prop:=-9223372036854775808<=a/\a<=9223372036854775807
theorem sZ {k:IntKind} {a b:Int} (h:a=b):Ending.returned (.int k a)=.returned (.int k b):=by rw [h]
theorem gw {a b:Bool} (h:a=b):Ending.returned (.bool a)=.returned (.bool b):=by rw [h]
theorem nw {W aC:World} (hb:Below W.heap.size W aC):(∀ b o,b<W.heap.size->aC.cell? ⟨b,o,none⟩=W.cell? ⟨b,o,none⟩)/\(∀ b o,b<W.heap.size->aC.frozen? ⟨b,o,none⟩=W.frozen? ⟨b,o,none⟩) :=
 ⟨fun b o h=>hb.cell (p:=⟨b,o,none⟩) h,fun b o h=>hb.frozen (p:=⟨b,o,none⟩) h⟩
theorem ko (b off i:Nat):(⟨b,off,none⟩:Addr).add i=⟨b,off+i,none⟩:=by
 unfold Addr.add;split
 ·rename_i h;subst h;rfl
 ·rfl
structure cu (α:Type) (size:Nat) where
 enc:α->List Value
 len:∀ x,(enc x).length=size
 one:∀ x,∀ u∈enc x,u.oneCell'=true
 pos:0<size
variable {α:Type} {size:Nat}
def cu.all (E:cu α size) (l:List α):List Value:=l.flatMap E.enc
theorem cu.all_append (E:cu α size) (l m:List α):E.all (l++m)=E.all l++E.all m:=by simp [cu.all]
theorem cu.D2 (E:cu α size) (x:α):E.all [x]=E.enc x:=by simp [cu.all]
theorem cu.all_cons (E:cu α size) (x:α) (l:List α):E.all (x :: l)=E.enc x++E.all l:=by simp [cu.all]
theorem cu.h3 (E:cu α size) (l:List α):(E.all l).length=l.length*size:=by
 induction l with
 | nil=>simp [cu.all]
 | cons a l b6=>rw [E.all_cons,cd,E.len,b6,cy,w1,w2,Nat.add_comm]
theorem cu.s3 (E:cu α size) (l:List α):∀ u∈E.all l,u.oneCell'=true:=by
 intro u hu;simp only [cu.all,List.mem_flatMap] at hu
 obtain ⟨x,_,hx⟩:=hu;exact E.one x u hx
theorem cu.J9 (E:cu α size):∀ (l:List α) (i j:Nat) (hi:i<l.length),j<size->(E.all l)[i*size+j]? = (E.enc l[i])[j]?:=by
 intro l
 induction l with
 | nil=>intro i j hi;simp at hi
 | cons a l b6 =>
  intro i j hi aD;rw [E.all_cons]
  cases i with
  | zero=>rw [w4,fw,J' (by rw [E.len];exact aD)];rfl
  | succ i =>
   rw [Ka (by rw [E.len,w1];omega),E.len];rw [show (i+1)*size+j-size=i*size+j by rw [w1];omega];exact b6 i j (by simpa using hi) aD
def a7 (w:World) (E:cu α size) (A:Option Addr) (l:List α):Prop :=
 l≠[]->∃ b off,A=some ⟨b,off,none⟩/\b<w.heap.size/\∀ j u,(E.all l)[j]? = some u->w.cell? ⟨b,off+j,none⟩=some u
section
variable {w w':World} {E:cu α size} {A:Option Addr} {l:List α}
theorem a7.nil (w:World) (E:cu α size) (A:Option Addr):a7 w E A ([]:List α):=fun h=>absurd rfl h
theorem a7.keep (h:a7 w E A l) (hs:w.heap.size<=w'.heap.size) (hk:∀ b o,b<w.heap.size->w'.cell? ⟨b,o,none⟩=w.cell? ⟨b,o,none⟩):a7 w' E A l:=fun hn=>by
 obtain ⟨b,off,e,hb,hc⟩:=h hn;exact ⟨b,off,e,af,fun j u hu=>(hk _ _ hb).trans (hc j u hu)⟩
theorem a7.below (h:a7 w E A l) (hb:Below w.heap.size w w'):a7 w' E A l:=h.keep hb.size (nw hb).1
theorem a7.alloc (h:a7 w E A l) (o:Obj):a7 (w.alloc o) E A l:=h.below ((aO _ _).alloc aF o)
theorem a7.drewN (h:a7 w E A l) (n:Nat):a7 (w.drewN n) E A l:=h
theorem a7.drew (h:a7 w E A l):a7 w.drew E A l:=h
theorem a7.at_ (h:a7 w E A l) {i:Nat} (hi:i<l.length):∃ b off,A=some ⟨b,off,none⟩/\b<w.heap.size/\∀ j u,(E.enc l[i])[j]? = some u->w.cell? ⟨b,off+(i*size+j),none⟩=some u:=by
 obtain ⟨b,off,e,hb,hc⟩:=h (by intro e;subst e;simp at hi);refine ⟨b,off,e,hb,fun j u hu=>hc _ u ?_⟩;rw [E.J9 l i j hi (by have:=E.len l[i];have:=(jv.1 hu).1;omega)];exact hu
theorem a7.drop (h:a7 w E A l) (k cap:Nat) (hc:l.length<=cap):a7 w E (if cap=k then A else A.map (·.add (k*size))) (l.drop k):=fun hn=>by
 have hk:k<l.length:=by
  rcases gB k l.length with h|h
  ·exact h
  ·rw [D3 h] at hn;exact absurd rfl hn
 obtain ⟨b,off,rfl,hb,hcell⟩:=h (by intro e;subst e;simp at hk);rw [bp af];refine ⟨b,off+k*size,by simp [ko],hb,fun j u hu=>?_⟩;rw [D4];refine hcell _ u ?_;have e:E.all l=E.all (l.take k)++E.all (l.drop k):=by rw [<- E.all_append,p1]
 have hl:(E.all (l.take k)).length=k*size:=by rw [E.h3,fv,oF af]
 rw [e,Ka (by rw [hl];omega),hl,Kb];exact hu
theorem a7.take (h:a7 w E A l) (k:Nat):a7 w E A (l.take k):=fun hn=>by
 obtain ⟨b,off,rfl,hb,hcell⟩:=h (by intro e;subst e;simp at hn);refine ⟨b,off,rfl,hb,fun j u hu=>hcell _ u ?_⟩;have e:E.all l=E.all (l.take k)++E.all (l.drop k):=by rw [<- E.all_append,p1]
 rw [e,J' (jv.1 hu).1];exact hu
theorem a7.made (w:World) (E:cu α size) (l:List α) (e:TypeId) (cs:Array Value) (fr:Nat×Nat) (hc:cs.toList=E.all l):a7 (w.alloc (.cells cs e fr)) E (some ⟨w.heap.size,0,none⟩) l:=fun _ =>
 ⟨w.heap.size,0,rfl,av,fun j u hu=>by
  rw [fw];have:=World.news_of_block (ya w (.cells cs e fr)) j u (by rw [hc];exact hu)
  rwa [ko,fw] at this⟩
end
def Own (w:World) (base:Nat) (e:TypeId) (E:cu α size) (v:Value) (l:List α):Prop:=w.ownsRow base e size v l.length (E.all l)
section
variable {w w':World} {base:Nat} {e:TypeId} {E:cu α size} {v:Value} {l:List α}
theorem Own.e8 (w:World) (base:Nat) (e:TypeId) (E:cu α size):Own w base e E (.slice none 0 0) ([]:List α):=World.ownsRow_nil _ _ _ _
theorem Own.alloc (h:Own w base e E v l) (o:Obj):Own (w.alloc o) base e E v l:=World.ownsRow.alloc h o
theorem Own.drew (h:Own w base e E v l):Own w.drew base e E v l:=h
theorem Own.drewN (h:Own w base e E v l) (n:Nat):Own (w.drewN n) base e E v l:=h
theorem Own.below {B:Nat} (h:Own w base e E v l) (hb:Below B w w') (bM:w.heap.size<=B):Own w' base e E v l:=by
 refine World.ownsRow.kept (row:=none) h ⟨hb.os,hb.tape,hb.output,hb.size,fun k hk _=>hb.block k af⟩ ?_
 cases hv:v.ownBlock <;> simp
theorem Own.mono {Gy:Nat} (h:Own w base e E v l) (hb:Gy<=base):Own w Gy e E v l:=by
 refine ⟨h.1,?_⟩
 rcases h.2 with ah|⟨g,cap,cur,hv,az,r⟩
 ·exact .inl ah
 ·exact .inr ⟨g,cap,cur,hv,af,r⟩
theorem Own.form (h:Own w base e E v l):∃ A c,v=.slice A l.length c/\l.length<=c/\c<=9223372036854775807:=by
 rcases h.2 with ⟨rfl,aI⟩|⟨g,cap,cur,rfl,_,_,hn,hm,_⟩
 ·rw [aI];exact ⟨none,0,rfl,e3 _,af⟩
 ·exact ⟨_,cap,rfl,hn,by simpa only [maxLen] using hm⟩
theorem Own.kp (h:Own w base e E v l):∃ A c,v=.slice A l.length c/\l.length<=c/\c<=9223372036854775807/\a7 w E A l:=by
 rcases h.2 with ⟨rfl,aI⟩|⟨g,cap,cur,rfl,hb,az,hn,hm,hcs,ht⟩
 ·have:l = []:=Cx aI
  subst this;exact ⟨none,0,rfl,e3 _,af,a7.nil _ _ _⟩
 ·refine ⟨_,cap,rfl,hn,by simpa only [maxLen] using hm,fun _=>⟨g,0,rfl,(w5.1 az).1,fun j u hu=>?_⟩⟩
  have:=World.ownsRow.cells h (g:=g) rfl j u hu
  rwa [ko] at this
theorem Own.cZ {A:Option Addr} {n c:Nat} (h:Own w base e E (.slice A n c) l):a7 w E A l:=by
 obtain ⟨br,a8,hv,_,_,hr⟩:=h.kp;injection hv with hA
 subst hA;exact hr
theorem Own.cap {A:Option Addr} {n c:Nat} (h:Own w base e E (.slice A n c) l):n=l.length/\l.length<=c/\c<=9223372036854775807:=by
 obtain ⟨br,a8,hv,h1,ah⟩:=h.form;injection hv with hA hn hc
 subst hn;subst hc;exact ⟨rfl,h1,ah⟩
theorem Own.jX {B:Nat} {a:World} (h:Own w base e E v l) (hb:Below B a w) (az:w.grownBy w' v.ownBlock) (bM:B<=base) (hw:B<=w.heap.size):Below B a w' :=
 hb.grown az hw fun k hk=>by have:=(World.ownsRow.lt h k hk).1;omega
theorem Own.iw (h:Own w base e E v l):∀ k,v.ownBlock=some k->base<=k/\k<w.heap.size:=World.ownsRow.lt h
theorem Own.grown {row:Option Nat} (h:Own w base e E v l) (az:w.grownBy w' row) (bW:v.ownBlock=none\/v.ownBlock≠row):Own w' base e E v l:=World.ownsRow.kept h az bW
theorem Own.made (w:World) (base:Nat) (e:TypeId) (E:cu α size) (l:List α) (cs:Array Value) (hc:cs.toList=E.all l) (hb:base<=w.heap.size) (hm:l.length<=9223372036854775807) :
  Own (w.alloc (.cells cs e)) base e E (.slice (some ⟨w.heap.size,0,none⟩) l.length l.length) l:=by
 have bZ:cs.size=l.length*size:=by rw [<- mm,hc,E.h3]
 refine ⟨E.h3 l,.inr ⟨w.heap.size,l.length,cs,rfl,hb,ya w _,e3 _,by unfold maxLen;omega,bZ,?_⟩⟩;rw [<- bZ,<- mm,kn,hc]
end
def nx (w:World) (base:Nat) (E:cu α size) (A:Option Addr) (l:List α):Prop :=
 l≠[]->∃ b off,A=some ⟨b,off,none⟩/\base<=b/\b<w.heap.size/\∀ j u,(E.all l)[j]? = some u->w.cell? ⟨b,off+j,none⟩=some u
section
variable {w w':World} {base:Nat} {E:cu α size} {A:Option Addr} {l:List α}
theorem nx.kp (h:nx w base E A l):a7 w E A l:=fun hn=>by
 obtain ⟨b,off,e,_,hb,hc⟩:=h hn;exact ⟨b,off,e,hb,hc⟩
theorem nx.keep (h:nx w base E A l) (hs:w.heap.size<=w'.heap.size) (hk:∀ b o,base<=b->b<w.heap.size->w'.cell? ⟨b,o,none⟩=w.cell? ⟨b,o,none⟩):nx w' base E A l:=fun hn=>by
 obtain ⟨b,off,e,aI,hb,hc⟩:=h hn;exact ⟨b,off,e,aI,af,fun j u hu=>(hk _ _ aI hb).trans (hc j u hu)⟩
theorem nx.below (h:nx w base E A l) (hb:Below w.heap.size w w'):nx w' base E A l:=h.keep hb.size fun b o _ aT=>(nw hb).1 b o aT
theorem nx.alloc (h:nx w base E A l) (o:Obj):nx (w.alloc o) base E A l:=h.below ((aO _ _).alloc aF o)
theorem nx.grown {row:Option Nat} (h:nx w base E A l) (az:w.grownBy w' row) (hr:∀ k,row=some k->k<base):nx w' base E A l :=
 h.keep az.size fun b o aI aT=>Gz (az.block b aT (by intro e;have:=hr b e.symm;omega))
theorem nx.made (w:World) (E:cu α size) (l:List α) (e:TypeId) (cs:Array Value) (fr:Nat×Nat) (hc:cs.toList=E.all l):nx (w.alloc (.cells cs e fr)) w.heap.size E (some ⟨w.heap.size,0,none⟩) l:=fun _ =>
 ⟨w.heap.size,0,rfl,e3 _,av,fun j u hu=>by
  rw [fw];have:=World.news_of_block (ya w (.cells cs e fr)) j u (by rw [hc];exact hu)
  rwa [ko,fw] at this⟩
end
def ar (w:World) (g:Nat) (t:TypeId) (cs:Array Value):Prop:=w.heap[g]? = some (.cells cs t (0,0))
section
variable {w w':World} {g:Nat} {t:TypeId} {cs:Array Value}
theorem ar.lt (h:ar w g t cs):g<w.heap.size:=by
 rcases gB g w.heap.size with aT|iy
 ·exact aT
 ·unfold ar at h;rw [vr iy] at h;cases h
theorem ar.cell (h:ar w g t cs) (i:Nat):w.cell? ⟨g,i,none⟩=cs[i]?:=cell_of_row w g i cs t (0,0) h
theorem ar.frozen (h:ar w g t cs) (i:Nat):w.frozen? ⟨g,i,none⟩=false:=by
 unfold ar at h
 simp [World.frozen?,h]
theorem ar.new (w:World) (t:TypeId) (cs:Array Value):ar (w.alloc (.cells cs t)) w.heap.size t cs:=ya w _
theorem ar.drew (h:ar w g t cs):ar w.drew g t cs:=h
theorem ar.drewN (h:ar w g t cs) (n:Nat):ar (w.drewN n) g t cs:=h
theorem ar.alloc (h:ar w g t cs) (o:Obj):ar (w.alloc o) g t cs:=(Below.heap_alloc w o g h.lt).trans h
theorem ar.eW (h:ar w g t cs) (i:Nat) (u:Value):ar (w.setCell ⟨g,i,none⟩ u) g t (cs.setIfInBounds i u):=by
 unfold ar at h ⊢
 simp [World.setCell,Kc,h]
theorem ar.cF (h:ar w g t cs) {p:Addr} (hp:g≠p.block) (u:Value):ar (w.setCell p u) g t cs:=(Below.heap_setCell w p u g hp).trans h
theorem ar.below {B:Nat} (h:ar w g t cs) (hb:Below B w w') (az:g<B):ar w' g t cs:=(hb.block g az).trans h
theorem ar.bw (h:ar w g t cs) (hb:Below w.heap.size w w'):ar w' g t cs:=h.below hb h.lt
theorem ar.grown {row:Option Nat} (h:ar w g t cs) (hb:w.grownBy w' row) (az:some g≠row):ar w' g t cs:=(hb.block g h.lt az).trans h
theorem Own.fK {base:Nat} {e:TypeId} {E:cu α size} {v:Value} {l:List α} (h:Own w base e E v l) (az:ar w g t cs) (bW:e≠t):some g≠v.ownBlock:=by
 rcases h.2 with ⟨rfl,_⟩|⟨g',cap,cur,rfl,_,bQ,_⟩
 ·simp [Value.ownBlock]
 ·intro he
  have:g=g':=by simpa [Value.ownBlock] using he
  subst this;unfold ar at az
  rw [az] at bQ
  injection bQ with bQ
  injection bQ with _ ht
  exact bW ht.symm
end
theorem w6 (w:World) (g i:Nat) (u:Value):w.grownBy (w.setCell ⟨g,i,none⟩ u) (some g) :=
 ⟨rfl,rfl,rfl,by simp [World.setCell],fun k _ hk=>Below.heap_setCell _ _ _ _ (by intro e;exact hk (by rw [e]))⟩
theorem Own.Ao {w:World} {base:Nat} {e:TypeId} {E:cu α size} {v:Value} {l:List α} {g:Nat} {t:TypeId} {cs:Array Value} (h:Own w base e E v l) (az:ar w g t cs) (bW:e≠t) (i:Nat) (u:Value):Own (w.setCell ⟨g,i,none⟩ u) base e E v l :=
 h.grown (w6 w g i u) (.inr fun e=>(h.fK az bW) e.symm)
section
variable {P:Program}
theorem rS (g:Nat) (t:TypeId):∀ (vs:List Value) (o:Nat) (w:World) (cur:List Value),o+vs.length<=cur.length->ar w g t cur.toArray ->
  ar (w.setCells g o vs) g t (cur.take o++vs++cur.drop (o+vs.length)).toArray/\w.grownBy (w.setCells g o vs) (some g)/\(w.setCells g o vs).heap.size=w.heap.size:=by
 intro vs
 induction vs with
 | nil =>
  intro o w cur h hb;refine ⟨?_,World.grownBy.refl _ _,rfl⟩;have e:(cur.take o++[]++cur.drop (o+([]:List Value).length)).toArray=cur.toArray:=av;rw [e];exact hb
 | cons v vs b6 =>
  intro o w cur h hb;simp only [cy] at h
  have bY:ar (w.setCell ⟨g,o,none⟩ v) g t (cur.set o v).toArray:=by
   have:=hb.eW o v
   simpa using this
  obtain ⟨h1,ah,aw⟩:=b6 (o+1) (w.setCell ⟨g,o,none⟩ v) (cur.set o v) (by simp;omega) bY;refine ⟨?_,⟨ah.os,ah.tape,ah.output,gT (by simp [World.setCell]) ah.size,fun k hk bW=>?_⟩,by rw [World.setCells];rw [aw];simp [World.setCell]⟩
  ·rw [World.setCells]
   have e:(cur.set o v).take (o+1)++vs++(cur.set o v).drop (o+1+vs.length)=cur.take o++v :: vs++cur.drop (o+(v :: vs).length):=by
    rw [gS (by simp;omega),List.take_set_of_le af,Kd,List.drop_set_of_lt af,cy];simp [D4,Nat.add_comm 1]
   rw [<- e];exact h1
  ·rw [World.setCells]
   rw [ah.block k (by simpa [World.setCell] using hk) bW];exact Below.heap_setCell _ _ _ _ (by intro e;exact bW (by rw [e]))
theorem ch {ops:Array Oper} {rest:List Oper} {op:Oper} {a:Act} {w:World} {Q:Exit->Act->World->Prop} (kq:op.guard=none) (ty:TypeId) (x y:Operand) (ho:op.op=.store ty x y)
  (g:Nat) (t:TypeId) (cur cells:Array Value) (hx:a.eval x=.pointer (some ⟨g,0,none⟩)) (hy:a.eval y=.agg cells)
  (hb:ar w g t cur) (hs:cells.size=cur.size) (hi:(P.info? ty).map (·.size)=some cells.size) (h1:cells.all (·.oneCell')=true)
  (h:∀ w',ar w' g t cells->w.grownBy w' (some g)->w'.heap.size=w.heap.size->wpList P ops Q rest (a.put op.dst undef) w'):wpList P ops Q (op :: rest) a w:=by
 have dt:w.there g 0 cells.size:=fun j aD=>⟨by rw [fw,hb.cell j,s4 af];rfl,by rw [fw];exact hb.frozen j⟩
 obtain ⟨ah,aw,bn⟩:=rS g t cells.toList 0 w cur.toList (by simp;omega) (by simpa using hb);refine wpList_store_mid kq ty x y ho g 0 cells hx hy dt hi h1 (h _ ?_ aw bn);have e:(cur.toList.take 0++cells.toList++cur.toList.drop (0+cells.toList.length)).toArray=cells:=by
  rw [List.drop_of_length_le (by simp;omega)];simp
 rw [e] at ah
 exact ah
end
theorem ar.range {w:World} {g:Nat} {t:TypeId} {cs:Array Value} (h:ar w g t cs):w.rangeAt g 0 cs.toList:=fun j v hv=>by
 rw [fw,h.cell j];simpa using hv
structure lH (P:Program) (t e:TypeId) (size bytes:Nat):Prop where
 und:P.underlying t=some (.slice e)
 info:∃ i z,P.info? e=some i/\i.zero=some z/\i.size=size/\i.bytes=bytes/\z.cells.size=size
section
variable {P:Program} {t e:TypeId} {bytes:Nat}
theorem W9 (w:World) (T:lH P t e size bytes) (ty:TypeId) (E:cu α size) (base:Nat) (v:Value) (l:List α) (hown:Own w base e E v l)
  (A:Option Addr) (aW:List α) (c:Nat) (hr:a7 w E A aW) (hb:(l.length+aW.length)*bytes<=140737488355328) (vt:l.length+aW.length<=9223372036854775807) (hbase:base<=w.heap.size) :
  ∃ br a8 w',(Builtin.append_ #[t,t] ty #[v,.slice A aW.length c]).run P w=.ok (.slice br (l.length+aW.length) a8) w'/\Own w' base e E (.slice br (l.length+aW.length) a8) (l++aW)/\w.grownBy w' v.ownBlock /\
   ((Value.slice br (l.length+aW.length) a8).ownBlock=v.ownBlock\/(Value.slice br (l.length+aW.length) a8).ownBlock=some w.heap.size):=by
 obtain ⟨i,z,hi,bI,D5,s5,hN⟩:=T.info;have key:∀ (ad:Addr),(∀ j u,(E.all aW)[j]? = some u->w.cell? (ad.add j)=some u)->A=some ad->∃ br a8 w',(Builtin.append_ #[t,t] ty #[v,.slice A aW.length c]).run P w=.ok (.slice br (l.length+aW.length) a8) w'/\Own w' base e E (.slice br (l.length+aW.length) a8) (l++aW)/\w.grownBy w' v.ownBlock /\
   ((Value.slice br (l.length+aW.length) a8).ownBlock=v.ownBlock\/(Value.slice br (l.length+aW.length) a8).ownBlock=some w.heap.size):=by
  rintro ad Xa rfl;obtain ⟨v',w',gj,ah,aw,_,dk⟩:=run_append_own_at (P:=P) w base t ty e i z size bytes T.und hi bI D5 s5 hN E.pos v l.length (E.all l) hown ad aW.length c (E.all aW) (E.h3 aW) Xa (E.s3 aW) (by unfold maxLen;omega) hb hbase;have qO:Own w' base e E v' (l++aW):=by unfold Own;rw [cd,E.all_append];exact ah
  obtain ⟨br,a8,rfl,_⟩:=qO.form;rw [cd] at qO dk gj
  exact ⟨br,a8,w',gj,qO,aw,dk⟩
 by_cases hl:aW = []
 ·subst hl
  rcases A with _|ad
  ·have gj:(Builtin.append_ #[t,t] ty #[v,.slice none 0 c]).run P w=.ok v w:=by
    rcases hown.2 with ⟨rfl,eI⟩|⟨g,cap,cur,rfl,_,_,s6,_⟩
    ·simp [Builtin.append_,mn T.und,sizeOf,typeInfo,hi,Builtin.lenOf,Builtin.firstCells]
    ·simp [Builtin.append_,mn T.und,sizeOf,typeInfo,hi,Builtin.lenOf,Builtin.firstCells,s6,storeCells]
   obtain ⟨br,a8,rfl,_⟩:=hown.form;exact ⟨br,a8,w,gj,by simpa using hown,World.grownBy.refl w _,.inl rfl⟩
  ·exact key ad (by simp [cu.all]) rfl
 ·obtain ⟨b,off,rfl,_,hc⟩:=hr hl
  exact key _ (fun j u hu=>by rw [ko];exact hc j u hu) rfl
theorem w7 (w:World) (T:lH P t e size bytes) (E:cu α size) {o:Oper} {a:Act} {K:Act->World->Prop} {Q:Exit->Act->World->Prop} (s x:Operand)
  (ho:o.op=.call { callee:=.builtin .append,args:=#[s,x],argTypes:=#[t,t] })
  (base:Nat) (v:Value) (l:List α) (hs:a.eval s=v) (hown:Own w base e E v l)
  (A:Option Addr) (aW:List α) (c:Nat) (hx:a.eval x=.slice A aW.length c) (hr:a7 w E A aW) (hb:(l.length+aW.length)*bytes<=140737488355328) (vt:l.length+aW.length<=9223372036854775807) (hbase:base<=w.heap.size)
  (h:∀ br a8 w',Own w' base e E (.slice br (l.length+aW.length) a8) (l++aW)->w.grownBy w' v.ownBlock->((Value.slice br (l.length+aW.length) a8).ownBlock=v.ownBlock\/(Value.slice br (l.length+aW.length) a8).ownBlock=some w.heap.size) ->
   K (a.put o.dst (.slice br (l.length+aW.length) a8)) w'):o.wp P a w K Q:=by
 obtain ⟨br,a8,w',gj,ah,aw,bn⟩:=W9 w T o.type E base v l hown A aW c hr hb vt hbase;unfold Oper.wp execOp;simp only [ho,resolve,invoke,builtin,kN,nv,pZ,D6,ny,rT,hs,hx,gj];exact h br a8 w' ah aw bn
theorem hW {w:World} (T:lH P t e size bytes) (E:cu α size) {ops:Array Oper} {rest:List Oper} {o:Oper} {a:Act} {Q:Exit->Act->World->Prop} (kq:o.guard=none) (s x:Operand)
  (ho:o.op=.call { callee:=.builtin .append,args:=#[s,x],argTypes:=#[t,t] })
  (base:Nat) (v:Value) (l:List α) (hs:a.eval s=v) (hown:Own w base e E v l)
  (A:Option Addr) (aW:List α) (c:Nat) (hx:a.eval x=.slice A aW.length c) (hr:a7 w E A aW) (hb:(l.length+aW.length)*bytes<=140737488355328) (vt:l.length+aW.length<=9223372036854775807) (hbase:base<=w.heap.size)
  (h:∀ br a8 w',Own w' base e E (.slice br (l.length+aW.length) a8) (l++aW)->w.grownBy w' v.ownBlock->((Value.slice br (l.length+aW.length) a8).ownBlock=v.ownBlock\/(Value.slice br (l.length+aW.length) a8).ownBlock=some w.heap.size) ->
   wpList P ops Q rest (a.put o.dst (.slice br (l.length+aW.length) a8)) w'):wpList P ops Q (o :: rest) a w :=
 Ap kq fun _ hK=>w7 w T E s x ho base v l hs hown A aW c hx hr hb vt hbase fun br a8 w' ah aw bn=>hK _ _ (h br a8 w' ah aw bn)
end
def cO:cu UInt8 1:=⟨fun b=>[.int .u8 b.toNat],fun _=>rfl,fun _ u hu=>by simp at hu;subst hu;rfl,ak⟩
theorem s7 (l:List UInt8):cO.all l=l.map fun b=>.int .u8 b.toNat:=by
 induction l with
 | nil=>rfl
 | cons a l b6=>rw [cu.all_cons,b6];rfl
theorem Xb (s:ByteArray):cO.all s.data.toList=Lib.strCells s:=s7 _
section
variable {P:Program} {t u e:TypeId}
theorem Xc (w:World) (T:lH P t e 1 1) (iP:∀ i,P.info? e=some i->i.zero=some (.int .u8 0)) (hu:P.underlying u=some .string) (ty:TypeId) (base:Nat) (v:Value) (l:List UInt8) (hown:Own w base e cO v l)
  (s:ByteArray) (hb:l.length+s.size<=140737488355328) (hbase:base<=w.heap.size) :
  ∃ br a8 w',(Builtin.append_ #[t,u] ty #[v,.string s]).run P w=.ok (.slice br (l.length+s.size) a8) w'/\Own w' base e cO (.slice br (l.length+s.size) a8) (l++s.data.toList)/\w.grownBy w' v.ownBlock:=by
 obtain ⟨i,z,hi,_,D5,s5,_⟩:=T.info;obtain ⟨v',w',gj,ah,aw,_⟩:=Lib.run_append_own_string (P:=P) w base t u ty e i T.und hu hi (iP i hi) D5 s5 v l.length (cO.all l) hown s (by unfold maxLen;omega) hb hbase;have qO:Own w' base e cO v' (l++s.data.toList):=by
  unfold Own;rw [cd,cO.all_append,Xb];exact ah
 obtain ⟨br,a8,rfl,_⟩:=qO.form;rw [cd] at qO gj
 exact ⟨br,a8,w',gj,qO,aw⟩
theorem Xd (w:World) (T:lH P t e 1 1) (iP:∀ i,P.info? e=some i->i.zero=some (.int .u8 0)) (hu:P.underlying u=some .string) {o:Oper} {a:Act} {K:Act->World->Prop} {Q:Exit->Act->World->Prop} (s x:Operand)
  (ho:o.op=.call { callee:=.builtin .append,args:=#[s,x],argTypes:=#[t,u] })
  (base:Nat) (v:Value) (l:List UInt8) (hs:a.eval s=v) (hown:Own w base e cO v l) (y:ByteArray) (hx:a.eval x=.string y) (hb:l.length+y.size<=140737488355328) (hbase:base<=w.heap.size)
  (h:∀ br a8 w',Own w' base e cO (.slice br (l.length+y.size) a8) (l++y.data.toList)->w.grownBy w' v.ownBlock->K (a.put o.dst (.slice br (l.length+y.size) a8)) w'):o.wp P a w K Q:=by
 obtain ⟨br,a8,w',gj,ah,aw⟩:=Xc w T iP hu o.type base v l hown y hb hbase;unfold Oper.wp execOp;simp only [ho,resolve,invoke,builtin,kN,nv,pZ,D6,ny,rT,hs,hx,gj];exact h br a8 w' ah aw
theorem Xe {w:World} (T:lH P t e 1 1) (iP:∀ i,P.info? e=some i->i.zero=some (.int .u8 0)) (hu:P.underlying u=some .string) {ops:Array Oper} {rest:List Oper} {o:Oper} {a:Act} {Q:Exit->Act->World->Prop} (kq:o.guard=none) (s x:Operand)
  (ho:o.op=.call { callee:=.builtin .append,args:=#[s,x],argTypes:=#[t,u] })
  (base:Nat) (v:Value) (l:List UInt8) (hs:a.eval s=v) (hown:Own w base e cO v l) (y:ByteArray) (hx:a.eval x=.string y) (hb:l.length+y.size<=140737488355328) (hbase:base<=w.heap.size)
  (h:∀ br a8 w',Own w' base e cO (.slice br (l.length+y.size) a8) (l++y.data.toList)->w.grownBy w' v.ownBlock->wpList P ops Q rest (a.put o.dst (.slice br (l.length+y.size) a8)) w'):wpList P ops Q (o :: rest) a w :=
 Ap kq fun _ hK=>Xd w T iP hu s x ho base v l hs hown y hx hb hbase fun br a8 w' ah aw=>hK _ _ (h br a8 w' ah aw)
end
end
section
variable {P:Program} {ops:Array Oper} {Q:Exit->Act->World->Prop} {S:World->Prop} {md:Region.Mode} {fuel:Nat} {listed:Array Bool} {a:Act} {w:World}
theorem cM (i d:Nat) {oi:Oper} (hi:ops[i]? = some oi) (hd:oi.dst=some d) (hs:Region.noSelect ops=true) (hf:Region.free md ops listed i=true) (hr:(Region.ready md ops listed).contains i=true)
  (pu:∀ c a w,Q (.panic c) (a.put (some d) undef) w->Q (.panic c) a w) (hw:Region.wanted oi (yielded ops a.tmps)=false) (hS:S w)
  (h:wpAnyH P md ops Q S fuel (listed.setIfInBounds i true) (a.put (some d) undef) w):wpAnyH P md ops Q S (fuel+1) listed a w :=
 wpAnyH_take hi hs hf hr (by rw [hd];exact pu) (Or.inr ⟨hw,rfl⟩) hS (by rw [hd];exact h)
theorem gN (i d:Nat) (v:Value) {oi:Oper} (hi:ops[i]? = some oi) (hd:oi.dst=some d) (hs:Region.noSelect ops=true) (hf:Region.free md ops listed i=true) (hr:(Region.ready md ops listed).contains i=true)
  (pu:∀ c a w,Q (.panic c) (a.put (some d) v) w->Q (.panic c) a w) (hw:Region.wanted oi (yielded ops a.tmps)=true) (hv:∀ w,S w->(execOp a.eval oi).run P w=.ok (.value v) w) (hS:S w)
  (h:wpAnyH P md ops Q S fuel (listed.setIfInBounds i true) (a.put (some d) v) w):wpAnyH P md ops Q S (fuel+1) listed a w :=
 wpAnyH_take hi hs hf hr (by rw [hd];exact pu) (Or.inl ⟨hw,hv⟩) hS (by rw [hd];exact h)
theorem dR (i d:Nat) {oi:Oper} (hi:ops[i]? = some oi) (hd:oi.dst=some d) (hr:Region.ready md ops listed = [i]) (hw:Region.wanted oi (yielded ops a.tmps)=true)
  (h:∀ K:Act->World->Prop,(∀ v w',S w'->wpAnyH P md ops Q S fuel (listed.setIfInBounds i true) (a.put (some d) v) w'->K (a.put oi.dst v) w')->Oper.wp P oi a w K Q):wpAnyH P md ops Q S (fuel+1) listed a w:=by
 refine wpAnyH_ready (rs:=[i]) hr (by simp) ?_;refine AllReadyH.cons hi (fun K hK=>?_) AllReadyH.nil;rw [if_pos hw];refine h K fun v w' hS bQ=>?_
 rw [hd];exact hK.out _ _ hS fun _=>bQ
end
section
variable {P:Program} {ops:Array Oper} {Q:Exit->Act->World->Prop} {S:World->Prop} {md:Region.Mode} {fuel:Nat} {listed:Array Bool} {a:Act} {w:World}
theorem iC (i:Nat) {oi:Oper} (hi:ops[i]? = some oi) (hr:Region.ready md ops listed = [i]) (hw:Region.wanted oi (yielded ops a.tmps)=true)
  (h:∀ K:Act->World->Prop,(∀ v w',S w'->wpAnyH P md ops Q S fuel (listed.setIfInBounds i true) (a.put oi.dst v) w'->K (a.put oi.dst v) w')->Oper.wp P oi a w K Q):wpAnyH P md ops Q S (fuel+1) listed a w:=by
 refine wpAnyH_ready (rs:=[i]) hr av ?_;refine AllReadyH.cons hi (fun K hK=>?_) AllReadyH.nil;rw [bB hw];exact h K fun v w' hS bQ=>hK.out _ _ hS fun _=>bQ
theorem Po (i j:Nat) {oi oj:Oper} (hi:ops[i]? = some oi) (aD:ops[j]? = some oj) (hr:Region.ready md ops listed = [i,j]) (Ed:Region.wanted oi (yielded ops a.tmps)=true) (Ee:Region.wanted oj (yielded ops a.tmps)=true)
  (h1:∀ K:Act->World->Prop,(∀ v w',S w'->wpAnyH P md ops Q S fuel (listed.setIfInBounds i true) (a.put oi.dst v) w'->K (a.put oi.dst v) w')->Oper.wp P oi a w K Q)
  (ah:∀ K:Act->World->Prop,(∀ v w',S w'->wpAnyH P md ops Q S fuel (listed.setIfInBounds j true) (a.put oj.dst v) w'->K (a.put oj.dst v) w')->Oper.wp P oj a w K Q):wpAnyH P md ops Q S (fuel+1) listed a w:=by
 refine wpAnyH_ready (rs:=[i,j]) hr av ?_;refine AllReadyH.cons hi (fun K hK=>?_) (AllReadyH.cons aD (fun K hK=>?_) AllReadyH.nil)
 ·rw [bB Ed]
  exact h1 K fun v w' hS bQ=>hK.out _ _ hS fun _=>bQ
 ·rw [bB Ee]
  exact ah K fun v w' hS bQ=>hK.out _ _ hS fun _=>bQ
end
end Go.Proofs.YtmmchlfoplcnbaaGreatDoor
