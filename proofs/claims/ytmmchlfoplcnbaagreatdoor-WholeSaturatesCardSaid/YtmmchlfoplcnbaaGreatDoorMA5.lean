/- A part of the walk. -/
import Derived.Test.YtmmchlfoplcnbaaGreatDoorShelf
import Derived.StillTailTactics
import Derived.Lib.Small
import Derived.KernelRfl
import Derived.Laws.StructEq
import Derived.Test.YtmmchlfoplcnbaaGreatDoorMA2
import Derived.Test.YtmmchlfoplcnbaaGreatDoorMA3
namespace Go.Proofs.YtmmchlfoplcnbaaGreatDoor
open Go Go.RowKit Tryz
set_option linter.all false
set_option maxRecDepth 100000
set_option maxHeartbeats 4000000
theorem wX {α:Type} {size:Nat} {E:cu α size} {w:World} {base:Nat} {e:TypeId} {A:Option Addr} {l:List α} {u:α} {c:Nat} (h:Own w base e E (.slice A (l.length+1) c) (l++[u])):Own w base e E (.slice A (l++[u]).length c) (l++[u]):=by rw [cd];exact h
theorem Am {P:Program} {t e:TypeId} {α:Type} {size bytes:Nat} {w0 gF:World} (T:lH P t e size bytes) (E:cu α size) {ops:Array Oper} {rest:List Oper} {o:Oper} {a:Act} {Q:Exit->Act->World->Prop} (kq:o.guard=none) (s x:Operand)
  (ho:o.op=.call { callee:=.builtin .append,args:=#[s,x],argTypes:=#[t,t] }) (u:α) (cs:Array Value) (ea:E.enc u=cs.toList)
  (base:Nat) (v:Value) (l:List α) (hs:a.eval s=v) (hown:Own w0 base e E v l) {N:Nat} (hx:a.eval x=.slice (some ⟨N,0,none⟩) 1 1) (b8:w0.heap.size=N) (bM:Below base gF w0)
  (hb:(l.length+1)*bytes<=140737488355328) (vt:l.length+1<=9223372036854775807) (eE:base<=w0.heap.size)
  (h:∀ br a8 w',Own w' base e E (.slice br (l.length+1) a8) (l++[u])->Below base gF w'->(w0.alloc (.cells cs e)).grownBy w' v.ownBlock->wpList P ops Q rest (a.put o.dst (.slice br (l.length+1) a8)) w') :
  wpList P ops Q (o :: rest) a (w0.alloc (.cells cs e)):=by
 subst b8;have hr:a7 (w0.alloc (.cells cs e)) E (some ⟨w0.heap.size,0,none⟩) [u]:=a7.made w0 E [u] e cs (0,0) (by rw [cu.D2];exact ea.symm);have h4:Below base gF (w0.alloc (.cells cs e)):=bM.alloc eE _;refine hW T E kq s x ho base v l hs (hown.alloc _) _ [u] 1 hx hr hb vt (by simp;omega) ?_;intro br a8 w' h1 ah _;exact h br a8 w' h1 ((hown.alloc _).jX h4 ah aF (by simp;omega)) ah
theorem PZ {P:Program} {t e:TypeId} {α:Type} {size bytes:Nat} {w0 gF:World} (T:lH P t e size bytes) (E:cu α size) {ops:Array Oper} {rest:List Oper} {o:Oper} {a:Act} {Q:Exit->Act->World->Prop} (kq:o.guard=none) (s x:Operand)
  (ho:o.op=.call { callee:=.builtin .append,args:=#[s,x],argTypes:=#[t,t] }) (u:α) (cs:Array Value) (ea:E.enc u=cs.toList)
  (base:Nat) (v:Value) (l:List α) (hs:a.eval s=v) (hown:Own w0 base e E v l) {N:Nat} (hx:a.eval x=.slice (some ⟨N,0,none⟩) 1 1) (b8:w0.heap.size=N) (bM:Below base gF w0)
  (hb:(l.length+1)*bytes<=140737488355328) (vt:l.length+1<=9223372036854775807) (eE:base<=w0.heap.size)
  (h:∀ br a8 w',Own w' base e E (.slice br (l.length+1) a8) (l++[u])->Below base gF w'->(w0.alloc (.cells cs e)).grownBy w' v.ownBlock->((Value.slice br (l.length+1) a8).ownBlock=v.ownBlock\/(Value.slice br (l.length+1) a8).ownBlock=some (w0.heap.size+1))->wpList P ops Q rest (a.put o.dst (.slice br (l.length+1) a8)) w') :
  wpList P ops Q (o :: rest) a (w0.alloc (.cells cs e)):=by
 subst b8;have hr:a7 (w0.alloc (.cells cs e)) E (some ⟨w0.heap.size,0,none⟩) [u]:=a7.made w0 E [u] e cs (0,0) (by rw [cu.D2];exact ea.symm);have h4:Below base gF (w0.alloc (.cells cs e)):=bM.alloc eE _;have bI:(w0.alloc (.cells cs e)).heap.size=w0.heap.size+1:=av;refine hW T E kq s x ho base v l hs (hown.alloc _) _ [u] 1 hx hr hb vt (by simp;omega) ?_;intro br a8 w' h1 ah aw;rw [bI] at aw
 exact h br a8 w' h1 ((hown.alloc _).jX h4 ah aF (by simp;omega)) ah aw
def pA (v1 v2:Value):Prop:=∀ g,v1.ownBlock=some g->v2.ownBlock≠some g
theorem pA.symm {v1 v2:Value} (h:pA v1 v2):pA v2 v1:=fun g h1 ah=>h g ah h1
theorem pA.Yw (v:Value):pA (.slice none 0 0) v:=fun g h=>by simp [Value.ownBlock] at h
theorem pA.ne {v1 v2:Value} (h:pA v1 v2):v2.ownBlock=none\/v2.ownBlock≠v1.ownBlock:=by
 cases ah:v2.ownBlock with
 | none=>exact .inl rfl
 | some g=>exact .inr fun e=>h g e.symm ah
theorem pA.next {v1 KN v2:Value} {N:Nat} (h:pA v1 v2) (h1:KN.ownBlock=v1.ownBlock\/KN.ownBlock=some N) (ah:∀ g,v2.ownBlock=some g->g<N):pA KN v2:=fun g az e=>by
 rcases h1 with h1|h1
 ·exact h g (by rw [<- h1];exact az) e
 ·rw [h1] at az
  injection az with az
  have:=ah g e;omega
open Go.Lib (compareInt compareBytes)
theorem Xi (x:Int) (w:World) :
  Calls prog 284 #[.i x] w fun e w'=>e=.returned (.bool false)/\w=w':=by
 go_enter func284,ntmps284
 go_wp2
 go_ret;exact ⟨av,rfl⟩
theorem D9 (x y:Int) (w:World) :
  Calls prog 236 #[.i x,.i y] w fun e w'=>e=.returned (.i (compareInt x y))/\w'=w:=by
 unfold compareInt
 go_enter func236,ntmps236
 go_wp2_with (go_at_call 284;refine (Xi _ _).mono ?_;rintro e w' ⟨rfl,rfl⟩)
 all_goals
  go_ret;exact ⟨rfl,rfl⟩
theorem ye (a b:ByteArray) (w:World) :
  Calls prog 182 #[.string a,.string b] w fun e w'=>e=.returned (.i (compareBytes a.data.toList b.data.toList))/\w'=w:=Any.strings_Compare lays106 a b w
def lf:List Int->Int
 | []=>0
 | x :: l=>if x=0 then lf l else x
theorem Xj (l:List Int) (k:Nat) (hk:k<l.length) (h:l[k]=0):lf (l.drop k)=lf (l.drop (k+1)):=by
 rw [Aq hk,lf,bB h]
theorem Xk (l:List Int) (k:Nat) (hk:k<l.length) (h:l[k]≠0):lf (l.drop k)=l[k]:=by
 rw [Aq hk,lf,bp h]
theorem GG (l:List Int) (A:Option Addr) (c:Nat) (w:World) (hr:a7 w qP A l) (hm:l.length<=1000) :
  Calls prog 235 #[.slice A l.length c] w fun e w'=>e=.returned (.i (lf l))/\w'=w:=by
 have bx:=J hr;clear hr
 go_enter func235,ntmps235
 go_wp2_with fail
 go_loop [8] (fun i=>∃ k:Nat,k<=l.length/\i=.i k/\lf l=lf (l.drop k)) (fun i=>l.length-(intOf i).toNat)
 case atStart=>exact ⟨0,af,rfl,rfl⟩
 case round =>
  obtain ⟨k,hk,rfl,aI⟩:=hrel;have rY:=J aI;clear aI
  by_cases aT:k<l.length
  ·obtain ⟨b,off,rfl,hb,hcell⟩:=bx.at_ aT
   have hc:w.cell? ⟨b,off+k,none⟩=some (.i l[k]):=by have:=hcell 0 (.i l[k]) rfl;simpa using this
   have cg:decide ((k:Int)<(l.length:Int))=true:=bO af;have lG:(k:Int)<(l.length:Int):=af;have cJ:=J (ae (Xj l k aT) (Xk l k aT));clear hcell;generalize l[k]=x at *
   by_cases hx:x=0
   ·have bs:=J (cJ.1 hx)
    have Xl:(x != 0)=false:=by rw [hx];rfl
    clear hx;go_wp2_with fail
    go_round
    case rel=>exact ⟨k+1,af,cm,rY.trans bs.out⟩
    case measure=>exact c4
   ·have bs:=J (cJ.2 hx)
    have Xl:(x != 0)=true:=by rw [bne_iff_ne];exact hx
    clear hx;go_wp2_with fail;go_ret;exact ⟨sZ (rY.trans bs).symm,rfl⟩
  ·obtain rfl:k=l.length:=by omega
   have bN:Hid (lf l=0):=by have:=rY.out;rw [List.drop_length] at this;exact this
   have cg:decide ((l.length:Int)<(l.length:Int))=false:=av;go_wp2_with fail;go_ret;exact ⟨sZ bN.symm,rfl⟩
theorem CD:∀ x y:List UInt8,(Lib.compareBytes x y<0↔x<y)/\(Lib.compareBytes x y=0↔x=y):=by
 intro x
 induction x with
 | nil=>intro y;cases y <;> simp [Lib.compareBytes]
 | cons a x b6 =>
  intro y
  cases y with
  | nil=>simp [Lib.compareBytes]
  | cons b y =>
   simp only [Lib.compareBytes,List.cons_lt_cons_iff,GH]
   by_cases h1:a<b
   ·have ah:a≠b:=by rintro rfl;exact absurd h1 (UInt8.lt_irrefl _)
    simp [h1,ah]
   ·by_cases ah:b<a
    ·have aw:a≠b:=by rintro rfl;exact absurd ah (UInt8.lt_irrefl _)
     simp [h1,ah,aw]
    ·have aw:a=b:=UInt8.le_antisymm (UInt8.not_lt.1 ah) (UInt8.not_lt.1 h1)
     subst aw;simp [h1,b6 y]
section
variable {α:Type} {size:Nat} {E:cu α size} {w:World} {base:Nat} {e:TypeId} {v:Value} {l:List α}
theorem Ef (h:Own w base e E v l) (hl:l≠[]):∃ g cap cur,v=.slice (some ⟨g,0,none⟩) l.length cap/\base<=g/\ar w g e cur/\l.length<=cap/\cap<=maxLen/\cur.size=cap*size/\cur.toList.take (l.length*size)=E.all l:=by
 rcases h.2 with ⟨rfl,aI⟩|⟨g,cap,cur,rfl,hb,az,hn,hm,hcs,ht⟩
 ·exact absurd (Cx aI) hl
 ·exact ⟨g,cap,cur,rfl,hb,az,hn,hm,hcs,ht⟩
theorem Pu {g cap:Nat} {cur:Array Value} (hb:base<=g) (az:ar w g e cur) (hn:l.length<=cap) (hm:cap<=maxLen) (hcs:cur.size=cap*size) (ht:cur.toList.take (l.length*size)=E.all l):Own w base e E (.slice (some ⟨g,0,none⟩) l.length cap) l :=
 ⟨E.h3 l,.inr ⟨g,cap,cur,rfl,hb,az,hn,hm,hcs,ht⟩⟩
theorem P' [Inhabited α] (d:Array α) (t:Nat) (h:t<d.size*size):(E.all d.toList)[t]? = some (Go.Sort.flatK E.enc size d)[t]!:=by
 have hp:=E.pos;have h1:t / size<d.size:=Nat.div_lt_of_lt_mul (by rwa [Nat.mul_comm]);have ah:t % size<size:=CC _ hp;rw [Go.Sort.get_flatK _ _ _ _ h];have aw:=E.J9 d.toList (t / size) (t % size) (by simpa using h1) ah;rw [Nat.div_add_mod'] at aw
 rw [aw,yd d _ h1,Array.getElem_toList];have bn:t % size<(E.enc d[t / size]).length:=by rw [E.len];exact ah
 rw [dF bn,yd (E.enc d[t / size]) (t % size) bn]
theorem holds_of [Inhabited α] {g:Nat} {cur:Array Value} (az:ar w g e cur) (ht:cur.toList.take (l.length*size)=E.all l):Go.Sort.HoldsK E.enc size w g 0 l.toArray:=by
 intro j aD;rw [Go.Sort.size_flatK] at aD
 have yc:j<l.length*size:=by simpa using aD
 refine ⟨?_,az.frozen _⟩;rw [fw,az.cell j];have h1:(cur.toList.take (l.length*size))[j]? = some (Go.Sort.flatK E.enc size l.toArray)[j]!:=by rw [ht];exact P' (E:=E) l.toArray j aD
 rw [KS yc] at h1
 simpa using h1
theorem G0 [Inhabited α] {g cap n:Nat} {cur:Array Value} {d:Array α} {os:Array Obj} (hb:base<=g) (az:ar w g e cur) (hd:d.size=l.length) (hn:l.length<=cap) (hm:cap<=maxLen) (hcs:cur.size=cap*size) :
  Own (sortWorldK E.enc size w g 0 n d os) base e E (.slice (some ⟨g,0,none⟩) d.toList.length cap) d.toList/\w.grownBy (sortWorldK E.enc size w g 0 n d os) (some g):=by
 have YK:=az.lt;have Qa:∀ k,k<w.heap.size->(sortWorldK E.enc size w g 0 n d os).heap[k]? = (w.heap.modify g (Go.Sort.onCells (Go.Sort.putCells id 0 (Go.Sort.flatK E.enc size d))))[k]?:=fun k hk=>by
  show ((w.heap.modify g _)++os)[k]? = _
  rw [Array.getElem?_append_left (by simpa using hk)]
 refine ⟨Pu (cur:=Go.Sort.putCells id 0 (Go.Sort.flatK E.enc size d) cur) hb ?_ (by simpa [hd] using hn) hm (by unfold Go.Sort.putCells;simpa using hcs) ?_,⟨rfl,rfl,rfl,?_,fun k hk bW=>?_⟩⟩
 ·unfold ar
  rw [Qa g YK,Kc,bB rfl];unfold ar at az
  rw [az];rfl
 ·apply GA
  intro k
  rcases gB k (d.toList.length*size) with hk|hk
  ·have gP:k<d.size*size:=by simpa using hk
   have Qb:k<cur.size:=by rw [hcs];exact qb gP (vB _ (by rw [hd];exact hn))
   rw [KS hk,P' d k gP,Array.getElem?_toList];unfold Go.Sort.putCells;rw [Array.getElem?_mapIdx,s4 Qb,G8,bB (by rw [Go.Sort.size_flatK];omega),Nat.sub_zero]
   rfl
  ·rw [td (by rw [fv];omega),td (by rw [E.h3];exact hk)]
 ·show w.heap.size<=((w.heap.modify g _)++os).size
  simp
 ·rw [Qa k hk,Kc,bp (by intro e;exact bW (by rw [e]))]
end
theorem KH {α:Type} [Inhabited α] {l:List α} {d':Array α} (h:Go.Sort.PermIn 0 l.toArray.size l.toArray d'):d'.size=l.length/\d'.toList.Perm l:=by
 obtain ⟨h1,_,aw⟩:=h;have hs:d'.size=l.length:=by simpa using h1
 refine ⟨hs,?_⟩;have aV:d'.extract 0 l.toArray.size=d':=by rw [Array.extract_eq_self_of_le];simp [hs]
 have bE:l.toArray.extract 0 l.toArray.size=l.toArray:=by rw [Array.extract_eq_self_of_le];simp
 rw [aV,bE] at aw
 exact aw
theorem KI {α:Type} [Inhabited α] {lt:α->α->Bool} {d:Array α} (h:Go.Sort.SortedIn lt 0 d.size d):d.toList.Pairwise fun x y=>lt y x=false:=by
 rw [tJ];intro i j hi aD gO;have mv:i<d.size:=by simpa using hi
 have yc:j<d.size:=by simpa using aD
 have:=h i j (p3 _) gO yc;rw [yd d i mv,yd d j yc] at this
 simpa using this
theorem Pn (d:Nat) (a b c x y z:Int) (w:World):(Op.equalIn (d+2) 23 (.agg #[.i a,.i b,.i c]) (.agg #[.i x,.i y,.i z])).run prog w=.ok ((a==x)&&((b==y)&&(c==z))) w:=by
 have hu:=mn (P:=prog) underlying23 w;have aw:=mn (P:=prog) underlying3 w;have hs:(sizeOf 3).run prog w=.ok 1 w:=ai;have key:∀ p q:Int,(Op.equalIn (d+1) 3 (.i p) (.i q)).run prog w=.ok (p==q) w:=fun p q=>D0 w d _ _ _ p q underlying3
 unfold Op.equalIn;simp only [kN,hu,pZ,hs];have h5:∀ (u v t:Value),(part 3 #[u,v,t] 0).run prog w=.ok u w:=fun u v t=>ai
 have dc:∀ (u v t:Value),(part 3 #[u,v,t] 1).run prog w=.ok v w:=fun u v t=>ai
 have gl:∀ (u v t:Value),(part 3 #[u,v,t] 2).run prog w=.ok t w:=fun u v t=>ai
 rw [GO];simp only [show Std.Legacy.Range.size [:3]=3 from rfl,List.range',GP,kN,fw,nW,h5,pZ,key]
 cases h1:(a==x)
 ·simp [nv]
 ·cases ah:(b==y)
  ·simp [nv,kN,dc,key,ah]
  ·cases aw:(c==z) <;> simp [nv,kN,dc,gl,key,ah,aw]
theorem WI (a b c x y z:Int) (w:World):(Op.equalIn 9999 23 (.agg #[.i a,.i b,.i c]) (.agg #[.i x,.i y,.i z])).run prog w=.ok ((a==x)&&((b==y)&&(c==z))) w:=Pn 9997 a b c x y z w
theorem O4 (d:Nat) (a b c:Int) (w:World):(Op.equalIn (d+2) 23 (.agg #[.i a,.i b,.i c]) (.agg #[.i a,.i b,.i c])).run prog w=.ok true w:=by rw [Pn];simp
theorem WZ:prog.underlying 40=some (.struct (prog.fieldsOf 40)):=by
 unfold Program.fieldsOf;rw [underlying40]
def oy (b:UInt8):Bool:=b==32||b==9||b==13
theorem Jd {b:UInt8} (h:qF b=true):oy b=false:=by
 unfold qF at h
 unfold oy;simp only [jZ] at h
 have h1:b≠32:=by intro e;rw [e] at h;revert h;decide
 have ah:b≠9:=by intro e;rw [e] at h;revert h;decide
 have aw:b≠13:=by intro e;rw [e] at h;revert h;decide
 simp [h1,ah,aw]
structure Fd where
 text:List UInt8
 line:Nat
 IY:Nat
def k5:List UInt8->Nat
 | []=>0
 | b :: l=>if oy b then 0 else k5 l+1
theorem UG:∀ l:List UInt8,k5 l<=l.length
 | []=>e3 _
 | b :: l=>by unfold k5;have:=UG l;split <;> simp;omega
theorem UF {b:UInt8} {l:List UInt8} (h:oy b=false):0<k5 (b :: l):=by unfold k5;simp [h]
def jf (n:Nat) (p:Nat) (l:List UInt8):List Fd :=
 match l with
 | []=>[]
 | b :: eK=>if h:oy b=true then jf n (p+1) eK else ⟨(b :: eK).take (k5 (b :: eK)),n,p+1⟩ :: jf n (p+k5 (b :: eK)) ((b :: eK).drop (k5 (b :: eK)))
termination_by l.length
decreasing_by
 ·simp
 ·have:=UF (b:=b) (l:=eK) (by simpa using h);simp;omega
theorem DB (n p:Nat):jf n p [] = []:=by rw [jf]
theorem NN {n p:Nat} {b:UInt8} {l:List UInt8} (h:oy b=true):jf n p (b :: l)=jf n (p+1) l:=by rw [jf];simp [h]
theorem NO {n p:Nat} {b:UInt8} {l:List UInt8} (h:oy b=false):jf n p (b :: l)=⟨(b :: l).take (k5 (b :: l)),n,p+1⟩ :: jf n (p+k5 (b :: l)) ((b :: l).drop (k5 (b :: l))):=by rw [jf];simp [h]
theorem OA:∀ {a:List UInt8} (r:List UInt8),(∀ b∈a,qF b=true)->(r = []\/∃ t,r=32 :: t)->k5 (a++r)=a.length
 | [],r,_,hr=>by
  rcases hr with rfl|⟨t,rfl⟩
  ·rfl
  ·rfl
 | b :: a,r,h,hr=>by
  have b6:=OA (a:=a) r (fun x hx=>h x (by simp [hx])) hr
  show k5 (b :: (a++r))=_
  unfold k5;rw [Jd (h b av),b6];rfl
theorem Tg (n:Nat):∀ (ws:List (List UInt8)) (p:Nat),(∀ a∈ws,Word a)->(jf n p (je ws)).map Fd.text=ws
 | [],p,_=>by show (jf n p []).map _=_;rw [DB];rfl
 | [a],p,h=>by
  obtain ⟨h1,ah⟩:=h a av
  show (jf n p a).map _=_
  match a,h1 with
  | b :: a,_ =>
   have hw:=OA (a:=b :: a) [] ah (.inl rfl);rw [rR] at hw
   rw [NO (Jd (ah b av)),hw,List.drop_length,DB,kn]
   rfl
 | a :: a' :: ws,p,h=>by
  obtain ⟨h1,ah⟩:=h a av;have b6:=Tg n (a' :: ws) (p+a.length+1) fun x hx=>h x (by simp [fb.1 hx])
  rw [MC]
  match a,h1 with
  | b :: a,_ =>
   have hw:=OA (a:=b :: a) (32 :: je (a' :: ws)) ah (.inr ⟨_,rfl⟩);have aV:((b :: a)++32 :: je (a' :: ws)).take ((b :: a).length)=b :: a:=av;have bE:((b :: a)++32 :: je (a' :: ws)).drop ((b :: a).length)=32 :: je (a' :: ws):=av
   show (jf n p (b :: (a++32 :: je (a' :: ws)))).map _=_
   rw [NO (Jd (ah b av))]
   show (_ :: jf n (p+k5 ((b :: a)++32 :: je (a' :: ws))) (((b :: a)++32 :: je (a' :: ws)).drop (k5 ((b :: a)++32 :: je (a' :: ws))))).map Fd.text=_
   rw [hw,bE,NN aH,ny,b6]
   show ((b :: a)++32 :: je (a' :: ws)).take (k5 ((b :: a)++32 :: je (a' :: ws))) :: _=_
   rw [hw,aV]
def gL (s:Int):List UInt8:=if s=0 then [109,101,109,111,114,121] else if s=1 then [100,105,115,107] else [112,105,100]
theorem BI (s:Int):(60:UInt8)∉gL s/\Word (gL s)/\(gL s).length<=6:=by
 unfold gL Word
 split
 ·exact ⟨ak,⟨ak,ak⟩,ak⟩
 ·split
  ·exact ⟨ak,⟨ak,ak⟩,ak⟩
  ·exact ⟨ak,⟨ak,ak⟩,ak⟩
def fJ (cb ck:Int):List UInt8:=if 0<cb then dY cb.toNat++[37] else dO ck.toNat
def pQ (sig cb ck:Int) (soft:Bool) (cE:Int):List UInt8:=gL sig++60 :: (fJ cb ck++if soft then 58 :: dY cE.toNat else [])
theorem Gk (n:Nat):(58:UInt8)∉dO n/\(37:UInt8)∉dO n:=by
 obtain ⟨m,s,u,e,hs,_⟩:=JG n;rw [e];have h1:∀ b∈s,64<=b.toNat:=by
  rcases fb.1 hs with hs|hs
  ·injection hs with h1 ah;subst h1;simp
  ·exact fun b hb=>((Gb hs).2.2.2 b hb).2.1
 have ah:=z8 m
 constructor
 ·intro h
  rcases jl.1 h with h|h
  ·have:=ah _ h;revert this;decide
  ·have:=h1 _ h;revert this;decide
 ·intro h
  rcases jl.1 h with h|h
  ·have:=ah _ h;revert this;decide
  ·have:=h1 _ h;revert this;decide
theorem ai4 (u:Nat):(58:UInt8)∉dY u/\(37:UInt8)∉dY u:=by
 have ah:=z8 u;exact ⟨fun h=>(by have:=ah _ h;revert this;decide),fun h=>(by have:=ah _ h;revert this;decide)⟩
theorem V1 (cb ck:Int):(58:UInt8)∉fJ cb ck:=by
 unfold fJ
 split
 ·intro h
  rcases jl.1 h with h|h
  ·exact (ai4 _).1 h
  ·revert h;decide
 ·exact (Gk _).1
theorem ai5 (cb ck:Int):Word (fJ cb ck):=by
 unfold fJ
 split
 ·refine ⟨av,fun b hb=>?_⟩
  rcases jl.1 hb with h|h
  ·exact Oy (z8 _ b h)
  ·simp only [mD] at h;rw [h];decide
 ·exact Cs _
theorem adW (sig cb ck:Int) (soft:Bool) (cE:Int):Word (pQ sig cb ck soft cE):=by
 unfold pQ;refine ⟨av,fun b hb=>?_⟩;rw [jl,fb,jl] at hb
 rcases hb with h|h|h|h
 ·exact (BI sig).2.1.2 b h
 ·rw [h];decide
 ·exact (ai5 cb ck).2 b h
 ·cases soft with
  | false=>simp at h
  | true =>
   simp only [ll,fb] at h
   rcases h with h|h
   ·rw [h];decide
   ·exact Oy (z8 _ b h)
def ux:List UInt8:=[99,97,112,97,99,105,116,121]
def DA:List UInt8:=[97,108,108,111,99,97,116,97,98,108,101]
def qu:List UInt8:=[116,104,114,101,115,104,111,108,100]
def zw:List UInt8:=[112,101,114,105,111,100]
def zx:List UInt8:=[114,101,116,114,105,101,115]
def zy:List UInt8:=[109,97,120,97,103,101]
def zz:List UInt8:=[100,101,97,100]
def zA (bt c1 c2 cw r1 r2:Nat) (ts:List (List UInt8)) (b2 ret c9 dead:Nat):List (List (List UInt8)) :=
 [ux,dO bt,dO c1,dO c2] :: [DA,dO cw,dO r1,dO r2] :: (ts.map (fun t=>[qu,t])++[[zw,dO b2],[zx,dO ret],[zy,dO c9],[zz,dO dead]])
def IJ (ls:List (List (List UInt8))):List UInt8:=glue 10 (ls.map je)
theorem ai6:Word ux/\Word DA/\Word qu/\Word zw/\Word zx/\Word zy/\Word zz:=by
 unfold Word;exact ⟨⟨ak,ak⟩,⟨ak,ak⟩,⟨ak,ak⟩,⟨ak,ak⟩,⟨ak,ak⟩,⟨ak,ak⟩,⟨ak,ak⟩⟩
theorem adV {bt c1 c2 cw r1 r2:Nat} {ts:List (List UInt8)} {b2 ret c9 dead:Nat} (ht:∀ t∈ts,Word t):∀ l∈zA bt c1 c2 cw r1 r2 ts b2 ret c9 dead,l≠[]/\∀ a∈l,Word a:=by
 obtain ⟨aC,aM,w3,eD,bc,bm,bU⟩:=ai6;intro l hl;unfold zA at hl
 simp only [fb,jl,kM,mr,l1] at hl
 rcases hl with rfl|rfl|⟨t,h,rfl⟩|rfl|rfl|rfl|rfl
 ·exact ⟨av,fun a ha=>by simp only [fb,mr,l1] at ha;rcases ha with rfl|rfl|rfl|rfl <;> first|exact aC|exact Cs _⟩
 ·exact ⟨av,fun a ha=>by simp only [fb,mr,l1] at ha;rcases ha with rfl|rfl|rfl|rfl <;> first|exact aM|exact Cs _⟩
 ·exact ⟨av,fun a ha=>by simp only [fb,mr,l1] at ha;rcases ha with rfl|rfl <;> first|exact w3|exact ht _ h⟩
 ·exact ⟨av,fun a ha=>by simp only [fb,mr,l1] at ha;rcases ha with rfl|rfl <;> first|exact eD|exact Cs _⟩
 ·exact ⟨av,fun a ha=>by simp only [fb,mr,l1] at ha;rcases ha with rfl|rfl <;> first|exact bc|exact Cs _⟩
 ·exact ⟨av,fun a ha=>by simp only [fb,mr,l1] at ha;rcases ha with rfl|rfl <;> first|exact bm|exact Cs _⟩
 ·exact ⟨av,fun a ha=>by simp only [fb,mr,l1] at ha;rcases ha with rfl|rfl <;> first|exact bU|exact Cs _⟩
theorem ad0 {l:List (List UInt8)} (h:∀ a∈l,Word a):(10:UInt8)∉je l:=fun hb=>by
 rcases V0 h _ hb with e|e
 ·revert e;decide
 ·revert e;decide
theorem ai7 {c:UInt8} {ls:List (List UInt8)}:∀ b∈glue c ls,b=c\/∃ l∈ls,b∈l:=by
 induction ls with
 | nil=>intro b hb;cases hb
 | cons l ls b6 =>
  intro b hb;rw [show glue c (l :: ls)=l++c :: glue c ls from rfl,jl,fb] at hb
  rcases hb with h|h|h
  ·exact .inr ⟨l,av,h⟩
  ·exact .inl h
  ·rcases b6 b h with h|⟨x,hx,h⟩
   ·exact .inl h
   ·exact .inr ⟨x,by simp [hx],h⟩
theorem adZ {ls:List (List (List UInt8))} (h:∀ l∈ls,∀ a∈l,Word a):∀ b∈IJ ls,b=10\/b=32\/qF b=true:=by
 intro b hb
 rcases ai7 b hb with h1|⟨x,hx,h1⟩
 ·exact .inl h1
 ·obtain ⟨l,hl,rfl⟩:=kM.1 hx
  exact .inr (V0 (h l hl) b h1)
theorem NE (b:UInt8) (n:Nat) (h:n<256):((b.toNat:Int)==(n:Int))=(b==UInt8.ofNat n):=by
 rw [w8,qQ,qQ]
 constructor
 ·intro e
  apply UInt8.toNat_inj.1
  rw [tF,Nat.mod_eq_of_lt h];omega
 ·intro e;rw [e,tF,Nat.mod_eq_of_lt h]
theorem B5 (b:UInt8) (v:Bool) (hv:oy b=v) (w:World) :
  Calls prog 101 #[.int .u8 b.toNat] w fun e w'=>e=.returned (.bool v)/\w=w':=by
 have h1:((b.toNat:Int)==32)=(b==32):=NE b 32 ak;have ah:((b.toNat:Int)==9)=(b==9):=NE b 9 ak;have aw:((b.toNat:Int)==13)=(b==13):=NE b 13 ak;unfold oy at hv
 cases aV:b==32
 ·cases bE:b==9
  ·cases cG:b==13
   ·rw [aV] at h1;rw [bE] at ah;rw [cG] at aw;rw [aV,bE,cG] at hv
    clear aV bE cG;subst hv
    go_enter func101,ntmps101
    go_wp2
    go_ret;exact ⟨rfl,rfl⟩
   ·rw [aV] at h1;rw [bE] at ah;rw [cG] at aw;rw [aV,bE,cG] at hv
    clear aV bE cG;subst hv
    go_enter func101,ntmps101
    go_wp2
    go_ret;exact ⟨rfl,rfl⟩
  ·rw [aV] at h1;rw [bE] at ah;rw [aV,bE] at hv
   clear aV bE aw;subst hv
   go_enter func101,ntmps101
   go_wp2
   go_ret;exact ⟨rfl,rfl⟩
 ·rw [aV] at h1;rw [aV] at hv
  clear aV ah aw;subst hv
  go_enter func101,ntmps101
  go_wp2
  go_ret;exact ⟨rfl,rfl⟩
def ME (b:UInt8):Prop:=b=10\/b=32\/qF b=true
theorem afL (l:List UInt8) (A:Option Addr) (c:Nat) (w:World) (hr:a7 w cO A l) (h:∀ b∈l,ME b) (hl:l.length<=65536) :
  Calls prog 99 #[.slice A l.length c] w fun e w'=>e=.returned (.bool true)/\w=w':=by
 have bx:=J hr;have cC:=J h;clear hr h
 go_enter func99,ntmps99
 go_wp2_with fail
 go_loop [4,7] (fun _ i=>∃ k:Nat,k<=l.length/\i=.i k) (fun _ i=>l.length-(intOf i).toNat)
 case atStart=>exact ⟨0,af,rfl⟩
 case round =>
  obtain ⟨k,hk,rfl⟩:=hrel
  by_cases aT:k<l.length
  ·obtain ⟨b,off,rfl,hb,hc⟩:=bx.out (by intro e;subst e;simp at aT)
   have hx:=hc k (.int .u8 l[k].toNat) (by rw [s7,qW,dF aT];rfl);have ih:=cC.out l[k] (iO aT);clear hc;generalize l[k]=y at hx ih
   have cg:decide ((k:Int)<(l.length:Int))=true:=bO af;have l0:decide (k<l.length)=true:=bO aT;have kA:(k:Int)<(l.length:Int):=af
   rcases ih with e|e|e
   ·subst e
    go_wp2_with fail;refine (B5 10 false rfl _).mono ?_;rintro e w' ⟨rfl,rfl⟩;go_wp2_with fail
    go_round
    case rel=>exact ⟨k+1,af,cm⟩
    case measure=>exact c4
   ·subst e
    go_wp2_with fail;refine (B5 32 true rfl _).mono ?_;rintro e w' ⟨rfl,rfl⟩;go_wp2_with fail
    go_round
    case rel=>exact ⟨k+1,af,cm⟩
    case measure=>exact c4
   ·have du:=Jd e
    unfold qF at e
    simp only [jZ] at e
    have wh:((y.toNat:Int)!=10)=true:=by simp;omega
    have akV:decide ((y.toNat:Int)<32)=false:=cX af;have akW:decide ((126:Int)<(y.toNat:Int))=false:=cX af;have akX:decide (y.toNat<32)=false:=cX af;have akY:decide (126<y.toNat)=false:=cX af;clear e;have aA:=J du;clear du;go_wp2_with fail;refine (B5 y false aA _).mono ?_;rintro e w' ⟨rfl,rfl⟩;go_wp2_with fail
    go_round
    case rel=>exact ⟨k+1,af,cm⟩
    case measure=>exact c4
  ·have cg:decide ((k:Int)<(l.length:Int))=false:=cX af
   have l0:decide (k<l.length)=false:=cX aT;have vp:decide ((l.length:Int)<=65536)=true:=bO af;have O3:decide (l.length<=65536)=true:=bO af;go_wp2_with fail;go_ret;exact ⟨rfl,rfl⟩
end Go.Proofs.YtmmchlfoplcnbaaGreatDoor
