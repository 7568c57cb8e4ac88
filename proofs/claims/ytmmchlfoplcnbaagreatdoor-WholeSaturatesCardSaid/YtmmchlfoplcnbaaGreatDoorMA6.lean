/- A part of the walk. -/
import Derived.Laws.BytesArg
import Derived.Lib.ConvBytes
import Derived.Deep.RegionLaw
import Derived.Test.YtmmchlfoplcnbaaGreatDoorMA3
import Derived.Test.YtmmchlfoplcnbaaGreatDoorMA2
namespace Go.Proofs.YtmmchlfoplcnbaaGreatDoor
open Go Go.RowKit Tryz
set_option linter.all false
set_option maxRecDepth 100000
set_option maxHeartbeats 4000000
def str (l:List UInt8):ByteArray:=⟨l.toArray⟩
theorem yb (l:List UInt8):(str l).data.toList=l:=rfl
theorem mo (l:List UInt8):(str l).size=l.length:=rfl
section
variable {P:Program} {t e d:TypeId}
theorem Xf (w:World) (ht:P.underlying t=some (.slice e)) (he:P.underlying e=some (.int .u8)) (hd:P.underlying d=some .string) (A:Option Addr) (l:List UInt8) (c:Nat) (hr:a7 w cO A l) :
  (convert t d (.slice A l.length c)).run P w=.ok (.string (str l)) w:=by
 rcases A with _|ad
 ·have:l = []:=by
   rcases l with _|⟨a,l⟩
   ·rfl
   ·obtain ⟨b,off,h,_⟩:=hr av;cases h
  subst this;exact run_convert_bytes_nil w t e ht he _ _ d hd
 ·have hl:(loadCells ad l.length).run P w=.ok ((l.map fun b=>(b.toNat:Int)).map (Value.int .u8)).toArray w:=by
   have:=run_loadCells_list (P:=P) w ad ((l.map fun b=>(b.toNat:Int)).map (Value.int .u8)) (fun j v aD=>by
    have yc:(cO.all l)[j]? = some v:=by rw [s7];simpa using aD
    have bW:l≠[]:=by rintro rfl;simp at aD
    obtain ⟨b,off,h,_,hc⟩:=hr bW;injection h with h;subst h
    rw [ko];exact hc j v yc)
   simpa using this
  rw [run_convert_bytes_string w t d e _ _ c ht he hd,run_bytesToString w _ _ c _ hl,foldl_push_bytes]
  congr 2
  show (⟨#[]++_⟩:ByteArray)=_
  unfold str
  congr 1
  apply Array.ext'
  simp
  apply GA
  intro i;simp
  cases l[i]? <;> simp
end
theorem O7 (w:World) (A:Option Addr) (l:List UInt8) (c:Nat) (hr:a7 w cO A l):(convert 87 9 (.slice A l.length c)).run prog w=.ok (.string (str l)) w :=
 Xf w underlying87 underlying5 underlying9 A l c hr
theorem O8 (l m:List UInt8):((str l).toList==(str m).toList)=(l==m):=by
 rw [w8];simp [oG,yb]
theorem O9 (w:World) (s:ByteArray):∃ c w',(convert 9 87 (.string s)).run prog w=.ok (.slice (some ⟨w.heap.size,0,none⟩) s.size c) w'/\nx w' w.heap.size cO (some ⟨w.heap.size,0,none⟩) s.data.toList/\Below w.heap.size w w':=by
 refine ⟨_,_,Lib.run_convert_string_bytes w _ _ _ s underlying9 underlying87 underlying5,?_,?_⟩
 ·intro _
  refine ⟨w.heap.size,0,rfl,e3 _,by rw [Lib.bytesWorld_size];omega,fun j u hu=>?_⟩;rw [s7] at hu
  simp at hu
  obtain ⟨b,hb,rfl⟩:=hu;have aD:j<s.size:=by
   rcases gB j s.size with h|h
   ·exact h
   ·rw [vr h] at hb;cases hb
  rw [fw,Lib.bytesWorld_cell w _ s j aD];simp [List.getD,hb]
 ·exact ⟨rfl,rfl,rfl,by rw [Lib.bytesWorld_size];omega,fun k hk=>Lib.bytesWorld_at_old w _ s k hk⟩
section
variable {P:Program} {ops:Array Oper} {Q:Exit->Act->World->Prop} {S:World->Prop} {md:Region.Mode} {last fuel:Nat} {listed:Array Bool} {a a':Act} {w:World} {oi:Oper} {d:Nat} {v:Value}
theorem aK (i:Nat)
  (h:kR P md ops Q S last fuel (listed.setIfInBounds i true) a' w)
  (hi:ops[i]? = some oi:=by exact rfl) (hd:oi.dst=some d:=by exact rfl) (hs:Region.noSelect ops=true:=by kernel_rfl) (hf:Region.free md ops listed i=true:=by kernel_rfl) (hr:(Region.ready md ops listed).contains i=true:=by kernel_rfl)
  (hw:Region.wanted oi (yielded ops a.tmps)=true:=by rfl) (ea:Kv md ops listed i last=true:=by kernel_rfl) (hv:∀ w,S w->(execOp a.eval oi).run P w=.ok (.value v) w:=by intro w' dB;(try dsimp only at dB);go_simp;(try (with_reducible rfl)))
  (ha:a.put (some d) v=a':=by simp only [Act.put,List.setIfInBounds_toArray,List.set_cons_zero,List.set_cons_succ];exact rfl)
  (pu:∀ c a w,Q (.panic c) (a.put (some d) v) w->Q (.panic c) a w:=by exact fun _ _ _ h=>h)
  (hS:S w:=by assumption):kR P md ops Q S last (fuel+1) listed a w:=by
 subst ha;exact Xx i d v hi hd hs hf hr pu hw ea hv hS h
end
def hasB (l:List ByteArray) (s:ByteArray):Bool:=l.any fun t=>t.toList==s.toList
theorem XC (l:List ByteArray) (s:ByteArray) (k:Nat) (hk:k<l.length) (h:(l[k].toList==s.toList)=true):hasB l s=true:=Cw.2 ⟨l[k],iO hk,h⟩
theorem XB (l:List ByteArray) (s:ByteArray) (k:Nat) (hk:k<l.length) (aI:hasB (l.take k) s=false) (h:(l[k].toList==s.toList)=false):hasB (l.take (k+1)) s=false:=by
 unfold hasB at *
 rw [gS hk,Gt,aI,List.any_cons,h];rfl
structure cv where
 id:ByteArray
 state:Int
 il:Int
 last:Int
abbrev cv.cells (p:cv):Array Value:=#[.string p.id,.i p.state,.i p.il,.i p.last]
structure cv.fe (p:cv):Prop where
 state:c' p.state
 il:c' p.il
 last:c' p.last
 id:p.id.size<=9223372036854775807
def cK:cu cv 4:=⟨fun p=>p.cells.toList,fun _=>rfl,fun p u hu=>by simp at hu;rcases hu with h|h|h|h <;> subst h <;> rfl,ak⟩
theorem a7.ks {w:World} {A:Option Addr} {l:List cv} (h:a7 w cK A l) {i:Nat} (hi:i<l.length):∃ b off,A=some ⟨b,off,none⟩/\b<w.heap.size /\
  w.cell? ⟨b,off+i*4,none⟩=some (.string l[i].id)/\w.cell? ⟨b,off+i*4+1,none⟩=some (.i l[i].state)/\w.cell? ⟨b,off+i*4+2,none⟩=some (.i l[i].il)/\w.cell? ⟨b,off+i*4+3,none⟩=some (.i l[i].last):=by
 obtain ⟨b,off,e,hb,hc⟩:=h.at_ hi;exact ⟨b,off,e,hb,by have:=hc 0 (.string l[i].id) rfl;simpa using this,hc 1 (.i l[i].state) rfl,hc 2 (.i l[i].il) rfl,hc 3 (.i l[i].last) rfl⟩
theorem XA (l:List ByteArray) (s:ByteArray) (A:Option Addr) (c:Nat) (w:World) (hr:a7 w encS A l) (hm:l.length<=9223372036854775807) :
  Calls prog 217 #[.slice A l.length c,.string s] w fun e w'=>(∃ z:Int,e=.returned (.i z)/\decide (0<=z)=hasB l s)/\w=w':=by
 have bx:=J hr;clear hr
 go_enter func217,ntmps217
 go_wp2_with fail
 go_loop [8] (fun i=>∃ k:Nat,k<=l.length/\i=.i k/\hasB (l.take k) s=false) (fun i=>l.length-(intOf i).toNat)
 case atStart=>exact ⟨0,af,rfl,rfl⟩
 case round =>
  obtain ⟨k,hk,rfl,aI⟩:=hrel;have rY:=J aI;clear aI
  by_cases aT:k<l.length
  ·obtain ⟨b,off,rfl,hb,hcell⟩:=bx.str aT
   have cg:decide ((k:Int)<(l.length:Int))=true:=bO af;have lG:(k:Int)<(l.length:Int):=af;have GQ:(s.toList==l[k].toList)=(l[k].toList==s.toList):=by rw [w8];simp only [qQ];exact eq_comm
   cases he:(l[k].toList==s.toList)
   ·have bs:=J (XB l s k aT rY he)
    have Kw:=GQ.trans he;generalize l[k]=t at *
    clear GQ he;go_wp2_with fail
    go_round
    case rel=>exact ⟨k+1,af,cm,bs.out⟩
    case measure=>exact c4
   ·have cJ:=J (XC l s k aT he)
    have Kw:=GQ.trans he;generalize l[k]=t at *
    clear GQ he;go_wp2_with fail;go_ret;exact ⟨⟨_,rfl,by rw [cJ.out];simp⟩,rfl⟩
  ·obtain rfl:k=l.length:=by omega
   have bN:=J (show hasB l s=false by have:=rY.out;rwa [kn] at this);have cg:decide ((l.length:Int)<(l.length:Int))=false:=av;go_wp2_with fail;go_ret;exact ⟨⟨_,rfl,by rw [bN.out];simp⟩,rfl⟩
theorem Ps (l:List ByteArray) (s:ByteArray) (A:Option Addr) (c:Nat) (w:World) (hr:a7 w encS A l) (hm:l.length<=9223372036854775807) :
  Calls prog 196 #[.slice A l.length c,.string s] w fun e w'=>e=.returned (.bool (hasB l s))/\w=w':=by
 have bx:=J hr;clear hr
 go_enter func196,ntmps196
 go_wp2_with fail;refine (XA l s A c w bx hm).mono ?_;rintro e aC ⟨⟨z,rfl,bI⟩,rfl⟩;have cq:=J bI;clear bI;go_wp2_with fail;go_ret;exact ⟨gw cq.out,rfl⟩
def p' (ax:List ByteArray) (x:cv):Bool:=(x.state==3)&&!hasB ax x.id
def mT (f:cv->Bool) (l:List cv):List ByteArray:=(l.filter f).map cv.id
theorem PN (f:cv->Bool) (l:List cv):(mT f l).length<=l.length:=by unfold mT;rw [lJ];exact tx _ _
theorem X8 (f:cv->Bool) (l:List cv) (k:Nat) (hk:k<l.length) (h:f l[k]=true):mT f (l.take (k+1))=mT f (l.take k)++[l[k].id]:=by
 unfold mT;rw [gS hk,vD,nQ];simp [h]
theorem X9 (f:cv->Bool) (l:List cv) (k:Nat) (hk:k<l.length) (h:f l[k]=false):mT f (l.take (k+1))=mT f (l.take k):=by
 unfold mT;rw [gS hk,vD,nQ];simp [h]
def GU (m:List ByteArray) (w:World) (e:Ending) (w':World):Prop :=
 ∃ A c,e=.returned (.slice A m.length c)/\Own w' w.heap.size 9 encS (.slice A m.length c) m/\Below w.heap.size w w'
theorem X' (l:List cv) (ax:List ByteArray) (A B:Option Addr) (c d:Nat) (w:World) (hr:a7 w cK A l) (hs:a7 w encS B ax) (hl:l.length<=100000) (hm:ax.length<=9223372036854775807) :
  Calls prog 153 #[.slice A l.length c,.slice B ax.length d] w (GU (mT (p' ax) l) w):=by
 have bx:=J hr;have aP:=J hs;clear hr hs
 go_enter func153,ntmps153
 go_wp2_with fail
 go_loopw [5,10] (fun b i wr=>∃ (k:Nat) (m:List ByteArray) (br:Option Addr) (a8:Nat),k<=l.length/\i=.i k/\m=mT (p' ax) (l.take k)/\b=.slice br m.length a8/\Own wr w.heap.size 9 encS (.slice br m.length a8) m/\Below w.heap.size w wr) (fun _ i _=>l.length-(intOf i).toNat)
 case atStart=>exact ⟨0,[],none,0,af,rfl,rfl,rfl,Own.e8 _ _ _ _,aO _ _⟩
 case round =>
  obtain ⟨k,m,br,a8,hk,rfl,nZ,rfl,hO,bM⟩:=hrel;have ag:=J nZ;have aA:=J (ae hO bM);have pw:m.length<=100000:=by rw [nZ];have:=PN (p' ax) (l.take k);rw [fv] at this;omega
  clear nZ hO bM
  by_cases aT:k<l.length
  ·obtain ⟨b,off,rfl,hb,tB,qa,kt,kd⟩:=(bx.below aA.2).ks aT
   have cg:decide ((k:Int)<(l.length:Int))=true:=bO af;have lG:(k:Int)<(l.length:Int):=af;have El:=X8 (p' ax) l k aT;have h0:=X9 (p' ax) l k aT;have Em:p' ax l[k]=((l[k].state==3)&&!hasB ax l[k].id):=rfl;generalize l[k]=x at *
   have cJ:=J (ae El (ae h0 Em));clear El h0 Em;have fk:Hid (Own (wr.alloc (.cells x.cells 75)) w.heap.size 9 encS (.slice br m.length a8) m/\Below w.heap.size w (wr.alloc (.cells x.cells 75))):=⟨aA.1.alloc _,aA.2.alloc aA.2.size _⟩
   cases dU:(x.state==3)
   ·have bs:=J (cJ.2.1 (by rw [cJ.2.2,dU];rfl))
    go_wp2_with fail
    go_roundw
    case rel=>exact ⟨k+1,m,br,a8,af,cm,by rw [bs.out];exact ag.out,rfl,fk.1,fk.2⟩
    case measure=>exact c4
   ·go_wp2_with fail
    refine (Ps ax x.id B d _ (aP.below fk.2) hm).mono ?_;rintro e aC ⟨rfl,rfl⟩
    cases xg:hasB ax x.id
    ·have bs:=J (cJ.1 (by rw [cJ.2.2,dU,xg];rfl))
     have kr:(wr.alloc (.cells x.cells 75)).heap.size=wr.heap.size+1:=av;have tC:=a7.made (wr.alloc (.cells x.cells 75)) encS [x.id] 9 #[.string x.id] (0,0) rfl;rw [kr] at tC
     have iQ:Hid (Own ((wr.alloc (.cells x.cells 75)).alloc (.cells #[.string x.id] 9)) w.heap.size 9 encS (.slice br m.length a8) m/\Below w.heap.size w ((wr.alloc (.cells x.cells 75)).alloc (.cells #[.string x.id] 9))/\a7 ((wr.alloc (.cells x.cells 75)).alloc (.cells #[.string x.id] 9)) encS (some ⟨wr.heap.size+1,0,none⟩) [x.id]):=⟨fk.1.alloc _,fk.2.alloc fk.2.size _,tC⟩
     clear kr tC;clear xg dU
     go_wp2_with (at_builtin;refine hW En encS rfl (.tmp 25) (.tmp 28) rfl w.heap.size _ m rfl iQ.1 _ [x.id] 1 rfl iQ.2.2 (by simp;omega) (by simp;omega) iQ.2.1.size ?_;intro b5 fP w3 eX eF _;have yw:=iQ.1.jX iQ.2.1 eF aF iQ.2.1.size;have cD:=J (ae eX yw);clear eX eF yw)
     have ja:m.length + [x.id].length=(m++[x.id]).length:=(cd).symm;have yx:=cD.1;rw [ja] at yx
     go_roundw
     case rel=>exact ⟨k+1,m++[x.id],b5,fP,af,cm,by rw [bs.out];exact pz (·++[x.id]) ag.out,by first|rfl|(rw [<- ja];rfl),yx,cD.2⟩
     case measure=>exact c4
    ·have bs:=J (cJ.2.1 (by rw [cJ.2.2,dU,xg];rfl))
     clear xg dU;go_wp2_with fail
     go_roundw
     case rel=>exact ⟨k+1,m,br,a8,af,cm,by rw [bs.out];exact ag.out,rfl,fk.1,fk.2⟩
     case measure=>exact c4
  ·obtain rfl:k=l.length:=by omega
   have cg:decide ((l.length:Int)<(l.length:Int))=false:=av;have r7:m=mT (p' ax) l:=by have:=ag.out;rwa [kn] at this
   subst r7;go_wp2_with fail;go_ret;exact ⟨br,a8,rfl,aA.1,aA.2⟩


def kg (k:Int):Bool:=decide (k≠1)
end Go.Proofs.YtmmchlfoplcnbaaGreatDoor
