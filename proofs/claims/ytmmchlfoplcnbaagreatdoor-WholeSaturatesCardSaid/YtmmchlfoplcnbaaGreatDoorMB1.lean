/- A part of the walk. -/
import Derived.Test.YtmmchlfoplcnbaaGreatDoorShelf
import Derived.Laws.IdiomCopy
import Derived.Lib.AppendZerosOnto
import Derived.Deep.RegionLaw
import Derived.Shelf.RegionOpenPlain
import Derived.Test.YtmmchlfoplcnbaaGreatDoorMA2
namespace Go.Proofs.YtmmchlfoplcnbaaGreatDoor
open Go Go.RowKit Tryz
set_option linter.all false
set_option maxRecDepth 100000
set_option maxHeartbeats 4000000
section
def yA:List UInt8:=[97,98,99,100,101,102,103,104,105,106,107,108,109,110,111,112,113,114,115,116,117,118,119,120,121,122,48,49,50,51,52,53,54,55,56,57,45]
theorem Yl (c:UInt8):yA.contains c=sign c:=by
 revert c
 have h:∀ n,n<256->yA.contains (UInt8.ofNat n)=sign (UInt8.ofNat n):=by decide +kernel
 intro c;have:=h c.toNat (UInt8.toNat_lt c)
 simpa using this
theorem dropWhile_nil {p:UInt8->Bool} (l:List UInt8):l.dropWhile p = []↔∀ x∈l,p x=true:=by
 induction l with
 | nil=>simp
 | cons a l b6 =>
  rw [List.dropWhile_cons]
  by_cases h:p a=true
  ·rw [bB h,b6];simp [h]
  ·rw [bp h];simp [h]
theorem Ym (l:List UInt8):(Lib.trimS l yA = [])↔l.all sign=true:=by
 have e:(fun x=>yA.contains x)=sign:=funext Yl;unfold Lib.trimS Lib.trimLeftS Lib.trimRightS;rw [e,dropWhile_nil,List.all_eq_true]
 constructor
 ·intro h x hx
  by_cases PU:x∈(List.dropWhile sign l.reverse).reverse
  ·exact h x PU
  ·have ah:List.dropWhile sign l.reverse = []:=by
    rcases hd:List.dropWhile sign l.reverse with _|⟨a,t⟩
    ·rfl
    ·have ha:=h a (by rw [hd];simp)
     have:=List.head_dropWhile_not (p:=sign) (l:=l.reverse) (by rw [hd];simp);simp only [hd,List.head_cons] at this
     rw [ha] at this;cases this
   rw [dropWhile_nil] at ah
   exact ah x (by simpa using hx)
 ·intro h x hx
  refine h x ?_;have:x∈l.reverse:=(List.dropWhile_sublist _).subset (by simpa using hx)
  simpa using this
theorem Yn (s:ByteArray):((⟨(Lib.trimS s.data.toList yA).toArray⟩:ByteArray).toList.isEmpty)=s.data.toList.all sign:=by
 rw [w8,<- Ym];simp [oG]
theorem vE (s:ByteArray) (w:World) (hs:s.size<=9223372036854775807) :
  Calls prog 174 #[.string s] w fun e w'=>e=.returned (.bool (named s.data.toList))/\Below w.heap.size w w':=by
 have hlen:s.data.toList.length=s.size:=rfl;have iF:=Any.strings_Trim_laid lays160 ai s ⟨yA.toArray⟩ w hs ak (ascii_of_all ak)
 change Calls prog 231 _ _ (fun e w'=>e=.returned (.string ⟨(Lib.trimS s.data.toList yA).toArray⟩)/\Below w.heap.size w w') at iF
 have G4:=Yn s
 by_cases h1:1<=s.size
 ·by_cases ah:s.size<=24
  ·have hn:named s.data.toList=s.data.toList.all sign:=by unfold named;simp [hlen,h1,ah]
   rw [hn,<- G4];generalize (⟨(Lib.trimS s.data.toList yA).toArray⟩:ByteArray)=r at iF ⊢
   clear G4 hn;have H:=J iF;clear iF
   go_enter func174,ntmps174
   go_wp2_with fail;refine (H.out).mono ?_;rintro e w' ⟨rfl,bM⟩
   go_wp2
   go_ret;exact ⟨rfl,bM⟩
  ·have hn:named s.data.toList=false:=by unfold named;simp [hlen,ah]
   rw [hn];clear G4 iF hn
   go_enter func174,ntmps174
   go_wp2
   go_ret;exact ⟨rfl,aO _ _⟩
 ·have hn:named s.data.toList=false:=by unfold named;simp [hlen,h1]
  rw [hn];clear G4 iF hn
  go_enter func174,ntmps174
  go_wp2
  go_ret;exact ⟨rfl,aO _ _⟩
open Go.Shelf Go.Lib
theorem OZ (p:aQ) (w:World) (hp:p.fe) :
  Calls prog 120 #[.agg p.cells] w fun e w'=>e=.returned (.bool p.right)/\Below w.heap.size w w':=by
 go_enter func120,ntmps120
 go_wp2
 go_loop [7] (fun t=>∃ k:Nat,k<=3/\t=.i k/\p.qY k=true) (fun t=>3-(intOf t).toNat)
 case atStart=>exact ⟨0,af,rfl,p.Yo⟩
 case round =>
  obtain ⟨k,hk,rfl,bi⟩:=hrel;have bJ:=J bi;clear bi;obtain rfl|rfl|rfl|rfl:k=0\/k=1\/k=2\/k=3:=af
  ·rcases KM p.bg p.bk with ⟨hb,h|⟨h1,ah⟩|⟨h1,ah,aw⟩⟩|⟨hb,aI,h|⟨h1,ah⟩⟩
   iterate 3
    ·have aA:=J (p.Yp hb)
     clear hb
     go_wp2
     go_ret;exact ⟨gw aA.symm,(aO _ _).alloc aF _⟩
   all_goals
    have aA:=J (p.Yq hb);clear hb
    go_wp2
    go_round
    case rel=>exact ⟨1,af,rfl,aA.out⟩
    case measure=>exact ef
  ·rcases KM p.aX p.bl with ⟨hb,h|⟨h1,ah⟩|⟨h1,ah,aw⟩⟩|⟨hb,aI,h|⟨h1,ah⟩⟩
   iterate 3
    ·have aA:=J (p.Yr hb)
     clear hb
     go_wp2
     go_ret;exact ⟨gw aA.symm,(aO _ _).alloc aF _⟩
   all_goals
    have aA:=J (p.Ys bJ hb);clear hb
    go_wp2
    go_round
    case rel=>exact ⟨2,af,rfl,aA.out⟩
    case measure=>exact ef
  ·rcases KM p.ba p.aW with ⟨hb,h|⟨h1,ah⟩|⟨h1,ah,aw⟩⟩|⟨hb,aI,h|⟨h1,ah⟩⟩
   iterate 3
    ·have aA:=J (p.Yt hb)
     clear hb
     go_wp2
     go_ret;exact ⟨gw aA.symm,(aO _ _).alloc aF _⟩
   all_goals
    have aA:=J (p.Yu bJ hb);clear hb
    go_wp2
    go_round
    case rel=>exact ⟨3,af,rfl,aA.out⟩
    case measure=>exact ef
  ·have dC:=J (p.Yv bJ)
   clear bJ hk
   cases hn:named p.id.data.toList
   ·have bx:Hid (p.right=false):=by show p.right=false;simp [aQ.right,hn]
    go_wp2_with (go_at_call 174;refine (vE _ _ hp.id).mono ?_;rintro e w' ⟨rfl,hb⟩;obtain ⟨hc,hf⟩:=nw hb)
    go_ret;exact ⟨gw bx.symm,((aO _ _).alloc aF _).trans (hb.mono av)⟩
   ·cases hm:named p.bb.data.toList
    ·have bx:Hid (p.right=false):=by show p.right=false;simp [aQ.right,hm]
     have bs:=J hn;have ag:=J hm;clear hn hm;go_wp2_with fail;refine (vE _ _ hp.id).mono ?_;rintro e aC ⟨rfl,hb⟩;obtain ⟨hc,hf⟩:=nw hb;rw [bs.out];go_wp2_with fail;refine (vE _ _ hp.bb).mono ?_;rintro e aM ⟨rfl,bY⟩;rw [ag.out];obtain ⟨kt,Er⟩:=nw bY;go_wp2_with fail;go_ret;exact ⟨gw bx.symm,(((aO _ _).alloc aF _).trans (hb.mono av)).trans (bY.mono (by have:=hb.size;simp at this;omega))⟩
    ·have bx:Hid (p.right=p.rest):=by
      show p.right=p.rest
      simp [aQ.right,hn,hm,dC.out]
     have bs:=J hn;have ag:=J hm;clear hn hm
     rcases (show p.prio < -1073741824\/1073741824<p.prio\/(-1073741824<=p.prio/\p.prio<=1073741824) by omega) with h|h|⟨h1,ah⟩
     ·have aB:Hid (p.rest=false):=by show p.rest=false;unfold aQ.rest;rw [cX af];rfl
      go_wp2_with fail;refine (vE _ _ hp.id).mono ?_;rintro e aC ⟨rfl,hb⟩;obtain ⟨hc,hf⟩:=nw hb;rw [bs.out];go_wp2_with fail;refine (vE _ _ hp.bb).mono ?_;rintro e aM ⟨rfl,bY⟩;rw [ag.out];have bI:w.heap.size+1<=aC.heap.size:=by have:=hb.size;simpa using this
      have PV:w.heap.size<aC.heap.size:=bI;obtain ⟨kt,Er⟩:=nw bY;go_wp2_with fail;go_ret;exact ⟨gw (bx.trans aB).symm,(((aO _ _).alloc aF _).trans (hb.mono av)).trans (bY.mono af)⟩
     ·have aB:Hid (p.rest=false):=by show p.rest=false;unfold aQ.rest;rw [cX (by omega:¬ p.prio<=1073741824)];simp
      go_wp2_with fail;refine (vE _ _ hp.id).mono ?_;rintro e aC ⟨rfl,hb⟩;obtain ⟨hc,hf⟩:=nw hb;rw [bs.out];go_wp2_with fail;refine (vE _ _ hp.bb).mono ?_;rintro e aM ⟨rfl,bY⟩;rw [ag.out];have bI:w.heap.size+1<=aC.heap.size:=by have:=hb.size;simpa using this
      have PV:w.heap.size<aC.heap.size:=bI;obtain ⟨kt,Er⟩:=nw bY;go_wp2_with fail;go_ret;exact ⟨gw (bx.trans aB).symm,(((aO _ _).alloc aF _).trans (hb.mono av)).trans (bY.mono af)⟩
     ·have aB:Hid (p.rest=decide (0<=p.size)):=by show p.rest=_;unfold aQ.rest;rw [bO h1,bO ah];rfl
      go_wp2_with fail;refine (vE _ _ hp.id).mono ?_;rintro e aC ⟨rfl,hb⟩;obtain ⟨hc,hf⟩:=nw hb;rw [bs.out];go_wp2_with fail;refine (vE _ _ hp.bb).mono ?_;rintro e aM ⟨rfl,bY⟩;rw [ag.out];have bI:w.heap.size+1<=aC.heap.size:=by have:=hb.size;simpa using this
      have PV:w.heap.size<aC.heap.size:=bI;obtain ⟨kt,Er⟩:=nw bY;go_wp2_with fail;go_ret;exact ⟨gw (bx.trans aB).symm,(((aO _ _).alloc aF _).trans (hb.mono av)).trans (bY.mono af)⟩
end
section
variable {V:Type}
theorem Ke (cur xs ds:List V) (p:Nat) (h:p+xs.length+ds.length<=cur.length) :
  ((cur.take p++xs++cur.drop (p+xs.length)).take (p+xs.length)++ds++(cur.take p++xs++cur.drop (p+xs.length)).drop (p+xs.length+ds.length)).take (p+xs.length+ds.length)=cur.take p++xs++ds:=by
 have aV:(cur.take p++xs++cur.drop (p+xs.length)).take (p+xs.length)=cur.take p++xs:=rU (by rw [cd,fv];omega);rw [aV];exact rU (by rw [cd,cd,fv];omega)
theorem Kf (cur xs ds:List V) (p:Nat) (h:p+xs.length+ds.length<=cur.length) :
  ((cur.take (p+xs.length)++ds++cur.drop (p+xs.length+ds.length)).take p++xs++(cur.take (p+xs.length)++ds++cur.drop (p+xs.length+ds.length)).drop (p+xs.length)).take (p+xs.length+ds.length)=cur.take p++xs++ds:=by
 have aV:(cur.take (p+xs.length)++ds++cur.drop (p+xs.length+ds.length)).take p=cur.take p:=by
  rw [mq,D7 (by rw [fv];omega),vu,oF af]
 have bE:(cur.take (p+xs.length)++ds++cur.drop (p+xs.length+ds.length)).drop (p+xs.length)=ds++cur.drop (p+xs.length+ds.length):=by
  rw [mq];exact List.drop_left' (by rw [fv];omega)
 rw [aV,bE,<- mq];exact rU (by rw [cd,cd,fv];omega)
theorem jN (cur vs:List V) (o:Nat) (h:o+vs.length<=cur.length):(cur.take o++vs++cur.drop (o+vs.length)).length=cur.length:=by
 rw [cd,cd,fv,rV];omega
end
section
variable {P:Program}
theorem Xg (w:World) (rW vv ty elem:TypeId) (size b o Cy GB:Nat) (a:Addr) (Cz GC n:Nat) (cs:List Value)
  (hu:P.underlying rW=some (.slice elem)) (hs:(P.info? elem).map (·.size)=some size) (Kg:Nat.min Cz Cy=n) (hn:cs.length=n*size)
  (Kh:∀ j v,cs[j]? = some v->w.cell? (a.add j)=some v) (hc:∀ j,j<cs.length->(w.cell? ⟨b,o+j,none⟩).isSome=true) (hf:∀ j,j<cs.length->w.frozen? ⟨b,o+j,none⟩=false) (h1:∀ v∈cs,v.oneCell'=true) :
  (Builtin.copy_ #[rW,vv] ty #[.slice (some ⟨b,o,none⟩) Cy GB,.slice (some a) Cz GC]).run P w=.ok (goInt n) (w.setCells b o cs):=by
 have hl:=run_loadCells_list (P:=P) w a cs Kh;have dU:=run_storeCells_cells (P:=P) b o cs 0 w (by simpa using hc) (by simpa using hf) h1
 cases bd:P.info? elem with
 | none=>simp [bd] at hs
 | some i =>
  have hi:i.size=size:=by simpa [bd] using hs
  simp [Builtin.copy_,mn hu,Builtin.lenOf,Builtin.firstCells,sizeOf,typeInfo,bd,hi,Kg,<- hn,hl,dU]
theorem rX (w:World) (rW vv ty elem t:TypeId) (size g o Cy GB:Nat) (a:Addr) (Cz GC n:Nat) (cur cs:List Value) (hb:ar w g t cur.toArray) (D8:o+cs.length<=cur.length)
  (hu:P.underlying rW=some (.slice elem)) (hs:(P.info? elem).map (·.size)=some size) (Kg:Nat.min Cz Cy=n) (hn:cs.length=n*size)
  (Kh:∀ j v,cs[j]? = some v->w.cell? (a.add j)=some v) (h1:∀ v∈cs,v.oneCell'=true) :
  ∃ w',(Builtin.copy_ #[rW,vv] ty #[.slice (some ⟨g,o,none⟩) Cy GB,.slice (some a) Cz GC]).run P w=.ok (goInt n) w'/\ar w' g t (cur.take o++cs++cur.drop (o+cs.length)).toArray/\w.grownBy w' (some g)/\w'.heap.size=w.heap.size:=by
 obtain ⟨ah,aw,bn⟩:=rS g t cs o w cur D8 hb;refine ⟨_,Xg w rW vv ty elem size g o Cy GB a Cz GC n cs hu hs Kg hn Kh (fun j aD=>?_) (fun j _=>hb.frozen _) h1,ah,aw,bn⟩;rw [hb.cell,s8,dF af];rfl
theorem CA {w:World} {ops:Array Oper} {rest:List Oper} {o:Oper} {a:Act} {Q:Exit->Act->World->Prop} (kq:o.guard=none) (d s:Operand) (t t':TypeId)
  (ho:o.op=.call { callee:=.builtin .copy,args:=#[d,s],argTypes:=#[t,t'] }) (v u:Value) (hd:a.eval d=v) (hs:a.eval s=u) {v':Value} {w':World}
  (hr:(Builtin.copy_ #[t,t'] o.type #[v,u]).run P w=.ok v' w') (h:wpList P ops Q rest (a.put o.dst v') w'):wpList P ops Q (o :: rest) a w :=
 Ap kq fun K hK=>by
  show o.wp P a w K Q
  unfold Oper.wp execOp;simp only [ho,resolve,invoke,builtin,kN,nv,pZ,D6,ny,rT,hd,hs,hr];exact hK _ _ h
theorem CB {ops:Array Oper} {o:Oper} {a:Act} {w:World} {K:Act->World->Prop} {Q:Exit->Act->World->Prop} {X:Prop}
  (az:o.guard=none) (d x:Operand) (rW vv:TypeId) (Ki:o.op=Op.call { callee:=Callee.builtin Builtin.copy,args:=#[d,x],argTypes:=#[rW,vv] })
  (v u:Value) (hd:a.eval d=v) (hx:a.eval x=u) {v':Value} {w':World} (hr:(Builtin.copy_ #[rW,vv] o.type #[v,u]).run P w=.ok v' w') (hK:K (a.put o.dst v') w') :
  if Region.wanted o (yielded ops a.tmps)=true then Oper.wp P o a w K Q else X:=by
 have hw:Region.wanted o (yielded ops a.tmps)=true:=by simp [Region.wanted,az]
 rw [bB hw];unfold Oper.wp;simp [execOp,Ki,resolve,invoke,builtin,hd,hx,hr,Result.andThen];exact hK
theorem GD {ops:Array Oper} {o:Oper} {a:Act} {w:World} {K:Act->World->Prop} {Q:Exit->Act->World->Prop} {X:Prop}
  (az:o.guard=none) (d x:Operand) (rW vv:TypeId) (Ki:o.op=Op.call { callee:=Callee.builtin Builtin.append,args:=#[d,x],argTypes:=#[rW,vv] })
  (v u:Value) (hd:a.eval d=v) (hx:a.eval x=u) {v':Value} {w':World} (hr:(Builtin.append_ #[rW,vv] o.type #[v,u]).run P w=.ok v' w') (hK:K (a.put o.dst v') w') :
  if Region.wanted o (yielded ops a.tmps)=true then Oper.wp P o a w K Q else X:=by
 have hw:Region.wanted o (yielded ops a.tmps)=true:=by simp [Region.wanted,az]
 rw [bB hw];unfold Oper.wp;simp [execOp,Ki,resolve,invoke,builtin,hd,hx,hr,Result.andThen];exact hK
theorem GF {w:World} {ops:Array Oper} {rest:List Oper} {o:Oper} {a:Act} {Q:Exit->Act->World->Prop} (kq:o.guard=none) (s:Operand) (t:TypeId)
  (ho:o.op=.call { callee:=.builtin .clear,args:=#[s],argTypes:=#[t] }) (v:Value) (hs:a.eval s=v) {v':Value} {w':World}
  (hr:(Builtin.clear_ #[t] o.type #[v]).run P w=.ok v' w') (h:wpList P ops Q rest (a.put o.dst v') w'):wpList P ops Q (o :: rest) a w :=
 Ap kq fun K hK=>by
  show o.wp P a w K Q
  unfold Oper.wp execOp;simp only [ho,resolve,invoke,builtin,kN,nv,pZ,D6,ny,rT,hs,hr];exact hK _ _ h
theorem Kj {w:World} {ops:Array Oper} {rest:List Oper} {o:Oper} {a:Act} {Q:Exit->Act->World->Prop} (kq:o.guard=none) (s x:Operand) (t t':TypeId)
  (ho:o.op=.call { callee:=.builtin .append,args:=#[s,x],argTypes:=#[t,t'] }) (v u:Value) (hd:a.eval s=v) (hs:a.eval x=u) {v':Value} {w':World}
  (hr:(Builtin.append_ #[t,t'] o.type #[v,u]).run P w=.ok v' w') (h:wpList P ops Q rest (a.put o.dst v') w'):wpList P ops Q (o :: rest) a w :=
 Ap kq fun K hK=>by
  show o.wp P a w K Q
  unfold Oper.wp execOp;simp only [ho,resolve,invoke,builtin,kN,nv,pZ,D6,ny,rT,hd,hs,hr];exact hK _ _ h
theorem O' (w:World) (t ty e te:TypeId) (i:TypeInfo) (z:Value) (hu:P.underlying t=some (.slice e)) (hi:P.info? e=some i) (bI:i.zero=some z) (kr:∀ v∈z.cells.toList,v.oneCell'=true) (hN:0<z.cells.size)
  (g o n c:Nat) (hn:0<n) (cur:List Value) (hb:ar w g te cur.toArray) (D8:o+n*z.cells.size<=cur.length) :
  ∃ w' zs,(Builtin.clear_ #[t] ty #[.slice (some ⟨g,o,none⟩) n c]).run P w=.ok (.tuple #[]) w'/\zs.length=n*z.cells.size/\ar w' g te (cur.take o++zs++cur.drop (o+n*z.cells.size)).toArray/\w.grownBy w' (some g)/\w'.heap.size=w.heap.size:=by
 have hlen:(Builtin.zeroCells z.cells n).toList.length=n*z.cells.size:=by rw [mm,w9]
 have Xh:∀ v∈(Builtin.zeroCells z.cells n).toList,v.oneCell'=true:=by
  intro v hv;obtain ⟨k,hk,rfl⟩:=pj hv;rw [Array.getElem_toList];simp only [Builtin.zeroCells,Array.getElem_map,Array.getElem_range];refine kr _ ?_;rw [yd z.cells _ (CC _ hN)];simp
 obtain ⟨ah,aw,bn⟩:=rS g te (Builtin.zeroCells z.cells n).toList o w cur (by rw [hlen];exact D8) hb;have dU:=run_storeCells_cells (P:=P) g o (Builtin.zeroCells z.cells n).toList 0 w (fun j aD=>by
  rw [hlen] at aD
  rw [vw,hb.cell,s8,dF af];rfl) (fun j _=>hb.frozen _) Xh
 refine ⟨_,(Builtin.zeroCells z.cells n).toList,?_,hlen,by rw [<- hlen];exact ah,aw,bn⟩
 cases n with
 | zero=>omega
 | succ n =>
  simp only [vw] at dU
  simp [Builtin.clear_,mn hu,zeroValue,typeInfo,hi,bI,dU]
end
end Go.Proofs.YtmmchlfoplcnbaaGreatDoor
