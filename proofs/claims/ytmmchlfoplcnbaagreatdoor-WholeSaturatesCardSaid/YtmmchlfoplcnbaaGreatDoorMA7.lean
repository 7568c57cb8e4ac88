/- A part of the walk. -/
import Derived.Test.YtmmchlfoplcnbaaGreatDoorMA6
import Derived.Test.YtmmchlfoplcnbaaGreatDoorMA5
namespace Go.Proofs.YtmmchlfoplcnbaaGreatDoor
open Go Go.RowKit Tryz
set_option linter.all false
set_option maxRecDepth 100000
set_option maxHeartbeats 4000000
def Plain (A:Option Addr):Prop:=A=none\/∃ b off,A=some ⟨b,off,none⟩
theorem Own.plain {α:Type} {size:Nat} {E:cu α size} {w:World} {base:Nat} {e:TypeId} {A:Option Addr} {n c:Nat} {l:List α} (h:Own w base e E (.slice A n c) l):Plain A:=by
 rcases h.2 with ⟨hv,_⟩|⟨g,cap,cur,hv,_⟩
 ·injection hv with hA;exact .inl hA
 ·injection hv with hA;exact .inr ⟨g,0,hA⟩
theorem a7.plain {α:Type} {size:Nat} {E:cu α size} {w:World} {A:Option Addr} {l:List α} (h:a7 w E A l) (bW:l≠[]):Plain A:=by
 obtain ⟨b,off,e,_⟩:=h bW;exact .inr ⟨b,off,e⟩
def Fb {α:Type} {size:Nat} (E:cu α size) (e:TypeId) (l:List α) (w:World) (jM:Ending) (w':World):Prop:=∃ A c,jM=.returned (.slice A l.length c)/\Own w' w.heap.size e E (.slice A l.length c) l/\Below w.heap.size w w'
theorem adh {α:Type} {size:Nat} {P:Program} (E:cu α size) (e:TypeId) (f:FuncId) (l:List α) (A:Option Addr) (c:Nat) (w:World) (hr:a7 w E A l) (hA:Plain A)
  (h1:∀ b off,(∀ j u,(E.all l)[j]? = some u->w.cell? ⟨b,off+j,none⟩=some u)->Calls P f #[.slice (some ⟨b,off,none⟩) l.length c] w fun jM w'=>∃ v',jM=.returned v'/\w'.ownsRow w.heap.size e size v' l.length (E.all l)/\v'≠.slice none 0 0/\Below w.heap.size w w')
  (ah:∀ n,Calls P f #[.slice none n c] w fun jM w'=>jM=.returned (.slice none 0 0)/\w'=w) :
  Calls P f #[.slice A l.length c] w (Fb E e l w):=by
 rcases hA with rfl|⟨b,off,rfl⟩
 ·have hl:l = []:=by
   rcases l with _|⟨x,l⟩
   ·rfl
   ·obtain ⟨b,off,e,_⟩:=hr av
    cases e
  subst hl;refine (ah _).mono fun jM w' ⟨he,hw⟩=>?_
  subst hw;exact ⟨none,0,he,Own.e8 _ _ _ _,aO _ _⟩
 ·refine (h1 b off ?_).mono fun jM w' ⟨v',he,ho,_,hb⟩=>?_
  ·intro j u aD
   obtain ⟨b',p2,e,_,hc⟩:=hr (by rintro rfl;simp [cu.all] at aD);injection e with e
   injection e with aV bE
   subst aV;subst bE;exact hc j u aD
  ·have j6:Own w' w.heap.size e E v' l:=ho
   obtain ⟨br,a8,rfl,_⟩:=j6.form;exact ⟨br,a8,he,j6,hb⟩
theorem Dn (l:List UInt8) (A:Option Addr) (c:Nat) (w:World) (hr:a7 w cO A l) (hA:Plain A) (hn:l.length<=140737488355328):Calls prog 50 #[.slice A l.length c] w (Fb cO 5 l w):=by
 obtain ⟨i,h1,ah,aw,bn⟩:=info_parts (show (prog.info? 5).map (fun i=>(i.zero,i.size,i.bytes))=some (some (.int .u8 0),1,1) by kernel_rfl);exact adh cO 5 _ l A c w hr hA (fun b off hc=>AnyE.slices_Clone cloneB i _ 1 1 h1 ah aw bn rfl ak sizeOf5 b off l.length c (cO.all l) w (by rw [cO.h3]) (by unfold maxLen;omega) af hc (cO.s3 l)) (fun n=>AnyE.slices_Clone_nil cloneB n c w)
structure cB (F:Nat->Prop) (w w':World):Prop where
 os:w'.os=w.os
 tape:w'.tape=w.tape
 output:w'.output=w.output
 size:w.heap.size<=w'.heap.size
 block:∀ k,k<w.heap.size->¬ F k->w'.heap[k]? = w.heap[k]?
section
variable {F wm:Nat->Prop} {w w' sU:World}
theorem cB.refl (F:Nat->Prop) (w:World):cB F w w:=⟨rfl,rfl,rfl,e3 _,fun _ _ _=>rfl⟩
theorem cB.trans (h:cB F w w') (cI:cB wm w' sU) (hF:∀ k,k<w.heap.size->wm k->F k):cB F w sU :=
 ⟨cI.os.trans h.os,cI.tape.trans h.tape,cI.output.trans h.output,gT h.size cI.size,fun k hk hn=>(cI.block k (qb hk h.size) (fun e=>hn (hF k hk e))).trans (h.block k hk hn)⟩
theorem cB.mono (h:cB F w w') (hF:∀ k,F k->wm k):cB wm w w':=⟨h.os,h.tape,h.output,h.size,fun k hk hn=>h.block k hk fun e=>hn (hF k e)⟩
theorem cB.dL (F:Nat->Prop) (hb:Below w.heap.size w w'):cB F w w':=⟨hb.os,hb.tape,hb.output,hb.size,fun k hk _=>hb.block k hk⟩
theorem cB.Bj {row:Option Nat} (az:w.grownBy w' row) (hF:∀ k,row=some k->k<w.heap.size->F k):cB F w w' :=
 ⟨az.os,az.tape,az.output,az.size,fun k hk hn=>az.block k hk fun e=>hn (hF k e.symm hk)⟩
theorem cB.below {B:Nat} (h:cB F w w') (bM:B<=w.heap.size) (hF:∀ k,k<B->¬ F k):Below B w w' :=
 ⟨h.os,h.tape,h.output,h.size,fun k hk=>h.block k af (hF k hk)⟩
theorem cB.Du (h:cB F w w') (hb:Below w'.heap.size w' sU):cB F w sU:=h.trans (wm:=fun _=>False) (cB.dL _ hb) fun _ _ e=>e.elim
theorem cB.setCell (F:Nat->Prop) (w:World) (g i:Nat) (u:Value) (hF:F g):cB F w (w.setCell ⟨g,i,none⟩ u) :=
 cB.Bj (w6 w g i u) fun k hk _=>by injection hk with hk;subst hk;exact hF
theorem cB.ur (h:cB F w w') {k:Nat} {o:Obj} (hk:w.heap[k]? = some o) (hn:¬ F k):w'.heap[k]? = some o :=
 (h.block k (w5.1 hk).1 hn).trans hk
theorem cB.cell (h:cB F w w') {b o:Nat} (hb:b<w.heap.size) (hn:¬ F b):w'.cell? ⟨b,o,none⟩=w.cell? ⟨b,o,none⟩:=Gz (h.block b hb hn)
end
section
variable {F:Nat->Prop} {w w':World} {α:Type} {size:Nat} {E:cu α size}
theorem ar.only {g:Nat} {t:TypeId} {cs:Array Value} (h:ar w g t cs) (ho:cB F w w') (hn:¬ F g):ar w' g t cs:=ho.ur h hn
theorem a7.only {b off:Nat} {l:List α} (h:a7 w E (some ⟨b,off,none⟩) l) (ho:cB F w w') (hn:¬ F b):a7 w' E (some ⟨b,off,none⟩) l:=fun hl=>by
 obtain ⟨b',p2,e,aT,hc⟩:=h hl;injection e with e
 injection e with aV bE
 subst aV;subst bE;exact ⟨b,off,rfl,qb aT ho.size,fun j u hu=>(ho.cell aT hn).trans (hc j u hu)⟩
theorem Own.only {base:Nat} {e:TypeId} {v:Value} {l:List α} (h:Own w base e E v l) (ho:cB F w w') (hn:∀ k,v.ownBlock=some k->¬ F k):Own w' base e E v l:=by
 refine ⟨h.1,?_⟩
 rcases h.2 with ah|⟨g,cap,cur,hv,hb,az,r⟩
 ·exact .inl ah
 ·exact .inr ⟨g,cap,cur,hv,hb,ho.ur az (hn g (by rw [hv];rfl)),r⟩
theorem Own.sD {base:Nat} {e:TypeId} {v:Value} {l:List α} (h:Own w base e E v l) {g:Nat} {t:TypeId} {cs:Array Value} (az:ar w g t cs) (bW:e≠t):∀ k,v.ownBlock=some k->k≠g:=fun k hk e=>by
 subst e;exact h.fK az bW hk.symm
theorem Own.Ia {base:Nat} {e:TypeId} {v:Value} {l:List α} (h:Own w base e E v l) {g:Nat} {es:Array MapEntry} {c:Nat} (az:w.heap[g]? = some (.map es c)):∀ k,v.ownBlock=some k->k≠g:=fun k hk e=>by
 subst e
 rcases h.2 with ⟨rfl,_⟩|⟨g',cap,cur,rfl,_,bQ,_⟩
 ·simp [Value.ownBlock] at hk
 ·have:g'=k:=by simpa [Value.ownBlock] using hk
  subst this;rw [az] at bQ;cases bQ
theorem ar.fK {g g':Nat} {t t':TypeId} {cs xG:Array Value} (h:ar w g t cs) (cI:ar w g' t' xG) (bW:t≠t'):g≠g':=fun e=>by
 subst e;unfold ar at h cI
 rw [h] at cI
 injection cI with cI
 injection cI with _ cI
 exact bW cI
theorem ar.pM {g g':Nat} {t:TypeId} {cs:Array Value} {es:Array MapEntry} {c:Nat} (h:ar w g t cs) (cI:w.heap[g']? = some (.map es c)):g≠g':=fun e=>by
 subst e;unfold ar at h
 rw [h] at cI;cases cI
end
abbrev Eo (b:Nat):Array Value:=#[.pointer (some ⟨b,1,none⟩),.pointer (some ⟨b,10,none⟩),.pointer (some ⟨b,3,none⟩),.pointer (some ⟨b,4,none⟩),.pointer (some ⟨b,5,none⟩),.pointer (some ⟨b,6,none⟩),.pointer (some ⟨b,7,none⟩),.pointer (some ⟨b,8,none⟩)]
theorem Yg (b:Nat) (w:World) :
  Calls prog 230 #[.pointer (some ⟨b,0,none⟩)] w fun e w'=>e=.returned (.slice (some ⟨w.heap.size,0,none⟩) 8 8)/\ar w' w.heap.size 202 (Eo b)/\Below w.heap.size w w'/\w'.heap.size=w.heap.size+1:=by
 go_enter func230,ntmps230
 go_wp2
 go_region_with (fail)
 go_wp2
 go_ret;exact ⟨rfl,ar.new _ _ _,(aO _ _).drew.alloc (by exact e3 _) _,av⟩
abbrev w3 (x y z:Int):Nat->Array Value
 | 0=>#[.int .i64 0,.int .i64 0,.int .i64 0]
 | 1=>#[.int .i64 x,.int .i64 0,.int .i64 0]
 | 2=>#[.int .i64 x,.int .i64 y,.int .i64 0]
 | _=>#[.int .i64 x,.int .i64 y,.int .i64 z]
theorem HI (x y z:Int):(w3 x y z 3).all (·.oneCell')=true:=by simp [w3,Value.oneCell']
theorem xr:(prog.info? 23).map (·.size)=some 3:=ai
open Go.Lib (compareInt)
theorem ajy (x:Int) (w:World):Calls prog 399 #[.int .u64 x] w fun e w'=>e=.returned (.bool false)/\w=w':=by
 go_enter func399,ntmps399
 go_wp2
 go_ret;exact ⟨av,rfl⟩
theorem Wd (x y:Int) (w:World):Calls prog 359 #[.int .u64 x,.int .u64 y] w fun e w'=>e=.returned (.i (compareInt x y))/\w'=w:=by
 unfold compareInt
 go_enter func359,ntmps359
 go_wp2_with (go_at_call 399;refine (ajy _ _).mono ?_;rintro e w' ⟨rfl,rfl⟩)
 all_goals
  go_ret;exact ⟨rfl,rfl⟩
theorem JW (a:Nat) (h:a<=9223372036854775807) (w:World):Calls prog 305 #[.i a] w fun e w'=>e=.returned (.int .u64 a)/\w'=w:=by
 have aV:IntKind.u64.wrap (a:Int)=(a:Int):=by rw [IntKind.wrap_u64];omega
 by_cases aI:a=0
 ·subst aI
  go_enter func305,ntmps305
  go_wp2
  all_goals go_ret
  all_goals exact ⟨rfl,rfl⟩
 ·have hp:0<a:=by omega
  go_enter func305,ntmps305
  go_wp2
  all_goals go_ret
  all_goals exact ⟨by first|rfl|(rw [aV])|omega,rfl⟩
theorem We (x y:Nat) (hx:x<=9223372036854775807) (hy:y<=9223372036854775807) (w:World) :
  Calls prog 304 #[.int .u64 x,.int .u64 y] w fun e w'=>e=.returned (.tuple #[.int .u64 ((x*y / 18446744073709551616:Nat):Int),.int .u64 ((x*y % 18446744073709551616:Nat):Int)])/\w'=w:=Any.bits_Mul64 lays264 x y af af w
def Gm (x y:Nat):Int:=lf [compareInt ((x / 18446744073709551616:Nat):Int) ((y / 18446744073709551616:Nat):Int),compareInt ((x % 18446744073709551616:Nat):Int) ((y % 18446744073709551616:Nat):Int)]
theorem ajz (x y:Nat):Gm x y<0↔x<y:=by
 have hx:=Nat.div_add_mod x 18446744073709551616;have hy:=Nat.div_add_mod y 18446744073709551616;have PU:=CC x (show 0<18446744073709551616 by decide);have alv:=CC y (show 0<18446744073709551616 by decide);unfold Gm lf lf lf compareInt;generalize x / 18446744073709551616=h at *
 generalize y / 18446744073709551616=i at *
 generalize x % 18446744073709551616=l at *
 generalize y % 18446744073709551616=m at *
 by_cases h1:h<i
 ·simp [h1];omega
 ·by_cases ah:i<h
  ·have aw:¬ ((h:Int)<(i:Int)):=by omega
   have bn:(i:Int)<(h:Int):=af;simp [aw,bn];omega
  ·obtain rfl:h=i:=by omega
   by_cases aw:l<m
   ·simp [aw];omega
   ·by_cases bn:m<l
    ·simp [aw,bn];omega
    ·obtain rfl:l=m:=by omega
     simp;omega
theorem ajA (a b c d:Nat) (ha:a<=9223372036854775807) (hb:b<=9223372036854775807) (hc:c<=9223372036854775807) (hd:d<=9223372036854775807) (w:World) :
  Calls prog 299 #[.i a,.i b,.i c,.i d] w fun e w'=>e=.returned (.i (Gm (a*b) (c*d)))/\Below w.heap.size w w':=by
 have ag:=J (fun W=>We a b ha hb W);have ry:=J (fun W=>We c d hc hd W);have bC:Hid (Gm (a*b) (c*d)=lf [compareInt ((a*b / 18446744073709551616:Nat):Int) ((c*d / 18446744073709551616:Nat):Int),compareInt ((a*b % 18446744073709551616:Nat):Int) ((c*d % 18446744073709551616:Nat):Int)]):=rfl;generalize a*b / 18446744073709551616=h at *
 generalize a*b % 18446744073709551616=l at *
 generalize c*d / 18446744073709551616=i at *
 generalize c*d % 18446744073709551616=m at *
 have bx:=J (fun W=>a7.made W qP [compareInt (h:Int) (i:Int),compareInt (l:Int) (m:Int)] 3 #[.i (compareInt (h:Int) (i:Int)),.i (compareInt (l:Int) (m:Int))] (0,0) rfl);have aA:=J (fun W:World=>(aO W.heap.size W).alloc aF (.cells #[.i (compareInt (h:Int) (i:Int)),.i (compareInt (l:Int) (m:Int))] 3))
 go_enter func299,ntmps299
 go_wp2_with fail;refine (JW a ha _).mono ?_;rintro e w' ⟨rfl,rfl⟩;go_wp2_with fail;refine (JW b hb _).mono ?_;rintro e w' ⟨rfl,rfl⟩;go_wp2_with fail;refine (ag.out _).mono ?_;rintro e w' ⟨rfl,rfl⟩;go_wp2_with fail;refine (JW c hc _).mono ?_;rintro e w' ⟨rfl,rfl⟩;go_wp2_with fail;refine (JW d hd _).mono ?_;rintro e w' ⟨rfl,rfl⟩;go_wp2_with fail;refine (ry.out _).mono ?_;rintro e w' ⟨rfl,rfl⟩;go_wp2_with fail;refine (Wd _ _ _).mono ?_;rintro e w' ⟨rfl,rfl⟩;go_wp2_with fail;refine (Wd _ _ _).mono ?_;rintro e w' ⟨rfl,rfl⟩;generalize compareInt (h:Int) (i:Int)=u at *
 generalize compareInt (l:Int) (m:Int)=v at *
 go_wp2_with fail;refine (GG [u,v] _ 2 _ (bx.out _) av).mono ?_;rintro e w' ⟨rfl,rfl⟩;go_wp2_with fail;go_ret;exact ⟨sZ bC.symm,aA.out _⟩
theorem age (a b c:Nat) (ha:a<=9223372036854775807) (hb:b<=9223372036854775807) (hc:c<=9223372036854775807) (w:World) :
  Calls prog 243 #[.i a,.i b,.i c] w fun e w'=>e=.returned (.bool (decide (a*100<b*c)))/\Below w.heap.size w w':=by
 have aq:=J (ajA a 100 b c ha ak hb hc w);have cT:=J (ajz (a*100) (b*c));generalize Gm (a*100) (b*c)=z at *
 have bq:Hid (decide (z<0)=decide (a*100<b*c)):=by
  show _=_
  by_cases h:z<0
  ·rw [bO h,bO (cT.1 h)]
  ·rw [cX h,cX fun e=>h (cT.2 e)]
 clear cT
 go_enter func243,ntmps243
 go_wp2_with fail;refine aq.mono ?_;rintro e w' ⟨rfl,hb⟩;have aA:=J hb;clear hb;go_wp2_with fail;go_ret;exact ⟨gw bq.out,aA.out⟩

end Go.Proofs.YtmmchlfoplcnbaaGreatDoor
