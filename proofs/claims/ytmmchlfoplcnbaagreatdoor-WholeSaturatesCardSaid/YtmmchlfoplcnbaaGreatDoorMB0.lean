/- A part of the walk. -/
import Derived.Shelf.SlSortCmp.InsertionK
import Derived.Shelf.SlSortCmp.NoneTotal
import Derived.Shelf.Sort.Plain
import Derived.Shelf.Slices.In.SortNone
import Derived.Shelf.SlicesE.Clone
import Derived.Deep.DeepCutAuto
import Derived.Test.YtmmchlfoplcnbaaGreatDoorMA9
import Derived.Test.YtmmchlfoplcnbaaGreatDoorMA5
namespace Go.Proofs.YtmmchlfoplcnbaaGreatDoor
open Go Go.RowKit Tryz
set_option linter.all false
set_option maxRecDepth 100000
set_option maxHeartbeats 4000000
def gI (x y:aQ):Bool:=if x.prio=y.prio then blt x.id y.id else decide (y.prio<x.prio)
theorem De (x y:aQ):gI x y=true↔y.prio<x.prio\/(x.prio=y.prio/\blt x.id y.id=true):=by
 unfold gI
 split
 ·rename_i h
  constructor
  ·intro ah;exact .inr ⟨h,ah⟩
  ·rintro (ah|⟨_,ah⟩)
   ·omega
   ·exact ah
 ·rw [jZ]
  constructor
  ·intro ah;exact .inl ah
  ·rintro (ah|⟨ah,_⟩)
   ·exact ah
   ·omega
theorem RQ (x:aQ):gI x x=false:=by
 cases h:gI x x
 ·rfl
 ·rw [De,ms] at h
  rcases h with h|⟨_,h⟩
  ·omega
  ·cases h
theorem LK {x y z:aQ} (h1:gI x y=true) (ah:gI y z=true):gI x z=true:=by
 rw [De] at *
 rcases h1 with h1|⟨c6,bX⟩ <;> rcases ah with ah|⟨a2,cY⟩
 ·left;omega
 ·left;omega
 ·left;omega
 ·right;exact ⟨af,jY bX cY⟩
theorem abE {x y:aQ} (h:gI x y=true):gI y x=false:=by
 cases ah:gI y x
 ·rfl
 ·have:=LK h ah;rw [RQ] at this;cases this
theorem RR {x y:aQ} (h1:gI x y=false) (ah:gI y x=false):x.prio=y.prio/\x.id=y.id:=by
 have a:¬ (gI x y=true):=by rw [h1];simp
 have b:¬ (gI y x=true):=by rw [ah];simp
 rw [De] at a b
 have e:x.prio=y.prio:=af;refine ⟨e,r8 ?_ ?_⟩
 ·cases h:blt x.id y.id
  ·rfl
  ·exact absurd (.inr ⟨e,h⟩) a
 ·cases h:blt y.id x.id
  ·rfl
  ·exact absurd (.inr ⟨e.symm,h⟩) b
def A' (x y:aQ):Int:=lf [Lib.compareInt y.prio x.prio,Lib.compareBytes x.id.data.toList y.id.data.toList]
theorem abF (a b:Int):(Lib.compareInt a b<0↔a<b)/\(Lib.compareInt a b=0↔a=b):=by
 unfold Lib.compareInt
 by_cases h:a<b
 ·rw [bB h];omega
 ·rw [bp h]
  by_cases ah:b<a
  ·rw [bB ah];omega
  ·rw [bp ah];omega
theorem HV (x y:aQ):ltOf A' x y=gI x y:=by
 unfold ltOf;rw [w8,jZ,De];obtain ⟨s1,s2⟩:=CD x.id.data.toList y.id.data.toList;have qX:blt x.id y.id=true↔Lib.compareBytes x.id.data.toList y.id.data.toList<0:=by rw [blt_eq,jZ];exact s1.symm
 rw [qX];obtain ⟨c6,a2⟩:=abF y.prio x.prio;unfold A';clear s1 s2 qX;generalize Lib.compareBytes x.id.data.toList y.id.data.toList=z at *
 generalize Lib.compareInt y.prio x.prio=r1 at *
 have e:lf [r1,z]=if r1=0 then (if z=0 then 0 else z) else r1:=rfl
 rw [e]
 by_cases h1:r1=0
 ·rw [bB h1]
  by_cases bn:z=0
  ·rw [bB bn];omega
  ·rw [bp bn];omega
 ·rw [bp h1];omega
theorem abG:Sort.SWO (ltOf A') where
 irrefl x:=by rw [HV];exact RQ x
 trans x y z h1 ah:=by rw [HV] at *;exact LK h1 ah
 ntrans x y z h1 ah:=by
  rw [HV] at *
  cases h:gI x z
  ·rfl
  ·exfalso
   rw [De] at h
   have a:¬ (gI x y=true):=by rw [h1];simp
   have b:¬ (gI y z=true):=by rw [ah];simp
   rw [De] at a b
   rcases h with h|⟨h,hb⟩
   ·omega
   ·have aV:x.prio=y.prio:=by omega
    have bE:y.prio=z.prio:=af
    cases mE:blt x.id y.id
    ·cases vA:blt y.id x.id
     ·have e:=r8 mE vA
      rw [e] at hb
      exact b (.inr ⟨bE,hb⟩)
     ·exact b (.inr ⟨bE,jY vA hb⟩)
    ·exact a (.inr ⟨aV,mE⟩)
instance:Inhabited aQ:=⟨⟨⟨#[]⟩,0,false,0,0,0,0,0,0,⟨#[]⟩,0⟩⟩
theorem abH (x y:aQ) (W:World):Calls prog 234 #[.agg #[.string x.id,.i x.prio,.bool x.bo,.i x.bg,.i x.aX,.i x.ba,.i x.bk,.i x.bl,.i x.aW,.string x.bb,.i x.size],.agg #[.string y.id,.i y.prio,.bool y.bo,.i y.bg,.i y.aX,.i y.ba,.i y.bk,.i y.bl,.i y.aW,.string y.bb,.i y.size]] W fun e w'=>e=.returned (.i (A' x y))/\∃ q AA,w'=Sort.grow (W.drewN q) AA:=by
 have h1:=fun W'=>D9 y.prio x.prio W'
 have ah:=fun W'=>ye x.id y.id W'
 unfold A';generalize Lib.compareInt y.prio x.prio=r1 at *
 generalize Lib.compareBytes x.id.data.toList y.id.data.toList=r2 at *
 have H1:=J h1;have ju:=J ah;clear h1 ah
 go_enter func234,ntmps234
 go_wp2_with fail;refine wp_region_still_tail 10 ai ai ?_;simp only [List.take_succ_cons,List.take_zero,List.drop_succ_cons,List.drop_zero];have hx:=((ar.new W 40 #[.string x.id,.i x.prio,.bool x.bo,.i x.bg,.i x.aX,.i x.ba,.i x.bk,.i x.bl,.i x.aW,.string x.bb,.i x.size]).alloc (.cells #[.string y.id,.i y.prio,.bool y.bo,.i y.bg,.i y.aX,.i y.ba,.i y.bk,.i y.bl,.i y.aW,.string y.bb,.i y.size] 40)).drew;have hy:=(ar.new (W.alloc (.cells #[.string x.id,.i x.prio,.bool x.bo,.i x.bg,.i x.aX,.i x.ba,.i x.bk,.i x.bl,.i x.aW,.string x.bb,.i x.size] 40)) 40 #[.string y.id,.i y.prio,.bool y.bo,.i y.bg,.i y.aX,.i y.ba,.i y.bk,.i y.bl,.i y.aW,.string y.bb,.i y.size]).drew;have bI:(W.alloc (.cells #[.string x.id,.i x.prio,.bool x.bo,.i x.bg,.i x.aX,.i x.ba,.i x.bk,.i x.bl,.i x.aW,.string x.bb,.i x.size] 40)).heap.size=W.heap.size+1:=av;rw [bI] at hy
 have az:((W.alloc (.cells #[.string x.id,.i x.prio,.bool x.bo,.i x.bg,.i x.aX,.i x.ba,.i x.bk,.i x.bl,.i x.aW,.string x.bb,.i x.size] 40)).alloc (.cells #[.string y.id,.i y.prio,.bool y.bo,.i y.bg,.i y.aX,.i y.ba,.i y.bk,.i y.bl,.i y.aW,.string y.bb,.i y.size] 40)).drew=Sort.grow (W.drewN 1) (#[Obj.cells #[.string x.id,.i x.prio,.bool x.bo,.i x.bg,.i x.aX,.i x.ba,.i x.bk,.i x.bl,.i x.aW,.string x.bb,.i x.size] 40]++#[Obj.cells #[.string y.id,.i y.prio,.bool y.bo,.i y.bg,.i y.aX,.i y.ba,.i y.bk,.i y.bl,.i y.aW,.string y.bb,.i y.size] 40]):=by rw [Go.Sort.alloc_eq_grow,Go.Sort.alloc_eq_grow,Go.Sort.grow_grow];rfl
 clear bI;obtain ⟨xn,AV⟩:∃ xn:World,xn=((W.alloc (.cells #[.string x.id,.i x.prio,.bool x.bo,.i x.bg,.i x.aX,.i x.ba,.i x.bk,.i x.bl,.i x.aW,.string x.bb,.i x.size] 40)).alloc (.cells #[.string y.id,.i y.prio,.bool y.bo,.i y.bg,.i y.aX,.i y.ba,.i y.bk,.i y.bl,.i y.aW,.string y.bb,.i y.size] 40)).drew:=⟨_,rfl⟩
 have iz:((W.alloc (.cells #[.string x.id,.i x.prio,.bool x.bo,.i x.bg,.i x.aX,.i x.ba,.i x.bk,.i x.bl,.i x.aW,.string x.bb,.i x.size] 40)).alloc (.cells #[.string y.id,.i y.prio,.bool y.bo,.i y.bg,.i y.aX,.i y.ba,.i y.bk,.i y.bl,.i y.aW,.string y.bb,.i y.size] 40)).drew=xn:=AV.symm;rw [<- AV] at hx hy az
 unfold World.drew at iz
 rw [iz];have iv:=hx.cell;have ZR:=hy.cell;have b4:=J az;clear hx hy az AV iz
 repeat still_step
 still_call (H1.out _)
 repeat still_step
 still_call (ju.out _)
 refine wpStill_nil ?_;have tz:=GG [r1,r2] _ 2 _ (a7.made xn qP [r1,r2] 3 #[.i r1,.i r2] (0,0) rfl) av
 change Calls _ _ #[.slice _ 2 2] _ _ at tz
 have yo:=J tz;clear tz;go_wp2_with fail;refine yo.mono ?_;rintro e w' ⟨rfl,rfl⟩;go_wp2_with fail;go_ret;exact ⟨rfl,1,_,by rw [Go.Sort.alloc_eq_grow,b4.out,Go.Sort.grow_grow]⟩
theorem abI (ab off size:Nat) (w:World):CmpLays prog 234 #[] gv.enc 11 A' ab off size w:=by
 intro m os cg _ x y;have h:=abH x y (sortWorldK gv.enc 11 w ab off m cg os);have e:(#[Value.agg (gv.enc x).toArray,Value.agg (gv.enc y).toArray]++#[]:Array Value)=#[.agg #[.string x.id,.i x.prio,.bool x.bo,.i x.bg,.i x.aX,.i x.ba,.i x.bk,.i x.bl,.i x.aW,.string x.bb,.i x.size],.agg #[.string y.id,.i y.prio,.bool y.bo,.i y.bg,.i y.aX,.i y.ba,.i y.bk,.i y.bl,.i y.aW,.string y.bb,.i y.size]]:=rfl;rw [e];exact h
def abJ (l:List aQ) (A:Option Addr) (c:Nat) (base:Nat) (w:World) (e:Ending) (w':World):Prop :=
 e=.returned (.tuple #[])/\∃ eK:List aQ,eK.Perm l/\(eK.Pairwise fun x y=>gI y x=false)/\Own w' base 40 gv (.slice A eK.length c) eK/\w.grownBy w' (Value.slice A l.length c).ownBlock
theorem aa6 (l:List aQ) (A:Option Addr) (c:Nat) (w:World) (base:Nat) (hown:Own w base 40 gv (.slice A l.length c) l) (hn:l.length<=100000) :
  Calls prog 233 #[.slice A l.length c,.func (.func 234) #[] #[]] w (abJ l A c base w):=by
 by_cases hl:l = []
 ·subst hl
  exact (AnyF.slices_SortFunc_none { sortP with } A c _ w).mono fun e w' ⟨he,hw⟩=>by
   subst hw;exact ⟨he,[],AG _,List.Pairwise.nil,hown,World.grownBy.refl _ _⟩
 ·obtain ⟨g,cap,cur,hv,hb,az,s6,hm,hcs,ht⟩:=Ef hown hl
  injection hv with aV _ cG
  subst aV;subst cG;have yy:∀ args w,(callFunc 234 args).run prog w=.ok (.enter 234 args) w:=enters_of func234 ai rfl
  have iF:=AnyQ.slices_SortFunc sortP 11 isAgg40 sizeOf40 gv.enc gv.len (fun x v hv=>gv.one x v hv) A' abG 234 #[] g 0 c l.toArray w yy (abI g 0 l.toArray.size w) (holds_of az ht) az.lt (by simp;omega);have hs:l.toArray.size=l.length:=pp
  change Calls prog 233 _ _ _ at iF
  rw [hs] at iF
  refine iF.mono fun e w' ⟨he,d',n,os,hp,lK,hw⟩=>?_
  subst hw;rw [<- hs] at hp
  obtain ⟨hd,ke⟩:=KH hp;obtain ⟨ho,fL⟩:=G0 (E:=gv) (n:=n) (os:=os) hb az hd s6 hm hcs;refine ⟨he,d'.toList,ke,?_,ho,fL⟩;rw [<- hd] at lK
  have:=KI lK;exact this.imp fun {x y} h=>by rw [<- HV];exact h
theorem abK (w:World) (g:Nat) (pI:List (List UInt8)):Go.Sort.putRow encStr w g 0 pI.toArray=Go.Sort.putRowK encS.enc 1 w g 0 (pI.map fun b=>(⟨b.toArray⟩:ByteArray)).toArray:=by
 unfold Go.Sort.putRowK Go.Sort.putRow
 congr 1
 funext c
 unfold Go.Sort.putCells;have cH:(Go.Sort.flatK encS.enc 1 (pI.map fun b=>(⟨b.toArray⟩:ByteArray)).toArray).size=pI.length:=by rw [Go.Sort.size_flatK];simp
 apply Array.ext
 ·simp
 ·intro k h1 ah
  simp only [Array.getElem_mapIdx]
  by_cases hk:k<pI.length
  ·rw [bB (by simp;omega),bB (by rw [cH];omega)]
   rw [Nat.sub_zero,Go.Sort.get_flatK _ _ _ _ (by simpa using hk)];simp only [Nat.div_one,Nat.mod_one];rw [yd pI.toArray k (by simpa using hk),yd (pI.map fun b=>(⟨b.toArray⟩:ByteArray)).toArray k (by simpa using hk)];simp [encS]
  ·rw [bp (by simp;omega),bp (by rw [cH];omega)]
abbrev y0:List UInt8->List UInt8->Bool:=fun x y=>decide (x<=y)
theorem abL (a b c:List UInt8) (h1:y0 a b=true) (ah:y0 b c=true):y0 a c=true:=bO (List.le_trans (x9 h1) (x9 ah))
theorem abM (a b:List UInt8):(y0 a b||y0 b a)=true:=by
 by_cases h:a<=b
 ·simp [y0,h]
 ·have ah:b<=a:=Ep.1 fun aw=>h (Ep.1 fun bn=>absurd (List.lt_trans aw bn) (List.lt_irrefl _))
  simp [y0,ah]
def abN (l:List ByteArray) (A:Option Addr) (c:Nat) (base:Nat) (w:World) (e:Ending) (w':World):Prop :=
 e=.returned (.tuple #[])/\∃ eK:List ByteArray,eK.Perm l/\(eK.Pairwise fun x y=>blt y x=false)/\Own w' base 9 encS (.slice A eK.length c) eK/\w.grownBy w' (Value.slice A l.length c).ownBlock
theorem abl (l:List ByteArray) (A:Option Addr) (c:Nat) (w:World) (base:Nat) (hown:Own w base 9 encS (.slice A l.length c) l) (hn:l.length<=100000) :
  Calls prog 179 #[.slice A l.length c] w (abN l A c base w):=by
 by_cases hl:l = []
 ·subst hl
  exact (Any.slices_Sort_string_none lays190 A c w).mono fun e w' ⟨he,hw⟩=>by
   subst hw;exact ⟨he,[],AG _,List.Pairwise.nil,hown,World.grownBy.refl _ _⟩
 ·obtain ⟨g,cap,cur,hv,hb,az,s6,hm,hcs,ht⟩:=Ef hown hl
  injection hv with aV _ cG
  subst aV;subst cG;have hH:Go.Sort.Holds encStr w g 0 (l.map fun s=>s.data.toList).toArray:=by
   intro j aD;have yc:j<l.length:=by simpa using aD
   refine ⟨?_,az.frozen _⟩;rw [fw,az.cell j];have h1:(cur.toList.take (l.length*1))[j]? = (encS.all l)[j*1+0]?:=by rw [ht];simp
   rw [encS.J9 l j 0 yc ak,KS af,Array.getElem?_toList] at h1
   rw [h1,yd _ j aD];simp [encS,encStr]
  have iF:=Any.slices_Sort_string lays190 g 0 c (l.map fun s=>s.data.toList) w hH az.lt (by simp;omega)
  change Calls prog 179 _ _ _ at iF
  rw [lJ] at iF
  refine iF.mono fun e w' ⟨he,n,os,hw⟩=>?_
  rw [abK] at hw
  obtain ⟨S,hS⟩:∃ S,S=(l.map fun s=>s.data.toList).mergeSort fun x y=>decide (x<=y):=⟨_,rfl⟩
  rw [<- hS] at hw
  have HW:S.Perm (l.map fun s=>s.data.toList):=by rw [hS];exact AF _ _
  have lK:S.Pairwise fun x y=>decide (x<=y)=true:=by
   rw [hS];exact HX (le:=y0) abL abM _
  have ke:(S.map fun b=>(⟨b.toArray⟩:ByteArray)).Perm l:=by
   have h:=HW.map fun b=>(⟨b.toArray⟩:ByteArray)
   have e:(l.map fun s=>s.data.toList).map (fun b=>(⟨b.toArray⟩:ByteArray))=l:=by
    rw [List.map_map]
    conv=>rhs;rw [<- List.map_id l]
    apply GY
    intro s _;simp
   rwa [e] at h
  have hlen:(S.map fun b=>(⟨b.toArray⟩:ByteArray)).length=l.length:=ke.length_eq;obtain ⟨ho,fL⟩:=G0 (E:=encS) (n:=n) (os:=os) (d:=(S.map fun b=>(⟨b.toArray⟩:ByteArray)).toArray) hb az (by simpa using hlen) s6 hm hcs;unfold sortWorldK at ho fL
  rw [<- hw] at ho fL
  refine ⟨he,(S.map fun b=>(⟨b.toArray⟩:ByteArray)),ke,?_,by simpa using ho,fL⟩;rw [HY];exact lK.imp fun {x y} h=>by
   rw [blt_eq];exact cX (Ep.2 (by simpa using x9 h))
theorem DY:lH prog 59 40 11 104:=by
 obtain ⟨i,h1,ah,aw,bn⟩:=info_parts (show (prog.info? 40).map (fun i=>(i.zero,i.size,i.bytes))=some (some (.agg #[.string ⟨#[]⟩,.i 0,.bool false,.i 0,.i 0,.i 0,.i 0,.i 0,.i 0,.string ⟨#[]⟩,.i 0]),11,104) by kernel_rfl);exact ⟨underlying59,i,_,h1,ah,aw,bn,rfl⟩
def abO (L:List aQ) (w:World) (e:Ending) (w':World):Prop:=∃ A c,e=.returned (.slice A L.length c)/\Own w' w.heap.size 40 gv (.slice A L.length c) L/\Below w.heap.size w w'
theorem RC (l:List aQ) (A:Option Addr) (c:Nat) (w:World) (hr:a7 w gv A l) (bW:l≠[]) (hn:l.length<=100000) :
  Calls prog 178 #[.slice A l.length c] w (abO l w):=by
 obtain ⟨b,off,rfl,hb,hc⟩:=hr bW;obtain ⟨i,h1,ah,aw,bn⟩:=info_parts (show (prog.info? 40).map (fun i=>(i.zero,i.size,i.bytes))=some (some (.agg #[.string ⟨#[]⟩,.i 0,.bool false,.i 0,.i 0,.i 0,.i 0,.i 0,.i 0,.string ⟨#[]⟩,.i 0]),11,104) by kernel_rfl);have iF:=AnyE.slices_Clone cloneP i _ 11 104 h1 ah aw bn rfl ak sizeOf40 b off l.length c (gv.all l) w (gv.h3 l) (by unfold maxLen;omega) af hc (gv.s3 l)
 change Calls prog 178 _ _ _ at iF
 refine iF.mono fun e w' ⟨v',he,ho,_,du⟩=>?_
 have j6:Own w' w.heap.size 40 gv v' l:=ho;obtain ⟨br,a8,rfl,_⟩:=j6.form;exact ⟨br,a8,he,j6,du⟩
def fV (p:aQ) (l:List aQ):List aQ:=p :: l.filter fun v=>!mB p v
def kx (p:aQ) (l:List aQ):List aQ:=l.filter (mB p)
theorem aaZ (p:aQ) (l:List aQ) (v:aQ):fV p (l++[v])=fV p l++(if mB p v then [] else [v]):=by
 unfold fV;rw [vD,HJ]
 congr 2
 cases h:mB p v <;> simp [h]
theorem aa0 (p:aQ) (l:List aQ) (v:aQ):kx p (l++[v])=kx p l++(if mB p v then [v] else []):=by
 unfold kx;rw [vD]
 congr 1
 cases h:mB p v <;> simp [h]
theorem Rk (p:aQ) (l:List aQ):(fV p l).length<=l.length+1:=by
 unfold fV;rw [cy];have:=tx (fun v=>!mB p v) l;omega
theorem Ll (p:aQ) (l:List aQ):(kx p l).length<=l.length:=tx _ _
theorem a7.Rl {w W:World} {b off:Nat} {l:List aQ} (h:a7 w gv (some ⟨b,off,none⟩) l) (hb:Below w.heap.size w W) {i:Nat} {x:aQ} (hx:l[i]? = some x):W.cell? ⟨b,off+i*11,none⟩=some (.string x.id)/\W.cell? ⟨b,off+i*11+1,none⟩=some (.i x.prio)/\W.cell? ⟨b,off+i*11+2,none⟩=some (.bool x.bo)/\W.cell? ⟨b,off+i*11+3,none⟩=some (.i x.bg)/\W.cell? ⟨b,off+i*11+4,none⟩=some (.i x.aX)/\W.cell? ⟨b,off+i*11+5,none⟩=some (.i x.ba)/\W.cell? ⟨b,off+i*11+6,none⟩=some (.i x.bk)/\W.cell? ⟨b,off+i*11+7,none⟩=some (.i x.bl)/\W.cell? ⟨b,off+i*11+8,none⟩=some (.i x.aW)/\W.cell? ⟨b,off+i*11+9,none⟩=some (.string x.bb)/\W.cell? ⟨b,off+i*11+10,none⟩=some (.i x.size):=by
 obtain ⟨hi,rfl⟩:=jv.1 hx;obtain ⟨b',p2,hA,_,hc⟩:=(h.below hb).at_ hi;injection hA with hA
 injection hA with h1 ah
 subst h1 ah;exact ⟨by have:=hc 0 (.string l[i].id) rfl;simpa using this,hc 1 (.i l[i].prio) rfl,hc 2 (.bool l[i].bo) rfl,hc 3 (.i l[i].bg) rfl,hc 4 (.i l[i].aX) rfl,hc 5 (.i l[i].ba) rfl,hc 6 (.i l[i].bk) rfl,hc 7 (.i l[i].bl) rfl,hc 8 (.i l[i].aW) rfl,hc 9 (.string l[i].bb) rfl,hc 10 (.i l[i].size) rfl⟩
theorem a7.some_ {w:World} {A:Option Addr} {l:List aQ} (h:a7 w gv A l) {i:Nat} (hi:i<l.length):∃ b off,A=some ⟨b,off,none⟩:=by
 obtain ⟨b,off,e,_⟩:=h.at_ hi;exact ⟨b,off,e⟩
def aa1 (p:aQ) (l:List aQ) (w:World) (e:Ending) (w':World):Prop :=
 ∃ (K:List aQ) (bz A2:Option Addr) (c1 c2:Nat),K.Perm (kx p l)/\(K.Pairwise fun x y=>gI y x=false)/\e=.returned (.tuple #[.slice bz (fV p l).length c1,.slice A2 K.length c2]) /\
  Own w' w.heap.size 40 gv (.slice bz (fV p l).length c1) (fV p l)/\Own w' w.heap.size 40 gv (.slice A2 K.length c2) K/\Below w.heap.size w w'
theorem aa2 (p:aQ) (l:List aQ) (A:Option Addr) (c:Nat) (w:World) (hr:a7 w gv A l) (hn:l.length<=50000) :
  Calls prog 177 #[.slice A l.length c,.agg p.cells] w (aa1 p l w):=by
 have bx:=J hr;clear hr;have Lm:=ar.new w 40 p.cells;have gD:Hid (Below w.heap.size w (w.alloc (.cells p.cells 40))):=(aO _ _).alloc aF _;have iP:(w.alloc (.cells p.cells 40)).heap.size=w.heap.size+1:=av;have rP:=Lm.cell;have Da:=J (Own.made (w.alloc (.cells p.cells 40)) (w.alloc (.cells p.cells 40)).heap.size 40 gv [p] #[.string p.id,.i p.prio,.bool p.bo,.i p.bg,.i p.aX,.i p.ba,.i p.bk,.i p.bl,.i p.aW,.string p.bb,.i p.size] rfl aF av);have yY:Hid (Below (w.alloc (.cells p.cells 40)).heap.size (w.alloc (.cells p.cells 40)) ((w.alloc (.cells p.cells 40)).alloc (.cells #[.string p.id,.i p.prio,.bool p.bo,.i p.bg,.i p.aX,.i p.ba,.i p.bk,.i p.bl,.i p.aW,.string p.bb,.i p.size] 40))):=(aO _ _).alloc aF _;rw [iP] at Da
 have Rm:=J Lm;clear Lm
 go_enter func177,ntmps177
 go_wp2_with fail;obtain ⟨gF,HK⟩:∃ gF,gF=w.alloc (.cells #[.string p.id,.i p.prio,.bool p.bo,.i p.bg,.i p.aX,.i p.ba,.i p.bk,.i p.bl,.i p.aW,.string p.bb,.i p.size] 40):=⟨_,rfl⟩
 have hX:Hid (Own (gF.alloc (.cells #[.string p.id,.i p.prio,.bool p.bo,.i p.bg,.i p.aX,.i p.ba,.i p.bk,.i p.bl,.i p.aW,.string p.bb,.i p.size] 40)) gF.heap.size 40 gv (.slice (some ⟨w.heap.size+1,0,none⟩) 1 1) [p]/\Below gF.heap.size gF (gF.alloc (.cells #[.string p.id,.i p.prio,.bool p.bo,.i p.bg,.i p.aX,.i p.ba,.i p.bk,.i p.bl,.i p.aW,.string p.bb,.i p.size] 40))/\ar gF w.heap.size 40 #[.string p.id,.i p.prio,.bool p.bo,.i p.bg,.i p.aX,.i p.ba,.i p.bk,.i p.bl,.i p.aW,.string p.bb,.i p.size]/\Below w.heap.size w gF/\gF.heap.size=w.heap.size+1):=by
  subst HK;exact ⟨by rw [iP];exact Da.out,yY.out,Rm.out,gD.out,iP⟩
 rw [<- HK];clear HK Da yY Rm gD iP rP
 go_loopw [6,7,14] (fun st aa3 ii wr=>∃ (i:Nat) (S K:List aQ) (bz A2:Option Addr) (c1 c2:Nat),i<=l.length/\ii=.i i/\S=fV p (l.take i)/\K=kx p (l.take i)/\st=.slice bz S.length c1/\aa3=.slice A2 K.length c2/\Own wr gF.heap.size 40 gv (.slice bz S.length c1) S/\Own wr gF.heap.size 40 gv (.slice A2 K.length c2) K/\pA (.slice A2 K.length c2) (.slice bz S.length c1)/\Below gF.heap.size gF wr) (fun _ _ ii _=>l.length-(intOf ii).toNat)
 case atStart=>exact ⟨0,[p],[],some ⟨w.heap.size+1,0,none⟩,none,1,0,af,rfl,rfl,rfl,rfl,rfl,hX.1,Own.e8 _ _ _ _,pA.Yw _,hX.2.1⟩
 case round =>
  obtain ⟨i,S,K,bz,A2,c1,c2,hi,rfl,hS,hK,rfl,rfl,q7,bi,Rn,du⟩:=hrel;have G3:S.length<=50001:=by have:=Rk p (l.take i);rw [<- hS,fv] at this;omega
  have aa4:K.length<=50000:=by have:=Ll p (l.take i);rw [<- hK,fv] at this;omega
  have A5:=J (ae hS hK);have ap:=J (ae q7 (ae bi (ae Rn du)));clear hS hK q7 bi Rn du
  by_cases aT:i<l.length
  ·have cg:decide ((i:Int)<(l.length:Int))=true:=bO af
   have lG:(i:Int)<(l.length:Int):=af;obtain ⟨b,off,hA⟩:=bx.some_ aT;obtain rfl:A=some ⟨b,off,none⟩:=hA;have oC:=J (dF aT);have wW:=J (show fV p (l.take (i+1))=S++(if mB p l[i] then [] else [l[i]]) by rw [gS aT,aaZ,<- A5.1]);have yW:=J (show kx p (l.take (i+1))=K++(if mB p l[i] then [l[i]] else []) by rw [gS aT,aa0,<- A5.2]);generalize l[i]=x at *
   have aa5:Hid (Below w.heap.size w wr):=hX.2.2.2.1.trans (ap.2.2.2.mono (by have:=hX.2.2.2.2;omega));obtain ⟨dK,c8,dT,hj,jt,o8,oD,o9,pa,pb,pc⟩:=bx.Rl aa5.out oC.out;have en:=J (ae (ap.1.alloc (.cells #[.string x.id,.i x.prio,.bool x.bo,.i x.bg,.i x.aX,.i x.ba,.i x.bk,.i x.bl,.i x.aW,.string x.bb,.i x.size] 40)) (ae (ap.2.1.alloc (.cells #[.string x.id,.i x.prio,.bool x.bo,.i x.bg,.i x.aX,.i x.ba,.i x.bk,.i x.bl,.i x.aW,.string x.bb,.i x.size] 40)) (ae ap.2.2.1 (ap.2.2.2.alloc ap.2.2.2.size (.cells #[.string x.id,.i x.prio,.bool x.bo,.i x.bg,.i x.aX,.i x.ba,.i x.bk,.i x.bl,.i x.aW,.string x.bb,.i x.size] 40)))));have bG:=J (ar.new wr 40 #[.string x.id,.i x.prio,.bool x.bo,.i x.bg,.i x.aX,.i x.ba,.i x.bk,.i x.bl,.i x.aW,.string x.bb,.i x.size]);have iv:=bG.cell;have Ln:Hid (ar (wr.alloc (.cells #[.string x.id,.i x.prio,.bool x.bo,.i x.bg,.i x.aX,.i x.ba,.i x.bk,.i x.bl,.i x.aW,.string x.bb,.i x.size] 40)) w.heap.size 40 #[.string p.id,.i p.prio,.bool p.bo,.i p.bg,.i p.aX,.i p.ba,.i p.bk,.i p.bl,.i p.aW,.string p.bb,.i p.size]):=hX.2.2.1.below en.2.2.2 (by have:=hX.2.2.2.2;omega);have Ro:=Ln.cell;clear A5 ap
   cases hm:mB p x
   ·have ag:=J hm
    have bs:Hid (fV p (l.take (i+1))=S++[x]/\kx p (l.take (i+1))=K):=⟨by rw [wW.out,hm];rfl,by rw [yW.out,hm];simp⟩
    clear hm wW yW;go_wp2_with fail;refine (Rp ag _).mono ?_;rintro e aM ⟨rfl,hb⟩;have dh:=J (ae (en.1.below hb aF) (ae (en.2.1.below hb aF) (ae en.2.2.1 (en.2.2.2.trans (hb.mono en.2.2.2.size)))));have Lo:=J (bG.bw hb);clear hb iv Ro dK c8 dT hj jt o8 oD o9 pa pb pc en bG Ln;have HL:=Lo.cell
    go_wp2_with (at_builtin;refine PZ DY gv rfl (.tmp 25) (.tmp 27) rfl x #[.string x.id,.i x.prio,.bool x.bo,.i x.bg,.i x.aX,.i x.ba,.i x.bk,.i x.bl,.i x.aW,.string x.bb,.i x.size] rfl gF.heap.size _ S rfl dh.1 rfl rfl dh.2.2.2 af af dh.2.2.2.size ?_;intro b5 fP w3 ho hb az hd;have cD:=J (ae ho (ae ((dh.2.1.alloc _).grown az dh.2.2.1.symm.ne) (ae (dh.2.2.1.symm.next hd fun g az=>by have:=(dh.2.1.iw g az).2;omega).symm hb)));clear ho hb az hd)
    go_roundw
    case rel=>exact ⟨i+1,S++[x],K,b5,A2,fP,c2,af,cm,bs.1.symm,bs.2.symm,av,rfl,wX cD.1,cD.2.1,by rw [cd];exact cD.2.2.1,cD.2.2.2⟩
    case measure=>exact c4
   ·have ag:=J hm
    have bs:Hid (fV p (l.take (i+1))=S/\kx p (l.take (i+1))=K++[x]):=⟨by rw [wW.out,hm];simp,by rw [yW.out,hm];rfl⟩
    clear hm wW yW;go_wp2_with fail;refine (Rp ag _).mono ?_;rintro e aM ⟨rfl,hb⟩;have dh:=J (ae (en.1.below hb aF) (ae (en.2.1.below hb aF) (ae en.2.2.1 (en.2.2.2.trans (hb.mono en.2.2.2.size)))));have Lo:=J (bG.bw hb);clear hb iv Ro dK c8 dT hj jt o8 oD o9 pa pb pc en bG Ln;have HL:=Lo.cell
    go_wp2_with (at_builtin;refine PZ DY gv rfl (.tmp 21) (.tmp 23) rfl x #[.string x.id,.i x.prio,.bool x.bo,.i x.bg,.i x.aX,.i x.ba,.i x.bk,.i x.bl,.i x.aW,.string x.bb,.i x.size] rfl gF.heap.size _ K rfl dh.2.1 rfl rfl dh.2.2.2 af af dh.2.2.2.size ?_;intro b5 fP w3 ho hb az hd;have cD:=J (ae ((dh.1.alloc _).grown az dh.2.2.1.ne) (ae ho (ae (dh.2.2.1.next hd fun g az=>by have:=(dh.1.iw g az).2;omega) hb)));clear ho hb az hd)
    go_roundw
    case rel=>exact ⟨i+1,S,K++[x],bz,b5,c1,fP,af,cm,bs.1.symm,bs.2.symm,rfl,av,cD.1,wX cD.2.1,by rw [cd];exact cD.2.2.1,cD.2.2.2⟩
    case measure=>exact c4
  ·obtain rfl:i=l.length:=by omega
   have cg:decide ((l.length:Int)<(l.length:Int))=false:=av;rw [kn] at A5
   go_wp2_with fail;refine (aa6 K A2 c2 wr gF.heap.size ap.2.1 af).mono ?_;rintro e aM ⟨rfl,oc,ke,tD,xh,tE⟩;have Rq:=ap.2.1.jX ap.2.2.2 tE aF ap.2.2.2.size;have Lp:oc.length=K.length:=ke.length_eq;have bN:=J (ae (ap.1.grown tE ap.2.2.1.ne) (ae xh Rq));have C8:=J (ae ke tD);have r4:w.heap.size<=gF.heap.size:=by have:=hX.2.2.2.2;omega
   clear ke tD xh tE Rq ap;rw [Lp] at bN
   go_wp2_with fail
   go_ret2
   refine ⟨oc,bz,A2,c1,c2,by rw [<- A5.2];exact C8.1,C8.2,by rw [<- A5.1,Lp];rfl,by rw [<- A5.1];exact bN.1.mono r4,by rw [Lp];exact bN.2.1.mono r4,hX.2.2.2.1.trans (bN.2.2.mono r4)⟩
section
variable {P:Program} {ops:Array Oper} {Q:Exit->Act->World->Prop} {S:World->Prop} {md:Region.Mode} {fuel:Nat} {listed:Array Bool} {a:Act} {w:World}
theorem HM (i j xu dj:Nat) {oi oj:Oper} (hi:ops[i]? = some oi) (aD:ops[j]? = some oj) (Lq:oi.dst=some xu) (Lr:oj.dst=some dj) (hr:Region.ready md ops listed = [i,j]) (Ed:Region.wanted oi (yielded ops a.tmps)=true) (Ee:Region.wanted oj (yielded ops a.tmps)=true)
  (h1:∀ K:Act->World->Prop,(∀ v w',S w'->wpAnyH P md ops Q S fuel (listed.setIfInBounds i true) (a.put (some xu) v) w'->K (a.put (some xu) v) w')->Oper.wp P oi a w K Q)
  (ah:∀ K:Act->World->Prop,(∀ v w',S w'->wpAnyH P md ops Q S fuel (listed.setIfInBounds j true) (a.put (some dj) v) w'->K (a.put (some dj) v) w')->Oper.wp P oj a w K Q):wpAnyH P md ops Q S (fuel+1) listed a w :=
 Po i j hi aD hr Ed Ee (by rw [Lq];exact h1) (by rw [Lr];exact ah)
end
theorem ar.aJ {W:World} {n:Nat} {x:aQ} (h:ar W n 40 #[.string x.id,.i x.prio,.bool x.bo,.i x.bg,.i x.aX,.i x.ba,.i x.bk,.i x.bl,.i x.aW,.string x.bb,.i x.size]):W.cell? ⟨n,0,none⟩=some (.string x.id)/\W.cell? ⟨n,1,none⟩=some (.i x.prio)/\W.cell? ⟨n,2,none⟩=some (.bool x.bo)/\W.cell? ⟨n,3,none⟩=some (.i x.bg)/\W.cell? ⟨n,4,none⟩=some (.i x.aX)/\W.cell? ⟨n,5,none⟩=some (.i x.ba)/\W.cell? ⟨n,6,none⟩=some (.i x.bk)/\W.cell? ⟨n,7,none⟩=some (.i x.bl)/\W.cell? ⟨n,8,none⟩=some (.i x.aW)/\W.cell? ⟨n,9,none⟩=some (.string x.bb)/\W.cell? ⟨n,10,none⟩=some (.i x.size):=⟨h.cell 0,h.cell 1,h.cell 2,h.cell 3,h.cell 4,h.cell 5,h.cell 6,h.cell 7,h.cell 8,h.cell 9,h.cell 10⟩
theorem vk {w w0 w':World} (aI:Below w.heap.size w w0) (hb:Below w0.heap.size w0 w'):Below w.heap.size w w':=aI.trans (hb.mono aI.size)
theorem aa7 {w:World} {bX cY:Nat} {aV bE:TypeId} {α β:Type} {s1 s2:Nat} {ft:cu α s1} {fN:cu β s2} {v1 v2:Value} {bl:List α} {aW:List β} (h1:Own w bX aV ft v1 bl) (ah:Own w cY bE fN v2 aW) (he:aV≠bE):v1.ownBlock=none\/v1.ownBlock≠v2.ownBlock:=by
 rcases h1.2 with ⟨rfl,_⟩|⟨g,cap,cur,rfl,_,bQ,_⟩
 ·exact .inl rfl
 ·rcases ah.2 with ⟨rfl,_⟩|⟨g',aa8,aa9,rfl,_,xv,_⟩
  ·right;simp [Value.ownBlock]
  ·right
   intro e;have e:g=g':=by simpa [Value.ownBlock] using e
   subst e;rw [bQ] at xv
   injection xv with xv
   injection xv with _ ht
   exact he ht
def gR (room:cr):List aQ->List aQ->List aQ×List ByteArray
 | st,[]=>(st,[])
 | st,v :: cL=>if gp room (st++[v])=true then gR room (st++[v]) cL else ((gR room st cL).1,v.id :: (gR room st cL).2)
theorem aba (room:cr) (st cL:List aQ):(gR room st cL).2.length<=cL.length:=by
 induction cL generalizing st with
 | nil=>simp [gR]
 | cons v cL b6 =>
  unfold gR
  split
  ·have:=b6 (st++[v]);simp;omega
  ·have:=b6 st;simp;omega
def Rr (room:cr) (p:aQ) (l:List aQ) (w:World) (e:Ending) (w':World):Prop :=
 ∃ (K:List aQ),K.Perm (kx p l)/\(K.Pairwise fun x y=>gI y x=false) /\
  ((gp room (fV p l)=false/\e=.returned (.tuple #[.slice none 0 0,.bool false])/\Below w.heap.size w w') \/
   (gp room (fV p l)=true/\∃ (O:List ByteArray) (A:Option Addr) (c:Nat),O.Perm (gR room (fV p l) K).2/\(O.Pairwise fun x y=>blt y x=false)/\e=.returned (.tuple #[.slice A O.length c,.bool true])/\Own w' w.heap.size 9 encS (.slice A O.length c) O/\Below w.heap.size w w'))
theorem HN {room:cr} {l:List aQ} {v:Bool} (hv:gp room l=v) {A:Option Addr} {c:Nat} {w:World} (hr:a7 w gv A l) (q1:∀ p∈l,p.fe) (hn:l.length<=200000) :
  Calls prog 115 #[.agg #[.i room.a,.i room.b,.i room.c],.slice A l.length c] w fun e w'=>e=.returned (.bool v)/\Below w.heap.size w w':=by subst hv;exact abb room l A c w hr q1 af
structure nE (room:cr) (p:aQ) (w W:World):Prop where
 A6:ar W w.heap.size 23 #[.i room.a,.i room.b,.i room.c]
 mQ:ar W (w.heap.size+1) 40 #[.string p.id,.i p.prio,.bool p.bo,.i p.bg,.i p.aX,.i p.ba,.i p.bk,.i p.bl,.i p.aW,.string p.bb,.i p.size]
 aR:Below w.heap.size w W
theorem nE.below {room:cr} {p:aQ} {w W W':World} (h:nE room p w W) (hb:Below W.heap.size W W'):nE room p w W':=⟨h.A6.bw hb,h.mQ.bw hb,h.aR.trans (hb.mono h.aR.size)⟩
theorem nE.new (room:cr) (p:aQ) (w:World):nE room p w ((w.alloc (.cells #[.i room.a,.i room.b,.i room.c] 23)).alloc (.cells #[.string p.id,.i p.prio,.bool p.bo,.i p.bg,.i p.aX,.i p.ba,.i p.bk,.i p.bl,.i p.aW,.string p.bb,.i p.size] 40)):=by
 have bI:(w.alloc (.cells #[.i room.a,.i room.b,.i room.c] 23)).heap.size=w.heap.size+1:=av;have hb:=ar.new (w.alloc (.cells #[.i room.a,.i room.b,.i room.c] 23)) 40 #[.string p.id,.i p.prio,.bool p.bo,.i p.bg,.i p.aX,.i p.ba,.i p.bk,.i p.bl,.i p.aW,.string p.bb,.i p.size];rw [bI] at hb
 exact ⟨(ar.new w 23 #[.i room.a,.i room.b,.i room.c]).alloc _,hb,((aO _ _).alloc aF _).alloc av _⟩
theorem abc (room:cr) (p:aQ) (l:List aQ) (A:Option Addr) (c:Nat) (w:World) (hr:a7 w gv A l) (hn:l.length<=50000) (q1:∀ x∈l,x.fe) (hp:p.fe) :
  Calls prog 124 #[.agg #[.i room.a,.i room.b,.i room.c],.slice A l.length c,.agg p.cells] w (Rr room p l w):=by
 have mixed:prog.follows Departure.mixedOrders=true:=ai;have ao:=J (nE.new room p w);have qi:=J (hr.below ao.aR);have lc:=J (show ∀ x∈fV p l,x.fe from fun x hx=>by
  unfold fV at hx
  rcases fb.1 hx with rfl|hx
  ·exact hp
  ·exact q1 x (vI.1 hx).1)
 have Ls:=J (show ∀ x∈kx p l,x.fe from fun x hx=>q1 x (vI.1 hx).1);have abd:=ao.mQ.cell;have q8:=Rk p l;have vQ:=Ll p l;clear hr q1 hp
 go_enter func124,ntmps124
 go_wp2_with fail;refine (aa2 p l A c _ qi hn).mono ?_;rintro e aC ⟨K,bz,abe,c1,akn,ke,tD,rfl,q7,bi,hb⟩;have Rs:=ao;have ao:=J (ao.below hb);have HO:=J (ae ke tD);have dl:=J bi.cZ;have EO:=J (q7.mono Rs.aR.size);have aa4:K.length<=50000:=by rw [ke.length_eq];omega
 have Ls:=J (show ∀ x∈K,x.fe from fun x hx=>Ls.out x (HO.1.mem_iff.1 hx));clear hb ke tD q7 bi abd qi Rs;have bW:fV p l≠[]:=by unfold fV;simp
 have b4:Hid (∀ e w',((gp room (fV p l)=false/\e=.returned (.tuple #[.slice none 0 0,.bool false])/\Below w.heap.size w w') \/
   (gp room (fV p l)=true/\∃ (O:List ByteArray) (A:Option Addr) (c:Nat),O.Perm (gR room (fV p l) K).2/\(O.Pairwise fun x y=>blt y x=false)/\e=.returned (.tuple #[.slice A O.length c,.bool true])/\Own w' w.heap.size 9 encS (.slice A O.length c) O/\Below w.heap.size w w'))->Rr room p l w e w'):=fun e w' h=>⟨K,HO.1,HO.2,h⟩
 clear HO;obtain ⟨yZ,Rt⟩:=aE (fV p l);rw [Rt] at EO lc b4 q8 bW ⊢
 clear Rt;have Ru:=J bW;clear bW;have EP:=ao.A6.cell
 cases hf:gp room yZ
 ·have bN:=J hf
  clear hf;go_wp2_with fail;refine (HN bN EO.cZ lc af).mono ?_;rintro e aM ⟨rfl,hb⟩;have ao:=J (ao.below hb);clear hb EP;go_wp2_with fail
  go_ret2
  exact b4.out _ _ (.inl ⟨bN.out,rfl,ao.aR⟩)
 ·have bN:=J hf
  clear hf;go_wp2_with fail;refine (HN bN EO.cZ lc af).mono ?_;rintro e aM ⟨rfl,hb⟩;have jz:=J (ao.below hb);have Rv:=J (dl.below hb);have Rw:=J (EO.below hb aF);clear hb EP ao dl EO;go_wp2_with fail
  go_loopw [8,10,26] (fun st pE ii wr=>∃ (i:Nat) (jT:List aQ) (O:List ByteArray) (bz A2:Option Addr) (c1 c2:Nat),i<=K.length/\ii=.i i/\st=.slice bz jT.length c1/\pE=.slice A2 O.length c2/\(gR room yZ K).2=O++(gR room jT (K.drop i)).2/\jT≠[]/\jT.length<=yZ.length+i/\O.length<=i/\(∀ x∈jT,x.fe)/\Own wr w.heap.size 40 gv (.slice bz jT.length c1) jT/\Own wr aM.heap.size 9 encS (.slice A2 O.length c2) O/\Below aM.heap.size aM wr) (fun _ _ ii _=>K.length-(intOf ii).toNat)
  case atStart=>exact ⟨0,yZ,[],bz,none,c1,0,af,rfl,rfl,rfl,av,Ru.out,af,av,lc.out,Rw.out,Own.e8 _ _ _ _,aO _ _⟩
  case round =>
   clear Rw Ru lc;obtain ⟨i,jT,O,bz,A2,c1,c2,hi,rfl,rfl,rfl,fF,bW,ako,fM,EQ,Rx,Ry,du⟩:=hrel;have Lt:=J fF;have py:=J bW;have lc:=J EQ;have ap:=J (ae Rx (ae Ry du));clear fF bW EQ Rx Ry du
   by_cases aT:i<K.length
   ·have cg:decide ((i:Int)<(K.length:Int))=true:=bO af
    have lG:(i:Int)<(K.length:Int):=af;obtain ⟨b,off,hA⟩:=Rv.some_ aT;obtain rfl:abe=some ⟨b,off,none⟩:=hA;have oC:=J (dF aT);have Rz:Hid (K.drop i=K[i] :: K.drop (i+1)):=Aq aT;have RA:Hid (K[i].fe):=Ls.out _ (iO aT);generalize K[i]=x at *
    obtain ⟨dK,c8,dT,hj,jt,o8,oD,o9,pa,pb,pc⟩:=Rv.Rl ap.2.2 oC.out;have bG:=J (ar.new wr 40 #[.string x.id,.i x.prio,.bool x.bo,.i x.bg,.i x.aX,.i x.ba,.i x.bk,.i x.bl,.i x.aW,.string x.bb,.i x.size]);have eM:=J (ae (ap.1.alloc (.cells #[.string x.id,.i x.prio,.bool x.bo,.i x.bg,.i x.aX,.i x.ba,.i x.bk,.i x.bl,.i x.aW,.string x.bb,.i x.size] 40)) (ae (ap.2.1.alloc (.cells #[.string x.id,.i x.prio,.bool x.bo,.i x.bg,.i x.aX,.i x.ba,.i x.bk,.i x.bl,.i x.aW,.string x.bb,.i x.size] 40)) (ap.2.2.alloc ap.2.2.size (.cells #[.string x.id,.i x.prio,.bool x.bo,.i x.bg,.i x.aX,.i x.ba,.i x.bk,.i x.bl,.i x.aW,.string x.bb,.i x.size] 40))));clear ap;go_wp2_with fail;clear dK c8 dT hj jt o8 oD o9 pa pb pc;generalize wr.heap.size=n at *
    generalize wr.alloc (.cells #[.string x.id,.i x.prio,.bool x.bo,.i x.bg,.i x.aX,.i x.ba,.i x.bk,.i x.bl,.i x.aW,.string x.bb,.i x.size] 40)=jy at *
    have Lu:Hid ((gR room yZ K).2=O++(gR room jT (x :: K.drop (i+1))).2):=by show _=_;rw [<- Rz.out];exact Lt.out
    clear Lt Rz oC;have Db:=J bG.drew;have Lv:=J eM.1.cZ.drew;have RB:Below jy.heap.size jy jy.drew:=(aO _ _).drew;have ER:=J RB;clear RB
    go_cut [13] (fun v W=>∃ hB dG,v=.slice hB (jT++[x]).length dG/\Own W jy.heap.size 40 gv (.slice hB (jT++[x]).length dG) (jT++[x])/\Below jy.heap.size jy W)
    case first =>
     refine wp_region_held_drew (S:=(fun w'=>w'.cell? ⟨n,0,none⟩=some (.string x.id)/\w'.cell? ⟨n,1,none⟩=some (.i x.prio)/\w'.cell? ⟨n,2,none⟩=some (.bool x.bo)/\w'.cell? ⟨n,3,none⟩=some (.i x.bg)/\w'.cell? ⟨n,4,none⟩=some (.i x.aX)/\w'.cell? ⟨n,5,none⟩=some (.i x.ba)/\w'.cell? ⟨n,6,none⟩=some (.i x.bk)/\w'.cell? ⟨n,7,none⟩=some (.i x.bl)/\w'.cell? ⟨n,8,none⟩=some (.i x.aW)/\w'.cell? ⟨n,9,none⟩=some (.string x.bb)/\w'.cell? ⟨n,10,none⟩=some (.i x.size))) ai (bG.drew.aJ) (fun hHeld=>?_);generalize jy.drew=wd at *
     refine aj 0 ?_;refine aj 2 ?_;refine HM 1 3 31 33 rfl rfl rfl rfl ai aH aH (fun K hK=>?_) (fun K hK=>?_)
     ·go_simp
      go_at_call 178
      refine (RC jT bz c1 _ Lv py af).mono ?_;rintro e bc ⟨hQ,c5,rfl,ho,hb⟩;have lq:=J (ae ho hb);have HP:=J (Db.bw hb);clear ho hb;have hHeld:=HP.aJ;refine hK _ _ hHeld ?_;clear hK K;simp only [Act.put,aY,aZ,a1];refine dR 3 33 rfl rfl ai aH (fun K hK=>?_);go_simp;have hHeld:=ar.aJ (HP.alloc (.cells #[.string x.id,.i x.prio,.bool x.bo,.i x.bg,.i x.aX,.i x.ba,.i x.bk,.i x.bl,.i x.aW,.string x.bb,.i x.size] 40));refine hK _ _ hHeld ?_;clear hK K;simp only [Act.put,aY,aZ,a1];refine dR 4 34 rfl rfl ai aH (fun K hK=>?_);refine w7 _ DY gv (.tmp 31) (.tmp 33) rfl wd.heap.size _ jT (by simp [Act.eval]) (lq.1.alloc (.cells #[.string x.id,.i x.prio,.bool x.bo,.i x.bg,.i x.aX,.i x.ba,.i x.bk,.i x.bl,.i x.aW,.string x.bb,.i x.size] 40)) _ [x] 1 (by simp [Act.eval]) (a7.made bc gv [x] 40 #[.string x.id,.i x.prio,.bool x.bo,.i x.bg,.i x.aX,.i x.ba,.i x.bk,.i x.bl,.i x.aW,.string x.bb,.i x.size] (0,0) rfl) (by simp;omega) (by simp;omega) (by have:=lq.2.size;simp;omega) ?_;intro hB dG bm ho az _;have cV:=(lq.1.alloc (.cells #[.string x.id,.i x.prio,.bool x.bo,.i x.bg,.i x.aX,.i x.ba,.i x.bk,.i x.bl,.i x.aW,.string x.bb,.i x.size] 40)).jX (lq.2.alloc lq.2.size (.cells #[.string x.id,.i x.prio,.bool x.bo,.i x.bg,.i x.aX,.i x.ba,.i x.bk,.i x.bl,.i x.aW,.string x.bb,.i x.size] 40)) az aF (by have:=lq.2.size;simp;omega);have j2:=J (ae ho cV);have Lw:=J (Db.bw cV);clear ho az cV;have hHeld:=Lw.aJ;refine hK _ _ hHeld ?_;clear hK K;simp only [Act.put,aY,aZ,a1];refine gN 5 13 (.slice hB (jT.length + [x].length) dG) rfl rfl ai ai ai (fun _ _ _ h=>h) aH (by intro w' _;go_simp;(try (with_reducible rfl))) As ?_;simp only [Act.put,aY,aZ,a1];refine wpAnyH_done ai ?_ _;go_wp2_with fail
      go_meet
      exact ⟨hB,dG,av,by have h:=j2.1.mono ER.size;simpa [cd] using h,vk ER.out j2.2⟩
     ·go_simp
      have hHeld:=ar.aJ (Db.alloc (.cells #[.string x.id,.i x.prio,.bool x.bo,.i x.bg,.i x.aX,.i x.ba,.i x.bk,.i x.bl,.i x.aW,.string x.bb,.i x.size] 40));refine hK _ _ hHeld ?_;clear hK K;simp only [Act.put,aY,aZ,a1];have j5:=J (a7.made wd gv [x] 40 #[.string x.id,.i x.prio,.bool x.bo,.i x.bg,.i x.aX,.i x.ba,.i x.bk,.i x.bl,.i x.aW,.string x.bb,.i x.size] (0,0) rfl);have abf:=J (Db.alloc (.cells #[.string x.id,.i x.prio,.bool x.bo,.i x.bg,.i x.aX,.i x.ba,.i x.bk,.i x.bl,.i x.aW,.string x.bb,.i x.size] 40));have abg:=J (Lv.alloc (.cells #[.string x.id,.i x.prio,.bool x.bo,.i x.bg,.i x.aX,.i x.ba,.i x.bk,.i x.bl,.i x.aW,.string x.bb,.i x.size] 40));have mC:Below wd.heap.size wd (wd.alloc (.cells #[.string x.id,.i x.prio,.bool x.bo,.i x.bg,.i x.aX,.i x.ba,.i x.bk,.i x.bl,.i x.aW,.string x.bb,.i x.size] 40)):=(aO _ _).alloc aF _;have Dc:=J mC;clear mC;refine dR 1 31 rfl rfl ai aH (fun K hK=>?_);go_simp
      go_at_call 178
      refine (RC jT bz c1 _ abg py af).mono ?_;rintro e bc ⟨hQ,c5,rfl,ho,hb⟩;have lq:=J (ae (ho.mono Dc.size) (Dc.trans (hb.mono Dc.size)));have HP:=J (abf.bw hb);have abh:=J (j5.below hb);clear ho hb;have hHeld:=HP.aJ;refine hK _ _ hHeld ?_;clear hK K;simp only [Act.put,aY,aZ,a1];refine dR 4 34 rfl rfl ai aH (fun K hK=>?_);refine w7 _ DY gv (.tmp 31) (.tmp 33) rfl wd.heap.size _ jT (by simp [Act.eval]) lq.1 _ [x] 1 (by simp [Act.eval]) abh.out (by simp;omega) (by simp;omega) lq.2.size ?_;intro hB dG bm ho az _;have cV:=lq.1.jX lq.2 az aF lq.2.size;have j2:=J (ae ho cV);have Lw:=J (Db.bw cV);clear ho az cV;have hHeld:=Lw.aJ;refine hK _ _ hHeld ?_;clear hK K;simp only [Act.put,aY,aZ,a1];refine gN 5 13 (.slice hB (jT.length + [x].length) dG) rfl rfl ai ai ai (fun _ _ _ h=>h) aH (by intro w' _;go_simp;(try (with_reducible rfl))) As ?_;simp only [Act.put,aY,aZ,a1];refine wpAnyH_done ai ?_ _;go_wp2_with fail
      go_meet
      exact ⟨hB,dG,av,by have h:=j2.1.mono ER.size;simpa [cd] using h,vk ER.out j2.2⟩
    case rest =>
     obtain ⟨hB,dG,rfl,RD,mj⟩:=hcut;have A7:=J (eM.2.2.trans (mj.mono eM.2.2.size));have fk:=J (ae RD (ae (eM.1.below mj aF) (eM.2.1.below mj aF)));have bG:=J (bG.bw mj);have kY:Hid (aM.heap.size<=jy.heap.size):=eM.2.2.size;clear RD mj eM Db Lv ER;have vG:=J (show ∀ y∈jT++[x],y.fe from fun y hy=>by
      rcases jl.1 hy with h|h
      ·exact lc.out y h
      ·rw [mD.1 h];exact RA.out)
     have akp:(jT++[x]).length<=jT.length+1:=av;have abi:Hid (gp room (jT++[x])=true->(gR room yZ K).2=O++(gR room (jT++[x]) (K.drop (i+1))).2):=fun h=>by rw [Lu.out,gR,bB h]
     have eR:Hid (gp room (jT++[x])=false->(gR room yZ K).2=(O++[x.id])++(gR room jT (K.drop (i+1))).2):=fun h=>by
      rw [Lu.out,gR,bp (by rw [h];simp)];simp
     have abj:Hid (jT++[x]≠[]):=by show _≠_;simp
     clear Lu RA;generalize jT++[x]=RE at *
     have Lx:=J (jz.below A7);have EP:=Lx.A6.cell
     cases az:gp room RE
     ·have ES:=J az
      clear az;go_wp2_with fail;refine (HN ES fk.1.cZ vG af).mono ?_;rintro e bU ⟨rfl,hb⟩;have HQ:=J (A7.trans (hb.mono A7.size));have A8:=J (ae (fk.2.1.below hb aF) (fk.2.2.below hb aF));have abk:=J (bG.bw hb);clear hb EP A7 fk bG Lx;have iv:=abk.cell
      go_wp2_with (at_builtin;refine Am En encS rfl (.tmp 39) (.tmp 42) rfl x.id #[.string x.id] rfl aM.heap.size _ O rfl A8.2 rfl rfl HQ af af HQ.size ?_;intro b5 fP b3 ho hb bT;have Ly:=J (ae ((A8.1.alloc (.cells #[.string x.id] 9)).grown bT (aa7 (A8.1.alloc (.cells #[.string x.id] 9)) (A8.2.alloc (.cells #[.string x.id] 9)) ak)) (ae ho hb));clear ho hb bT)
      have Lz:=J (eR.out ES)
      go_roundw
      case rel=>exact ⟨i+1,jT,O++[x.id],bz,b5,c1,fP,af,cm,rfl,av,Lz.out,py.out,af,by simp;omega,lc.out,Ly.1,wX Ly.2.1,Ly.2.2⟩
      case measure=>exact c4
     ·have ES:=J az
      clear az;go_wp2_with fail;refine (HN ES fk.1.cZ vG af).mono ?_;rintro e bU ⟨rfl,hb⟩;have HQ:=J (A7.trans (hb.mono A7.size));have A8:=J (ae ((fk.1.below hb aF).mono (gT jz.aR.size kY)) (fk.2.2.below hb aF));clear hb EP A7 fk bG Lx;go_wp2_with fail;have Lz:=J (abi.out ES)
      go_roundw
      case rel=>exact ⟨i+1,RE,O,hB,A2,dG,c2,af,cm,rfl,rfl,Lz.out,abj.out,af,af,vG.out,A8.1,A8.2,HQ.out⟩
      case measure=>exact c4
   ·obtain rfl:i=K.length:=by omega
    have cg:decide ((K.length:Int)<(K.length:Int))=false:=av;have bJ:Hid ((gR room yZ K).2=O):=by show _=_;rw [Lt.out,List.drop_length];simp [gR]
    go_wp2_with fail;refine (abl O A2 c2 wr aM.heap.size ap.2.1 af).mono ?_;rintro e bc ⟨rfl,tU,ke,tD,hown,az⟩;have dI:=ap.2.1.jX ap.2.2 az aF ap.2.2.size;have LA:tU.length=O.length:=ke.length_eq;have ET:=J (ae ke (ae tD (ae hown dI)));clear ke tD hown az dI;rw [LA] at ET
    go_wp2_with fail
    go_ret2
    exact b4.out _ _ (.inr ⟨bN.out,tU,A2,c2,by rw [bJ.out];exact ET.1,ET.2.1,by rw [LA];rfl,by rw [LA];exact ET.2.2.1.mono jz.aR.size,vk jz.aR ET.2.2.2⟩)
theorem RP:∀ {ct dX:List aQ},ct.Perm dX->(∀ x∈dX,∀ y∈dX,x.id=y.id->x=y)->(ct.Pairwise fun x y=>gI y x=false)->(dX.Pairwise fun x y=>gI y x=false)->ct=dX
 | [],dX,hp,_,_,_=>by rw [List.nil_perm.1 hp]
 | x :: ct,[],hp,_,_,_=>by simp at hp
 | x :: ct,y :: dX,hp,hi,h1,ah=>by
  have hx:x∈y :: dX:=hp.subset av;have hy:y∈x :: ct:=hp.symm.subset av;have e:x=y:=by
   rcases fb.1 hx with h|h
   ·exact h
   ·rcases fb.1 hy with cI|cI
    ·exact cI.symm
    ·exact hi x hx y av (RR ((nB.1 ah).1 x h) ((nB.1 h1).1 y cI)).2
  subst e;rw [RP ((List.perm_cons x).1 hp) (fun a ha b hb=>hi a (EI _ ha) b (EI _ hb)) (nB.1 h1).2 (nB.1 ah).2]
theorem abm {a b:ByteArray} (h:(a.toList==b.toList)=true):a=b:=by
 have h:=eq_of_beq h;rw [oG,oG] at h
 exact ByteArray.ext (HR.1 h)
theorem Own.Qp {α:Type} {size:Nat} {E:cu α size} {w:World} {base:Nat} {e:TypeId} {v:Value} {l:List α} (h:Own w base e E v l) {g:Nat} (az:g<base) (i:Nat) (u:Value):Own (w.setCell ⟨g,i,none⟩ u) base e E v l :=
 h.grown (w6 w g i u) (.inr fun e=>by have:=(h.iw g e).1;omega)
theorem nE.alloc {room:cr} {p:aQ} {w W:World} (h:nE room p w W) (o:Obj):nE room p w (W.alloc o):=⟨h.A6.alloc o,h.mQ.alloc o,h.aR.alloc h.aR.size o⟩
theorem nE.drew {room:cr} {p:aQ} {w W:World} (h:nE room p w W):nE room p w W.drew:=⟨h.A6.drew,h.mQ.drew,h.aR.drew⟩
theorem nE.bo {room:cr} {p:aQ} {w W:World} (h:nE room p w W) (b:Bool):nE room { p with bo:=b } w (W.setCell ⟨w.heap.size+1,2,none⟩ (.bool b)) :=
 ⟨h.A6.cF (by show w.heap.size≠w.heap.size+1;omega) _,h.mQ.eW 2 _,h.aR.setCell (by show w.heap.size<=w.heap.size+1;omega) _⟩
theorem nE.prio {room:cr} {p:aQ} {w W:World} (h:nE room p w W) (k:Int):nE room { p with prio:=k } w (W.setCell ⟨w.heap.size+1,1,none⟩ (.i k)) :=
 ⟨h.A6.cF (by show w.heap.size≠w.heap.size+1;omega) _,h.mQ.eW 1 _,h.aR.setCell (by show w.heap.size<=w.heap.size+1;omega) _⟩
structure bj where
 aa:aQ
 phase:Int
abbrev bj.cells (e:bj):Array Value:=#[.string e.aa.id,.i e.aa.prio,.bool e.aa.bo,.i e.aa.bg,.i e.aa.aX,.i e.aa.ba,.i e.aa.bk,.i e.aa.bl,.i e.aa.aW,.string e.aa.bb,.i e.aa.size,.i e.phase]
def cR:cu bj 12:=⟨fun p=>p.cells.toList,fun _=>rfl,fun p u hu=>by simp at hu;rcases hu with h|h|h|h|h|h|h|h|h|h|h|h <;> subst h <;> rfl,ak⟩
theorem a7.jM {w:World} {A:Option Addr} {l:List bj} (h:a7 w cR A l) {i:Nat} (hi:i<l.length):∃ b off,A=some ⟨b,off,none⟩/\b<w.heap.size /\
  w.cell? ⟨b,off+i*12,none⟩=some (.string l[i].aa.id)/\w.cell? ⟨b,off+i*12+1,none⟩=some (.i l[i].aa.prio)/\w.cell? ⟨b,off+i*12+2,none⟩=some (.bool l[i].aa.bo) /\
  w.cell? ⟨b,off+i*12+3,none⟩=some (.i l[i].aa.bg)/\w.cell? ⟨b,off+i*12+4,none⟩=some (.i l[i].aa.aX)/\w.cell? ⟨b,off+i*12+5,none⟩=some (.i l[i].aa.ba) /\
  w.cell? ⟨b,off+i*12+6,none⟩=some (.i l[i].aa.bk)/\w.cell? ⟨b,off+i*12+7,none⟩=some (.i l[i].aa.bl)/\w.cell? ⟨b,off+i*12+8,none⟩=some (.i l[i].aa.aW) /\
  w.cell? ⟨b,off+i*12+9,none⟩=some (.string l[i].aa.bb)/\w.cell? ⟨b,off+i*12+10,none⟩=some (.i l[i].aa.size)/\w.cell? ⟨b,off+i*12+11,none⟩=some (.i l[i].phase):=by
 obtain ⟨b,off,e,hb,hc⟩:=h.at_ hi;exact ⟨b,off,e,hb,by have:=hc 0 (.string l[i].aa.id) rfl;simpa using this,hc 1 (.i l[i].aa.prio) rfl,hc 2 (.bool l[i].aa.bo) rfl,hc 3 (.i l[i].aa.bg) rfl,hc 4 (.i l[i].aa.aX) rfl,hc 5 (.i l[i].aa.ba) rfl,hc 6 (.i l[i].aa.bk) rfl,hc 7 (.i l[i].aa.bl) rfl,hc 8 (.i l[i].aa.aW) rfl,hc 9 (.string l[i].aa.bb) rfl,hc 10 (.i l[i].aa.size) rfl,hc 11 (.i l[i].phase) rfl⟩
theorem a7.wT {w W:World} {b off:Nat} {l:List bj} (h:a7 w cR (some ⟨b,off,none⟩) l) (hb:Below w.heap.size w W) {i:Nat} {x:bj} (hx:l[i]? = some x):W.cell? ⟨b,off+i*12,none⟩=some (.string x.aa.id)/\W.cell? ⟨b,off+i*12+1,none⟩=some (.i x.aa.prio)/\W.cell? ⟨b,off+i*12+2,none⟩=some (.bool x.aa.bo)/\W.cell? ⟨b,off+i*12+3,none⟩=some (.i x.aa.bg)/\W.cell? ⟨b,off+i*12+4,none⟩=some (.i x.aa.aX)/\W.cell? ⟨b,off+i*12+5,none⟩=some (.i x.aa.ba)/\W.cell? ⟨b,off+i*12+6,none⟩=some (.i x.aa.bk)/\W.cell? ⟨b,off+i*12+7,none⟩=some (.i x.aa.bl)/\W.cell? ⟨b,off+i*12+8,none⟩=some (.i x.aa.aW)/\W.cell? ⟨b,off+i*12+9,none⟩=some (.string x.aa.bb)/\W.cell? ⟨b,off+i*12+10,none⟩=some (.i x.aa.size)/\W.cell? ⟨b,off+i*12+11,none⟩=some (.i x.phase):=by
 obtain ⟨hi,rfl⟩:=jv.1 hx;obtain ⟨b',p2,hA,_,hc⟩:=(h.below hb).jM hi;injection hA with hA
 injection hA with h1 ah
 subst h1 ah;exact hc
end Go.Proofs.YtmmchlfoplcnbaaGreatDoor
