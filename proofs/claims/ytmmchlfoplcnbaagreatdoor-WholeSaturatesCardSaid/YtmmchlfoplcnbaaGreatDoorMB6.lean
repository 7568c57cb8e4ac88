/- A part of the walk. -/
import Derived.Test.YtmmchlfoplcnbaaGreatDoorMA7
namespace Go.Proofs.YtmmchlfoplcnbaaGreatDoor
open Go Go.RowKit Tryz
set_option linter.all false
set_option maxRecDepth 100000
set_option maxHeartbeats 4000000
abbrev Cp (a b:Int):Int:=bits .xor .u32 a b
abbrev x2 (a b:Int):Int:=bits .and .u32 a b
theorem aiF (n:Int):0<=IntKind.u32.wrap n/\IntKind.u32.wrap n<=4294967295:=by
 simp only [IntKind.wrap,IntKind.bits,IntKind.signed];simp;omega
theorem VR (n:Nat) (h:n<=4294967295):IntKind.u32.wrap n=n:=by
 simp only [IntKind.wrap,IntKind.bits,IntKind.signed];simp;omega
theorem JN (op:BinOp) (a b:Int):0<=bits op .u32 a b/\bits op .u32 a b<=4294967295:=by
 unfold bits;exact aiF _
theorem VS (a:Int):0<=x2 a 15/\x2 a 15<16:=by
 refine ⟨(JN _ _ _).1,?_⟩;have h:(BitVec.ofInt 32 a &&& BitVec.ofInt 32 15).toNat<=15:=by
  rw [BitVec.toNat_and];exact Nat.and_le_right
 have e:x2 a 15=IntKind.u32.wrap ((BitVec.ofInt 32 a &&& BitVec.ofInt 32 15).toNat:Int):=rfl;rw [e,VR _ af];omega
def Ag (w:Int):Int:=if x2 w 1=1 then Cp (w / 2) 3988292384 else w / 2
theorem aiG (w:Int) (aI:0<=w) (h1:w<=4294967295):0<=Ag w/\Ag w<=4294967295:=by
 unfold Ag
 split
 ·exact JN _ _ _
 ·omega
def wS:Nat->Int->Int
 | 0,w=>w
 | k+1,w=>Ag (wS k w)
theorem Ow (w:Int) (aI:0<=w) (h1:w<=4294967295):∀ k,0<=wS k w/\wS k w<=4294967295
 | 0=>⟨aI,h1⟩
 | k+1=>aiG _ (Ow w aI h1 k).1 (Ow w aI h1 k).2
def oA (i:Nat):Int:=wS 4 i
def x3 (w:Int):Int:=Cp (oA (x2 w 15).toNat) (w / 16)
def Cq (w:Int) (c:UInt8):Int:=x3 (x3 (Cp w c.toNat))
theorem aiH (w:Int):0<=x3 w/\x3 w<=4294967295:=JN .xor _ _
theorem VT (w:Int) (c:UInt8):0<=Cq w c/\Cq w c<=4294967295:=aiH _
def u9 (w:Int) (l:List UInt8):Int:=l.foldl Cq w
def Cr (l:List UInt8):Int:=Cp (u9 4294967295 l) 4294967295
theorem Ox (w:Int) (aI:0<=w) (h1:w<=4294967295):∀ l:List UInt8,0<=u9 w l/\u9 w l<=4294967295
 | []=>⟨aI,h1⟩
 | c :: l=>Ox _ (VT w c).1 (VT w c).2 l
theorem aiI (l:List UInt8):0<=Cr l/\Cr l<=4294967295:=JN .xor _ _
def u' (i:Nat):Array Value:=((List.range 16).map fun j=>Value.int .u32 (if j<i then oA j else 0)).toArray
theorem aiJ (i:Nat):(u' i).size=16:=by simp [u']
theorem aiK (i:Nat) (h:i<16):(u' i).setIfInBounds i (.int .u32 (oA i))=u' (i+1):=by
 apply HR.1
 apply GA
 intro j;simp only [u',GV,List.getElem?_set,lJ,List.length_range,qW,h,ll]
 rcases gB j 16 with aD|aD
 ·simp only [List.getElem?_range aD,G8]
  by_cases e:i=j
  ·subst e;simp
  ·rw [bp e]
   by_cases h1:j<i
   ·simp [h1,show j<i+1 from af]
   ·simp [h1,show ¬ j<i+1 from af]
 ·rw [bp af]
  simp [aD]
abbrev lF (f:Nat->Int):Array Value:=#[.int .u32 (f 0),.int .u32 (f 1),.int .u32 (f 2),.int .u32 (f 3),.int .u32 (f 4),.int .u32 (f 5),.int .u32 (f 6),.int .u32 (f 7),.int .u32 (f 8),.int .u32 (f 9),.int .u32 (f 10),.int .u32 (f 11),.int .u32 (f 12),.int .u32 (f 13),.int .u32 (f 14),.int .u32 (f 15)]
theorem aiL:u' 0=lF fun _=>0:=rfl
theorem VU:u' 16=lF oA:=rfl
theorem VV:(prog.info? 474).map (·.size)=some 16:=ai
structure Gj (i:Nat) (w W:World):Prop where
 fg:ar W w.heap.size 474 (lF fun _=>0)
 tab:ar W (w.heap.size+1) 474 (u' i)
 aR:Below w.heap.size w W
theorem Gj.set {i:Nat} {w W:World} (h:Gj i w W) (hi:i<16):Gj (i+1) w (W.setCell ⟨w.heap.size+1,i,none⟩ (.int .u32 (oA i))):=by
 have az:=w6 W (w.heap.size+1) i (.int .u32 (oA i));refine ⟨h.fg.grown az (by intro e;injection e with e;omega),?_,h.aR.grown az h.aR.size dP⟩;have:=h.tab.eW i (.int .u32 (oA i))
 rwa [aiK i hi] at this
theorem aiM (w:World):Calls prog 393 #[] w fun e w'=>e=.returned (.agg (lF oA))/\Below w.heap.size w w':=by
 have ao:Hid (Gj 0 w ((w.alloc (.cells (lF fun _=>0) 474)).alloc (.cells (lF fun _=>0) 474))):=by
  have bV:Below w.heap.size w (w.alloc (.cells (lF fun _=>0) 474)):=(aO _ _).alloc aF _;have bY:Below (w.heap.size+1) (w.alloc (.cells (lF fun _=>0) 474)) ((w.alloc (.cells (lF fun _=>0) 474)).alloc (.cells (lF fun _=>0) 474)):=(aO _ _).alloc av _;refine ⟨(ar.new w 474 _).bw (bY.mono av),?_,bV.trans (bY.mono af)⟩;have:=ar.new (w.alloc (.cells (lF fun _=>0) 474)) 474 (lF fun _=>0);rw [aiL]
  simpa using this
 go_enter func393,ntmps393
 go_wp2_with fail;obtain ⟨wl,sa⟩:=aE ((w.alloc (.cells (lF fun _=>0) 474)).alloc (.cells (lF fun _=>0) 474));rw [sa] at ao ⊢
 clear sa
 go_loopw [5] (fun ii wr=>∃ (i:Nat),i<=16/\ii=.i i/\Gj i w wr) (fun ii _=>16-(intOf ii).toNat)
 case atStart=>exact ⟨0,af,rfl,ao.out⟩
 case round =>
  clear ao;obtain ⟨i,hi,rfl,bd⟩:=hrel;have ao:=J bd;clear bd
  by_cases aT:i<16
  ·have cg:decide ((i:Int)<16)=true:=bO af
   have l0:decide (i<16)=true:=bO aT;have hw:IntKind.u32.wrap (i:Int)=(i:Int):=by simp [IntKind.wrap,IntKind.bits,IntKind.signed];omega
   go_wp2_with fail
   go_loopw [3,10] (fun uv jj wv=>∃ (j:Nat),j<=4/\jj=.i j/\uv=.int .u32 (wS j i)/\wv=wr) (fun _ jj _=>4-(intOf jj).toNat)
   case atStart=>exact ⟨0,af,rfl,rfl,rfl⟩
   case round =>
    obtain ⟨j,aD,rfl,rfl,rfl⟩:=hrel;have sX:=Ow i af af j;obtain ⟨x,hx⟩:=aE (wS j i);have aB:=J hx;rw [hx] at sX ⊢
    obtain ⟨yR,Ah⟩:=sX;clear hx
    by_cases vH:j<4
    ·have dj:decide ((j:Int)<4)=true:=bO af
     have aiN:decide (j<4)=true:=bO vH
     by_cases ho:bits .and .u32 x 1=1
     ·have aiO:(bits .and .u32 x 1==1)=true:=by rw [ho];rfl
      have aiP:decide (bits .and .u32 x 1=1)=true:=bO ho;have bs:Hid (wS (j+1) i=bits .xor .u32 (x / 2) 3988292384):=by
       show Ag (wS j i)=_
       rw [aB.out];unfold Ag;exact bB ho
      clear ho;go_wp2_with fail
      go_roundw
      case rel=>exact ⟨j+1,af,cm,by rw [bs.out],trivial⟩
      case measure=>exact c4
     ·have aiO:(bits .and .u32 x 1==1)=false:=by simpa using ho
      have aiP:decide (bits .and .u32 x 1=1)=false:=cX ho;have bs:Hid (wS (j+1) i=x / 2):=by
       show Ag (wS j i)=_
       rw [aB.out];unfold Ag;exact bp ho
      clear ho;go_wp2_with fail
      go_roundw
      case rel=>exact ⟨j+1,af,cm,by rw [bs.out],trivial⟩
      case measure=>exact c4
    ·obtain rfl:j=4:=by omega
     have dj:decide ((4:Int)<4)=false:=rfl;have aB:Hid (oA i=x):=aB;have I0:=ao.tab.cell i;have k2:(u' i)[i]? = some (.int .u32 0):=by
      have bI:=aiJ i;rw [s4 af];simp [u']
     rw [k2] at I0
     have uA:=ao.tab.frozen i;clear k2;go_wp2_with fail;have jz:=J (ao.set aT);rw [aB.out] at jz
     go_roundw
     case rel=>exact ⟨i+1,af,cm,jz.out⟩
     case measure=>exact c4
  ·obtain rfl:i=16:=by omega
   have cg:decide ((16:Int)<16)=false:=rfl;have JO:=ao.tab;rw [VU] at JO
   have eo:=JO.cell;have cC:=J JO;clear JO
   go_wp2_with (refine ch rfl 474 (.tmp 0) (.tmp 25) rfl w.heap.size 474 (lF fun _=>0) (lF oA) rfl rfl ao.fg rfl VV cc ?_;intro b3 hR bT dm)
   have hl:=hR.cell;exact cS (v:=.agg (lF oA)) (by simp [results,results393,go_sem,hl]) rfl ⟨rfl,ao.aR.grown bT ao.aR.size dP⟩
end Go.Proofs.YtmmchlfoplcnbaaGreatDoor
