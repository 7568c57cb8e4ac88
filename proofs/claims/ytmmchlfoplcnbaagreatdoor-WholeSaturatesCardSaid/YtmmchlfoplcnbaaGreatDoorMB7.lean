/- A part of the walk. -/
import Derived.Laws.MakeOwn
import Derived.Test.YtmmchlfoplcnbaaGreatDoorMB6
import Derived.Test.YtmmchlfoplcnbaaGreatDoorMB5
namespace Go.Proofs.YtmmchlfoplcnbaaGreatDoor
open Go Go.RowKit Tryz
set_option linter.all false
set_option maxRecDepth 100000
set_option maxHeartbeats 4000000
theorem aiQ (b:UInt8):IntKind.u32.wrap (b.toNat:Int)=(b.toNat:Int):=VR b.toNat (by have:=b.toNat_lt;omega)
structure aiR (l:List UInt8) (b g:Nat) (A:Option Addr) (c:Nat) (w W:World):Prop where
 tab:ar W g 474 (lF oA)
 one:W.cell? ⟨b,0,none⟩=some (.slice A l.length c)
 kp:a7 W cO A l
 aR:Below w.heap.size w W
theorem VW (k:Nat) (h:k<16):(lF oA)[k]? = some (.int .u32 (oA k)):=by
 rw [<- VU];simp [u',h]
theorem aiS (l:List UInt8) (b:Nat) (A:Option Addr) (c:Nat) (w:World) (ho:w.cell? ⟨b,0,none⟩=some (.slice A l.length c)) (hr:a7 w cO A l) (hn:l.length<=100000000) :
  Calls prog 343 #[.slice (some ⟨b,0,none⟩) 1 1] w fun e w'=>e=.returned (.int .u32 (Cr l))/\Below w.heap.size w w':=by
 have bJ:=J ho;have bx:=J hr;have cC:=J fun W=>aiM W
 have du:b<w.heap.size:=Dy ho;clear ho hr
 go_enter func343,ntmps343
 go_wp2_with fail;refine (cC.out _).mono ?_;rintro e aC ⟨rfl,bV⟩;have df:=J bV;clear bV;have bs:=J (ar.new aC 474 (lF fun _=>0))
 go_wp2_with (refine ch rfl 474 (.tmp 3) (.tmp 9) rfl aC.heap.size 474 (lF fun _=>0) (lF oA) rfl rfl bs.out rfl VV cc ?_;intro b3 hR bT dm)
 have ao:Hid (aiR l b aC.heap.size A c w b3):=by
  have eZ:Below w.heap.size w b3:=(df.alloc df.size (.cells (lF fun _=>0) 474)).grown bT (by have:=df.size;simp;omega) (by intro k hk;cases hk;have:=df.size;omega);exact ⟨hR,((eZ.cell (p:=⟨b,0,none⟩) du)).trans bJ.out,bx.below eZ,eZ⟩
 generalize aC.heap.size=g at *
 clear hR bT dm bs df bJ bx cC;have bt:=ao.one;go_wp2_with fail
 go_loopw [4,12] (fun uv ii wr=>(ii=.i 0/\uv=.int .u32 4294967295/\wr=b3)\/(ii=.i 1/\uv=.int .u32 (u9 4294967295 l)/\wr=b3)) (fun _ ii _=>1-(intOf ii).toNat)
 case atStart=>exact .inl ⟨rfl,rfl,rfl⟩
 case round =>
  rcases hrel with ⟨rfl,rfl,rfl⟩|⟨rfl,rfl,rfl⟩
  ·go_wp2_with fail
   go_loopw [4,18] (fun uv jj wv=>∃ (j:Nat),j<=l.length/\jj=.i j/\uv=.int .u32 (u9 4294967295 (l.take j))/\wv=wr) (fun _ jj _=>l.length-(intOf jj).toNat)
   case atStart=>exact ⟨0,af,rfl,rfl,rfl⟩
   case round =>
    obtain ⟨j,aD,rfl,rfl,rfl⟩:=hrel;have sX:=Ox 4294967295 ak ak (l.take j);obtain ⟨x,hx⟩:=aE (u9 4294967295 (l.take j));have aB:=J hx;rw [hx] at sX ⊢
    obtain ⟨yR,Ah⟩:=sX;clear hx
    by_cases vH:j<l.length
    ·have dj:decide ((j:Int)<(l.length:Int))=true:=bO af
     have aiN:decide (j<l.length)=true:=bO vH;have nt:(j:Int)<(l.length:Int):=af;obtain ⟨ga,off,hA,_⟩:=ao.kp (by intro e;subst e;simp at vH);subst hA;have hq:=(ao.kp.at_ vH)
     obtain ⟨alr,p2,e,_,hc⟩:=hq;injection e with e
     injection e with aV bE
     subst aV;subst bE;have hq:=hc 0 (.int .u8 (l[j].toNat)) rfl;clear hc;simp only [nW,vw] at hq
     have aP:Hid (u9 4294967295 (l.take (j+1))=Cq x l[j]):=by
      show _=_
      rw [gS vH]
      show List.foldl Cq _ _=_
      rw [vL]
      show Cq (u9 4294967295 (l.take j)) l[j]=_
      rw [aB.out]
     have hcv:=aiQ l[j];have jI:=l[j].toNat_lt;generalize l[j]=JP at *
     obtain ⟨c8,aiT⟩:=aE (bits .xor .u32 x (JP.toNat:Int));obtain ⟨c6,uq⟩:∃ y:Nat,bits .and .u32 c8 15=(y:Int)/\y<16:=⟨(bits .and .u32 c8 15).toNat,by have:=VS c8;unfold x2 at this;omega⟩
     obtain ⟨uq,aiU⟩:=uq;have t1:=ao.tab.cell c6;rw [VW c6 aiU] at t1
     obtain ⟨dT,aiV⟩:=aE (bits .xor .u32 (oA c6) (c8 / 16));obtain ⟨a2,qd⟩:∃ y:Nat,bits .and .u32 dT 15=(y:Int)/\y<16:=⟨(bits .and .u32 dT 15).toNat,by have:=VS dT;unfold x2 at this;omega⟩
     obtain ⟨qd,aiW⟩:=qd;have t2:=ao.tab.cell a2;rw [VW a2 aiW] at t2
     obtain ⟨hj,aiX⟩:=aE (bits .xor .u32 (oA a2) (dT / 16));have bN:Hid (Cq x JP=hj):=by
      show x3 (x3 (Cp x JP.toNat))=hj
      have aV:Cp x JP.toNat=c8:=aiT;rw [aV];have bE:x3 c8=dT:=by unfold x3;rw [show x2 c8 15=(c6:Int) from uq];exact aiV
      rw [bE];unfold x3;rw [show x2 dT 15=(a2:Int) from qd];exact aiX
     have RI:(c6:Int)<16:=af;have i2:(a2:Int)<16:=af;go_wp2_with fail
     go_roundw
     case rel=>exact ⟨j+1,af,cm,by rw [aP.out,bN.out],trivial⟩
     case measure=>exact c4
    ·obtain rfl:j=l.length:=by omega
     have dj:decide ((l.length:Int)<(l.length:Int))=false:=av;have aB:Hid (u9 4294967295 l=x):=by
      have:=aB.out
      rwa [kn] at this
     go_wp2_with fail
     go_roundw
     case rel=>exact .inr ⟨cm,by rw [aB.out],trivial⟩
     case measure=>exact ef
  ·have sX:=Ox 4294967295 ak ak l
   obtain ⟨x,hx⟩:=aE (u9 4294967295 l);have bN:Hid (Cr l=bits .xor .u32 x 4294967295):=by
    show Cp (u9 4294967295 l) 4294967295=_
    rw [hx]
   rw [hx] at sX ⊢
   obtain ⟨yR,Ah⟩:=sX;clear hx;go_wp2_with fail;go_ret;exact ⟨by rw [bN.out];rfl,ao.aR⟩
def byteOf (x:Int):UInt8:=UInt8.ofNat (x % 256).toNat
theorem aiY (x:Int):((byteOf x).toNat:Int)=x % 256:=by
 unfold byteOf;have h1:0<=x % 256:=Int.emod_nonneg _ ak;have ah:x % 256<256:=Int.emod_lt_of_pos _ ak;rw [tF];omega
def four (x:Int):List UInt8:=[byteOf x,byteOf (x / 256),byteOf (x / 65536),byteOf (x / 16777216)]
theorem TI (x:Int) (aI:0<=x) (h1:x<=4294967295):cO.all (four x) = [.int .u8 (x % 256),.int .u8 (x / 256 % 256),.int .u8 (x / 65536 % 256),.int .u8 (x / 16777216)]:=by
 rw [s7];simp only [four,ny,rT,aiY];rw [show x / 16777216 % 256=x / 16777216 from af]
def BD (l:List UInt8):List UInt8:=l++four (Cr l)
theorem aiZ (l:List UInt8) (A:Option Addr) (c:Nat) (w:World) (hr:a7 w cO A l) (hn:l.length<=100000000) :
  Calls prog 278 #[.slice A l.length c] w fun e w'=>e=.returned (.int .u32 (Cr l))/\Below w.heap.size w w':=by
 have ff:Below w.heap.size w (w.alloc (.cells #[.slice A l.length c] 87)):=(aO _ _).alloc aF _;have H:=J (aiS l w.heap.size A c (w.alloc (.cells #[.slice A l.length c] 87)) ((ar.new w 87 #[.slice A l.length c]).cell 0) (hr.below ff) hn);have aA:=J ff;clear hr ff
 go_enter func278,ntmps278
 go_wp2_with fail;refine H.mono ?_;rintro e aM ⟨rfl,hb⟩;have aA:=J (aA.trans (hb.mono aA.size));clear hb;go_wp2_with fail;go_ret;exact ⟨rfl,aA.out⟩
theorem aeR (l:List UInt8) (A:Option Addr) (c:Nat) (w:World) (hr:a7 w cO A l) (hA:Plain A) (hn:l.length<=100000000) :
  Calls prog 227 #[.slice A l.length c] w (Fb cO 5 (BD l) w):=by
 have bJ:=J (aiZ l A c w hr hn);have bx:=J hr;have aq:=J fun W h=>Dn l A c W h hA af
 obtain ⟨yR,Ah⟩:=aiI l;obtain ⟨x,hx⟩:=aE (Cr l);have aB:=J hx;rw [hx] at yR Ah bJ
 clear hr hA hx
 go_enter func227,ntmps227
 go_wp2_with fail;refine bJ.mono ?_;rintro e aC ⟨rfl,bV⟩;have df:=J bV;clear bV;go_wp2_with fail;refine (aq.out _ (bx.below df)).mono ?_;rintro e aM ⟨A2,c2,rfl,e9,bY⟩;have cA:=J (df.trans (bY.mono df.size));have FH:=J (e9.mono df.size);clear e9 bY;have j5:=J (a7.made aM cO (four x) 5 #[.int .u8 (x % 256),.int .u8 (x / 256 % 256),.int .u8 (x / 65536 % 256),.int .u8 (x / 16777216)] (0,0) (by rw [TI x yR Ah]))
 go_wp2_with (at_builtin;refine hW tG cO rfl (.tmp 7) (.tmp 19) rfl w.heap.size _ l rfl (FH.alloc _) (some ⟨aM.heap.size,0,none⟩) (four x) 4 rfl j5 (by simp [four];omega) (by simp [four];omega) (by have:=cA.size;simp;omega) ?_;intro br a8 w3 ee er _)
 have cT:Hid (l++four x=BD l):=by show _=_;rw [BD,aB.out]
 have bu:=FH.alloc (.cells #[.int .u8 (x % 256),.int .u8 (x / 256 % 256),.int .u8 (x / 65536 % 256),.int .u8 (x / 16777216)] 5);have e0:=J (bu.jX (cA.alloc cA.size _) er aF (by have:=cA.size;simp;omega));have kV:=J ee;clear bu ee er;go_wp2_with fail;go_ret;have e:l.length+(four x).length=(BD l).length:=by rw [<- cT.out,cd]
 exact ⟨br,a8,by rw [<- e];rfl,by rw [<- e];have:=kV.out;rw [cT.out] at this;exact this,e0.out⟩
structure dw (S:Nat->Prop) (w:World):Prop where
 gJ:∀ k,w.heap.size<=k->S k
 kF:∀ k,k<11->¬ S k
theorem dw.size {S:Nat->Prop} {w w':World} (h:dw S w) (hs:w.heap.size<=w'.heap.size):dw S w':=⟨fun k hk=>h.gJ k (gT hs hk),h.kF⟩
def bh (S:Nat->Prop) (ts:List TypeId) (w w':World):Prop:=cB (fun j=>S j/\nL ts w j) w w'
section
variable {S:Nat->Prop} {ts sI:List TypeId} {w w' sU:World}
theorem nL.mono {j:Nat} (h:nL ts w j) (hs:ts ⊆ sI):nL sI w j:=by
 rcases h with h|⟨cs,t,fr,h1,ah⟩
 ·exact .inl ⟨hs h.1,h.2⟩
 ·exact .inr ⟨cs,t,fr,h1,hs ah⟩
theorem nL.same {j:Nat} (h:nL ts w' j) (he:w'.heap[j]? = w.heap[j]?):nL ts w j:=by
 unfold nL at h ⊢
 rwa [he] at h
theorem bh.refl (S:Nat->Prop) (ts:List TypeId) (w:World):bh S ts w w:=cB.refl _ _
theorem bh.size (h:bh S ts w w'):w.heap.size<=w'.heap.size:=cB.size h
theorem bh.trans (h:bh S ts w w') (cI:bh S ts w' sU):bh S ts w sU:=cB.trans h cI fun k hk hx=>by
 refine ⟨hx.1,?_⟩
 by_cases hf:S k/\nL ts w k
 ·exact hf.2
 ·exact hx.2.same (h.block k hk hf)
theorem bh.mono (h:bh S ts w w') (hs:ts ⊆ sI):bh S sI w w':=cB.mono h fun _ hk=>⟨hk.1,hk.2.mono hs⟩
theorem bh.dL (S:Nat->Prop) (ts:List TypeId) (hb:Below w.heap.size w w'):bh S ts w w':=cB.dL _ hb
theorem bh.below (h:bh S ts w w') (hb:Below w'.heap.size w' sU):bh S ts w sU:=cB.Du h hb
theorem bh.adg {F:Nat->Prop} (h:cB F w w') (hF:∀ k,F k->S k/\nL ts w k):bh S ts w w':=cB.mono h hF
theorem bh.set {g i:Nat} {t:TypeId} {cs:Array Value} (hS:S g) (az:ar w g t cs) (ht:t∈ts) (u:Value):bh S ts w (w.setCell ⟨g,i,none⟩ u):=cB.setCell _ _ _ _ _ ⟨hS,.inr ⟨cs,t,_,az,ht⟩⟩
theorem bh.grown {row:Option Nat} (az:w.grownBy w' row) (hF:∀ k,row=some k->k<w.heap.size->S k/\nL ts w k):bh S ts w w':=cB.Bj az hF
end
structure b7 {α:Type} {size:Nat} (w:World) (S:Nat->Prop) (e:TypeId) (E:cu α size) (v:Value) (l:List α):Prop where
 own:Own w 0 e E v l
 ins:∀ k,v.ownBlock=some k->S k
structure cW (w:World) (S:Nat->Prop) (g:Nat) (t:TypeId) (cs:Array Value):Prop where
 ab:ar w g t cs
 ins:S g
section
variable {α:Type} {size:Nat} {E:cu α size} {S cn:Nat->Prop} {ts:List TypeId} {w w':World} {e:TypeId} {v:Value} {l:List α}
theorem b7.e8 (w:World) (S:Nat->Prop) (e:TypeId) (E:cu α size):b7 w S e E (.slice none 0 0) ([]:List α):=⟨Own.e8 _ _ _ _,fun k hk=>by simp [Value.ownBlock] at hk⟩
theorem b7.a6 (h:b7 w S e E v l) (hc:bh cn ts w w') (he:e∉ts):b7 w' S e E v l:=⟨h.own.only hc fun k hk hx=>h.own.wx he k hk hx.2,h.ins⟩
theorem b7.iG (h:b7 w S e E v l) (hc:bh cn ts w w') (hd:∀ k,S k->¬ cn k):b7 w' S e E v l:=⟨h.own.only hc fun k hk hx=>hd k (h.ins k hk) hx.1,h.ins⟩
theorem b7.below (h:b7 w S e E v l) (hb:Below w.heap.size w w'):b7 w' S e E v l:=⟨h.own.below hb aF,h.ins⟩
theorem b7.jU {base:Nat} (hs:dw S w) (h:Own w' base e E v l) (hb:w.heap.size<=base):b7 w' S e E v l:=⟨h.mono af,fun k hk=>hs.gJ k (gT hb (h.iw k hk).1)⟩
theorem b7.mono (h:b7 w S e E v l) (hS:∀ k,k<w.heap.size->S k->cn k):b7 w cn e E v l:=⟨h.own,fun k hk=>hS k (h.own.iw k hk).2 (h.ins k hk)⟩
theorem b7.kind (h:b7 w S e E v l) (he:e∈ts):∀ k,v.ownBlock=some k->S k/\nL ts w k:=fun k hk=>⟨h.ins k hk,h.own.kind he k hk⟩
theorem b7.cZ {A:Option Addr} {n c:Nat} (h:b7 w S e E (.slice A n c) l):a7 w E A l:=h.own.cZ
theorem cW.a6 {g:Nat} {t:TypeId} {cs:Array Value} (h:cW w S g t cs) (hc:bh cn ts w w') (he:t∉ts):cW w' S g t cs:=⟨h.ab.only hc fun hx=>by
 rcases hx.2 with ⟨_,es,c,h1⟩|⟨xG,t',fr,h1,ah⟩
 ·exact h.ab.pM h1 rfl
 ·have aw:=h.ab
  unfold ar at aw
  rw [aw] at h1
  injection h1 with h1
  injection h1 with _ h1
  exact he (h1 ▸ ah),h.ins⟩
theorem cW.iG {g:Nat} {t:TypeId} {cs:Array Value} (h:cW w S g t cs) (hc:bh cn ts w w') (hd:∀ k,S k->¬ cn k):cW w' S g t cs:=⟨h.ab.only hc fun hx=>hd g h.ins hx.1,h.ins⟩
theorem cW.below {g:Nat} {t:TypeId} {cs:Array Value} (h:cW w S g t cs) (hb:Below w.heap.size w w'):cW w' S g t cs:=⟨h.ab.bw hb,h.ins⟩
theorem cW.mono {g:Nat} {t:TypeId} {cs:Array Value} (h:cW w S g t cs) (hS:∀ k,k<w.heap.size->S k->cn k):cW w cn g t cs:=⟨h.ab,hS g (w5.1 h.ab).1 h.ins⟩
theorem cW.set {g:Nat} {t:TypeId} {cs:Array Value} (h:cW w S g t cs) (i:Nat) (u:Value):cW (w.setCell ⟨g,i,none⟩ u) S g t (cs.setIfInBounds i u):=⟨h.ab.eW i u,h.ins⟩
end
theorem iH.a6 {S:Nat->Prop} {ts:List TypeId} {w w':World} (h:iH w) (hs:∀ k,k<11->¬ S k) (hc:bh S ts w w'):iH w':=by
 obtain ⟨m,hm⟩:=h.mx;have aI:0<w.heap.size:=Dy hm;refine ⟨⟨m,(cB.cell hc (b:=0) aI (fun hx=>hs _ ak hx.1)).trans hm⟩,?_⟩;have ht:=h.tab;have az:prog.globalNamed "internal/strconv.uint64pow10" = some 8:=ai;unfold Lib.TabIs World.var? at ht ⊢
 rw [az] at ht ⊢
 simp only [Option.bind_some] at ht ⊢
 have aT:8<w.heap.size:=by
  rcases gB 8 w.heap.size with cI|cI
  ·exact cI
  ·rw [vr cI] at ht;cases ht
 rw [cB.block hc 8 aT (fun hx=>hs _ ak hx.1)];exact ht
section
open Go.MapKept
abbrev di:=ByteArray->Option (List UInt8)
def di.put (fs:di) (s:ByteArray) (v:Option (List UInt8)):di:=fun t=>if t=s then v else fs t
structure kC (S:Nat->Prop) (w:World) (es:Array MapEntry) (fs:di):Prop where
 keys:uJ es
 lT:(es.toList.map (·.key)).Nodup
 val:∀ e∈es.toList,∃ s l A c,e.key=.string s/\e.val=.slice A l.length c/\fs s=some l/\l.length<=3000000/\b7 w S 5 cO (.slice A l.length c) l
 has:∀ s l,fs s=some l->∃ e∈es.toList,e.key=.string s
structure hV (S:Nat->Prop) (w:World) (aN:Nat) (fs:di):Prop where
 ex:∃ es clock,w.heap[aN]? = some (.map es clock)/\kC S w es fs
 ins:S aN
section
variable {S cn:Nat->Prop} {ts:List TypeId} {w w':World} {es:Array MapEntry} {fs:di}
theorem kC.k1 (h:kC S w es fs) (hk:∀ A c (l:List UInt8),b7 w S 5 cO (.slice A l.length c) l->b7 w' cn 5 cO (.slice A l.length c) l):kC cn w' es fs :=
 ⟨h.keys,h.lT,fun e he=>by
  obtain ⟨s,l,A,c,h1,ah,aw,bn,dk⟩:=h.val e he;exact ⟨s,l,A,c,h1,ah,aw,bn,hk A c l dk⟩,h.has⟩
theorem kC.a6 (h:kC S w es fs) (hc:bh cn ts w w') (he:5∉ts):kC S w' es fs:=h.k1 fun _ _ _ ho=>ho.a6 hc he
theorem kC.below (h:kC S w es fs) (hb:Below w.heap.size w w'):kC S w' es fs:=h.k1 fun _ _ _ ho=>ho.below hb
theorem hV.below {aN:Nat} (h:hV S w aN fs) (hb:Below w.heap.size w w'):hV S w' aN fs:=by
 obtain ⟨es,clock,h1,ah⟩:=h.ex;exact ⟨⟨es,clock,(hb.block aN (M3 h1)).trans h1,ah.below hb⟩,h.ins⟩
theorem kC.e8 (S:Nat->Prop) (w:World):kC S w #[] (fun _=>none):=⟨fun e he=>by simp at he,av,fun e he=>by simp at he,fun s l h=>by cases h⟩
theorem kC.at_ (h:kC S w es fs) {s:ByteArray} {l:List UInt8} (hs:fs s=some l):∃ e∈es.toList,e.key=.string s/\l.length<=3000000/\∃ A c,e.val=.slice A l.length c/\b7 w S 5 cO (.slice A l.length c) l:=by
 obtain ⟨e,he,hk⟩:=h.has s l hs;obtain ⟨s',eK,A,c,h1,ah,aw,bn,dk⟩:=h.val e he;rw [hk] at h1
 injection h1 with h1
 subst h1;rw [hs] at aw
 injection aw with aw
 subst aw;exact ⟨e,he,hk,bn,A,c,ah,dk⟩
theorem kC.Dm (h:kC S w es fs) {s:ByteArray} (hs:fs s=none):∀ x∈es.toList,x.key≠.string s:=fun x hx hk=>by
 obtain ⟨s',eK,A,c,h1,ah,aw,_⟩:=h.val x hx;rw [hk] at h1
 injection h1 with h1
 subst h1;rw [hs] at aw;cases aw
theorem mem_modify {es:Array MapEntry} {j:Nat} {x:MapEntry} (hx:es.toList[j]? = some x) (f:MapEntry->MapEntry):∀ e,e∈(es.modify j f).toList↔e=f x\/∃ i,i≠j/\es.toList[i]? = some e:=by
 intro e;obtain ⟨aD,Ty⟩:=jv.1 hx;rw [Array.toList_modify]
 constructor
 ·intro h
  obtain ⟨i,hi,rfl⟩:=FB.1 h;rw [List.getElem_modify]
  by_cases gO:j=i
  ·subst gO;left;simp [Ty]
  ·right;exact ⟨i,fun e=>gO e.symm,by simp at hi;simp [gO,hi]⟩
 ·rintro (rfl|⟨i,hi,h⟩)
  ·have:(List.modify es.toList j f)[j]? = some (f x):=by simp [hx]
   exact qB this
  ·have:(List.modify es.toList j f)[i]? = some e:=by simp [h,show ¬ j=i from fun e=>hi e.symm]
   exact qB this
theorem Tz {es:Array MapEntry} (ph:(es.toList.map (·.key)).Nodup) {i j:Nat} {x y:MapEntry} (hx:es.toList[i]? = some x) (hy:es.toList[j]? = some y) (hk:x.key=y.key):i=j:=by
 obtain ⟨hi,EN⟩:=jv.1 hx;obtain ⟨aD,TA⟩:=jv.1 hy;have hp:=tJ.1 ph
 rcases HA i j with cI|cI|cI
 ·exact absurd (by rw [FC,FC,EN,TA];exact hk) (hp i j (by simpa using hi) (by simpa using aD) cI)
 ·exact cI
 ·exact absurd (by rw [FC,FC,EN,TA];exact hk.symm) (hp j i (by simpa using aD) (by simpa using hi) cI)
variable {P:Program} {t k e:TypeId} {aN:Nat} {clock:Nat}
theorem acm (ht:P.underlying t=some (.map k e)) (hk:P.underlying k=some .string) (hb:w.heap[aN]? = some (.map es clock)) (h:kC S w es fs) (s:ByteArray) (A:Option Addr) (l:List UInt8) (c:Nat) (hl:l.length<=3000000) (ho:b7 w S 5 cO (.slice A l.length c) l) :
  ∃ rc MB,(Instr.mapUpdate t (.map (some aN)) (.string s) (.slice A l.length c)).run P w=.ok () { w with heap:=w.heap.setIfInBounds aN (.map rc MB) }/\kC S w rc (fs.put s (some l)):=by
 rcases fI:fs s with _|bk
 ·refine ⟨_,_,zN ht hk hb h.keys (h.Dm fI) _,?_,?_,?_,?_⟩
  ·intro x hx
   simp only [wk,jl,mD] at hx
   rcases hx with hx|rfl
   ·exact h.keys x hx
   ·exact ⟨_,rfl⟩
  ·rw [wk,nQ,EV]
   refine ⟨h.lT,av,?_⟩;intro a ha b' oO vK;simp only [ny,rT,mD] at oO
   subst oO;obtain ⟨x,hx,rfl⟩:=kM.1 ha;exact h.Dm fI x hx vK
  ·intro x hx
   simp only [wk,jl,mD] at hx
   rcases hx with hx|rfl
   ·obtain ⟨s',eK,br,a8,h1,ah,aw,bn,dk⟩:=h.val x hx
    refine ⟨s',eK,br,a8,h1,ah,?_,bn,dk⟩;have:s'≠s:=by rintro rfl;exact h.Dm fI x hx h1
    simp [di.put,this,aw]
   ·exact ⟨s,l,A,c,rfl,rfl,by simp [di.put],hl,ho⟩
  ·intro s' eK cI
   rw [wk]
   by_cases hs:s'=s
   ·subst hs;exact ⟨⟨.string s',.slice A l.length c,clock⟩,av,rfl⟩
   ·simp only [di.put,bp hs] at cI
    obtain ⟨x,hx,qC⟩:=h.has s' eK cI;exact ⟨x,by simp [hx],qC⟩
 ·obtain ⟨x,hx,qC⟩:=h.has s bk fI
  obtain ⟨j,h1,ah⟩:=M4 h.keys hx qC h.lT;have aD:es[j]? = some x:=by simpa using ah
  refine ⟨es.modify j fun e=>{ e with key:=.string s,val:=.slice A l.length c },clock,?_,?_,?_,?_,?_⟩
  ·simp [Instr.mapUpdate,mn ht,wF hb,run_checkKey (k:=.string s) hk trivial,run_findKey hk h1,aD,qC,run_keyThatStays (d:=.string) (k:=.string s) trivial,FD _ hb,Result.andThen]
  ·intro y hy
   rcases (mem_modify ah _ y).1 hy with rfl|⟨i,_,hi⟩
   ·exact ⟨s,rfl⟩
   ·exact h.keys y (qB hi)
  ·rw [modify_keys j _ (fun e he=>by rw [aD] at he;injection he with he;subst he;exact qC.symm)]
   exact h.lT
  ·intro y hy
   rcases (mem_modify ah _ y).1 hy with rfl|⟨i,gO,hi⟩
   ·exact ⟨s,l,A,c,rfl,rfl,by simp [di.put],hl,ho⟩
   ·obtain ⟨s',eK,br,a8,g1,g2,g3,g4,g5⟩:=h.val y (qB hi)
    refine ⟨s',eK,br,a8,g1,g2,?_,g4,g5⟩;have:s'≠s:=by rintro rfl;exact gO (Tz h.lT hi ah (by rw [g1,qC]))
    simp [di.put,this,g3]
  ·intro s' eK cI
   by_cases hs:s'=s
   ·subst hs;exact ⟨_,(mem_modify ah _ _).2 (.inl rfl),rfl⟩
   ·simp only [di.put,bp hs] at cI
    obtain ⟨y,hy,uK⟩:=h.has s' eK cI;obtain ⟨i,hi,he⟩:=FB.1 hy;have mv:es.toList[i]? = some y:=by rw [dF hi,he]
    refine ⟨y,(mem_modify ah _ y).2 (.inr ⟨i,?_,mv⟩),uK⟩;rintro rfl;rw [ah] at mv
    injection mv with mv
    subst mv;rw [qC] at uK
    injection uK with uK
    exact hs uK.symm
theorem ack (ht:P.underlying t=some (.map k e)) (hk:P.underlying k=some .string) (hb:w.heap[aN]? = some (.map es clock)) (h:kC S w es fs) (s:ByteArray) (ty:TypeId) :
  ∃ rc,(Builtin.delete_ #[t,k] ty #[.map (some aN),.string s]).run P w=.ok (.tuple #[]) { w with heap:=w.heap.setIfInBounds aN (.map rc clock) }/\kC S w rc (fs.put s none):=by
 rcases fI:fs s with _|bk
 ·have h1:=M5 h.keys (h.Dm fI)
  refine ⟨es,?_,h.keys,h.lT,fun x hx=>?_,fun s' eK cI=>?_⟩
  ·simp [Builtin.delete_,mn ht,wF hb,run_checkKey (k:=.string s) hk trivial,run_findKey hk h1,FD _ hb,Result.andThen]
  ·obtain ⟨s',eK,br,a8,g1,g2,g3,g4,g5⟩:=h.val x hx
   refine ⟨s',eK,br,a8,g1,g2,?_,g4,g5⟩;have:s'≠s:=by rintro rfl;exact h.Dm fI x hx g1
   simp [di.put,this,g3]
  ·by_cases hs:s'=s
   ·subst hs;simp [di.put] at cI
   ·simp only [di.put,bp hs] at cI
    exact h.has s' eK cI
 ·obtain ⟨x,hx,qC⟩:=h.has s bk fI
  obtain ⟨j,h1,ah⟩:=M4 h.keys hx qC h.lT;obtain ⟨aD,Ty⟩:=jv.1 ah;have y2:(es.eraseIdxIfInBounds j).toList=es.toList.eraseIdx j:=by
   unfold Array.eraseIdxIfInBounds;rw [dif_pos (by simpa using aD),Array.toList_eraseIdx]
  have DI:∀ y,y∈es.toList.eraseIdx j↔∃ i,i≠j/\es.toList[i]? = some y:=by
   intro y;rw [List.mem_eraseIdx_iff_getElem?]
  refine ⟨es.eraseIdxIfInBounds j,?_,?_,?_,?_,?_⟩
  ·simp [Builtin.delete_,mn ht,wF hb,run_checkKey (k:=.string s) hk trivial,run_findKey hk h1,FD _ hb,Result.andThen]
  ·intro y hy
   rw [y2,DI] at hy
   obtain ⟨i,_,hi⟩:=hy;exact h.keys y (qB hi)
  ·rw [y2]
   exact h.lT.sublist ((List.eraseIdx_sublist _ _).map _)
  ·intro y hy
   rw [y2,DI] at hy
   obtain ⟨i,gO,hi⟩:=hy;obtain ⟨s',eK,br,a8,g1,g2,g3,g4,g5⟩:=h.val y (qB hi);refine ⟨s',eK,br,a8,g1,g2,?_,g4,g5⟩;have:s'≠s:=by rintro rfl;exact gO (Tz h.lT hi ah (by rw [g1,qC]))
   simp [di.put,this,g3]
  ·intro s' eK cI
   by_cases hs:s'=s
   ·subst hs;simp [di.put] at cI
   ·simp only [di.put,bp hs] at cI
    obtain ⟨y,hy,uK⟩:=h.has s' eK cI;obtain ⟨i,hi,he⟩:=FB.1 hy;have mv:es.toList[i]? = some y:=by rw [dF hi,he]
    have gO:i≠j:=by
     rintro rfl;rw [ah] at mv
     injection mv with mv
     subst mv;rw [qC] at uK
     injection uK with uK
     exact hs uK.symm
    exact ⟨y,by rw [y2];exact (DI y).2 ⟨i,gO,mv⟩,uK⟩
end
end
structure pL where
 kind:Int
 name:ByteArray
 xR:ByteArray
 A:Option Addr
 n:Nat
 c:Nat
abbrev pL.cells (o:pL):Array Value:=#[.i o.kind,.string o.name,.string o.xR,.slice o.A o.n o.c]
def uh:cu pL 4:=⟨fun p=>p.cells.toList,fun _=>rfl,fun p u hu=>by simp at hu;rcases hu with h|h|h|h <;> subst h <;> rfl,ak⟩
def H9 (S:Nat->Prop) (aN:Nat) (fs:di) (w:World) (e:Ending) (w':World):Prop:=e=.returned (.tuple #[])/\hV S w' aN fs/\cB (fun j=>j=aN) w w'
theorem L3 (w:World) (aN:Nat) (o:Obj):cB (fun j=>j=aN) w { w with heap:=w.heap.setIfInBounds aN o }:=cB.Bj (H' w aN o) fun k hk _=>by injection hk with hk;exact hk.symm
theorem kC.only {S:Nat->Prop} {w w':World} {es:Array MapEntry} {fs:di} {aN:Nat} {acj:Array MapEntry} {bt:Nat} (h:kC S w es fs) (ho:cB (fun j=>j=aN) w w') (hm:w.heap[aN]? = some (.map acj bt)):kC S w' es fs :=
 h.k1 fun _ _ _ j6=>⟨j6.own.only ho fun k hk e=>j6.own.Ia hm k hk e,j6.ins⟩
theorem hV.laid {S:Nat->Prop} {w:World} {L4:di} {aN:Nat} {es rc:Array MapEntry} {c a8:Nat} (hm:w.heap[aN]? = some (.map es c)) (hi:S aN) (h:kC S w rc L4):hV S { w with heap:=w.heap.setIfInBounds aN (.map rc a8) } aN L4 :=
 ⟨⟨rc,a8,(Ib hm).1,h.only (L3 w aN _) hm⟩,hi⟩
section
variable {S:Nat->Prop} {w:World} {fs:di} {aN:Nat} (h:hV S w aN fs)
include h
theorem hV.del (s:ByteArray) (ty:TypeId):∃ W,(Builtin.delete_ #[158,9] ty #[.map (some aN),.string s]).run prog w=.ok (.tuple #[]) W/\hV S W aN (fs.put s none)/\cB (fun j=>j=aN) w W:=by
 obtain ⟨es,clock,hm,he⟩:=h.ex;obtain ⟨rc,h1,ah⟩:=ack (P:=prog) underlying158 underlying9 hm he s ty;exact ⟨_,h1,hV.laid hm h.ins ah,L3 _ _ _⟩
theorem hV.put (s:ByteArray) (A:Option Addr) (l:List UInt8) (c:Nat) (hl:l.length<=3000000) (ho:b7 w S 5 cO (.slice A l.length c) l):∃ W,(Instr.mapUpdate 158 (.map (some aN)) (.string s) (.slice A l.length c)).run prog w=.ok () W/\hV S W aN (fs.put s (some l))/\cB (fun j=>j=aN) w W:=by
 obtain ⟨es,clock,hm,he⟩:=h.ex;obtain ⟨rc,a8,h1,ah⟩:=acm (P:=prog) underlying158 underlying9 hm he s A l c hl ho;exact ⟨_,h1,hV.laid hm h.ins ah,L3 _ _ _⟩
theorem hV.R4 (s:ByteArray) (l:List UInt8) (hs:fs s=some l):∃ A c,(Instr.lookup 158 (.map (some aN)) (.string s) true).run prog w=.ok (.tuple #[.slice A l.length c,.bool true]) w/\l.length<=3000000/\b7 w S 5 cO (.slice A l.length c) l:=by
 obtain ⟨es,clock,hm,he⟩:=h.ex;obtain ⟨x,hx,hk,hl,A,c,hv,ho⟩:=he.at_ hs;have:=L5 (P:=prog) underlying158 underlying9 hm he.keys hx hk he.lT true;rw [hv] at this
 exact ⟨A,c,this,hl,ho⟩
theorem hV.R5 (s:ByteArray) (hs:fs s=none):(Instr.lookup 158 (.map (some aN)) (.string s) true).run prog w=.ok (.tuple #[.slice none 0 0,.bool false]) w:=by
 obtain ⟨es,clock,hm,he⟩:=h.ex;exact R6 (P:=prog) underlying158 underlying9 hm he.keys (he.Dm hs) (zeroValue87 w) true
end
theorem acn (S:Nat->Prop) (name xR:ByteArray) (A:Option Addr) (n c:Nat) (aN:Nat) (fs:di) (w:World) (h:hV S w aN fs):Calls prog 96 #[.map (some aN),.agg #[.i 3,.string name,.string xR,.slice A n c]] w (H9 S aN (fs.put name none) w):=by
 have hb:Below w.heap.size w (w.alloc (.cells #[.i 3,.string name,.string xR,.slice A n c] 190)):=(aO _ _).alloc aF _;obtain ⟨W,Ic,ku,hO⟩:=(h.below hb).del name 0;have ap:=J ku;have bJ:=J ((cB.dL (fun j=>j=aN) hb).trans hO fun _ _ e=>e);clear hb h ku hO
 go_enter func96,ntmps96
 go_wp2_with fail
 go_end0
 exact ⟨rfl,ap.out,bJ.out⟩
def Bk (fs:di) (name xR:ByteArray):di:=match fs name with
 | none=>fs
 | some b=>(fs.put name none).put xR (some b)
theorem aco (S:Nat->Prop) (name xR:ByteArray) (A:Option Addr) (n c:Nat) (aN:Nat) (fs:di) (w:World) (h:hV S w aN fs):Calls prog 96 #[.map (some aN),.agg #[.i 2,.string name,.string xR,.slice A n c]] w (H9 S aN (Bk fs name xR) w):=by
 have hb:Below w.heap.size w (w.alloc (.cells #[.i 2,.string name,.string xR,.slice A n c] 190)):=(aO _ _).alloc aF _;have hk:=ar.new w 190 #[.i 2,.string name,.string xR,.slice A n c];have h1:=h.below hb
 rcases fI:fs name with _|b
 ·have ui:=h1.R5 name fI
  have ap:Hid (hV S (w.alloc (.cells #[.i 2,.string name,.string xR,.slice A n c] 190)) aN (Bk fs name xR)):=by
   show hV _ _ _ _
   unfold Bk;rw [fI];exact h1
  have bJ:=J (cB.dL (fun j=>j=aN) hb);clear hb h hk h1 fI
  go_enter func96,ntmps96
  go_wp2_with fail
  go_end0
  exact ⟨rfl,ap.out,bJ.out⟩
 ·obtain ⟨br,a8,ui,hl,ho⟩:=h1.R4 name b fI
  obtain ⟨W,Ic,ku,hO⟩:=h1.del name 0;have bW:∀ k,(Value.slice br b.length a8).ownBlock=some k->k≠aN:=fun k hk e=>by
   obtain ⟨es,clock,hm,_⟩:=h1.ex;exact ho.own.Ia hm k hk e
  obtain ⟨eJ,fH,Bl,yE⟩:=ku.put xR br b a8 hl ⟨ho.own.only hO bW,ho.ins⟩;have ap:Hid (hV S eJ aN (Bk fs name xR)):=by
   show hV _ _ _ _
   unfold Bk;rw [fI];exact Bl
  have aT:w.heap.size≠aN:=by
   obtain ⟨es,clock,hm,_⟩:=h1.ex;exact fun e=>hk.pM hm e
  have eo:=(hk.only hO aT).cell;have bJ:=J (((cB.dL (fun j=>j=aN) hb).trans hO fun _ _ e=>e).trans yE fun _ _ e=>e);clear hb h hk h1 fI ho hl ku hO bW Bl yE aT
  go_enter func96,ntmps96
  go_wp2_with fail
  go_end0
  exact ⟨rfl,ap.out,bJ.out⟩
def iZ (n i:Nat) (F:Nat->Value) (Z:Value):Array Value:=((List.range n).map fun j=>if j<i then F j else Z).toArray
section
variable {n i:Nat} {F:Nat->Value} {Z:Value}
theorem M9:(iZ n i F Z).size=n:=by unfold iZ;simp
theorem wG {j:Nat} (h:j<n):(iZ n i F Z)[j]? = some (if j<i then F j else Z):=by
 unfold iZ;rw [s8,qW,List.getElem?_range h];rfl
theorem aeJ {j:Nat} (h:n<=j):(iZ n i F Z)[j]? = none:=by rw [vr];rw [M9];exact h
theorem zQ (h:i<n):(iZ n i F Z).setIfInBounds i (F i)=iZ n (i+1) F Z:=by
 apply Array.ext_getElem?
 intro j
 rcases gB j n with aD|aD
 ·rw [Array.getElem?_setIfInBounds,wG aD,wG aD,M9]
  by_cases e:i=j
  ·subst e
   rw [bB rfl,bB h,bB af]
  ·rw [bp e]
   by_cases ah:j<i
   ·rw [bB ah,bB af]
   ·rw [bp ah,bp af]
 ·rw [aeJ aD,vr (by rw [Array.size_setIfInBounds,M9];exact aD)]
theorem aeK (h:F i=Z):iZ n (i+1) F Z=iZ n i F Z:=by
 unfold iZ
 congr 1
 apply GY
 intro j _
 by_cases e:j=i
 ·subst e
  rw [bB af,bp af,h]
 ·by_cases ah:j<i
  ·rw [bB ah,bB af]
  ·rw [bp ah,bp af]
theorem I1:iZ n 0 F Z=Array.replicate n Z:=by
 unfold iZ;simp [List.map_const']
theorem I2 {l:List Value} (h:l.length=n) (hF:∀ j (aD:j<l.length),F j=l[j]):iZ n n F Z=l.toArray:=by
 unfold iZ
 congr 1
 apply List.ext_getElem (by simp [h])
 intro j h1 ah;simp only [lJ,List.length_range] at h1
 simp only [FC,List.getElem_range];rw [bB h1,hF j ah]
end
theorem TF (v:Value) (n:Nat):madeCells #[v] n=(List.replicate n v).toArray:=by
 unfold madeCells
 apply Array.ext_getElem?
 intro j
 rcases gB j n with h|h
 ·simp [h,Nat.mod_one]
 ·simp [h]
theorem ace (l:List Int):qP.all l=l.map (.int .i64):=by
 induction l with
 | nil=>rfl
 | cons a l b6=>rw [cu.all_cons,b6];rfl
theorem Own.RZ {α:Type} {size:Nat} {E:cu α size} {w:World} {base g:Nat} {e:TypeId} {cs:Array Value} {l:List α} (h:ar w g e cs) (hc:cs.toList=E.all l) (hb:base<=g) (hm:l.length<=9223372036854775807):Own w base e E (.slice (some ⟨g,0,none⟩) l.length l.length) l:=by
 have bZ:cs.size=l.length*size:=by rw [<- mm,hc,E.h3]
 refine ⟨E.h3 l,.inr ⟨g,l.length,cs,rfl,hb,h,e3 _,by unfold maxLen;omega,bZ,?_⟩⟩;rw [<- bZ,<- mm,kn,hc]
def H6 (l:List Int) (w:World) (e:Ending) (w':World):Prop:=∃ g,e=.returned (.slice (some ⟨g,0,none⟩) l.length l.length)/\w.heap.size<=g/\ar w' g 3 (l.map (.int .i64)).toArray/\Below w.heap.size w w'
def H7 (l:List Bool) (w:World) (e:Ending) (w':World):Prop:=∃ g,e=.returned (.slice (some ⟨g,0,none⟩) l.length l.length)/\w.heap.size<=g/\ar w' g 4 (l.map .bool).toArray/\Below w.heap.size w w'
theorem aeL (n:Nat) (h:n<=1000000) (w:World):(Instr.makeSlice 47 (.i n) (.i n)).run prog w=.ok (.slice (some ⟨w.heap.size,0,none⟩) n n) (w.alloc (.cells (Array.replicate n (.i 0)) 3)):=by
 obtain ⟨i,h1,ah,aw,bn⟩:=info_parts (show (prog.info? 3).map (fun i=>(i.zero,i.size,i.bytes))=some (some (.i 0),1,8) by kernel_rfl);have:=run_make (P:=prog) w 47 3 i _ underlying47 h1 ah .i64 .i64 n n af (oU _) (by rw [bn];omega) af;rw [aw,nW,show (Value.i 0).cells=#[.i 0] from rfl,TF] at this
 simpa using this
theorem TG (n:Nat) (h:n<=1000000) (w:World):(Instr.makeSlice 46 (.i n) (.i n)).run prog w=.ok (.slice (some ⟨w.heap.size,0,none⟩) n n) (w.alloc (.cells (Array.replicate n (.bool false)) 4)):=by
 obtain ⟨i,h1,ah,aw,bn⟩:=info_parts (show (prog.info? 4).map (fun i=>(i.zero,i.size,i.bytes))=some (some (.bool false),1,1) by kernel_rfl);have:=run_make (P:=prog) w 46 4 i _ underlying46 h1 ah .i64 .i64 n n af (oU _) (by rw [bn];omega) af;rw [aw,nW,show (Value.bool false).cells=#[.bool false] from rfl,TF] at this
 simpa using this
end Go.Proofs.YtmmchlfoplcnbaaGreatDoor
