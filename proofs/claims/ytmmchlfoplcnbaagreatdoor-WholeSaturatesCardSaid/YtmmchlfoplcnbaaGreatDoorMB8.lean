/- A part of the walk. -/
import Derived.Test.YtmmchlfoplcnbaaGreatDoorMB0
namespace Go.Proofs.YtmmchlfoplcnbaaGreatDoor
open Go Go.RowKit Tryz
set_option linter.all false
set_option maxRecDepth 100000
set_option maxHeartbeats 4000000
def aQ.vg (p:aQ):Bool:=((p.bg==0)&&((p.aX==0)&&(p.ba==0)))&&((p.bk==0)&&((p.bl==0)&&(p.aW==0)))
def WH (p:aQ) (w:World) (e:Ending) (w':World):Prop:=∃ k:Int,e=.returned (.i k)/\(k==3)=p.vg/\Below w.heap.size w w'
theorem WG (p:aQ) (w:World):Calls prog 176 #[.agg p.cells] w (WH p w):=by
 have mj:=ar.new w 40 p.cells;have aA:=J ((aO w.heap.size w).alloc aF (.cells p.cells 40));have bG:=J mj;clear mj
 go_enter func176,ntmps176
 go_wp2_with fail;simp only [WI,pZ]
 cases h1:((p.bg==0)&&((p.aX==0)&&(p.ba==0)))
 rotate_left
 ·simp only [Bool.true_eq_false,ml]
  cases ah:((p.bk==0)&&((p.bl==0)&&(p.aW==0)))
  rotate_left
  ·have bF:Hid (p.vg=true):=by show _=_;unfold aQ.vg;rw [h1,ah];rfl
   clear h1 ah;go_wp2_with fail;go_ret;exact ⟨3,rfl,by rw [bF.out];rfl,aA.out⟩
  ·have bF:Hid (p.vg=false):=by show _=_;unfold aQ.vg;rw [h1,ah];rfl
   clear h1 ah;go_wp2_with fail
   go_loopw [3] (fun ii wr=>∃ i:Nat,i<=2/\ii=.i i/\(Below w.heap.size w wr/\ar wr w.heap.size 40 #[.string p.id,.i p.prio,.bool p.bo,.i p.bg,.i p.aX,.i p.ba,.i p.bk,.i p.bl,.i p.aW,.string p.bb,.i p.size])) (fun ii _=>2-(intOf ii).toNat)
   case atStart=>exact ⟨0,af,rfl,aA.out,bG.out⟩
   case round =>
    clear aA bG;obtain ⟨i,hi,rfl,du⟩:=hrel;have ap:=J du;clear du;obtain rfl|rfl|rfl:i=0\/i=1\/i=2:=af
    ·by_cases h1:p.bk=0
     ·have b4:=J h1
      clear h1;go_wp2_with fail;have ap:=J (ae ap.1.drew ap.2.drew);refine wp_region_held_drew (S:=(fun w'=>w'.cell? ⟨w.heap.size,6,none⟩=some (.i p.bk)/\w'.cell? ⟨w.heap.size,3,none⟩=some (.i p.bg))) ai (⟨ap.2.cell 6,ap.2.cell 3⟩) (fun hHeld=>?_);refine aj 0 ?_;refine aj 1 ?_;refine aj 2 ?_;refine aj 3 ?_;refine gN 4 19 (.bool true) rfl rfl ai ai ai (fun _ _ _ h=>h) aH (by intro w' dB;(try dsimp only at dB);go_simp;(first|done|with_reducible rfl|(have bQ:=b4.out;first|omega|(simp;omega)|(simpa using bQ)))) As ?_;simp only [Act.put,aY,aZ,a1];refine aj 5 ?_;refine cM 6 21 rfl rfl ai ai ai (fun _ _ _ h=>h) aH As ?_;simp only [Act.put,aY,aZ,a1];refine cM 7 22 rfl rfl ai ai ai (fun _ _ _ h=>h) aH As ?_;simp only [Act.put,aY,aZ,a1];refine cM 8 23 rfl rfl ai ai ai (fun _ _ _ h=>h) aH As ?_;simp only [Act.put,aY,aZ,a1];refine cM 9 24 rfl rfl ai ai ai (fun _ _ _ h=>h) aH As ?_;simp only [Act.put,aY,aZ,a1];refine cM 10 25 rfl rfl ai ai ai (fun _ _ _ h=>h) aH As ?_;simp only [Act.put,aY,aZ,a1];refine cM 11 26 rfl rfl ai ai ai (fun _ _ _ h=>h) aH As ?_;simp only [Act.put,aY,aZ,a1];refine cM 12 27 rfl rfl ai ai ai (fun _ _ _ h=>h) aH As ?_;simp only [Act.put,aY,aZ,a1];refine cM 13 28 rfl rfl ai ai ai (fun _ _ _ h=>h) aH As ?_;simp only [Act.put,aY,aZ,a1];refine cM 14 29 rfl rfl ai ai ai (fun _ _ _ h=>h) aH As ?_;simp only [Act.put,aY,aZ,a1];refine aj 15 ?_;refine wpAnyH_done ai ?_ _;clear hHeld;go_wp2_with fail;go_ret;exact ⟨2,rfl,by rw [bF.out];rfl,ap.1⟩
     ·by_cases ah:p.bk=p.bg
      ·have b4:=J (ae h1 ah)
       clear h1 ah;go_wp2_with fail;have ap:=J (ae ap.1.drew ap.2.drew);refine wp_region_held_drew (S:=(fun w'=>w'.cell? ⟨w.heap.size,6,none⟩=some (.i p.bk)/\w'.cell? ⟨w.heap.size,3,none⟩=some (.i p.bg))) ai (⟨ap.2.cell 6,ap.2.cell 3⟩) (fun hHeld=>?_);refine aj 0 ?_;refine aj 1 ?_;refine aj 2 ?_;refine aj 3 ?_;refine gN 4 19 (.bool false) rfl rfl ai ai ai (fun _ _ _ h=>h) aH (by intro w' dB;(try dsimp only at dB);go_simp;(first|done|with_reducible rfl|(have bQ:=b4.out;first|omega|(simp;omega)|(simpa using bQ)))) As ?_;simp only [Act.put,aY,aZ,a1];refine aj 5 ?_;refine aj 6 ?_;refine aj 7 ?_;refine aj 8 ?_;refine aj 9 ?_;refine aj 10 ?_;refine aj 11 ?_;refine aj 12 ?_;refine aj 13 ?_;refine gN 14 29 (.bool false) rfl rfl ai ai ai (fun _ _ _ h=>h) aH (by intro w' dB;(try dsimp only at dB);go_simp;(first|done|with_reducible rfl|(have bQ:=b4.out;first|omega|(simp;omega)|(simpa using bQ)))) As ?_;simp only [Act.put,aY,aZ,a1];refine aj 15 ?_;refine wpAnyH_done ai ?_ _;clear hHeld;go_wp2_with fail
       go_roundw
       case rel=>exact ⟨1,af,aH,ap.out⟩
       case measure=>exact ef
      ·have b4:=J (ae h1 ah)
       clear h1 ah;go_wp2_with fail;have ap:=J (ae ap.1.drew ap.2.drew);refine wp_region_held_drew (S:=(fun w'=>w'.cell? ⟨w.heap.size,6,none⟩=some (.i p.bk)/\w'.cell? ⟨w.heap.size,3,none⟩=some (.i p.bg))) ai (⟨ap.2.cell 6,ap.2.cell 3⟩) (fun hHeld=>?_);refine aj 0 ?_;refine aj 1 ?_;refine aj 2 ?_;refine aj 3 ?_;refine gN 4 19 (.bool false) rfl rfl ai ai ai (fun _ _ _ h=>h) aH (by intro w' dB;(try dsimp only at dB);go_simp;(first|done|with_reducible rfl|(have bQ:=b4.out;first|omega|(simp;omega)|(simpa using bQ)))) As ?_;simp only [Act.put,aY,aZ,a1];refine aj 5 ?_;refine aj 6 ?_;refine aj 7 ?_;refine aj 8 ?_;refine aj 9 ?_;refine aj 10 ?_;refine aj 11 ?_;refine aj 12 ?_;refine aj 13 ?_;refine gN 14 29 (.bool true) rfl rfl ai ai ai (fun _ _ _ h=>h) aH (by intro w' dB;(try dsimp only at dB);go_simp;(first|done|with_reducible rfl|(have bQ:=b4.out;first|omega|(simp;omega)|(simpa using bQ)))) As ?_;simp only [Act.put,aY,aZ,a1];refine aj 15 ?_;refine wpAnyH_done ai ?_ _;clear hHeld;go_wp2_with fail;go_ret;exact ⟨2,rfl,by rw [bF.out];rfl,ap.1⟩
    ·by_cases h1:p.bl=0
     ·have b4:=J h1
      clear h1;go_wp2_with fail;have ap:=J (ae ap.1.drew ap.2.drew);refine wp_region_held_drew (S:=(fun w'=>w'.cell? ⟨w.heap.size,7,none⟩=some (.i p.bl)/\w'.cell? ⟨w.heap.size,4,none⟩=some (.i p.aX))) ai (⟨ap.2.cell 7,ap.2.cell 4⟩) (fun hHeld=>?_);refine aj 0 ?_;refine aj 1 ?_;refine aj 2 ?_;refine aj 3 ?_;refine gN 4 19 (.bool true) rfl rfl ai ai ai (fun _ _ _ h=>h) aH (by intro w' dB;(try dsimp only at dB);go_simp;(first|done|with_reducible rfl|(have bQ:=b4.out;first|omega|(simp;omega)|(simpa using bQ)))) As ?_;simp only [Act.put,aY,aZ,a1];refine aj 5 ?_;refine cM 6 21 rfl rfl ai ai ai (fun _ _ _ h=>h) aH As ?_;simp only [Act.put,aY,aZ,a1];refine cM 7 22 rfl rfl ai ai ai (fun _ _ _ h=>h) aH As ?_;simp only [Act.put,aY,aZ,a1];refine cM 8 23 rfl rfl ai ai ai (fun _ _ _ h=>h) aH As ?_;simp only [Act.put,aY,aZ,a1];refine cM 9 24 rfl rfl ai ai ai (fun _ _ _ h=>h) aH As ?_;simp only [Act.put,aY,aZ,a1];refine cM 10 25 rfl rfl ai ai ai (fun _ _ _ h=>h) aH As ?_;simp only [Act.put,aY,aZ,a1];refine cM 11 26 rfl rfl ai ai ai (fun _ _ _ h=>h) aH As ?_;simp only [Act.put,aY,aZ,a1];refine cM 12 27 rfl rfl ai ai ai (fun _ _ _ h=>h) aH As ?_;simp only [Act.put,aY,aZ,a1];refine cM 13 28 rfl rfl ai ai ai (fun _ _ _ h=>h) aH As ?_;simp only [Act.put,aY,aZ,a1];refine cM 14 29 rfl rfl ai ai ai (fun _ _ _ h=>h) aH As ?_;simp only [Act.put,aY,aZ,a1];refine aj 15 ?_;refine wpAnyH_done ai ?_ _;clear hHeld;go_wp2_with fail;go_ret;exact ⟨2,rfl,by rw [bF.out];rfl,ap.1⟩
     ·by_cases ah:p.bl=p.aX
      ·have b4:=J (ae h1 ah)
       clear h1 ah;go_wp2_with fail;have ap:=J (ae ap.1.drew ap.2.drew);refine wp_region_held_drew (S:=(fun w'=>w'.cell? ⟨w.heap.size,7,none⟩=some (.i p.bl)/\w'.cell? ⟨w.heap.size,4,none⟩=some (.i p.aX))) ai (⟨ap.2.cell 7,ap.2.cell 4⟩) (fun hHeld=>?_);refine aj 0 ?_;refine aj 1 ?_;refine aj 2 ?_;refine aj 3 ?_;refine gN 4 19 (.bool false) rfl rfl ai ai ai (fun _ _ _ h=>h) aH (by intro w' dB;(try dsimp only at dB);go_simp;(first|done|with_reducible rfl|(have bQ:=b4.out;first|omega|(simp;omega)|(simpa using bQ)))) As ?_;simp only [Act.put,aY,aZ,a1];refine aj 5 ?_;refine aj 6 ?_;refine aj 7 ?_;refine aj 8 ?_;refine aj 9 ?_;refine aj 10 ?_;refine aj 11 ?_;refine aj 12 ?_;refine aj 13 ?_;refine gN 14 29 (.bool false) rfl rfl ai ai ai (fun _ _ _ h=>h) aH (by intro w' dB;(try dsimp only at dB);go_simp;(first|done|with_reducible rfl|(have bQ:=b4.out;first|omega|(simp;omega)|(simpa using bQ)))) As ?_;simp only [Act.put,aY,aZ,a1];refine aj 15 ?_;refine wpAnyH_done ai ?_ _;clear hHeld;go_wp2_with fail
       go_roundw
       case rel=>exact ⟨2,af,aH,ap.out⟩
       case measure=>exact ef
      ·have b4:=J (ae h1 ah)
       clear h1 ah;go_wp2_with fail;have ap:=J (ae ap.1.drew ap.2.drew);refine wp_region_held_drew (S:=(fun w'=>w'.cell? ⟨w.heap.size,7,none⟩=some (.i p.bl)/\w'.cell? ⟨w.heap.size,4,none⟩=some (.i p.aX))) ai (⟨ap.2.cell 7,ap.2.cell 4⟩) (fun hHeld=>?_);refine aj 0 ?_;refine aj 1 ?_;refine aj 2 ?_;refine aj 3 ?_;refine gN 4 19 (.bool false) rfl rfl ai ai ai (fun _ _ _ h=>h) aH (by intro w' dB;(try dsimp only at dB);go_simp;(first|done|with_reducible rfl|(have bQ:=b4.out;first|omega|(simp;omega)|(simpa using bQ)))) As ?_;simp only [Act.put,aY,aZ,a1];refine aj 5 ?_;refine aj 6 ?_;refine aj 7 ?_;refine aj 8 ?_;refine aj 9 ?_;refine aj 10 ?_;refine aj 11 ?_;refine aj 12 ?_;refine aj 13 ?_;refine gN 14 29 (.bool true) rfl rfl ai ai ai (fun _ _ _ h=>h) aH (by intro w' dB;(try dsimp only at dB);go_simp;(first|done|with_reducible rfl|(have bQ:=b4.out;first|omega|(simp;omega)|(simpa using bQ)))) As ?_;simp only [Act.put,aY,aZ,a1];refine aj 15 ?_;refine wpAnyH_done ai ?_ _;clear hHeld;go_wp2_with fail;go_ret;exact ⟨2,rfl,by rw [bF.out];rfl,ap.1⟩
    ·go_wp2_with fail
     go_ret;exact ⟨1,rfl,by rw [bF.out];rfl,ap.1⟩
 ·have bF:Hid (p.vg=false):=by show _=_;unfold aQ.vg;rw [h1];rfl
  clear h1;go_wp2_with fail
  go_loopw [3] (fun ii wr=>∃ i:Nat,i<=2/\ii=.i i/\(Below w.heap.size w wr/\ar wr w.heap.size 40 #[.string p.id,.i p.prio,.bool p.bo,.i p.bg,.i p.aX,.i p.ba,.i p.bk,.i p.bl,.i p.aW,.string p.bb,.i p.size])) (fun ii _=>2-(intOf ii).toNat)
  case atStart=>exact ⟨0,af,rfl,aA.out,bG.out⟩
  case round =>
   clear aA bG;obtain ⟨i,hi,rfl,du⟩:=hrel;have ap:=J du;clear du;obtain rfl|rfl|rfl:i=0\/i=1\/i=2:=af
   ·by_cases h1:p.bk=0
    ·have b4:=J h1
     clear h1;go_wp2_with fail;have ap:=J (ae ap.1.drew ap.2.drew);refine wp_region_held_drew (S:=(fun w'=>w'.cell? ⟨w.heap.size,6,none⟩=some (.i p.bk)/\w'.cell? ⟨w.heap.size,3,none⟩=some (.i p.bg))) ai (⟨ap.2.cell 6,ap.2.cell 3⟩) (fun hHeld=>?_);refine aj 0 ?_;refine aj 1 ?_;refine aj 2 ?_;refine aj 3 ?_;refine gN 4 19 (.bool true) rfl rfl ai ai ai (fun _ _ _ h=>h) aH (by intro w' dB;(try dsimp only at dB);go_simp;(first|done|with_reducible rfl|(have bQ:=b4.out;first|omega|(simp;omega)|(simpa using bQ)))) As ?_;simp only [Act.put,aY,aZ,a1];refine aj 5 ?_;refine cM 6 21 rfl rfl ai ai ai (fun _ _ _ h=>h) aH As ?_;simp only [Act.put,aY,aZ,a1];refine cM 7 22 rfl rfl ai ai ai (fun _ _ _ h=>h) aH As ?_;simp only [Act.put,aY,aZ,a1];refine cM 8 23 rfl rfl ai ai ai (fun _ _ _ h=>h) aH As ?_;simp only [Act.put,aY,aZ,a1];refine cM 9 24 rfl rfl ai ai ai (fun _ _ _ h=>h) aH As ?_;simp only [Act.put,aY,aZ,a1];refine cM 10 25 rfl rfl ai ai ai (fun _ _ _ h=>h) aH As ?_;simp only [Act.put,aY,aZ,a1];refine cM 11 26 rfl rfl ai ai ai (fun _ _ _ h=>h) aH As ?_;simp only [Act.put,aY,aZ,a1];refine cM 12 27 rfl rfl ai ai ai (fun _ _ _ h=>h) aH As ?_;simp only [Act.put,aY,aZ,a1];refine cM 13 28 rfl rfl ai ai ai (fun _ _ _ h=>h) aH As ?_;simp only [Act.put,aY,aZ,a1];refine cM 14 29 rfl rfl ai ai ai (fun _ _ _ h=>h) aH As ?_;simp only [Act.put,aY,aZ,a1];refine aj 15 ?_;refine wpAnyH_done ai ?_ _;clear hHeld;go_wp2_with fail;go_ret;exact ⟨2,rfl,by rw [bF.out];rfl,ap.1⟩
    ·by_cases ah:p.bk=p.bg
     ·have b4:=J (ae h1 ah)
      clear h1 ah;go_wp2_with fail;have ap:=J (ae ap.1.drew ap.2.drew);refine wp_region_held_drew (S:=(fun w'=>w'.cell? ⟨w.heap.size,6,none⟩=some (.i p.bk)/\w'.cell? ⟨w.heap.size,3,none⟩=some (.i p.bg))) ai (⟨ap.2.cell 6,ap.2.cell 3⟩) (fun hHeld=>?_);refine aj 0 ?_;refine aj 1 ?_;refine aj 2 ?_;refine aj 3 ?_;refine gN 4 19 (.bool false) rfl rfl ai ai ai (fun _ _ _ h=>h) aH (by intro w' dB;(try dsimp only at dB);go_simp;(first|done|with_reducible rfl|(have bQ:=b4.out;first|omega|(simp;omega)|(simpa using bQ)))) As ?_;simp only [Act.put,aY,aZ,a1];refine aj 5 ?_;refine aj 6 ?_;refine aj 7 ?_;refine aj 8 ?_;refine aj 9 ?_;refine aj 10 ?_;refine aj 11 ?_;refine aj 12 ?_;refine aj 13 ?_;refine gN 14 29 (.bool false) rfl rfl ai ai ai (fun _ _ _ h=>h) aH (by intro w' dB;(try dsimp only at dB);go_simp;(first|done|with_reducible rfl|(have bQ:=b4.out;first|omega|(simp;omega)|(simpa using bQ)))) As ?_;simp only [Act.put,aY,aZ,a1];refine aj 15 ?_;refine wpAnyH_done ai ?_ _;clear hHeld;go_wp2_with fail
      go_roundw
      case rel=>exact ⟨1,af,aH,ap.out⟩
      case measure=>exact ef
     ·have b4:=J (ae h1 ah)
      clear h1 ah;go_wp2_with fail;have ap:=J (ae ap.1.drew ap.2.drew);refine wp_region_held_drew (S:=(fun w'=>w'.cell? ⟨w.heap.size,6,none⟩=some (.i p.bk)/\w'.cell? ⟨w.heap.size,3,none⟩=some (.i p.bg))) ai (⟨ap.2.cell 6,ap.2.cell 3⟩) (fun hHeld=>?_);refine aj 0 ?_;refine aj 1 ?_;refine aj 2 ?_;refine aj 3 ?_;refine gN 4 19 (.bool false) rfl rfl ai ai ai (fun _ _ _ h=>h) aH (by intro w' dB;(try dsimp only at dB);go_simp;(first|done|with_reducible rfl|(have bQ:=b4.out;first|omega|(simp;omega)|(simpa using bQ)))) As ?_;simp only [Act.put,aY,aZ,a1];refine aj 5 ?_;refine aj 6 ?_;refine aj 7 ?_;refine aj 8 ?_;refine aj 9 ?_;refine aj 10 ?_;refine aj 11 ?_;refine aj 12 ?_;refine aj 13 ?_;refine gN 14 29 (.bool true) rfl rfl ai ai ai (fun _ _ _ h=>h) aH (by intro w' dB;(try dsimp only at dB);go_simp;(first|done|with_reducible rfl|(have bQ:=b4.out;first|omega|(simp;omega)|(simpa using bQ)))) As ?_;simp only [Act.put,aY,aZ,a1];refine aj 15 ?_;refine wpAnyH_done ai ?_ _;clear hHeld;go_wp2_with fail;go_ret;exact ⟨2,rfl,by rw [bF.out];rfl,ap.1⟩
   ·by_cases h1:p.bl=0
    ·have b4:=J h1
     clear h1;go_wp2_with fail;have ap:=J (ae ap.1.drew ap.2.drew);refine wp_region_held_drew (S:=(fun w'=>w'.cell? ⟨w.heap.size,7,none⟩=some (.i p.bl)/\w'.cell? ⟨w.heap.size,4,none⟩=some (.i p.aX))) ai (⟨ap.2.cell 7,ap.2.cell 4⟩) (fun hHeld=>?_);refine aj 0 ?_;refine aj 1 ?_;refine aj 2 ?_;refine aj 3 ?_;refine gN 4 19 (.bool true) rfl rfl ai ai ai (fun _ _ _ h=>h) aH (by intro w' dB;(try dsimp only at dB);go_simp;(first|done|with_reducible rfl|(have bQ:=b4.out;first|omega|(simp;omega)|(simpa using bQ)))) As ?_;simp only [Act.put,aY,aZ,a1];refine aj 5 ?_;refine cM 6 21 rfl rfl ai ai ai (fun _ _ _ h=>h) aH As ?_;simp only [Act.put,aY,aZ,a1];refine cM 7 22 rfl rfl ai ai ai (fun _ _ _ h=>h) aH As ?_;simp only [Act.put,aY,aZ,a1];refine cM 8 23 rfl rfl ai ai ai (fun _ _ _ h=>h) aH As ?_;simp only [Act.put,aY,aZ,a1];refine cM 9 24 rfl rfl ai ai ai (fun _ _ _ h=>h) aH As ?_;simp only [Act.put,aY,aZ,a1];refine cM 10 25 rfl rfl ai ai ai (fun _ _ _ h=>h) aH As ?_;simp only [Act.put,aY,aZ,a1];refine cM 11 26 rfl rfl ai ai ai (fun _ _ _ h=>h) aH As ?_;simp only [Act.put,aY,aZ,a1];refine cM 12 27 rfl rfl ai ai ai (fun _ _ _ h=>h) aH As ?_;simp only [Act.put,aY,aZ,a1];refine cM 13 28 rfl rfl ai ai ai (fun _ _ _ h=>h) aH As ?_;simp only [Act.put,aY,aZ,a1];refine cM 14 29 rfl rfl ai ai ai (fun _ _ _ h=>h) aH As ?_;simp only [Act.put,aY,aZ,a1];refine aj 15 ?_;refine wpAnyH_done ai ?_ _;clear hHeld;go_wp2_with fail;go_ret;exact ⟨2,rfl,by rw [bF.out];rfl,ap.1⟩
    ·by_cases ah:p.bl=p.aX
     ·have b4:=J (ae h1 ah)
      clear h1 ah;go_wp2_with fail;have ap:=J (ae ap.1.drew ap.2.drew);refine wp_region_held_drew (S:=(fun w'=>w'.cell? ⟨w.heap.size,7,none⟩=some (.i p.bl)/\w'.cell? ⟨w.heap.size,4,none⟩=some (.i p.aX))) ai (⟨ap.2.cell 7,ap.2.cell 4⟩) (fun hHeld=>?_);refine aj 0 ?_;refine aj 1 ?_;refine aj 2 ?_;refine aj 3 ?_;refine gN 4 19 (.bool false) rfl rfl ai ai ai (fun _ _ _ h=>h) aH (by intro w' dB;(try dsimp only at dB);go_simp;(first|done|with_reducible rfl|(have bQ:=b4.out;first|omega|(simp;omega)|(simpa using bQ)))) As ?_;simp only [Act.put,aY,aZ,a1];refine aj 5 ?_;refine aj 6 ?_;refine aj 7 ?_;refine aj 8 ?_;refine aj 9 ?_;refine aj 10 ?_;refine aj 11 ?_;refine aj 12 ?_;refine aj 13 ?_;refine gN 14 29 (.bool false) rfl rfl ai ai ai (fun _ _ _ h=>h) aH (by intro w' dB;(try dsimp only at dB);go_simp;(first|done|with_reducible rfl|(have bQ:=b4.out;first|omega|(simp;omega)|(simpa using bQ)))) As ?_;simp only [Act.put,aY,aZ,a1];refine aj 15 ?_;refine wpAnyH_done ai ?_ _;clear hHeld;go_wp2_with fail
      go_roundw
      case rel=>exact ⟨2,af,aH,ap.out⟩
      case measure=>exact ef
     ·have b4:=J (ae h1 ah)
      clear h1 ah;go_wp2_with fail;have ap:=J (ae ap.1.drew ap.2.drew);refine wp_region_held_drew (S:=(fun w'=>w'.cell? ⟨w.heap.size,7,none⟩=some (.i p.bl)/\w'.cell? ⟨w.heap.size,4,none⟩=some (.i p.aX))) ai (⟨ap.2.cell 7,ap.2.cell 4⟩) (fun hHeld=>?_);refine aj 0 ?_;refine aj 1 ?_;refine aj 2 ?_;refine aj 3 ?_;refine gN 4 19 (.bool false) rfl rfl ai ai ai (fun _ _ _ h=>h) aH (by intro w' dB;(try dsimp only at dB);go_simp;(first|done|with_reducible rfl|(have bQ:=b4.out;first|omega|(simp;omega)|(simpa using bQ)))) As ?_;simp only [Act.put,aY,aZ,a1];refine aj 5 ?_;refine aj 6 ?_;refine aj 7 ?_;refine aj 8 ?_;refine aj 9 ?_;refine aj 10 ?_;refine aj 11 ?_;refine aj 12 ?_;refine aj 13 ?_;refine gN 14 29 (.bool true) rfl rfl ai ai ai (fun _ _ _ h=>h) aH (by intro w' dB;(try dsimp only at dB);go_simp;(first|done|with_reducible rfl|(have bQ:=b4.out;first|omega|(simp;omega)|(simpa using bQ)))) As ?_;simp only [Act.put,aY,aZ,a1];refine aj 15 ?_;refine wpAnyH_done ai ?_ _;clear hHeld;go_wp2_with fail;go_ret;exact ⟨2,rfl,by rw [bF.out];rfl,ap.1⟩
   ·go_wp2_with fail
    go_ret;exact ⟨1,rfl,by rw [bF.out];rfl,ap.1⟩
def k9 (a b c:Bool) (p:aQ):Int×Bool:=if p.bo=true then (0,false) else if (a&&p.vg)=true then (0,true) else if b=true then (1,true) else if c=true then (2,true) else (0,false)
def DV (a b c:Bool) (p:aQ) (k:Nat):Prop:=(0<k->(a&&p.vg)=false)/\(1<k->b=false)/\(2<k->c=false)
theorem WA (dK c8 dT:Value) (w:World):(Instr.index 33 (.agg #[dK,c8,dT]) (.i 0)).run prog w=.ok dK w:=ai
theorem WB (dK c8 dT:Value) (w:World):(Instr.index 33 (.agg #[dK,c8,dT]) (.i 1)).run prog w=.ok c8 w:=ai
theorem WC (dK c8 dT:Value) (w:World):(Instr.index 33 (.agg #[dK,c8,dT]) (.i 2)).run prog w=.ok dT w:=ai
attribute [go_sem] WA WB WC
def WD (a b c:Bool) (p:aQ) (w:World) (e:Ending) (w':World):Prop:=e=.returned (.tuple #[.i (k9 a b c p).1,.bool (k9 a b c p).2])/\Below w.heap.size w w'
structure qK (a b c:Bool) (p:aQ) (w W:World):Prop where
 on:ar W (w.heap.size) 33 #[.bool a,.bool b,.bool c]
 mQ:ar W (w.heap.size+1) 40 #[.string p.id,.i p.prio,.bool p.bo,.i p.bg,.i p.aX,.i p.ba,.i p.bk,.i p.bl,.i p.aW,.string p.bb,.i p.size]
 aR:Below w.heap.size w W
theorem qK.below {a b c:Bool} {p:aQ} {w W W':World} (h:qK a b c p w W) (hb:Below W.heap.size W W'):qK a b c p w W':=⟨h.on.bw hb,h.mQ.bw hb,h.aR.trans (hb.mono h.aR.size)⟩
theorem qK.alloc {a b c:Bool} {p:aQ} {w W:World} (h:qK a b c p w W) (o:Obj):qK a b c p w (W.alloc o):=⟨h.on.alloc o,h.mQ.alloc o,h.aR.alloc h.aR.size o⟩
theorem qK.drew {a b c:Bool} {p:aQ} {w W:World} (h:qK a b c p w W):qK a b c p w W.drew:=⟨h.on.drew,h.mQ.drew,h.aR.drew⟩
theorem qK.new (a b c:Bool) (p:aQ) (w:World):qK a b c p w ((w.alloc (.cells #[.bool a,.bool b,.bool c] 33)).alloc (.cells #[.string p.id,.i p.prio,.bool p.bo,.i p.bg,.i p.aX,.i p.ba,.i p.bk,.i p.bl,.i p.aW,.string p.bb,.i p.size] 40)):=by
 have gu:(w.alloc (.cells #[.bool a,.bool b,.bool c] 33)).heap.size=w.heap.size+1:=av;have b0:=ar.new w 33 #[.bool a,.bool b,.bool c];have bX:=ar.new (w.alloc (.cells #[.bool a,.bool b,.bool c] 33)) 40 #[.string p.id,.i p.prio,.bool p.bo,.i p.bg,.i p.aX,.i p.ba,.i p.bk,.i p.bl,.i p.aW,.string p.bb,.i p.size];rw [gu] at bX
 have aR:Below w.heap.size w ((w.alloc (.cells #[.bool a,.bool b,.bool c] 33)).alloc (.cells #[.string p.id,.i p.prio,.bool p.bo,.i p.bg,.i p.aX,.i p.ba,.i p.bk,.i p.bl,.i p.aW,.string p.bb,.i p.size] 40)):=((aO w.heap.size w).alloc aF _).alloc (by rw [gu];omega) _;exact ⟨(b0.alloc _),bX,aR⟩
theorem WE (a b c:Bool) (p:aQ) (w:World):Calls prog 123 #[.agg #[.bool a,.bool b,.bool c],.agg p.cells] w (WD a b c p w):=by
 have ao:=J (qK.new a b c p w)
 cases hc:p.bo
 rotate_left
 ·have bF:Hid (k9 a b c p=(0,false)):=by show _=_;unfold k9;rw [bB hc]
  go_enter func123,ntmps123
  go_wp2_with fail
  go_ret2
  exact ⟨by show _=_;rw [bF.out];rfl,ao.aR⟩
 ·have aq:=J hc
  go_enter func123,ntmps123
  go_wp2_with fail;clear hc;generalize ((w.alloc (.cells #[.bool a,.bool b,.bool c] 33)).alloc (.cells #[.string p.id,.i p.prio,.bool p.bo,.i p.bg,.i p.aX,.i p.ba,.i p.bk,.i p.bl,.i p.aW,.string p.bb,.i p.size] 40))=aC at *
  go_loopw [6,7,11] (fun la is ii wr=>∃ i:Nat,i<=3/\ii=.i i/\DV a b c p i/\qK a b c p w wr) (fun _ _ ii _=>3-(intOf ii).toNat)
  case atStart=>exact ⟨0,af,rfl,⟨fun h=>af,fun h=>af,fun h=>af⟩,ao.out⟩
  case round =>
   clear ao;obtain ⟨i,hi,rfl,sX,bd⟩:=hrel;have lb:=J sX;have ao:=J bd;clear sX bd;obtain rfl|rfl|rfl|rfl:i=0\/i=1\/i=2\/i=3:=af
   ·cases a
    ·have iu:Hid (DV false b c p 1):=⟨fun _=>rfl,fun h=>af,fun h=>af⟩
     go_wp2_with fail
     go_roundw
     case rel=>exact ⟨1,af,aH,iu.out,ao.out⟩
     case measure=>exact ef
    ·have rP:=ao.mQ.cell
     go_wp2_with fail;refine (WG p _).mono ?_;rintro e aM ⟨k,rfl,hk,hb⟩;have ao:=J (ao.below hb);clear hb rP;obtain ⟨v,hv⟩:=aE p.vg;have Gs:=J hv;rw [hv] at hk
     clear hv
     cases v
     ·have iu:Hid (DV true b c p 1):=⟨fun _=>by rw [Gs.out];rfl,fun h=>af,fun h=>af⟩
      go_wp2_with fail
      go_roundw
      case rel=>exact ⟨1,af,aH,iu.out,ao.out⟩
      case measure=>exact ef
     ·have bF:Hid (k9 true b c p=(0,true)):=by show _=_;unfold k9;rw [bp (by rw [aq.out];simp),bB (by rw [Gs.out];rfl)]
      go_wp2_with fail
      go_ret2
      exact ⟨by show _=_;rw [bF.out];rfl,ao.aR⟩
   ·cases b
    ·have iu:Hid (DV a false c p 2):=⟨fun _=>lb.1 af,fun _=>rfl,fun h=>af⟩
     go_wp2_with fail
     go_roundw
     case rel=>exact ⟨2,af,aH,iu.out,ao.out⟩
     case measure=>exact ef
    ·have bF:Hid (k9 a true c p=(1,true)):=by show _=_;unfold k9;rw [bp (by rw [aq.out];simp),bp (by rw [lb.1 af];simp),bB rfl]
     go_wp2_with fail
     go_ret2
     exact ⟨by show _=_;rw [bF.out];rfl,ao.aR⟩
   ·cases c
    ·have iu:Hid (DV a b false p 3):=⟨fun _=>lb.1 af,fun _=>lb.2.1 af,fun _=>rfl⟩
     go_wp2_with fail
     go_roundw
     case rel=>exact ⟨3,af,aH,iu.out,ao.out⟩
     case measure=>exact ef
    ·have bF:Hid (k9 a b true p=(2,true)):=by show _=_;unfold k9;rw [bp (by rw [aq.out];simp),bp (by rw [lb.1 af];simp),bp (by rw [lb.2.1 af];simp),bB rfl]
     go_wp2_with fail
     go_ret2
     exact ⟨by show _=_;rw [bF.out];rfl,ao.aR⟩
   ·have bF:Hid (k9 a b c p=(0,false)):=by show _=_;unfold k9;rw [bp (by rw [aq.out];simp),bp (by rw [lb.1 af];simp),bp (by rw [lb.2.1 af];simp),bp (by rw [lb.2.2 af];simp)]
    go_wp2_with fail
    go_ret2
    exact ⟨by show _=_;rw [bF.out];rfl,ao.aR⟩
def jL (l:List bj) (s:ByteArray):Bool:=l.any fun e=>e.aa.id.toList==s.toList
theorem WJ (l:List bj) (s:ByteArray) (k:Nat) (hk:k<l.length):jL (l.take (k+1)) s=(jL (l.take k) s||(l[k].aa.id.toList==s.toList)):=by
 unfold jL;rw [gS hk,Gt];simp
theorem WK {l:List bj} {s:ByteArray} {k:Nat} (hk:k<l.length) (h:(l[k].aa.id.toList==s.toList)=true):jL l s=true:=Cw.2 ⟨l[k],iO hk,h⟩
theorem OW (x:bj) (p:aQ) (g:Nat) (w:World) {v:Bool} (hv:(x.aa.id.toList==p.id.toList)=v) (az:ar w g 40 p.cells) :
  Calls prog 122 #[.agg x.cells,.pointer (some ⟨g,0,none⟩)] w fun e w'=>e=.returned (.bool v)/\Below w.heap.size w w':=by
 have aA:=J ((aO w.heap.size w).alloc aF (.cells x.cells 66));have bt:(w.alloc (.cells x.cells 66)).cell? ⟨g,0,none⟩=some (.string p.id):=(az.alloc _).cell 0;have aT:=az.lt;clear az
 go_enter func122,ntmps122
 go_wp2_with fail;go_ret;exact ⟨rfl,aA.out⟩
def WL (l:List bj) (s:ByteArray) (w:World) (e:Ending) (w':World):Prop:=∃ z:Int,e=.returned (.i z)/\decide (0<=z)=jL l s/\Below w.heap.size w w'
theorem WM (l:List bj) (p:aQ) (g:Nat) (A:Option Addr) (c:Nat) (w:World) (hr:a7 w cR A l) (hn:l.length<=9223372036854775807) (az:ar w g 40 p.cells) :
  Calls prog 175 #[.slice A l.length c,.func (.func 122) #[] #[.pointer (some ⟨g,0,none⟩)]] w (WL l p.id w):=by
 have bx:=J hr;have b4:=J az;clear hr az
 go_enter func175,ntmps175
 go_wp2_with fail
 go_loopw [5,8] (fun OX ii wr=>∃ i:Nat,i<=l.length/\ii=.i i/\jL (l.take i) p.id=false/\Below w.heap.size w wr) (fun _ ii _=>l.length-(intOf ii).toNat)
 case atStart=>exact ⟨0,af,rfl,rfl,aO _ _⟩
 case round =>
  obtain ⟨i,hi,rfl,h0,du⟩:=hrel;have lb:=J h0;have ap:=J du;clear h0 du
  by_cases aT:i<l.length
  ·have cg:decide ((i:Int)<(l.length:Int))=true:=bO af
   have lG:(i:Int)<(l.length:Int):=af;obtain ⟨b,off,hA,_⟩:=bx.jM aT;obtain rfl:A=some ⟨b,off,none⟩:=hA;have oC:=J (dF aT);have o7:=J (WJ l p.id i aT);have J2:=J (WK (s:=p.id) aT);generalize l[i]=x at *
   obtain ⟨dK,c8,dT,hj,jt,o8,oD,o9,pa,pb,pc,vh⟩:=bx.wT ap.out oC.out;go_wp2_with fail
   cases hv:(x.aa.id.toList==p.id.toList)
   ·have bs:Hid (jL (l.take (i+1)) p.id=false):=by show _=_;rw [o7.out,lb.out,hv];rfl
    refine (OW x p g _ hv (b4.bw ap)).mono ?_;rintro e aM ⟨rfl,hb⟩;have ap:=J (vk ap hb);clear hb hv dK c8 dT hj jt o8 oD o9 pa pb pc vh;go_wp2_with fail
    go_roundw
    case rel=>exact ⟨i+1,af,cm,bs.out,ap.out⟩
    case measure=>exact c4
   ·have bs:Hid (jL l p.id=true):=J2.out hv
    refine (OW x p g _ hv (b4.bw ap)).mono ?_;rintro e aM ⟨rfl,hb⟩;have ap:=J (vk ap hb);clear hb hv dK c8 dT hj jt o8 oD o9 pa pb pc vh;go_wp2_with fail;go_ret;exact ⟨(i:Int),rfl,by rw [bs.out];exact bO af,ap.out⟩
  ·obtain rfl:i=l.length:=by omega
   have cg:decide ((l.length:Int)<(l.length:Int))=false:=av;rw [kn] at lb
   go_wp2_with fail;go_ret;exact ⟨-1,rfl,by rw [lb.out];rfl,ap.out⟩
theorem WN (l:List bj) (p:aQ) (g:Nat) (A:Option Addr) (c:Nat) (w:World) {v:Bool} (hv:jL l p.id=v) (hr:a7 w cR A l) (hn:l.length<=9223372036854775807) (az:ar w g 40 p.cells) :
  Calls prog 121 #[.slice A l.length c,.func (.func 122) #[] #[.pointer (some ⟨g,0,none⟩)]] w fun e w'=>e=.returned (.bool v)/\Below w.heap.size w w':=by
 have bx:=J hr;have b4:=J az;have bF:=J hv;clear hr az hv
 go_enter func121,ntmps121
 go_wp2_with fail;refine (WM l p g A c _ bx hn b4).mono ?_;rintro e aM ⟨z,rfl,bI,hb⟩;have aA:=J hb;rw [bF.out] at bI
 clear hb;go_wp2_with fail;go_ret;exact ⟨rfl,aA.out⟩
end Go.Proofs.YtmmchlfoplcnbaaGreatDoor
