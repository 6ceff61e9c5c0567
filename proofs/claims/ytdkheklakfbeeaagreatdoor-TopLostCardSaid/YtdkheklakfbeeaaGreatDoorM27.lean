/- Part 27 of the proof. -/
import Derived.WalkMore
import Derived.Shelf.SlIterI.Nil
import Derived.Shelf.SortM.Plain
import Derived.Shelf.SortM.SortNone
import Derived.Ground.GgzProg
import Derived.Ground.SlgmProg
import Derived.Test.YtdkheklakfbeeaaGreatDoorProg
import Derived.Test.YtdkheklakfbeeaaGreatDoorM26
set_option linter.all false
set_option maxRecDepth 100000
set_option maxHeartbeats 16000000
namespace Go.Proofs.YtdkheklakfbeeaaGreatDoor
open Go.RowKit Tryz
def supZ:Value:=.agg #[.int .u64 0,.int .u64 0,.int .i64 0,.int .i64 0,.int .i64 0,.int .i64 0,.bool false,.slice none 0 0,.slice none 0 0]
theorem supget_nil (w:World) :
  Cl 131 #[.string (bs [])] w fun e w'=>e=.returned (.tuple #[supZ,.int .i64 4])/\Kp NoB w w':=by
 have eu:=Zz (fun W=>cnew_any W []);have BU:Hid (∀W P,Blk W P 317 (Rd.cs ([],0))->Cl 183 #[.pointer (some ⟨P,0,none⟩)] W fun e w'=>e=.returned (.int .u64 0)/\Blk w' P 317 (Rd.cs ([],3))/\Kp (·=P) W w'):=Zz fun W P hB=>v_y W P ([],0) (by decide) hB;have o8:Hid (∀W P,Blk W P 317 (Rd.cs ([],3))->Cl 183 #[.pointer (some ⟨P,0,none⟩)] W fun e w'=>e=.returned (.int .u64 0)/\Blk w' P 317 (Rd.cs ([],3))/\Kp (·=P) W w'):=Zz fun W P hB=>v_y W P ([],3) (by decide) hB
 have aJ:Hid (∀W P (b:Nat),1<=b->b<=1000->Blk W P 317 (Rd.cs ([],3))->Cl 179 #[.pointer (some ⟨P,0,none⟩),.int .i64 b] W fun e w'=>e=.returned (.int .i64 0)/\Blk w' P 317 (Rd.cs ([],3))/\Kp (·=P) W w'):=Zz fun W P b h1 h2 hB=>by
  have h:=w_2 W P ([],3) (by decide) (by decide) b h1 (by omega) hB
  have e1:Rd.below ([],3) b=0:=by unfold Rd.below;rw[if_neg];rintro ⟨h,_⟩;exact absurd h (by decide)
  have e2:Rd.belowS ([],3) b=([],3):=by unfold Rd.belowS;rw[if_neg];rfl;rintro ⟨h,_⟩;exact absurd h (by decide)
  rw[e1,e2] at h;exact h
 have sO:Hid (∀W P,Blk W P 317 (Rd.cs ([],3))->Cl 180 #[.pointer (some ⟨P,0,none⟩)] W fun e w'=>e=.returned (.int .i64 3)/\w'=W):=Zz fun W P hB=>done_any W P ([],3) hB;have ak:=Zz (Blk.new w 60 #[.int .u64 0,.int .u64 0,.int .i64 0,.int .i64 0,.int .i64 0,.int .i64 0,.bool false,.slice none 0 0,.slice none 0 0]);have aW:=Zz ((Kp.refl NoB w).alloc (.cells #[.int .u64 0,.int .u64 0,.int .i64 0,.int .i64 0,.int .i64 0,.int .i64 0,.bool false,.slice none 0 0,.slice none 0 0] 60));go_enter func131,ntmps131
 go_upto_region 1 with fail
 generalize w.alloc (.cells #[.int .u64 0,.int .u64 0,.int .i64 0,.int .i64 0,.int .i64 0,.int .i64 0,.bool false,.slice none 0 0,.slice none 0 0] 60)=w1 at *;obtain ⟨G2,tE⟩:∃G2,w.heap.size=G2:=⟨_,rfl⟩;rw[tE] at ak ⊢;have BT:=Zz tE;clear tE;go_wp2_with fail;refine (eu.o w1).mono ?_;rintro e w2 ⟨rfl,hP,ag⟩;have HP:=Zz hP;have al:=Zz (aW.o.trans ag);have mL:=Zz (ak.o.kp ag fun h=>h);have dR:Hid (w.heap.size<=w1.heap.size):=Zz aW.o.size
 have EZ:w1.heap.size≠G2:=fun e=>by have:=ak.o.lt;omega
 have dr:=Zz EZ;clear hP ag EZ ak aW eu;generalize w1.heap.size=P at *
 go_upto_region 3 with fail
 have aI:=Zz (Blk.new w2 60 #[.int .u64 0,.int .u64 0,.int .i64 0,.int .i64 0,.int .i64 0,.int .i64 0,.bool false,.slice none 0 0,.slice none 0 0]);have ar:=Zz (al.o.alloc (.cells #[.int .u64 0,.int .u64 0,.int .i64 0,.int .i64 0,.int .i64 0,.int .i64 0,.bool false,.slice none 0 0,.slice none 0 0] 60));have cD:=Zz (mL.o.alloc (.cells #[.int .u64 0,.int .u64 0,.int .i64 0,.int .i64 0,.int .i64 0,.int .i64 0,.bool false,.slice none 0 0,.slice none 0 0] 60));have eZ:=Zz (HP.o.alloc (.cells #[.int .u64 0,.int .u64 0,.int .i64 0,.int .i64 0,.int .i64 0,.int .i64 0,.bool false,.slice none 0 0,.slice none 0 0] 60));have aU:Hid (w2.heap.size≠P/\w2.heap.size≠G2/\w.heap.size<=w2.heap.size):=Zz ⟨fun e=>by have:=HP.o.lt;omega,fun e=>by have:=mL.o.lt;omega,al.o.size⟩;clear al mL HP;generalize w2.alloc (.cells #[.int .u64 0,.int .u64 0,.int .i64 0,.int .i64 0,.int .i64 0,.int .i64 0,.bool false,.slice none 0 0,.slice none 0 0] 60)=w3 at *;generalize w2.heap.size=G at *;have HX:=Zz (BU.o w3 P eZ.o);go_wp2_with fail;refine HX.o.mono ?_;rintro e w4 ⟨rfl,gh,aw⟩;have iL:=Zz gh;have aV:=aI.o.kp aw fun e=>aU.o.1 e;have dI:=Zz (cD.o.kp aw fun e=>dr.o (Eq.symm e));have az:=Zz (ar.o.then aw fun q hq e=>(by have:=dR.o;have e:q=P:=e;omega:False));have c0:=aV.cell 0;have f0:=aV.frozen 0;have dQ:=Zz ((Kp.refl (fun q=>q=G) w4).setCell ⟨G,0,none⟩ (.int .u64 0) (.inl rfl));have eI:Hid (Blk (w4.setCell ⟨G,0,none⟩ (.int .u64 0)) G 60 #[.int .u64 0,.int .u64 0,.int .i64 0,.int .i64 0,.int .i64 0,.int .i64 0,.bool false,.slice none 0 0,.slice none 0 0]):=Zz (aV.set_ 0 (.int .u64 0));have eJ:=Zz (iL.o.kp dQ.o fun e=>aU.o.1 (Eq.symm e));have cH:=Zz (dI.o.kp dQ.o fun e=>aU.o.2.1 (Eq.symm e));have eK:=Zz (az.o.then dQ.o fun q hq e=>(by have:=aU.o.2.2;have e:q=G:=e;omega:False));clear gh aw aV aI cD ar eZ HX
 go_upto_region 4 with fail
 clear c0 f0 iL dI az dQ;generalize w4.setCell ⟨G,0,none⟩ (.int .u64 0)=w3 at *;have aI:=eI;have eZ:=eJ;have cD:=cH;have ar:=eK;clear eI eJ cH eK;have HX:=Zz (o8.o w3 P eZ.o);go_wp2_with fail;refine HX.o.mono ?_;rintro e w4 ⟨rfl,gh,aw⟩;have iL:=Zz gh;have aV:=aI.o.kp aw fun e=>aU.o.1 e;have dI:=Zz (cD.o.kp aw fun e=>dr.o (Eq.symm e));have az:=Zz (ar.o.then aw fun q hq e=>(by have:=dR.o;have e:q=P:=e;omega:False));have c0:=aV.cell 1;have f0:=aV.frozen 1;have dQ:=Zz ((Kp.refl (fun q=>q=G) w4).setCell ⟨G,1,none⟩ (.int .u64 0) (.inl rfl));have eI:Hid (Blk (w4.setCell ⟨G,1,none⟩ (.int .u64 0)) G 60 #[.int .u64 0,.int .u64 0,.int .i64 0,.int .i64 0,.int .i64 0,.int .i64 0,.bool false,.slice none 0 0,.slice none 0 0]):=Zz (aV.set_ 1 (.int .u64 0));have eJ:=Zz (iL.o.kp dQ.o fun e=>aU.o.1 (Eq.symm e));have cH:=Zz (dI.o.kp dQ.o fun e=>aU.o.2.1 (Eq.symm e));have eK:=Zz (az.o.then dQ.o fun q hq e=>(by have:=aU.o.2.2;have e:q=G:=e;omega:False));clear gh aw aV aI cD ar eZ HX
 go_upto_region 5 with fail
 clear c0 f0 iL dI az dQ;generalize w4.setCell ⟨G,1,none⟩ (.int .u64 0)=w3 at *;have aI:=eI;have eZ:=eJ;have cD:=cH;have ar:=eK;clear eI eJ cH eK
 go_upto_region 6 with fail
 go_loopw [7,21] (fun _ s21 wr=>∃i:Nat,i<=4/\s21=.int .i64 i/\Hid (Blk wr P 317 (Rd.cs ([],3)))/\Hid (Blk wr G 60 #[.int .u64 0,.int .u64 0,.int .i64 0,.int .i64 0,.int .i64 0,.int .i64 0,.bool false,.slice none 0 0,.slice none 0 0])/\Hid (Blk wr G2 60 #[.int .u64 0,.int .u64 0,.int .i64 0,.int .i64 0,.int .i64 0,.int .i64 0,.bool false,.slice none 0 0,.slice none 0 0])/\Hid (Kp NoB w wr)) (fun _ s21 _=>4-(intOf s21).toNat)
 case atStart=>exact ⟨0,by omega,rfl,eZ,aI,cD,ar⟩
 case round =>
  clear eZ aI cD ar;obtain ⟨i,hi,rfl,eZ,aI,cD,ar⟩:=hrel
  match i,hi with
  | 0,_ =>
   obtain ⟨eO,ew,eN,jx⟩:=idx4 G wr;have HX:=Zz (aJ.o wr P 17 (by decide) (by decide) eZ.o);go_wp2_with fail;refine HX.o.mono ?_;rintro e w4 ⟨rfl,gh,aw⟩;have iL:=Zz gh;have aV:=aI.o.kp aw fun e=>aU.o.1 e;have dI:=Zz (cD.o.kp aw fun e=>dr.o (Eq.symm e));have az:=Zz (ar.o.then aw fun q hq e=>(by have:=dR.o;have e:q=P:=e;omega:False));have c0:=aV.cell 2;have f0:=aV.frozen 2;have dQ:=Zz ((Kp.refl (fun q=>q=G) w4).setCell ⟨G,2,none⟩ (.int .i64 0) (.inl rfl));have eI:Hid (Blk (w4.setCell ⟨G,2,none⟩ (.int .i64 0)) G 60 #[.int .u64 0,.int .u64 0,.int .i64 0,.int .i64 0,.int .i64 0,.int .i64 0,.bool false,.slice none 0 0,.slice none 0 0]):=Zz (aV.set_ 2 (.int .i64 0));have eJ:=Zz (iL.o.kp dQ.o fun e=>aU.o.1 (Eq.symm e));have cH:=Zz (dI.o.kp dQ.o fun e=>aU.o.2.1 (Eq.symm e));have eK:=Zz (az.o.then dQ.o fun q hq e=>(by have:=aU.o.2.2;have e:q=G:=e;omega:False));clear gh aw aV aI cD ar eZ HX;go_wp2;go_roundw
   case rel=>exact ⟨1,by omega,by go_num,eJ,eI,cH,eK⟩
   case measure=>simp[intOf]
  | 1,_ =>
   obtain ⟨eO,ew,eN,jx⟩:=idx4 G wr;have HX:=Zz (aJ.o wr P 17 (by decide) (by decide) eZ.o);go_wp2_with fail;refine HX.o.mono ?_;rintro e w4 ⟨rfl,gh,aw⟩;have iL:=Zz gh;have aV:=aI.o.kp aw fun e=>aU.o.1 e;have dI:=Zz (cD.o.kp aw fun e=>dr.o (Eq.symm e));have az:=Zz (ar.o.then aw fun q hq e=>(by have:=dR.o;have e:q=P:=e;omega:False));have c0:=aV.cell 3;have f0:=aV.frozen 3;have dQ:=Zz ((Kp.refl (fun q=>q=G) w4).setCell ⟨G,3,none⟩ (.int .i64 0) (.inl rfl));have eI:Hid (Blk (w4.setCell ⟨G,3,none⟩ (.int .i64 0)) G 60 #[.int .u64 0,.int .u64 0,.int .i64 0,.int .i64 0,.int .i64 0,.int .i64 0,.bool false,.slice none 0 0,.slice none 0 0]):=Zz (aV.set_ 3 (.int .i64 0));have eJ:=Zz (iL.o.kp dQ.o fun e=>aU.o.1 (Eq.symm e));have cH:=Zz (dI.o.kp dQ.o fun e=>aU.o.2.1 (Eq.symm e));have eK:=Zz (az.o.then dQ.o fun q hq e=>(by have:=aU.o.2.2;have e:q=G:=e;omega:False));clear gh aw aV aI cD ar eZ HX;go_wp2;go_roundw
   case rel=>exact ⟨2,by omega,by go_num,eJ,eI,cH,eK⟩
   case measure=>simp[intOf]
  | 2,_ =>
   obtain ⟨eO,ew,eN,jx⟩:=idx4 G wr;have HX:=Zz (aJ.o wr P 17 (by decide) (by decide) eZ.o);go_wp2_with fail;refine HX.o.mono ?_;rintro e w4 ⟨rfl,gh,aw⟩;have iL:=Zz gh;have aV:=aI.o.kp aw fun e=>aU.o.1 e;have dI:=Zz (cD.o.kp aw fun e=>dr.o (Eq.symm e));have az:=Zz (ar.o.then aw fun q hq e=>(by have:=dR.o;have e:q=P:=e;omega:False));have c0:=aV.cell 4;have f0:=aV.frozen 4;have dQ:=Zz ((Kp.refl (fun q=>q=G) w4).setCell ⟨G,4,none⟩ (.int .i64 0) (.inl rfl));have eI:Hid (Blk (w4.setCell ⟨G,4,none⟩ (.int .i64 0)) G 60 #[.int .u64 0,.int .u64 0,.int .i64 0,.int .i64 0,.int .i64 0,.int .i64 0,.bool false,.slice none 0 0,.slice none 0 0]):=Zz (aV.set_ 4 (.int .i64 0));have eJ:=Zz (iL.o.kp dQ.o fun e=>aU.o.1 (Eq.symm e));have cH:=Zz (dI.o.kp dQ.o fun e=>aU.o.2.1 (Eq.symm e));have eK:=Zz (az.o.then dQ.o fun q hq e=>(by have:=aU.o.2.2;have e:q=G:=e;omega:False));clear gh aw aV aI cD ar eZ HX;go_wp2;go_roundw
   case rel=>exact ⟨3,by omega,by go_num,eJ,eI,cH,eK⟩
   case measure=>simp[intOf]
  | 3,_ =>
   obtain ⟨eO,ew,eN,jx⟩:=idx4 G wr;have HX:=Zz (aJ.o wr P 17 (by decide) (by decide) eZ.o);go_wp2_with fail;refine HX.o.mono ?_;rintro e w4 ⟨rfl,gh,aw⟩;have iL:=Zz gh;have aV:=aI.o.kp aw fun e=>aU.o.1 e;have dI:=Zz (cD.o.kp aw fun e=>dr.o (Eq.symm e));have az:=Zz (ar.o.then aw fun q hq e=>(by have:=dR.o;have e:q=P:=e;omega:False));have c0:=aV.cell 5;have f0:=aV.frozen 5;have dQ:=Zz ((Kp.refl (fun q=>q=G) w4).setCell ⟨G,5,none⟩ (.int .i64 0) (.inl rfl));have eI:Hid (Blk (w4.setCell ⟨G,5,none⟩ (.int .i64 0)) G 60 #[.int .u64 0,.int .u64 0,.int .i64 0,.int .i64 0,.int .i64 0,.int .i64 0,.bool false,.slice none 0 0,.slice none 0 0]):=Zz (aV.set_ 5 (.int .i64 0));have eJ:=Zz (iL.o.kp dQ.o fun e=>aU.o.1 (Eq.symm e));have cH:=Zz (dI.o.kp dQ.o fun e=>aU.o.2.1 (Eq.symm e));have eK:=Zz (az.o.then dQ.o fun q hq e=>(by have:=aU.o.2.2;have e:q=G:=e;omega:False));clear gh aw aV aI cD ar eZ HX;go_wp2;go_roundw
   case rel=>exact ⟨4,by omega,by go_num,eJ,eI,cH,eK⟩
   case measure=>simp[intOf]
  | 4,_ =>
   have HX:=Zz (aJ.o wr P 2 (by decide) (by decide) eZ.o);go_wp2_with fail;refine HX.o.mono ?_;rintro e w4 ⟨rfl,gh,aw⟩;have iL:=Zz gh;have aV:=aI.o.kp aw fun e=>aU.o.1 e;have dI:=Zz (cD.o.kp aw fun e=>dr.o (Eq.symm e));have az:=Zz (ar.o.then aw fun q hq e=>(by have:=dR.o;have e:q=P:=e;omega:False));have c0:=aV.cell 6;have f0:=aV.frozen 6;have dQ:=Zz ((Kp.refl (fun q=>q=G) w4).setCell ⟨G,6,none⟩ (.bool false) (.inl rfl));have eI:Hid (Blk (w4.setCell ⟨G,6,none⟩ (.bool false)) G 60 #[.int .u64 0,.int .u64 0,.int .i64 0,.int .i64 0,.int .i64 0,.int .i64 0,.bool false,.slice none 0 0,.slice none 0 0]):=Zz (aV.set_ 6 (.bool false));have eJ:=Zz (iL.o.kp dQ.o fun e=>aU.o.1 (Eq.symm e));have cH:=Zz (dI.o.kp dQ.o fun e=>aU.o.2.1 (Eq.symm e));have eK:=Zz (az.o.then dQ.o fun q hq e=>(by have:=aU.o.2.2;have e:q=G:=e;omega:False));clear gh aw aV aI cD ar eZ HX
   go_upto_region 11 with fail
   clear c0 f0 iL dI az dQ;generalize w4.setCell ⟨G,6,none⟩ (.bool false)=w3 at *;have aI:=eI;have eZ:=eJ;have cD:=cH;have ar:=eK;clear eI eJ cH eK;have HX:=Zz (aJ.o w3 P 13 (by decide) (by decide) eZ.o);go_wp2_with fail;refine HX.o.mono ?_;rintro e w5 ⟨rfl,Cy,aG⟩;have gH:=Zz Cy;have qQ:=Zz (aI.o.kp aG fun e=>aU.o.1 e);have qR:=Zz (cD.o.kp aG fun e=>dr.o (Eq.symm e));have ax:=Zz (ar.o.then aG fun q hq e=>(by have:=dR.o;have e:q=P:=e;omega:False));clear Cy aG HX eZ aI cD ar
   go_upto_region 12 with fail
   go_loopw [35] (fun s35 wr=>s35=.int .i64 0/\wr=w5) (fun _ _=>0)
   case atStart=>exact ⟨rfl,rfl⟩
   case round =>
    obtain ⟨rfl,rfl⟩:=hrel;have HX:=Zz (aJ.o wr P 13 (by decide) (by decide) gH.o);go_wp2_with fail;refine HX.o.mono ?_;rintro e w6 ⟨rfl,ju,ap⟩;have kR:=Zz ju;have qS:=Zz (qQ.o.kp ap fun e=>aU.o.1 e);have eH:=Zz (qR.o.kp ap fun e=>dr.o (Eq.symm e));have aB:=Zz (ax.o.then ap fun q hq e=>(by have:=dR.o;have e:q=P:=e;omega:False));clear ju ap HX gH qQ qR ax
    go_upto_region 16 with fail
    go_loopw [47] (fun s47 wr=>s47=.int .i64 0/\wr=w6) (fun _ _=>0)
    case atStart=>exact ⟨rfl,rfl⟩
    case round =>
     obtain ⟨rfl,rfl⟩:=hrel;have HX:=Zz (sO.o wr P kR.o);go_wp2_with fail;refine HX.o.mono ?_;rintro e w7 ⟨rfl,rfl⟩
     have jC:(prog.info? 60).map (·.size)=some 9:=by kernel_rfl
     have aD:(#[.int .u64 0,.int .u64 0,.int .i64 0,.int .i64 0,.int .i64 0,.int .i64 0,.bool false,.slice none 0 0,.slice none 0 0]:Array Value).all (·.oneCell')=true:=by simp[Value.oneCell']
     go_wp2_with (refine wpList_store_row rfl 60 (.tmp 2) (.tmp 65) rfl G2 _ rfl rfl 60 _ eH.o jC rfl aD ?_)
     have yS:=eH.o.setRow (cs':=#[.int .u64 0,.int .u64 0,.int .i64 0,.int .i64 0,.int .i64 0,.int .i64 0,.bool false,.slice none 0 0,.slice none 0 0]);have aM:Kp (fun q=>q=G2) w7 (w7.setRow G2 #[.int .u64 0,.int .u64 0,.int .i64 0,.int .i64 0,.int .i64 0,.int .i64 0,.bool false,.slice none 0 0,.slice none 0 0]):=(Kp.refl _ w7).setRow G2 _ (.inl rfl);refine bodyPost_ret (w_t rfl rfl yS underlying60 rfl jC) rfl ?_;exact ⟨rfl,aB.o.then aM fun q hq e=>(by have:=BT.o;have e:q=G2:=e;omega:False)⟩
theorem SupO.more {w:World} {b b':Nat} {S:Sup} {vs vm:Value} (h:SupO w b S vs vm) (hb:b'<=b):SupO w b' S vs vm:=⟨h.seats.more hb,w_r h.mems hb⟩
section
variable {w:World} {b n an:Nat} {key:List UInt8} {σ:Nat->DkS} {F:Nat->Prop}
theorem mfind_any (hL:Lay w) (h:Bk w b n σ F) (hw:10<=w.heap.size) (ac:Nat) (S:Sup) (hS:SupOk S) (gi:S.mem.length=n) (ha:Blk w an 180 #[.int .u64 ac,.string (bs (z_Z (z_t S)))])
  (k oF:Nat) (hk:k<n) (cV:∀i,i<k->(σ i).dead=true) (jb:(σ k).dead=false) (br:oF<2) (hc:tl (σ k).now oF=bs (z_t S)) (c0:List UInt8) (h0:oF=1->tl (σ k).now 0=bs c0/\c0.length<=2048/\(c0=[]\/z_Z c0≠z_Z (z_t S))) :
  Cl 87 #[.agg (mdC b an key)] w fun e w'=>∃vs vm,e=.returned (.tuple #[.agg (z_N S vs vm),.int .i64 0])/\SupO w' w.heap.size S vs vm/\Kp NoB w w':=by
 have HB:=Zz ((Blk.new w 113 (mdC b an key)).alloc (.cells #[.int .u64 0,.int .u64 0,.int .i64 0,.int .i64 0,.int .i64 0,.int .i64 0,.bool false,.slice none 0 0,.slice none 0 0] 60));have HK:=Zz (((Kp.refl NoB w).alloc (.cells (mdC b an key) 113)).alloc (.cells #[.int .u64 0,.int .u64 0,.int .i64 0,.int .i64 0,.int .i64 0,.int .i64 0,.bool false,.slice none 0 0,.slice none 0 0] 60));have HC:=Zz (Blk.new (w.alloc (.cells (mdC b an key) 113)) 60 #[.int .u64 0,.int .u64 0,.int .i64 0,.int .i64 0,.int .i64 0,.int .i64 0,.bool false,.slice none 0 0,.slice none 0 0]);rw[World.size_alloc] at HC;have y9:=Zz (fun W (k:Kp NoB w W)=>aget_any W an ac _ (ha.kp k fun h=>h));have b6:=Zz (fun W (k:Kp NoB w W)=>v_J (h.no k));have dc:=Zz (fun W (k:Kp NoB w W) i at' (hi:i<n) (br:at'<140)=>x_L (h.no k) i at' hi br);have Bj:=Zz (fun W (k:Kp NoB w W) l (hl:l.length<=90000000)=>digest_sup W (hL.no k) (by have:=k.size;omega) l hl);have Fi:=Zz supget_nil;have Dv:=Zz (fun W=>supget_any W S hS);have fx:=Zz (supB_len hS);have Je:=Zz cV;have zp:=Zz h0;have mG:=Zz hc;have eC:=Zz jb
 have dy:n<=12:=by obtain ⟨G,c,st,A,Φ,h0,_⟩:=h;exact h0.n12
 have fK:Hid (∀vs vm,z_N S vs vm=#[.int .u64 S.count,.int .u64 S.epoch,.int .i64 S.data,.int .i64 S.slots,.int .i64 0,.int .i64 0,.bool false,vs,vm]):=Zz fun _ _=>rfl;clear hL h hw hS ha cV jb hc h0;change Cl 87 #[.agg #[.pointer (some ⟨b,0,none⟩),.pointer (some ⟨an,0,none⟩),.string (bs key)]] w _;go_enter func87,ntmps87
 go_upto_region 1 with fail
 change Code.wp _ _ _ _ ((w.alloc (.cells (mdC b an key) 113)).alloc (.cells #[.int .u64 0,.int .u64 0,.int .i64 0,.int .i64 0,.int .i64 0,.int .i64 0,.bool false,.slice none 0 0,.slice none 0 0] 60));generalize (w.alloc (.cells (mdC b an key) 113)).alloc (.cells #[.int .u64 0,.int .u64 0,.int .i64 0,.int .i64 0,.int .i64 0,.int .i64 0,.bool false,.slice none 0 0,.slice none 0 0] 60)=w1 at *;obtain ⟨G,hG⟩:∃G,w.heap.size=G:=⟨_,rfl⟩;rw[hG] at HB HC ⊢;have cR:=Zz hG;clear hG
 go_step3
 have m0:=HB.o.c0;have m1:=HB.o.c1;go_wp2_with fail;refine (y9.o _ HK.o).mono ?_;rintro e w2 ⟨rfl,ag⟩;have ak:=Zz (HB.o.kp ag fun h=>h);have mp:=Zz (HC.o.kp ag fun h=>h);have al:=Zz (HK.o.trans ag);clear ag m0 m1 HB HC HK y9;have m0:=ak.o.c0;have m1:=ak.o.c1;go_wp2
 go_step3
 go_wp2_with fail;refine (b6.o _ al.o).mono ?_;rintro e w2 ⟨rfl,rfl⟩;clear m0 m1;have dU:=Zz (Kp.refl NoB w2)
 go_upto_region 3 with fail
 go_loopw [6,7,8,9,10,11,21] (fun _ _ _ _ _ _ s21 wr=>∃i:Nat,i<=k/\s21=.int .i64 i/\Hid (Kp NoB w2 wr)) (fun _ _ _ _ _ _ s21 _=>n-(intOf s21).toNat)
 case atStart=>exact ⟨0,by omega,rfl,dU⟩
 case round =>
  clear dU;obtain ⟨i,hi,rfl,dU⟩:=hrel
  have bV:(i:Int)<(n:Int):=by omega
  by_cases MY:i<k
  ·have BV:=Je.o i MY
   go_upto_region 6 with fail
   go_loopw [7,8,9,10,11,24] (fun _ _ _ _ _ s24 wr=>s24=.int .i64 0/\Hid (Kp NoB w2 wr)) (fun _ _ _ _ _ _ _=>0)
   case atStart=>exact ⟨rfl,dU⟩
   case round =>
    clear dU;obtain ⟨rfl,dU⟩:=hrel;have dF:=Zz (ak.o.kp dU.o fun h=>h);have m0:=dF.o.c0;have m1:=dF.o.c1;have HR:=Zz (dc.o wr (al.o.trans dU.o) i 0 (by omega) (by decide));rw[BV] at HR;simp only[if_true] at HR;clear BV;go_wp2_with fail;refine HR.o.mono ?_;rintro e w3 ⟨rfl,rfl⟩;go_wp2;exact ⟨⟨i+1,by omega,by go_num,dU⟩,by simp[intOf];omega⟩
  ·obtain rfl:i=k:=by omega
   have sH:oF<=1:=by omega
   go_upto_region 6 with fail
   go_loopw [7,8,9,10,11,24] (fun _ _ _ _ _ s24 wr=>∃a:Nat,a<=oF/\s24=.int .i64 a/\Hid (Kp NoB w2 wr)) (fun _ _ _ _ _ s24 _=>2-(intOf s24).toNat)
   case atStart=>exact ⟨0,by omega,rfl,dU⟩
   case round =>
    clear dU;obtain ⟨a,ha,rfl,dU⟩:=hrel;have dF:=Zz (ak.o.kp dU.o fun h=>h);have ox:=Zz (mp.o.kp dU.o fun h=>h)
    have hai:(a:Int)<2:=by omega
    have m0:=dF.o.c0;have m1:=dF.o.c1;have HR:=Zz (dc.o wr (al.o.trans dU.o) i a (by omega) (by omega));rw[eC.o] at HR;simp only[Bool.false_eq_true,if_false] at HR;by_cases haa:a<oF
    ·obtain rfl:a=0:=by omega
     obtain rfl:oF=1:=by omega
     obtain ⟨q1,q2,q3⟩:=zp.o rfl;rw[q1] at HR;have HD:=Zz (Bj.o wr (al.o.trans dU.o) c0 (by omega));have Yz:=Zz q3;clear q1 q2 q3;go_wp2_with fail;refine HR.o.mono ?_;rintro e w3 ⟨rfl,rfl⟩;by_cases Jf:z_Z c0=z_Z (z_t S)
     ·obtain rfl:c0=[]:=by
       rcases Yz.o with h|h
       ·exact h
       ·exact absurd Jf h
      rw[Jf] at HD;go_wp2_with fail;refine HD.o.mono ?_;rintro e w4 ⟨rfl,aw⟩;have bR:=Zz (dF.o.kp aw fun h=>h);have az:=Zz (dU.o.trans aw);clear aw m0 m1 dF dU ox;go_wp2_with fail;refine (Fi.o w4).mono ?_;rintro e w5 ⟨rfl,aG⟩;have ax:=Zz ((az.o.trans aG).alloc (.cells #[.int .u64 0,.int .u64 0,.int .i64 0,.int .i64 0,.int .i64 0,.int .i64 0,.bool false,.slice none 0 0,.slice none 0 0] 60));clear aG az;unfold supZ;go_wp2;go_roundw
      case rel=>exact ⟨1,by omega,by go_num,ax⟩
      case measure=>simp[intOf]
     ·have aA:¬bs (z_Z c0)=bs (z_Z (z_t S)):=fun e=>Jf (bs_inj.1 e)
      obtain ⟨am,bW⟩:=ba_no aA;go_wp2_with fail;refine HD.o.mono ?_;rintro e w4 ⟨rfl,aw⟩;have az:=Zz (dU.o.trans aw);clear aw m0 m1 dF dU ox;go_wp2;go_roundw
      case rel=>exact ⟨1,by omega,by go_num,az⟩
      case measure=>simp[intOf]
    ·obtain rfl:a=oF:=by omega
     rw[mG.o] at HR;have HD:=Zz (Bj.o wr (al.o.trans dU.o) (z_t S) (by have:=fx.o;omega));go_wp2_with fail;refine HR.o.mono ?_;rintro e w3 ⟨rfl,rfl⟩;go_wp2_with fail;refine HD.o.mono ?_;rintro e w4 ⟨rfl,aw⟩;have bR:=Zz (dF.o.kp aw fun h=>h);have Sv:=Zz (ox.o.kp aw fun h=>h);have az:=Zz (dU.o.trans aw);clear aw m0 m1 dF dU ox;go_wp2_with fail;refine (Dv.o w4).mono ?_;rintro e w5 ⟨vs,vm,rfl,cP,aG⟩;have ir:=Zz cP;have aY:=Zz (bR.o.kp aG fun h=>h);have ql:=Zz (Sv.o.kp aG fun h=>h);have ax:=Zz (az.o.trans aG);have mN:Hid (w.heap.size<=w4.heap.size):=Zz (q_g al.o.size az.o.size);clear aG cP bR Sv az;obtain ⟨As,cs,Am,cm,cQ,cq⟩:=ir.o.reads.shape;subst cQ cq;rw[fK.o];rw[gi] at ir ⊢;have jZ:=Zz (Blk.new w5 60 #[.int .u64 S.count,.int .u64 S.epoch,.int .i64 S.data,.int .i64 S.slots,.int .i64 0,.int .i64 0,.bool false,.slice As (S.data+2) cs,.slice Am n cm]);have bk:=Zz (aY.o.alloc (.cells #[.int .u64 S.count,.int .u64 S.epoch,.int .i64 S.data,.int .i64 S.slots,.int .i64 0,.int .i64 0,.bool false,.slice As (S.data+2) cs,.slice Am n cm] 60));have Fk:=Zz (ql.o.alloc (.cells #[.int .u64 S.count,.int .u64 S.epoch,.int .i64 S.data,.int .i64 S.slots,.int .i64 0,.int .i64 0,.bool false,.slice As (S.data+2) cs,.slice Am n cm] 60));have aB:=Zz (ax.o.alloc (.cells #[.int .u64 S.count,.int .u64 S.epoch,.int .i64 S.data,.int .i64 S.slots,.int .i64 0,.int .i64 0,.bool false,.slice As (S.data+2) cs,.slice Am n cm] 60));have jm:=Zz (ir.o.no ((Kp.refl NoB w5).alloc (.cells #[.int .u64 S.count,.int .u64 S.epoch,.int .i64 S.data,.int .i64 S.slots,.int .i64 0,.int .i64 0,.bool false,.slice As (S.data+2) cs,.slice Am n cm] 60)))
     go_upto_region 15 with fail
     generalize w5.alloc (.cells #[.int .u64 S.count,.int .u64 S.epoch,.int .i64 S.data,.int .i64 S.slots,.int .i64 0,.int .i64 0,.bool false,.slice As (S.data+2) cs,.slice Am n cm] 60)=w6 at *;obtain ⟨D,hD⟩:∃D,w5.heap.size=D:=⟨_,rfl⟩;rw[hD] at jZ ⊢;clear hD aY ql ax ir;have dM:Hid (Blk w6.drew G 113 (mdC b an key)):=bk;have BP:Hid (Blk w6.drew (G+1) 60 #[.int .u64 0,.int .u64 0,.int .i64 0,.int .i64 0,.int .i64 0,.int .i64 0,.bool false,.slice none 0 0,.slice none 0 0]):=Fk;have iM:Hid (Blk w6.drew D 60 #[.int .u64 S.count,.int .u64 S.epoch,.int .i64 S.data,.int .i64 S.slots,.int .i64 0,.int .i64 0,.bool false,.slice As (S.data+2) cs,.slice Am n cm]):=jZ;have bC:=Zz aB.o.drew;have fE:=Zz (jm.o.no (Kp.refl NoB w6).drew);have NK:=Zz (b6.o w6.drew (al.o.trans bC.o));clear bk Fk jZ aB jm;refine fs ?_;generalize w6.drew=w7 at *;have d8:=iM.o.c8;have m0:=dM.o.c0;refine fp 0 ?_;refine f_c 1 d8 ?_;refine fp 2 ?_;refine fp 3 ?_;refine f_c 4 m0 ?_;refine fd 5 fun K Qx hK=>?_;go_simp;refine NK.o.mono ?_;rintro e w8 ⟨rfl,rfl⟩;refine hK _ _ (oK m0 (oK d8 oN)) ?_;clear hK K d8 m0;refine fp 6 ?_;refine fe ?_;have k0:=iM.o.c0;have k1:=iM.o.c1;have k2:=iM.o.c2;have k3:=iM.o.c3;have k4:=iM.o.c4;have k5:=iM.o.c5;have k6:=iM.o.c6;have k7:=iM.o.c7;have k8:=iM.o.c8
     have jC:(prog.info? 60).map (·.size)=some 9:=by kernel_rfl
     have aD:(#[.int .u64 S.count,.int .u64 S.epoch,.int .i64 S.data,.int .i64 S.slots,.int .i64 0,.int .i64 0,.bool false,.slice As (S.data+2) cs,.slice Am n cm]:Array Value).all (·.oneCell')=true:=by simp[Value.oneCell']
     go_wp2_with (refine wpList_store_row rfl 60 (.tmp 2) (.tmp 63) rfl (G+1) _ rfl rfl 60 _ BP.o jC rfl aD ?_)
     have yS:=BP.o.setRow (cs':=#[.int .u64 S.count,.int .u64 S.epoch,.int .i64 S.data,.int .i64 S.slots,.int .i64 0,.int .i64 0,.bool false,.slice As (S.data+2) cs,.slice Am n cm]);have aM:Kp (fun q=>q=G+1) w8 (w8.setRow (G+1) #[.int .u64 S.count,.int .u64 S.epoch,.int .i64 S.data,.int .i64 S.slots,.int .i64 0,.int .i64 0,.bool false,.slice As (S.data+2) cs,.slice Am n cm]):=(Kp.refl _ w8).setRow (G+1) _ (.inl rfl)
     try rw[Exit.noGoto_ret]
     refine bodyPost_ret (w_t rfl rfl yS underlying60 rfl jC) rfl ?_;exact ⟨_,_,by rw[fK.o];rfl,(fE.o.kp aM (z_W fE.o.seats BP.o (by decide)) (z_W fE.o.mems BP.o (by decide))).more mN.o,(al.o.trans bC.o).then aM fun q hq e=>(by have:=cR.o;have e:q=G+1:=e;omega:False)⟩
end
end Go.Proofs.YtdkheklakfbeeaaGreatDoor
section
open Go.Proofs.Tryz
namespace Go.Proofs
open Go.Shelf
def Tryz.keysA_ren:Go.Shelf.Ren:=⟨fun|7=>226|10=>253|n=>n,fun|23=>86|26=>3|3=>9|28=>132|0=>0|27=>131|33=>137|4=>4|n=>n,fun|n=>n⟩
theorem Tryz.keysA:Go.Proofs.SlLaysZI.n7 prog Tryz.keysA_ren:={
 mixed:=by kernel_rfl
 f7:=⟨Tryz.f226.name,by decide,func226.trans (congrArg some (by kernel_rfl))⟩
 f10:=⟨Tryz.f253.name,by decide,func253.trans (congrArg some (by kernel_rfl))⟩
 t0:=underlying0
 a0:=isAgg0
 z0:=sizeOf0
 v0:=zeroValue0
 t4:=underlying4
 a4:=isAgg4
 z4:=sizeOf4
 v4:=zeroValue4
 t23:=underlying86
 a23:=isAgg86
 z23:=sizeOf86
 v23:=zeroValue86
 t26:=underlying3
 a26:=isAgg3
 z26:=sizeOf3
 v26:=zeroValue3
 t27:=underlying131
 a27:=isAgg131
 z27:=sizeOf131
 v27:=zeroValue131
 t28:=underlying132
 a28:=isAgg132
 z28:=sizeOf132
 v28:=zeroValue132
 t33:=underlying137
 a33:=isAgg137
 z33:=sizeOf137
 v33:=zeroValue137 }
def Tryz.keysB_ren:Go.Shelf.Ren:=⟨fun|7=>57|10=>98|n=>n,fun|23=>35|26=>3|3=>4|28=>132|0=>0|27=>131|33=>137|4=>4|n=>n,fun|n=>n⟩
theorem Tryz.keysB:Go.Proofs.SlLaysZI.n7 prog Tryz.keysB_ren:={
 mixed:=by kernel_rfl
 f7:=⟨Tryz.f57.name,by decide,func57.trans (congrArg some (by kernel_rfl))⟩
 f10:=⟨Tryz.f98.name,by decide,func98.trans (congrArg some (by kernel_rfl))⟩
 t0:=underlying0
 a0:=isAgg0
 z0:=sizeOf0
 v0:=zeroValue0
 t4:=underlying4
 a4:=isAgg4
 z4:=sizeOf4
 v4:=zeroValue4
 t23:=underlying35
 a23:=isAgg35
 z23:=sizeOf35
 v23:=zeroValue35
 t26:=underlying3
 a26:=isAgg3
 z26:=sizeOf3
 v26:=zeroValue3
 t27:=underlying131
 a27:=isAgg131
 z27:=sizeOf131
 v27:=zeroValue131
 t28:=underlying132
 a28:=isAgg132
 z28:=sizeOf132
 v28:=zeroValue132
 t33:=underlying137
 a33:=isAgg137
 z33:=sizeOf137
 v33:=zeroValue137 }
def Tryz.sortedA_ren:Go.Shelf.Ren:=⟨fun|6=>56|8=>96|9=>97|11=>146|13=>148|12=>147|23=>204|24=>205|14=>195|15=>196|16=>197|17=>198|18=>199|19=>200|20=>201|21=>202|22=>203|25=>235|26=>236|27=>237|28=>238|29=>239|30=>240|31=>259|n=>n,fun|26=>3|28=>132|24=>57|0=>0|3=>3|37=>214|48=>213|50=>29|4=>4|40=>288|39=>287|45=>293|5=>5|9=>9|51=>324|55=>277|57=>336|58=>337|33=>137|n=>n,fun|n=>n⟩
theorem Tryz.sortedA:Go.Proofs.SlLaysZI.n6 prog Tryz.sortedA_ren:={
 mixed:=by kernel_rfl
 f6:=⟨Tryz.f56.name,by decide,func56.trans (congrArg some (by kernel_rfl))⟩
 f8:=⟨Tryz.f96.name,by decide,func96.trans (congrArg some (by kernel_rfl))⟩
 f11:=⟨Tryz.f146.name,by decide,func146.trans (congrArg some (by kernel_rfl))⟩
 t0:=underlying0
 a0:=isAgg0
 z0:=sizeOf0
 v0:=zeroValue0
 t24:=underlying57
 a24:=isAgg57
 z24:=sizeOf57
 v24:=zeroValue57
 t26:=underlying3
 a26:=isAgg3
 z26:=sizeOf3
 v26:=zeroValue3
 t28:=underlying132
 a28:=isAgg132
 z28:=sizeOf132
 v28:=zeroValue132
 i26:=by kernel_rfl }
def Tryz.sortA_ren:Go.Shelf.Ren:=⟨fun|5=>97|8=>148|7=>147|19=>204|20=>205|10=>195|11=>196|12=>197|13=>198|14=>199|15=>200|16=>201|17=>202|18=>203|30=>235|31=>236|32=>237|33=>238|34=>239|35=>240|40=>259|n=>n,fun|23=>57|25=>3|3=>3|32=>214|22=>57|0=>0|44=>213|46=>29|4=>4|36=>288|35=>287|41=>293|5=>5|9=>9|53=>324|57=>277|63=>336|64=>337|n=>n,fun|n=>n⟩
theorem Tryz.sortA:Go.Proofs.SlLaysM.n5 prog Tryz.sortA_ren:={
 mixed:=by kernel_rfl
 f5:=⟨Tryz.f97.name,by decide,func97.trans (congrArg some (by kernel_rfl))⟩
 f7:=⟨Tryz.f147.name,by decide,func147.trans (congrArg some (by kernel_rfl))⟩
 f8:=func148.trans (congrArg some (by kernel_rfl))
 f10:=⟨Tryz.f195.name,by decide,func195.trans (congrArg some (by kernel_rfl))⟩
 f11:=⟨Tryz.f196.name,by decide,func196.trans (congrArg some (by kernel_rfl))⟩
 f12:=⟨Tryz.f197.name,by decide,func197.trans (congrArg some (by kernel_rfl))⟩
 f13:=⟨Tryz.f198.name,by decide,func198.trans (congrArg some (by kernel_rfl))⟩
 f14:=⟨Tryz.f199.name,by decide,func199.trans (congrArg some (by kernel_rfl))⟩
 f15:=⟨Tryz.f200.name,by decide,func200.trans (congrArg some (by kernel_rfl))⟩
 f16:=⟨Tryz.f201.name,by decide,func201.trans (congrArg some (by kernel_rfl))⟩
 f17:=⟨Tryz.f202.name,by decide,func202.trans (congrArg some (by kernel_rfl))⟩
 f18:=⟨Tryz.f203.name,by decide,func203.trans (congrArg some (by kernel_rfl))⟩
 f19:=func204.trans (congrArg some (by kernel_rfl))
 f20:=func205.trans (congrArg some (by kernel_rfl))
 f30:=⟨Tryz.f235.name,by decide,func235.trans (congrArg some (by kernel_rfl))⟩
 f31:=func236.trans (congrArg some (by kernel_rfl))
 f32:=func237.trans (congrArg some (by kernel_rfl))
 f33:=⟨Tryz.f238.name,by decide,func238.trans (congrArg some (by kernel_rfl))⟩
 f34:=⟨Tryz.f239.name,by decide,func239.trans (congrArg some (by kernel_rfl))⟩
 f35:=⟨Tryz.f240.name,by decide,func240.trans (congrArg some (by kernel_rfl))⟩
 f40:=⟨Tryz.f259.name,by decide,func259.trans (congrArg some (by kernel_rfl))⟩
 t0:=underlying0
 a0:=isAgg0
 z0:=sizeOf0
 v0:=zeroValue0
 t3:=underlying3
 a3:=isAgg3
 z3:=sizeOf3
 v3:=zeroValue3
 t4:=underlying4
 a4:=isAgg4
 z4:=sizeOf4
 v4:=zeroValue4
 t5:=underlying5
 a5:=isAgg5
 z5:=sizeOf5
 v5:=zeroValue5
 t9:=underlying9
 a9:=isAgg9
 z9:=sizeOf9
 v9:=zeroValue9
 t22:=underlying57
 a22:=isAgg57
 z22:=sizeOf57
 v22:=zeroValue57
 t23:=underlying57
 a23:=isAgg57
 z23:=sizeOf57
 v23:=zeroValue57
 t25:=underlying3
 a25:=isAgg3
 z25:=sizeOf3
 v25:=zeroValue3
 t32:=underlying214
 a32:=isAgg214
 z32:=sizeOf214
 v32:=zeroValue214
 t35:=underlying287
 a35:=isAgg287
 z35:=sizeOf287
 v35:=zeroValue287
 t36:=underlying288
 a36:=isAgg288
 z36:=sizeOf288
 v36:=zeroValue288
 t41:=underlying293
 a41:=isAgg293
 z41:=sizeOf293
 v41:=zeroValue293
 t44:=underlying213
 a44:=isAgg213
 z44:=sizeOf213
 v44:=zeroValue213
 t46:=underlying29
 a46:=isAgg29
 z46:=sizeOf29
 v46:=zeroValue29
 t53:=underlying324
 a53:=isAgg324
 z53:=sizeOf324
 v53:=zeroValue324
 t57:=underlying277
 a57:=isAgg277
 z57:=sizeOf277
 v57:=zeroValue277
 t63:=underlying336
 a63:=isAgg336
 z63:=sizeOf336
 v63:=zeroValue336
 t64:=underlying337
 a64:=isAgg337
 z64:=sizeOf337
 v64:=zeroValue337 }
end Go.Proofs
end
section
open Go.Proofs.Tryz
namespace Go.Proofs
open Go.RowKit Go.Maps Go.Sort Go.Shelf
theorem Tryz.sortsA (m:Nat):AnyZI.SortsIn prog Tryz.sortedA_ren Fence.wide m :=
 ⟨fun blk off cap ss W hH hblk hsz=>callsIn_wide.2 (AnyM.slices_Sort_int Tryz.sortA blk off cap ss W hH hblk hsz),
 fun p cap W=>callsIn_wide.2 (AnyM.slices_Sort_int_none Tryz.sortA p cap W)⟩
theorem Tryz.rising0 {H:Type} (b nn:Nat) (D0:DataW H) (R:Value->Option (DataW H × List MemPlace)) (w:World) (hown:w.ownsMap prog 3 R b nn D0) (hmax:Maps.size D0<=maxLen) (hbytes:Maps.size D0*8<=140737488355328) :
  Calls prog 172 #[.map (some b)] w fun e w'=>∃(v:Value) (ss:List Int),e=.returned v/\ss.Perm (intKeys D0) /\
   w'.ownsRow w.heap.size 3 1 v ss.length ((ss.mergeSort (fun x y=>decide (x<=y))).map encZ)/\(v=.slice none 0 0↔ss=[])/\Below w.heap.size w w':=by
 refine (callsIn_wide (n:=6)).1 ?_;have hbl:=hown.lt
 have hseq:SeqGives Fence.wide 2 prog 253 #[.pointer (some ⟨w.heap.size,0,none⟩)] encZ (fun ss=>ss.Perm (intKeys D0)) (Maps.size D0) (w.alloc (.cells #[.map (some b)] 86)) :=
  AnyZI.keys_gives (ρ:=Tryz.keysA_ren) { Tryz.keysA with } Fence.wide _ trivial rfl (by omega) w.heap.size b nn D0 _ (by simp) (by simp) (by
   obtain ⟨es,clock,hb,Ft,hs,hD⟩:=hown
   exact ⟨es,clock,(Below.heap_alloc _ _ b hbl).trans hb,Ft,hs,hD⟩)
 have cK:∀mb W,CallsIn Fence.wide 5 prog 226 #[.map mb] W fun e w'=>e=.returned (.func (.func 253) #[] #[.pointer (some ⟨W.heap.size,0,none⟩)])/\w'=W.alloc (.cells #[.map mb] 86):=fun mb W=>AnyZI.keys_in Tryz.keysA Fence.wide 5 trivial rfl mb W;have cS:=AnyZI.sorted_in Tryz.sortedA Fence.wide 5 trivial trivial trivial trivial rfl (by omega) (Tryz.sortsA _) (enters_of func97 (by kernel_rfl) rfl) 253 #[.pointer (some ⟨w.heap.size,0,none⟩)] trivial (enters_of func253 (by kernel_rfl) rfl) _ _ hmax hbytes _ hseq;change CallsIn _ _ prog 56 _ _ _ at cS;have hfK:Fence.wide.fn 226:=trivial;have hfS:Fence.wide.fn 56:=trivial;refine callsIn_of_wp func172 rfl trivial ?_ rfl;simp only[ntmps172,List.size_toArray,List.length_cons,List.length_nil,Nat.reduceAdd,Nat.reduceSub,Array.replicate_succ,Array.replicate_zero,List.push_toArray,List.append_toArray,List.nil_append,List.cons_append]
 gi_wp2_with (first
  | (gi_at_call 226;refine (cK _ _).mono ?_;rintro e w' ⟨rfl,rfl⟩)
  | (gi_at_call 56;refine cS.mono ?_;rintro e w' ⟨v,ss,rfl,hS,hrow,hnil,hb⟩))
 go_ret;exact ⟨v,ss,rfl,hS,ownsRow_base_a hrow (by simp),hnil,((Below.refl _ w).alloc (Nat.le_refl _) _).trans (hb.mono (by simp))⟩
end Go.Proofs
namespace Go.Proofs.YtdkheklakfbeeaaGreatDoor
open Go.RowKit
def srt (dom:List Nat):List Nat:=dom.mergeSort fun x y=>decide (x<=y)
theorem srt_perm (dom:List Nat):(srt dom).Perm dom:=List.mergeSort_perm _ _
theorem w_P (dom:List Nat):(srt dom).length=dom.length:=(srt_perm dom).length_eq
theorem x_A (dom:List Nat) (x:Nat):x∈srt dom↔x∈dom:=(srt_perm dom).mem_iff
theorem srt_int (dom:List Nat) (ss:List Int) (h:ss.Perm (dom.map fun n:Nat=>(n:Int))):ss.mergeSort (fun x y=>decide (x<=y))=(srt dom).map fun n:Nat=>(n:Int):=by
 have p1:(ss.mergeSort (fun x y=>decide (x<=y))).Perm ((srt dom).map fun n:Nat=>(n:Int)):=(List.mergeSort_perm _ _).trans (h.trans ((srt_perm dom).symm.map _));have q1:(ss.mergeSort (fun x y=>decide (x<=y))).Pairwise fun x y=>decide (x<=y)=true:=List.pairwise_mergeSort (fun a b c h1 h2=>by simp at h1 h2 ⊢;omega) (fun a b=>by simp;omega) ss;have q2:(srt dom).Pairwise fun x y=>decide (x<=y)=true:=List.pairwise_mergeSort (fun a b c h1 h2=>by simp at h1 h2 ⊢;omega) (fun a b=>by simp;omega) dom
 have q3:((srt dom).map fun n:Nat=>(n:Int)).Pairwise fun x y=>decide (x<=y)=true:=by
  rw[List.pairwise_map]
  exact q2.imp fun h=>by simp at h ⊢;exact h
 exact List.Perm.eq_of_pairwise (le:=fun x y=>decide (x<=y)=true) (fun a b _ _ h1 h2=>by simp at h1 h2;omega) q1 q3 p1
section
variable {w:World} {B:Nat} {f:Nat->Option Value} {dom:List Nat}
theorem MapA.keys (h:MapA KI w B f dom):∃D,w.ownsMap prog 3 HR B dom.length D/\Maps.size D=dom.length/\(intKeys D).Perm (dom.map fun n:Nat=>(n:Int)):=by
 obtain ⟨D,h1,h2,h3,h4,h5⟩:=h.own;refine ⟨D,h1,h2,?_⟩;obtain ⟨es,he,hp⟩:=h1.tidy kd3;obtain ⟨es',he',hko⟩:=h1.keysOf;subst he;cases he';refine (perm_intKeys hp (fun p hp=>?_) ?_ fun x=>?_).symm
 ·obtain ⟨v,hv⟩:=hko p hp
  obtain ⟨y,_,hy,_⟩:=Maps.keyOf_i64 under3 hv;exact ⟨y,hy⟩
 ·exact List.pairwise_map.2 (h.nodup.imp fun hne e=>hne (Int.ofNat.inj e))
 ·rw[List.mem_map]
  constructor
  ·rintro ⟨a,ha,rfl⟩
   have:=h3 a (h.oks a ha);rw[(h.isSome a).2 ha] at this;exact this
  ·intro hx
   obtain ⟨a,ha,e⟩:=h5 _ hx;exact ⟨a,ha,by injection e⟩
theorem rising_any (h:MapA KI w B f dom) (hl:dom.length<=1000) :
  Calls prog 172 #[.map (some B)] w fun e w'=>∃v,e=.returned v/\Own w' w.heap.size 3 v (zv (srt dom))/\Kp NoB w w':=by
 obtain ⟨D,h1,h2,h3⟩:=h.keys;refine (Tryz.rising0 B _ D HR w h1 (by rw[h2];simp only[maxLen];omega) (by rw[h2];omega)).mono ?_;rintro e w' ⟨v,ss,rfl,hp,hrow,_,hb⟩;have hs:=srt_int dom ss (hp.trans h3)
 have hle:ss.length=(zv (srt dom)).length:=by rw[z_w,w_P,(hp.trans h3).length_eq,List.length_map]
 refine ⟨v,rfl,?_,Kp.of_below hb NoB⟩;rw[hs,List.map_map,hle] at hrow;exact hrow
end
end Go.Proofs.YtdkheklakfbeeaaGreatDoor
end
