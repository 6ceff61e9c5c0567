/- Part 26 of the proof. -/
import Derived.Test.YtdkheklakfbeeaaGreatDoorM25
set_option linter.all false
set_option maxRecDepth 100000
set_option maxHeartbeats 16000000
namespace Go.Proofs.YtdkheklakfbeeaaGreatDoor
open Go.RowKit Tryz
theorem idx4 (G:Nat) (W:World):(Instr.index 278 (.agg #[.pointer (some ⟨G,2,none⟩),.pointer (some ⟨G,3,none⟩),.pointer (some ⟨G,4,none⟩),.pointer (some ⟨G,5,none⟩)]) (.int .i64 0)).run prog W=.ok (.pointer (some ⟨G,2,none⟩)) W/\(Instr.index 278 (.agg #[.pointer (some ⟨G,2,none⟩),.pointer (some ⟨G,3,none⟩),.pointer (some ⟨G,4,none⟩),.pointer (some ⟨G,5,none⟩)]) (.int .i64 1)).run prog W=.ok (.pointer (some ⟨G,3,none⟩)) W/\(Instr.index 278 (.agg #[.pointer (some ⟨G,2,none⟩),.pointer (some ⟨G,3,none⟩),.pointer (some ⟨G,4,none⟩),.pointer (some ⟨G,5,none⟩)]) (.int .i64 2)).run prog W=.ok (.pointer (some ⟨G,4,none⟩)) W/\(Instr.index 278 (.agg #[.pointer (some ⟨G,2,none⟩),.pointer (some ⟨G,3,none⟩),.pointer (some ⟨G,4,none⟩),.pointer (some ⟨G,5,none⟩)]) (.int .i64 3)).run prog W=.ok (.pointer (some ⟨G,5,none⟩)) W:=⟨rfl,rfl,rfl,rfl⟩
theorem supget_any (w:World) (S:Sup) (hS:SupOk S) :
  Cl 131 #[.string (bs (z_t S))] w fun e w'=>∃vs vm,e=.returned (.tuple #[.agg (z_N S vs vm),.int .i64 0])/\SupO w' w.heap.size S vs vm/\Kp NoB w w':=by
 have nA:=Zz (fun W vs vm (h:y_P W S vs vm)=>sgood_any hS h);have eu:=Zz (fun W=>cnew_any W (z_t S));have DB:=Zz num_rd;have gR:=Zz below_rd;have tO:=Zz member_any;have zj:=Zz (fun W P=>done_any W P ([],0));have No:=supB_nT S;have Jd:=hS.mem;have aH:=fun i h=>hS.st2 i h;have h3:=hS.n1;have h4:=hS.n12;have h5:=hS.d8
 have h6:S.slots<=4:=by rcases hS.sl with h|h<;>omega
 have h7:=hS.c;have h8:=hS.e
 have fu:Hid (∀(L:List Nat) (j:Nat),L.length<=100->(nT L (S.mem.drop j)).length<=800000):=Zz fun L j hL=>by
  have q1:=w_a z_k 8 L (fun x _=>Nat.le_of_eq (z_m x))
  have q2:=w_a y_J 88 (S.mem.drop j) (fun x hx=>by
   obtain ⟨i,hi,e⟩:=List.getElem_of_mem (List.mem_of_mem_drop hx)
   rw[<-e];exact Nat.le_of_eq (v_p (Jd i hi).1 (Jd i hi).2.1))
  have q3:(S.mem.drop j).length<=12:=by rw[List.length_drop];omega
  unfold nT;rw[q_b];have:(S.mem.drop j).length*88<=12*88:=Nat.mul_le_mul_right _ q3;have:L.length*8<=100*8:=Nat.mul_le_mul_right _ hL;omega
 have vQ:=Zz No;have ej:=Zz Jd;have aR:=Zz aH;clear No Jd aH hS;obtain ⟨count,epoch,d,s,mem⟩:=S
 dsimp only at h3 h4 h5 h6 h7 h8 fu vQ ej aR
 obtain ⟨n,hn⟩:∃n,mem.length=n:=⟨_,rfl⟩;have HN:=Zz hn;rw[hn] at h3 h4;have Ss:Hid (numL ⟨count,epoch,d,s,mem⟩=d::s::0::0::0::(d+2)::(List.range (d+2)++[n])):=Zz (by rw[<-hn];rfl);clear hn;have fK:Hid (∀vs vm,z_N ⟨count,epoch,d,s,mem⟩ vs vm=#[.int .u64 count,.int .u64 epoch,.int .i64 d,.int .i64 s,.int .i64 0,.int .i64 0,.bool false,vs,vm]):=Zz fun _ _=>rfl;have Ja:Hid (∀W B vs vm,Own W B 3 vs (zv (List.range (d+2)))->W.ownsRow B 108 3 vm n (z_x mem)->SupO W B ⟨count,epoch,d,s,mem⟩ vs vm):=Zz fun W B vs vm h1 h2=>⟨h1,by rw[<-HN.o] at h2;exact h2⟩;generalize hsp:z_t ⟨count,epoch,d,s,mem⟩=BM at *;have ak:=Zz (Blk.new w 60 #[.int .u64 0,.int .u64 0,.int .i64 0,.int .i64 0,.int .i64 0,.int .i64 0,.bool false,.slice none 0 0,.slice none 0 0]);have aW:=Zz ((Kp.refl NoB w).alloc (.cells #[.int .u64 0,.int .u64 0,.int .i64 0,.int .i64 0,.int .i64 0,.int .i64 0,.bool false,.slice none 0 0,.slice none 0 0] 60));clear hsp;go_enter func131,ntmps131
 go_upto_region 1 with fail
 generalize w.alloc (.cells #[.int .u64 0,.int .u64 0,.int .i64 0,.int .i64 0,.int .i64 0,.int .i64 0,.bool false,.slice none 0 0,.slice none 0 0] 60)=w1 at *;obtain ⟨G2,tE⟩:∃G2,w.heap.size=G2:=⟨_,rfl⟩;rw[tE] at ak ⊢;have BT:=Zz tE;clear tE;go_wp2_with fail;refine (eu.o w1).mono ?_;rintro e w2 ⟨rfl,hP,ag⟩;have HP:=Zz hP;have al:=Zz (aW.o.trans ag);have mL:=Zz (ak.o.kp ag fun h=>h);have dR:Hid (w.heap.size<=w1.heap.size):=Zz aW.o.size
 have EZ:w1.heap.size≠G2:=fun e=>by have:=ak.o.lt;omega
 have dr:=Zz EZ;clear hP ag EZ ak aW eu;generalize w1.heap.size=P at *
 go_upto_region 3 with fail
 have aI:=Zz (Blk.new w2 60 #[.int .u64 0,.int .u64 0,.int .i64 0,.int .i64 0,.int .i64 0,.int .i64 0,.bool false,.slice none 0 0,.slice none 0 0]);have ar:=Zz (al.o.alloc (.cells #[.int .u64 0,.int .u64 0,.int .i64 0,.int .i64 0,.int .i64 0,.int .i64 0,.bool false,.slice none 0 0,.slice none 0 0] 60));have cD:=Zz (mL.o.alloc (.cells #[.int .u64 0,.int .u64 0,.int .i64 0,.int .i64 0,.int .i64 0,.int .i64 0,.bool false,.slice none 0 0,.slice none 0 0] 60));have eZ:=Zz (HP.o.alloc (.cells #[.int .u64 0,.int .u64 0,.int .i64 0,.int .i64 0,.int .i64 0,.int .i64 0,.bool false,.slice none 0 0,.slice none 0 0] 60));have aU:Hid (w2.heap.size≠P/\w2.heap.size≠G2/\w.heap.size<=w2.heap.size):=Zz ⟨fun e=>by have:=HP.o.lt;omega,fun e=>by have:=mL.o.lt;omega,al.o.size⟩;clear al mL HP;generalize w2.alloc (.cells #[.int .u64 0,.int .u64 0,.int .i64 0,.int .i64 0,.int .i64 0,.int .i64 0,.bool false,.slice none 0 0,.slice none 0 0] 60)=w3 at *;generalize w2.heap.size=G at *;rw[vQ.o] at eZ;have fX:=Zz (fu.o (numL ⟨count,epoch,d,s,mem⟩) 0 (by rw[Ss.o];simp;omega));have wl:=Zz (DB.o w3 P count _ (by omega) (by rw[q_b,z_m];have:=fX.o;rw[List.drop_zero] at this;omega) eZ.o);go_wp2_with fail;refine wl.o.mono ?_;rintro e w4 ⟨rfl,gh,aw⟩;have iL:=Zz gh;have aV:=aI.o.kp aw fun e=>aU.o.1 e;have dI:=Zz (cD.o.kp aw fun e=>dr.o (Eq.symm e));have az:=Zz (ar.o.then aw fun q hq e=>(by have:=dR.o;have e:q=P:=e;omega:False));have c0:=aV.cell 0;have f0:=aV.frozen 0;have dQ:=Zz ((Kp.refl (fun q=>q=G) w4).setCell ⟨G,0,none⟩ (.int .u64 count) (.inl rfl));have qQ:Hid (Blk (w4.setCell ⟨G,0,none⟩ (.int .u64 count)) G 60 #[.int .u64 count,.int .u64 0,.int .i64 0,.int .i64 0,.int .i64 0,.int .i64 0,.bool false,.slice none 0 0,.slice none 0 0]):=Zz (aV.set_ 0 (.int .u64 count));have gH:=Zz (iL.o.kp dQ.o fun e=>aU.o.1 (Eq.symm e));have qR:=Zz (dI.o.kp dQ.o fun e=>aU.o.2.1 (Eq.symm e));have ax:=Zz (az.o.then dQ.o fun q hq e=>(by have:=aU.o.2.2;have e:q=G:=e;omega:False));have qg:=Zz (DB.o _ P epoch _ (by omega) (by have:=fX.o;rw[List.drop_zero] at this;omega) gH.o);clear gh aw aV aI cD ar eZ wl
 go_upto_region 4 with fail
 clear c0 f0 iL dI az dQ;generalize w4.setCell ⟨G,0,none⟩ (.int .u64 count)=w5 at *;go_wp2_with fail;refine qg.o.mono ?_;rintro e w6 ⟨rfl,ju,ap⟩;have kR:=Zz ju;have qS:=qQ.o.kp ap fun e=>aU.o.1 e;have eH:=Zz (qR.o.kp ap fun e=>dr.o (Eq.symm e));have aB:=Zz (ax.o.then ap fun q hq e=>(by have:=dR.o;have e:q=P:=e;omega:False));have c0:=qS.cell 1;have f0:=qS.frozen 1;have By:=Zz ((Kp.refl (fun q=>q=G) w6).setCell ⟨G,1,none⟩ (.int .u64 epoch) (.inl rfl));have E3:Hid (Blk (w6.setCell ⟨G,1,none⟩ (.int .u64 epoch)) G 60 #[.int .u64 count,.int .u64 epoch,.int .i64 0,.int .i64 0,.int .i64 0,.int .i64 0,.bool false,.slice none 0 0,.slice none 0 0]):=Zz (qS.set_ 1 (.int .u64 epoch));have gE:=Zz (kR.o.kp By.o fun e=>aU.o.1 (Eq.symm e));have qT:=Zz (eH.o.kp By.o fun e=>aU.o.2.1 (Eq.symm e));have bC:=Zz (aB.o.then By.o fun q hq e=>(by have:=aU.o.2.2;have e:q=G:=e;omega:False));clear ju ap qS qQ qR ax gH qg
 go_upto_region 5 with fail
 clear c0 f0 kR eH aB By;generalize w6.setCell ⟨G,1,none⟩ (.int .u64 epoch)=w7 at *
 go_upto_region 6 with fail
 rw[Ss.o] at gE;have gE:Hid (Blk w7 P 317 (Rd.cs (nT (([d,s,0,0]:List Nat).drop 0++(0::(d+2)::(List.range (d+2)++[n]))) mem,0))):=gE
 have tz:Hid (∀L:List Nat,L.length<=100->(nT L mem).length<=800000):=Zz fun L hL=>by have:=fu.o L 0 hL;rwa [List.drop_zero] at this
 go_loopw [7,21] (fun _ s21 wr=>∃i:Nat,i<=4/\s21=.int .i64 i/\Hid (Blk wr P 317 (Rd.cs (nT (([d,s,0,0]:List Nat).drop i++(0::(d+2)::(List.range (d+2)++[n]))) mem,0)))/\Hid (Blk wr G 60 #[.int .u64 count,.int .u64 epoch,.int .i64 (if 1<=i then (d:Int) else 0),.int .i64 (if 2<=i then (s:Int) else 0),.int .i64 0,.int .i64 0,.bool false,.slice none 0 0,.slice none 0 0])/\Hid (Blk wr G2 60 #[.int .u64 0,.int .u64 0,.int .i64 0,.int .i64 0,.int .i64 0,.int .i64 0,.bool false,.slice none 0 0,.slice none 0 0])/\Hid (Kp NoB w wr)) (fun _ s21 _=>4-(intOf s21).toNat)
 case atStart=>exact ⟨0,by omega,rfl,gE,E3,qT,bC⟩
 case round =>
  clear gE E3 qT bC;obtain ⟨i,hi,rfl,HP,aI,ak,HK⟩:=hrel
  match i,hi with
  | 0,_ =>
   obtain ⟨eO,ew,eN,jx⟩:=idx4 G wr;have aI:Hid (Blk wr G 60 #[.int .u64 count,.int .u64 epoch,.int .i64 0,.int .i64 0,.int .i64 0,.int .i64 0,.bool false,.slice none 0 0,.slice none 0 0]):=aI;have HX:=Zz (gR.o wr P d 17 (nT (([s,0,0]:List Nat)++(0::(d+2)::(List.range (d+2)++[n]))) mem) (by omega) (by decide) (q_g (tz.o _ (by simp;omega)) (by decide)) (by have:=HP.o;rw[<-w_7];exact this));go_wp2_with fail;refine HX.o.mono ?_;rintro e w8 ⟨rfl,jL,aL⟩;have fk:=Zz jL;have cO:=aI.o.kp aL fun e=>aU.o.1 e;have ji:=Zz (ak.o.kp aL fun e=>dr.o (Eq.symm e));have bq:=Zz (HK.o.then aL fun q hq e=>(by have:=dR.o;have e:q=P:=e;omega:False));have c0:=cO.cell 2;have f0:=cO.frozen 2;have jF:=Zz ((Kp.refl (fun q=>q=G) w8).setCell ⟨G,2,none⟩ (.int .i64 d) (.inl rfl));have jk:Hid (Blk (w8.setCell ⟨G,2,none⟩ (.int .i64 d)) G 60 #[.int .u64 count,.int .u64 epoch,.int .i64 d,.int .i64 0,.int .i64 0,.int .i64 0,.bool false,.slice none 0 0,.slice none 0 0]):=Zz (cO.set_ 2 (.int .i64 d));have lG:=Zz (fk.o.kp jF.o fun e=>aU.o.1 (Eq.symm e));have jl:=Zz (ji.o.kp jF.o fun e=>aU.o.2.1 (Eq.symm e));have aT:=Zz (bq.o.then jF.o fun q hq e=>(by have:=aU.o.2.2;have e:q=G:=e;omega:False));clear jL aL cO HX HP aI ak HK;go_wp2;go_roundw
   case rel=>exact ⟨1,by omega,by go_num,lG,jk,jl,aT⟩
   case measure=>simp[intOf]
  | 1,_ =>
   obtain ⟨eO,ew,eN,jx⟩:=idx4 G wr;have aI:Hid (Blk wr G 60 #[.int .u64 count,.int .u64 epoch,.int .i64 d,.int .i64 0,.int .i64 0,.int .i64 0,.bool false,.slice none 0 0,.slice none 0 0]):=aI;have HX:=Zz (gR.o wr P s 17 (nT (([0,0]:List Nat)++(0::(d+2)::(List.range (d+2)++[n]))) mem) (by omega) (by decide) (q_g (tz.o _ (by simp;omega)) (by decide)) (by have:=HP.o;rw[<-w_7];exact this));go_wp2_with fail;refine HX.o.mono ?_;rintro e w8 ⟨rfl,jL,aL⟩;have fk:=Zz jL;have cO:=aI.o.kp aL fun e=>aU.o.1 e;have ji:=Zz (ak.o.kp aL fun e=>dr.o (Eq.symm e));have bq:=Zz (HK.o.then aL fun q hq e=>(by have:=dR.o;have e:q=P:=e;omega:False));have c0:=cO.cell 3;have f0:=cO.frozen 3;have jF:=Zz ((Kp.refl (fun q=>q=G) w8).setCell ⟨G,3,none⟩ (.int .i64 s) (.inl rfl));have jk:Hid (Blk (w8.setCell ⟨G,3,none⟩ (.int .i64 s)) G 60 #[.int .u64 count,.int .u64 epoch,.int .i64 d,.int .i64 s,.int .i64 0,.int .i64 0,.bool false,.slice none 0 0,.slice none 0 0]):=Zz (cO.set_ 3 (.int .i64 s));have lG:=Zz (fk.o.kp jF.o fun e=>aU.o.1 (Eq.symm e));have jl:=Zz (ji.o.kp jF.o fun e=>aU.o.2.1 (Eq.symm e));have aT:=Zz (bq.o.then jF.o fun q hq e=>(by have:=aU.o.2.2;have e:q=G:=e;omega:False));clear jL aL cO HX HP aI ak HK;go_wp2;go_roundw
   case rel=>exact ⟨2,by omega,by go_num,lG,jk,jl,aT⟩
   case measure=>simp[intOf]
  | 2,_ =>
   obtain ⟨eO,ew,eN,jx⟩:=idx4 G wr;have aI:Hid (Blk wr G 60 #[.int .u64 count,.int .u64 epoch,.int .i64 d,.int .i64 s,.int .i64 0,.int .i64 0,.bool false,.slice none 0 0,.slice none 0 0]):=aI;have HX:=Zz (gR.o wr P 0 17 (nT (([0]:List Nat)++(0::(d+2)::(List.range (d+2)++[n]))) mem) (by omega) (by decide) (q_g (tz.o _ (by simp;omega)) (by decide)) (by have:=HP.o;rw[<-w_7];exact this));go_wp2_with fail;refine HX.o.mono ?_;rintro e w8 ⟨rfl,jL,aL⟩;have fk:=Zz jL;have cO:=aI.o.kp aL fun e=>aU.o.1 e;have ji:=Zz (ak.o.kp aL fun e=>dr.o (Eq.symm e));have bq:=Zz (HK.o.then aL fun q hq e=>(by have:=dR.o;have e:q=P:=e;omega:False));have c0:=cO.cell 4;have f0:=cO.frozen 4;have jF:=Zz ((Kp.refl (fun q=>q=G) w8).setCell ⟨G,4,none⟩ (.int .i64 0) (.inl rfl));have jk:Hid (Blk (w8.setCell ⟨G,4,none⟩ (.int .i64 0)) G 60 #[.int .u64 count,.int .u64 epoch,.int .i64 d,.int .i64 s,.int .i64 0,.int .i64 0,.bool false,.slice none 0 0,.slice none 0 0]):=Zz (cO.set_ 4 (.int .i64 0));have lG:=Zz (fk.o.kp jF.o fun e=>aU.o.1 (Eq.symm e));have jl:=Zz (ji.o.kp jF.o fun e=>aU.o.2.1 (Eq.symm e));have aT:=Zz (bq.o.then jF.o fun q hq e=>(by have:=aU.o.2.2;have e:q=G:=e;omega:False));clear jL aL cO HX HP aI ak HK;go_wp2;go_roundw
   case rel=>exact ⟨3,by omega,by go_num,lG,jk,jl,aT⟩
   case measure=>simp[intOf]
  | 3,_ =>
   obtain ⟨eO,ew,eN,jx⟩:=idx4 G wr;have aI:Hid (Blk wr G 60 #[.int .u64 count,.int .u64 epoch,.int .i64 d,.int .i64 s,.int .i64 0,.int .i64 0,.bool false,.slice none 0 0,.slice none 0 0]):=aI;have HX:=Zz (gR.o wr P 0 17 (nT (([]:List Nat)++(0::(d+2)::(List.range (d+2)++[n]))) mem) (by omega) (by decide) (q_g (tz.o _ (by simp;omega)) (by decide)) (by have:=HP.o;rw[<-w_7];exact this));go_wp2_with fail;refine HX.o.mono ?_;rintro e w8 ⟨rfl,jL,aL⟩;have fk:=Zz jL;have cO:=aI.o.kp aL fun e=>aU.o.1 e;have ji:=Zz (ak.o.kp aL fun e=>dr.o (Eq.symm e));have bq:=Zz (HK.o.then aL fun q hq e=>(by have:=dR.o;have e:q=P:=e;omega:False));have c0:=cO.cell 5;have f0:=cO.frozen 5;have jF:=Zz ((Kp.refl (fun q=>q=G) w8).setCell ⟨G,5,none⟩ (.int .i64 0) (.inl rfl));have jk:Hid (Blk (w8.setCell ⟨G,5,none⟩ (.int .i64 0)) G 60 #[.int .u64 count,.int .u64 epoch,.int .i64 d,.int .i64 s,.int .i64 0,.int .i64 0,.bool false,.slice none 0 0,.slice none 0 0]):=Zz (cO.set_ 5 (.int .i64 0));have lG:=Zz (fk.o.kp jF.o fun e=>aU.o.1 (Eq.symm e));have jl:=Zz (ji.o.kp jF.o fun e=>aU.o.2.1 (Eq.symm e));have aT:=Zz (bq.o.then jF.o fun q hq e=>(by have:=aU.o.2.2;have e:q=G:=e;omega:False));clear jL aL cO HX HP aI ak HK;go_wp2;go_roundw
   case rel=>exact ⟨4,by omega,by go_num,lG,jk,jl,aT⟩
   case measure=>simp[intOf]
  | 4,_ =>
   have aI:Hid (Blk wr G 60 #[.int .u64 count,.int .u64 epoch,.int .i64 d,.int .i64 s,.int .i64 0,.int .i64 0,.bool false,.slice none 0 0,.slice none 0 0]):=aI;have HX:=Zz (gR.o wr P 0 2 (nT ((d+2)::(List.range (d+2)++[n])) mem) (by decide) (by decide) (q_g (tz.o _ (by simp;omega)) (by decide)) (by have:=HP.o;rw[<-w_7];exact this));go_wp2_with fail;refine HX.o.mono ?_;rintro e w8 ⟨rfl,jL,aL⟩;have fk:=Zz jL;have cO:=aI.o.kp aL fun e=>aU.o.1 e;have ji:=Zz (ak.o.kp aL fun e=>dr.o (Eq.symm e));have bq:=Zz (HK.o.then aL fun q hq e=>(by have:=dR.o;have e:q=P:=e;omega:False));have c0:=cO.cell 6;have f0:=cO.frozen 6;have jF:=Zz ((Kp.refl (fun q=>q=G) w8).setCell ⟨G,6,none⟩ (.bool false) (.inl rfl));have jk:Hid (Blk (w8.setCell ⟨G,6,none⟩ (.bool false)) G 60 #[.int .u64 count,.int .u64 epoch,.int .i64 d,.int .i64 s,.int .i64 0,.int .i64 0,.bool false,.slice none 0 0,.slice none 0 0]):=Zz (cO.set_ 6 (.bool false));have lG:=Zz (fk.o.kp jF.o fun e=>aU.o.1 (Eq.symm e));have jl:=Zz (ji.o.kp jF.o fun e=>aU.o.2.1 (Eq.symm e));have aT:=Zz (bq.o.then jF.o fun q hq e=>(by have:=aU.o.2.2;have e:q=G:=e;omega:False));clear jL aL cO HX HP aI ak HK
   go_upto_region 11 with fail
   clear c0 f0 fk ji bq jF;generalize w8.setCell ⟨G,6,none⟩ (.bool false)=w9 at *;have qU:=Zz (gR.o w9 P (d+2) 13 (nT (List.range (d+2)++[n]) mem) (by omega) (by decide) (q_g (tz.o _ (by simp;omega)) (by decide)) (by have:=lG.o;rw[<-w_7];exact this));obtain ⟨m,hm⟩:∃m,d+2=m:=⟨_,rfl⟩;rw[hm] at qU Ja h3;have HM:=Zz hm;clear hm;go_wp2_with fail;refine qU.o.mono ?_;rintro e bO ⟨rfl,nP,cd⟩;have iq:Hid (Blk bO P 317 (Rd.cs (nT ((List.range m).drop 0++[n]) mem,0))):=Zz nP;have wm:=Zz (jk.o.kp cd fun e=>aU.o.1 e);have wn:=Zz (jl.o.kp cd fun e=>dr.o (Eq.symm e));have cU:=Zz (aT.o.then cd fun q hq e=>(by have:=dR.o;have e:q=P:=e;omega:False));have fC:Hid (Own bO w.heap.size 3 (.slice none 0 0) (zv (List.range 0))):=Zz (Own.nil_ _ _ _);clear nP cd lG jk jl aT qU
   go_upto_region 12 with fail
   go_loopw [35] (fun s35 wr=>∃i:Nat,i<=m/\s35=.int .i64 i/\Hid (∃v7,Own wr w.heap.size 3 v7 (zv (List.range i))/\Blk wr G 60 #[.int .u64 count,.int .u64 epoch,.int .i64 d,.int .i64 s,.int .i64 0,.int .i64 0,.bool false,v7,.slice none 0 0])/\Hid (Blk wr P 317 (Rd.cs (nT ((List.range m).drop i++[n]) mem,0)))/\Hid (Blk wr G2 60 #[.int .u64 0,.int .u64 0,.int .i64 0,.int .i64 0,.int .i64 0,.int .i64 0,.bool false,.slice none 0 0,.slice none 0 0])/\Hid (Kp NoB w wr)) (fun s35 _=>m-(intOf s35).toNat)
   case atStart=>exact ⟨0,by omega,rfl,Zz ⟨_,fC.o,wm.o⟩,iq,wn,cU⟩
   case round =>
    clear fC wm iq wn cU;obtain ⟨i,hi,rfl,we,HP,ak,HK⟩:=hrel;obtain ⟨v7,pm,dW⟩:=we.o;have aI:=Zz dW.drew;have HO:=Zz pm;clear pm dW we;by_cases af:i<m
    ·have bV:(i:Int)<(m:Int):=by omega
     have hm6:m<=6:=by have:=HM.o;omega
     have HX:=Zz (fun W hB=>gR.o W P i 12 (nT ((List.range m).drop (i+1)++[n]) mem) (by omega) (by decide) (q_g (tz.o _ (by simp;omega)) (by decide)) hB)
     have HP:Hid (Blk wr.drew P 317 (Rd.cs (z_k i++nT ((List.range m).drop (i+1)++[n]) mem,0))):=Zz (by
      have h1:=HP.o;rw[range_drop af,List.cons_append,w_7] at h1
      exact h1)
     have HO:Hid (Own wr.drew w.heap.size 3 v7 (zv (List.range i))):=HO;have ak:Hid (Blk wr.drew G2 60 #[.int .u64 0,.int .u64 0,.int .i64 0,.int .i64 0,.int .i64 0,.int .i64 0,.bool false,.slice none 0 0,.slice none 0 0]):=ak;have HK:=Zz HK.o.drew
     go_upto_region 13 with fail
     refine fs ?_;generalize wr.drew=fa at *;have c7:=aI.o.c7;refine fp 0 ?_;refine f_c 1 c7 ?_;refine fp 2 ?_;refine fd 3 fun K Qx hK=>?_;go_simp;refine (HX.o _ HP.o).mono ?_;rintro e fN ⟨rfl,nQ,bN⟩;have E4:=Zz nQ;have qV:=Zz (aI.o.kp bN fun e=>aU.o.1 e);have ws:=Zz (ak.o.kp bN fun e=>dr.o (Eq.symm e));have bp:=Zz (HK.o.then bN fun q hq e=>(by have:=dR.o;have e:q=P:=e;omega:False))
     have E5:=Zz (HO.o.kp bN fun q hq e=>by
      obtain ⟨cs,hb⟩:=x_N HO.o hq;have e:q=P:=e;subst e
      exact Blk.ne_ hb HP.o (by decide) rfl)
     refine hK _ _ (oK (qV.o.cell 7) oN) ?_;clear hK K c7 nQ bN HP aI ak HK HO;refine fd 4 fun K Qx hK=>?_;go_simp;have jf:=Zz (E4.o.alloc (.cells #[.int .i64 i] 3));have jX:=Zz (qV.o.alloc (.cells #[.int .i64 i] 3));have mM:=Zz (ws.o.alloc (.cells #[.int .i64 i] 3));have dK:=Zz (bp.o.alloc (.cells #[.int .i64 i] 3));have cy:=Zz (E5.o.alloc (.cells #[.int .i64 i] 3));have eQ:Hid (z_g (fN.alloc (.cells #[.int .i64 i] 3)) (.slice (some ⟨fN.heap.size,0,none⟩) 1 1) [.int .i64 i]):=Zz (blit2 fN #[.int .i64 i] 3 (by simp[maxLen]));refine hK _ _ (oK (jX.o.cell 7) oN) ?_;clear hK K E4 qV ws bp E5;generalize fN.alloc (.cells #[.int .i64 i] 3)=eU at *;refine y_L 5 rfl rfl (by kernel_rfl) ?_;refine x_S rfl underlying57 info3 rfl (by decide) rfl rfl (fun u hu=>by simp at hu;subst hu;rfl) cy.o eQ.o (by show 0<1;decide) dK.o.size (by rw[z_w,q_H];show (i+1)*8<=140737488355328;omega) ?_;intro v1 kQ ho hg
     have hz:zv (List.range i)++[.int .i64 i]=zv (List.range (i+1)):=by rw[List.range_succ];simp[zv]
     rw[hz] at ho;have aC:Kp (fun q=>some q=v7.ownBlock) eU kQ:=Kp.of_grown hg fun _ h=>h;have lH:=Zz (jX.o.kp aC fun h=>z_s cy.o jX.o (by decide) h.symm);have E6:=Zz (jf.o.kp aC fun h=>z_s cy.o jf.o (by decide) h.symm);have wu:=Zz (mM.o.kp aC fun h=>z_s cy.o mM.o (by decide) h.symm);have jY:=Zz (dK.o.then aC fun q hq h=>(by have:=(cy.o.lt q h.symm).1;omega:False));have zk:=Zz ho;refine ⟨oW oN,?_⟩
     obtain ⟨A1,c1,rfl⟩:∃A c,v1=.slice A (i+1) c:=by
      obtain ⟨A,c,e⟩:=ho.shape;exact ⟨A,c,by rw[e,z_w,q_H]⟩
     clear ho hg aC hz cy jX jf mM dK eQ;have c7:=lH.o.c7;have f7:=lH.o.frozen 7;refine fp 6 ?_;refine fd 7 fun K Qx hK=>?_;go_simp;refine hK _ _ (oW oN) ?_;clear hK K;refine fe ?_;have ap:=(Kp.refl (fun q=>q=G) kQ).setCell ⟨G,7,none⟩ (.slice A1 (i+1) c1) (.inl rfl);have eB:Blk (kQ.setCell ⟨G,7,none⟩ (.slice A1 (i+1) c1)) G 60 #[.int .u64 count,.int .u64 epoch,.int .i64 d,.int .i64 s,.int .i64 0,.int .i64 0,.bool false,.slice A1 (i+1) c1,.slice none 0 0]:=lH.o.set_ 7 (.slice A1 (i+1) c1);have tc:=zk.o.kp ap fun q hq e=>z_s zk.o lH.o (by decide) (hq.trans (congrArg some e));have mK:Hid (∃v7,Own (kQ.setCell ⟨G,7,none⟩ (.slice A1 (i+1) c1)) w.heap.size 3 v7 (zv (List.range (i+1)))/\Blk (kQ.setCell ⟨G,7,none⟩ (.slice A1 (i+1) c1)) G 60 #[.int .u64 count,.int .u64 epoch,.int .i64 d,.int .i64 s,.int .i64 0,.int .i64 0,.bool false,v7,.slice none 0 0]):=Zz ⟨_,tc,eB⟩;have kR:=Zz (E6.o.kp ap fun e=>aU.o.1 (Eq.symm e));have eH:=Zz (wu.o.kp ap fun e=>aU.o.2.1 (Eq.symm e));have aB:=Zz (jY.o.then ap fun q hq e=>(by have:=aU.o.2.2;have e:q=G:=e;omega:False));clear ap eB tc c7 f7 lH E6 wu jY zk;go_wp2;go_roundw
     case rel=>exact ⟨i+1,by omega,by go_num,mK,kR,eH,aB⟩
     case measure=>simp[intOf];omega
    ·obtain rfl:i=m:=by omega
     have HP:Hid (Blk wr P 317 (Rd.cs (z_k n++nT [] (mem.drop 0),0))):=Zz (by
      have h1:=HP.o;rw[List.drop_of_length_le (by simp),List.nil_append,w_7] at h1
      exact h1)
     have HO:Hid (Own wr w.heap.size 3 v7 (zv (List.range i))):=HO;have aI:Hid (Blk wr G 60 #[.int .u64 count,.int .u64 epoch,.int .i64 d,.int .i64 s,.int .i64 0,.int .i64 0,.bool false,v7,.slice none 0 0]):=aI;have HX:=Zz (gR.o wr P n 13 (nT [] (mem.drop 0)) (by omega) (by decide) (q_g (fu.o [] 0 (by decide)) (by decide)) HP.o);go_wp2_with fail;refine HX.o.mono ?_;rintro e nN ⟨rfl,fO,qW⟩;have E7:=Zz fO;have wv:=Zz (aI.o.kp qW fun e=>aU.o.1 e);have ww:=Zz (ak.o.kp qW fun e=>dr.o (Eq.symm e));have E8:=Zz (HK.o.then qW fun q hq e=>(by have:=dR.o;have e:q=P:=e;omega:False))
     have mJ:=Zz (HO.o.kp qW fun q hq e=>by
      obtain ⟨cs,hb⟩:=x_N HO.o hq;have e:q=P:=e;subst e
      exact Blk.ne_ hb HP.o (by decide) rfl)
     have nx:Hid (nN.ownsRow w.heap.size 108 3 (.slice none 0 0) 0 (z_x (mem.take 0))):=Zz (World.ownsRow_nil _ _ _ _)
     obtain ⟨A7,qX,rfl⟩:∃A c,v7=.slice A i c:=by
      obtain ⟨A,c,e⟩:=mJ.o.shape;exact ⟨A,c,by rw[e,z_w,q_H]⟩
     clear fO qW HP aI ak HK HO HX
     go_upto_region 16 with fail
     go_loopw [47] (fun s47 wr=>∃j:Nat,j<=n/\s47=.int .i64 j/\Hid (∃v8,wr.ownsRow w.heap.size 108 3 v8 j (z_x (mem.take j))/\Blk wr G 60 #[.int .u64 count,.int .u64 epoch,.int .i64 d,.int .i64 s,.int .i64 0,.int .i64 0,.bool false,.slice A7 i qX,v8])/\Hid (Own wr w.heap.size 3 (.slice A7 i qX) (zv (List.range i)))/\Hid (Blk wr P 317 (Rd.cs (nT [] (mem.drop j),0)))/\Hid (Blk wr G2 60 #[.int .u64 0,.int .u64 0,.int .i64 0,.int .i64 0,.int .i64 0,.int .i64 0,.bool false,.slice none 0 0,.slice none 0 0])/\Hid (Kp NoB w wr)) (fun s47 _=>n-(intOf s47).toNat)
     case atStart=>exact ⟨0,by omega,rfl,Zz ⟨_,nx.o,wv.o⟩,mJ,E7,ww,E8⟩
     case round =>
      clear nx wv mJ E7 ww E8;obtain ⟨j,hj,rfl,we,HO,St,ak,HK⟩:=hrel;obtain ⟨v8,oD,dW⟩:=we.o;have aI:=Zz dW;have HV:=Zz oD;clear oD dW we;by_cases af:j<n
      ·have bV:(j:Int)<(n:Int):=by omega
       have cF:j<mem.length:=by rw[HN.o];exact af
       have HX:=Zz (fun W hB=>tO.o W P (mem[j]'cF) (aR.o j cF) (ej.o j cF).1 (ej.o j cF).2.1 (nT [] (mem.drop (j+1))) (q_g (fu.o [] (j+1) (by decide)) (by decide)) hB)
       have HP:Hid (Blk wr.drew P 317 (Rd.cs (y_J (mem[j]'cF)++nT [] (mem.drop (j+1)),0))):=Zz (by
        have h1:=St.o;rw[List.drop_eq_getElem_cons cF,nT_mem] at h1
        exact h1)
       have pg:Hid (z_x (mem.take (j+1))=z_x (mem.take j)++[.int .i64 ((mem[j]'cF).st:Int),.string (mem[j]'cF).top,.string (mem[j]'cF).log]):=Zz (by
        rw[q_h cF,v_0];rfl)
       obtain ⟨⟨xs,xt,xl⟩,hx⟩:∃x,mem[j]'cF=x:=⟨_,rfl⟩;rw[hx] at HX pg HP
       dsimp only at HX pg
       clear hx;have HV:Hid (wr.drew.ownsRow w.heap.size 108 3 v8 j (z_x (mem.take j))):=HV;have aI:Hid (Blk wr.drew G 60 #[.int .u64 count,.int .u64 epoch,.int .i64 d,.int .i64 s,.int .i64 0,.int .i64 0,.bool false,.slice A7 i qX,v8]):=aI;have HO:Hid (Own wr.drew w.heap.size 3 (.slice A7 i qX) (zv (List.range i))):=HO;have ak:Hid (Blk wr.drew G2 60 #[.int .u64 0,.int .u64 0,.int .i64 0,.int .i64 0,.int .i64 0,.int .i64 0,.bool false,.slice none 0 0,.slice none 0 0]):=ak;have HK:=Zz HK.o.drew
       go_upto_region 17 with fail
       refine fs ?_;generalize wr.drew=Ct at *;have c8:=aI.o.c8;refine fp 0 ?_;refine f_c 1 c8 ?_;refine fp 2 ?_;refine fd 3 fun K Qx hK=>?_;go_simp;refine (HX.o _ HP.o).mono ?_;rintro e Su ⟨rfl,pP,oE⟩;have Fa:=Zz pP;have qY:=Zz (aI.o.kp oE fun e=>aU.o.1 e);have wy:=Zz (ak.o.kp oE fun e=>dr.o (Eq.symm e));have Fb:=Zz (HK.o.then oE fun q hq e=>(by have:=dR.o;have e:q=P:=e;omega:False))
       have Fc:=Zz (HO.o.kp oE fun q hq e=>by
        obtain ⟨cs,hb⟩:=x_N HO.o hq;have e:q=P:=e;subst e
        exact Blk.ne_ hb HP.o (by decide) rfl)
       have Fd:=Zz (z_e HV.o oE fun q hq e=>by
        obtain ⟨cs,hb⟩:=z_i HV.o hq;have e:q=P:=e;subst e
        exact Blk.ne_ hb HP.o (by decide) rfl)
       refine hK _ _ (oK (qY.o.cell 8) oN) ?_;clear hK K c8 pP oE HP aI ak HK HO HV;refine fd 4 fun K Qx hK=>?_;go_simp;have jf:=Zz (Fa.o.alloc (.cells #[.int .i64 xs,.string xt,.string xl] 108));have jX:=Zz (qY.o.alloc (.cells #[.int .i64 xs,.string xt,.string xl] 108));have mM:=Zz (wy.o.alloc (.cells #[.int .i64 xs,.string xt,.string xl] 108));have dK:=Zz (Fb.o.alloc (.cells #[.int .i64 xs,.string xt,.string xl] 108));have cy:=Zz (Fc.o.alloc (.cells #[.int .i64 xs,.string xt,.string xl] 108));have zl:=Zz (World.ownsRow.alloc Fd.o (.cells #[.int .i64 xs,.string xt,.string xl] 108));have eQ:=Zz (v_c Su 108 3 [.int .i64 xs,.string xt,.string xl] rfl (by decide));refine hK _ _ (oK (jX.o.cell 8) oN) ?_;clear hK K Fa qY wy Fb Fc Fd;generalize Su.alloc (.cells #[.int .i64 xs,.string xt,.string xl] 108)=Yy at *;refine y_L 5 rfl rfl (by kernel_rfl) ?_;refine v_b (m:=1) (k:=j) rfl underlying58 infoME rfl (by decide) (by decide) rfl rfl (fun u hu=>by simp at hu;rcases hu with rfl|rfl|rfl<;>rfl) zl.o eQ.o (by decide) dK.o.size (by omega) ?_;intro v1 Fe ho hg;rw[<-pg.o] at ho;have aC:Kp (fun q=>some q=v8.ownBlock) Yy Fe:=Kp.of_grown hg fun _ h=>h;have jG:=Zz (jX.o.kp aC fun h=>z_s zl.o jX.o (by decide) h.symm);have Ff:=Zz (jf.o.kp aC fun h=>z_s zl.o jf.o (by decide) h.symm);have wD:=Zz (mM.o.kp aC fun h=>z_s zl.o mM.o (by decide) h.symm)
       have zm:=Zz (cy.o.kp aC fun q hq h=>by
        obtain ⟨cs,hb⟩:=x_N cy.o hq
        exact z_s zl.o hb (by decide) h.symm)
       have Fg:=Zz (dK.o.then aC fun q hq h=>(by have:=(z_u zl.o h.symm).1;omega:False));have zn:=Zz ho;refine ⟨oW oN,?_⟩;obtain ⟨A1,c1,rfl⟩:=z_r ho;clear ho hg aC zl jX jf mM dK eQ cy;have c8:=jG.o.c8;have f8:=jG.o.frozen 8;refine fp 6 ?_;refine fd 7 fun K Qx hK=>?_;go_simp;refine hK _ _ (oW oN) ?_;clear hK K;refine fe ?_;have ap:=(Kp.refl (fun q=>q=G) Fe).setCell ⟨G,8,none⟩ (.slice A1 (j+1) c1) (.inl rfl);have eB:Blk (Fe.setCell ⟨G,8,none⟩ (.slice A1 (j+1) c1)) G 60 #[.int .u64 count,.int .u64 epoch,.int .i64 d,.int .i64 s,.int .i64 0,.int .i64 0,.bool false,.slice A7 i qX,.slice A1 (j+1) c1]:=jG.o.set_ 8 (.slice A1 (j+1) c1);have Fh:=z_e zn.o ap fun q hq e=>z_s zn.o jG.o (by decide) (hq.trans (congrArg some e));have mK:Hid (∃v8,(Fe.setCell ⟨G,8,none⟩ (.slice A1 (j+1) c1)).ownsRow w.heap.size 108 3 v8 (j+1) (z_x (mem.take (j+1)))/\Blk (Fe.setCell ⟨G,8,none⟩ (.slice A1 (j+1) c1)) G 60 #[.int .u64 count,.int .u64 epoch,.int .i64 d,.int .i64 s,.int .i64 0,.int .i64 0,.bool false,.slice A7 i qX,v8]):=Zz ⟨_,Fh,eB⟩
       have dG:=Zz (zm.o.kp ap fun q hq e=>by
        obtain ⟨cs,hb⟩:=x_N zm.o hq;have e:q=G:=e;subst e
        exact Blk.ne_ hb jG.o (by decide) rfl)
       have kR:=Zz (Ff.o.kp ap fun e=>aU.o.1 (Eq.symm e));have eH:=Zz (wD.o.kp ap fun e=>aU.o.2.1 (Eq.symm e));have aB:=Zz (Fg.o.then ap fun q hq e=>(by have:=aU.o.2.2;have e:q=G:=e;omega:False));clear ap eB Fh c8 f8 jG Ff wD Fg zn zm;go_wp2;go_roundw
       case rel=>exact ⟨j+1,by omega,by go_num,mK,dG,kR,eH,aB⟩
       case measure=>simp[intOf];omega
      ·obtain rfl:j=n:=by omega
       have HP:Hid (Blk wr P 317 (Rd.cs ([],0))):=Zz (by
        have h1:=St.o;rw[List.drop_of_length_le (Nat.le_of_eq HN.o)] at h1
        exact h1)
       have HV:Hid (wr.ownsRow w.heap.size 108 3 v8 j (z_x mem)):=Zz (by
        have h1:=HV.o
        rwa [q_t (Nat.le_of_eq HN.o)] at h1)
       obtain ⟨A8,c8,rfl⟩:=z_r HV.o;have ir:=Zz (Ja.o wr w.heap.size _ _ HO.o HV.o);have HD:Hid (Cl 180 #[.pointer (some ⟨P,0,none⟩)] wr fun e w'=>e=.returned (.int .i64 0)/\w'=wr):=Zz (zj.o wr P HP.o)
       have gI:Hid (Cl 108 #[.agg #[.int .u64 count,.int .u64 epoch,.int .i64 d,.int .i64 s,.int .i64 0,.int .i64 0,.bool false,.slice A7 i qX,.slice A8 j c8]] wr fun e w'=>e=.returned (.bool true)/\Kp NoB wr w'):=Zz (by
        have h1:=nA.o wr _ _ ir.o.reads
        rwa [fK.o] at h1)
       clear HP HV HO;have aI:Hid (Blk wr G 60 #[.int .u64 count,.int .u64 epoch,.int .i64 d,.int .i64 s,.int .i64 0,.int .i64 0,.bool false,.slice A7 i qX,.slice A8 j c8]):=aI;have k0:=aI.o.c0;have k1:=aI.o.c1;have k2:=aI.o.c2;have k3:=aI.o.c3;have k4:=aI.o.c4;have k5:=aI.o.c5;have k6:=aI.o.c6;have k7:=aI.o.c7;have k8:=aI.o.c8;go_wp2_with fail;refine HD.o.mono ?_;rintro e jE ⟨rfl,rfl⟩;go_wp2_with fail;refine gI.o.mono ?_;rintro e po ⟨rfl,fb⟩;have fD:=Zz (aI.o.kp fb fun h=>h);have qZ:=Zz (ak.o.kp fb fun h=>h);have q7:=Zz (HK.o.trans fb);have zo:=Zz (ir.o.no fb);clear fb aI ak HK ir HD gI k0 k1 k2 k3 k4 k5 k6 k7 k8;have k0:=fD.o.c0;have k1:=fD.o.c1;have k2:=fD.o.c2;have k3:=fD.o.c3;have k4:=fD.o.c4;have k5:=fD.o.c5;have k6:=fD.o.c6;have k7:=fD.o.c7;have k8:=fD.o.c8
       have jC:(prog.info? 60).map (·.size)=some 9:=by kernel_rfl
       have aD:(#[.int .u64 count,.int .u64 epoch,.int .i64 d,.int .i64 s,.int .i64 0,.int .i64 0,.bool false,.slice A7 i qX,.slice A8 j c8]:Array Value).all (·.oneCell')=true:=by simp[Value.oneCell']
       go_wp2_with (refine wpList_store_row rfl 60 (.tmp 2) (.tmp 66) rfl G2 _ rfl rfl 60 _ qZ.o jC rfl aD ?_)
       have yS:=qZ.o.setRow (cs':=#[.int .u64 count,.int .u64 epoch,.int .i64 d,.int .i64 s,.int .i64 0,.int .i64 0,.bool false,.slice A7 i qX,.slice A8 j c8]);have aM:Kp (fun q=>q=G2) po (po.setRow G2 #[.int .u64 count,.int .u64 epoch,.int .i64 d,.int .i64 s,.int .i64 0,.int .i64 0,.bool false,.slice A7 i qX,.slice A8 j c8]):=(Kp.refl _ po).setRow G2 _ (.inl rfl);refine bodyPost_ret (w_t rfl rfl yS underlying60 rfl jC) rfl ?_
       have aA:∀v e xs k sz,po.ownsRow w.heap.size e sz v k xs->e≠60->∀q,v.ownBlock=some q->¬q=G2:=fun v e xs k sz h he q hq e2=>by
        obtain ⟨cs,hb⟩:=z_i h hq;subst e2;exact Blk.ne_ hb qZ.o he rfl
       exact ⟨_,_,by rw[fK.o];rfl,zo.o.kp aM (aA _ _ _ _ _ zo.o.seats (by decide)) (aA _ _ _ _ _ zo.o.mems (by decide)),q7.o.then aM fun q hq e=>(by have:=BT.o;have e:q=G2:=e;omega:False)⟩
end Go.Proofs.YtdkheklakfbeeaaGreatDoor
