/- Part 43 of the proof. -/
import Derived.ProofKit
import Derived.OpenShut
import Derived.SliceStrings
import Derived.Test.YtdkheklakfbeeaaGreatDoorRows
import Derived.LaidMore
import Derived.Lib.LaidTab
import Derived.Deep.Slices
import Derived.Deep.Fields
import Derived.WalkKit
import Derived.ShutString
import Derived.ChangeOld
import Derived.Below
import Derived.Stop.Joined
import Derived.Test.YtdkheklakfbeeaaGreatDoorM42
set_option linter.all false
set_option maxRecDepth 100000
set_option maxHeartbeats 16000000
namespace Go.Proofs.YtdkheklakfbeeaaGreatDoor
open Go.RowKit Go.Proofs.Tryz
def ActsR (w:World) (u:Value) (N:Nat):Prop :=
 ∃A C,u=.slice A N C/\N<=C/\C<=maxLen/\∀i,i<N->∃g off,A=some ⟨g,off,none⟩/\∃(dd a c t kp:Int) (dt:UInt8) (cell:ByteArray),∀j,j<7->w.cell? ⟨g,off+i*7+j,none⟩=(x_g dd a c t dt cell kp)[j]?
theorem slice_acts (W:World) (A:Option Addr) (N C k:Nat) (hk:k<=C):(Instr.slice 23 (.slice A N C) none (some (.int .i64 k)) none).run prog W=.ok (.slice A k C) W:=by
 rw[run_slice_h W 23 A N C (by kernel_rfl) .i64 (k:Int) (by omega) (by omega)]
 have hs:(sizeOf (prog.elem 23)).run prog W=.ok 7 W:=by kernel_rfl
 rw[hs]
 have hA:(if C=0 then A else A.map (·.add (0*7)))=A:=by
  split
  ·rfl
  ·cases A with
   | none=>rfl
   | some a=>simp[Addr.add]
 show Result.ok (Value.slice (if C=0 then A else A.map (·.add (0*7))) ((k:Int).toNat-0) (C-0)) W=_;rw[hA];rfl
theorem index_three (W:World) (x0 x1 x2:Int) (i:Nat) (hi:i<3):(Instr.index 24 (.agg #[.int .i64 x0,.int .i64 x1,.int .i64 x2]) (.int .i64 i)).run prog W=.ok (.int .i64 ([x0,x1,x2].getD i 0)) W:=by
 rcases (show i=0\/i=1\/i=2 by omega) with rfl|rfl|rfl<;>kernel_rfl
section
variable {w:World}
theorem toplost_any (hL:Lay w) (hw:10<=w.heap.size) (a0 a1 x0 x1 x2:Int) (u:Value) (N:Nat) (hu:ActsR w u N) :
  Cl 3 #[.agg #[.int .i64 a0,.int .i64 a1],u,.agg #[.int .i64 x0,.int .i64 x1,.int .i64 x2]] w fun e w'=>e=.returned (.bool true)/\Kp NoB w w':=by
 obtain ⟨A,C,rfl,hNC,hC,aa⟩:=hu;have kB:=Zz aa;obtain ⟨k,hk⟩:∃k,min N 10=k:=⟨_,rfl⟩
 have LS:k<=N:=by omega
 have cd:k<=10:=by omega
 have DJ:min (N:Int) 10=(k:Int):=by omega
 have eP:=fun W=>slice_acts W A N C k (by omega);have aq:∀W ty,(Builtin.len_ #[23] ty #[.slice A N C]).run prog W=.ok (.int .i64 N) W:=fun W ty=>run_len_slice W _ ty A N C (by kernel_rfl);generalize Value.slice A N C=u at *;obtain ⟨d,hd⟩:∃d:Nat,2+max 0 a0 % 3=(d:Int):=⟨(2+max 0 a0 % 3).toNat,by omega⟩
 have h2:2<=d:=by omega
 have h4:d<=4:=by omega
 obtain ⟨s,hs,AO⟩:∃s:Nat,wrap64 (2*2 ^ (max 0 a1 % 2).toNat)=(s:Int)/\sl s:=by
  rcases (show (max 0 a1 % 2).toNat=0\/(max 0 a1 % 2).toNat=1 by omega) with e|e<;>rw[e]
  ·exact ⟨2,by simp[wrap64],.inl rfl⟩
  ·exact ⟨4,by simp[wrap64],.inr rfl⟩
 have jw:2<=s/\s<=4:=by rcases AO with h|h<;>omega
 obtain ⟨m,hm⟩:∃m,s*d=m:=⟨_,rfl⟩
 have jy:0<m:=by rw[<-hm];exact Nat.mul_pos (by omega) (by omega)
 have DR:m<=16:=by rw[<-hm];exact Nat.mul_le_mul jw.2 h4
 have HL:=Zz hL;have lB:=@run_makeMap prog;go_enter func3,ntmps3;go_wp2_with fail;have ag:=((Kp.refl NoB w).alloc (.cells #[.int .i64 a0,.int .i64 a1] 22)).alloc (.cells #[.int .i64 x0,.int .i64 x1,.int .i64 x2] 24);have HB:=Zz (Blk.new (w.alloc (.cells #[.int .i64 a0,.int .i64 a1] 22)) 24 #[.int .i64 x0,.int .i64 x1,.int .i64 x2]);rw[World.size_alloc] at HB;generalize (w.alloc (.cells #[.int .i64 a0,.int .i64 a1] 22)).alloc (.cells #[.int .i64 x0,.int .i64 x1,.int .i64 x2] 24)=w1 at *;obtain ⟨G,hG⟩:∃G,w.heap.size=G:=⟨_,rfl⟩;have HG:=Zz hG;rw[hG] at HB ⊢
 have aN:10<=w1.heap.size:=by have:=ag.size;omega
 refine (tw_begin (X:=fun x=>x=G+1) (HL.o.no ag) aN ag (fun x e=>by rw[e];exact HB.o.lt) h2 h4 AO).mono ?_;rw[hm];rintro e w2 ⟨z,p,b,v,gt,vn,vl,Ft,rfl,hT,je⟩;have HT:=Zz hT;have ak:=Zz (HB.o.kp je fun h=>h);clear hT je hG HB ag aN;go_wp2_with fail;refine (lives_any (HL.o.no HT.o.k) (by have:=HT.o.k.size;omega)).mono ?_;rintro e w3 ⟨rfl,au⟩;have GG:=Zz (HT.o.no au);have aJ:=Zz (ak.o.kp au fun h=>h);clear HT ak au;have vW:=Zz (Vk.begin h2 h4 AO);have jN:=Zz (Wp.begin m);have ej:=Zz hm;clear hL aa
 go_upto_region 6 with fail
 go_loopw [49] (fun s49 wr=>∃(i:Nat) (f:Nat->Option ByteArray) (dom:List Nat) (now:List ByteArray),i<=k/\s49=.int .i64 i/\dom.length<=i/\Hid (Tw w wr (fun x=>x=G+1) z p b v (d+2) 0 gt (bgS d s (d+2)) (bgD d s (d+2)) f dom [] vn vl now Ft)/\Hid (Wp m (fun _=>bs z_M) f dom now)/\Hid (Blk wr (G+1) 24 #[.int .i64 x0,.int .i64 x1,.int .i64 x2])) (fun s49 _=>k-(intOf s49).toNat)
 case atStart=>exact ⟨0,_,[],_,by omega,rfl,by simp,GG,jN,aJ⟩
 case round =>
  clear GG jN aJ;obtain ⟨i,f,dom,now,hi,rfl,lY,HT,HW,HB⟩:=hrel;by_cases af:i<k
  ·have bV:(i:Int)<(k:Int):=by omega
   obtain ⟨g,off,rfl,dd,a,c,t,kp,dt,cell,hc⟩:=kB.o i (by omega)
   have xg:∀j,j<7->wr.cell? ⟨g,off+i*7+j,none⟩=(x_g dd a c t dt cell kp)[j]?:=fun j hj=>by
    have h1:=hc j hj;have h2:∃y,(x_g dd a c t dt cell kp)[j]?=some y:=⟨_,Array.getElem?_eq_getElem (by show j<7;exact hj)⟩;obtain ⟨y,hy⟩:=h2;rw[hy] at h1 ⊢;exact (HT.o.k.below0.cell (q_c w _ h1)).trans h1
   have q0:wr.cell? ⟨g,off+i*7,none⟩=some (.int .i64 dd):=xg 0 (by decide);have q1:wr.cell? ⟨g,off+i*7+1,none⟩=some (.int .i64 a):=xg 1 (by decide);have q2:wr.cell? ⟨g,off+i*7+2,none⟩=some (.int .i64 c):=xg 2 (by decide);have q3:wr.cell? ⟨g,off+i*7+3,none⟩=some (.int .i64 t):=xg 3 (by decide);have q4:wr.cell? ⟨g,off+i*7+4,none⟩=some (.int .u8 dt.toNat):=xg 4 (by decide);have q5:wr.cell? ⟨g,off+i*7+5,none⟩=some (.string cell):=xg 5 (by decide);have q6:wr.cell? ⟨g,off+i*7+6,none⟩=some (.int .u64 kp):=xg 6 (by decide);clear hc xg;have HA:=Zz (Blk.new wr 31 (x_g dd a c t dt cell kp));have Uc:=Zz (HT.o.no ((Kp.refl NoB wr).alloc (.cells (x_g dd a c t dt cell kp) 31)));have aY:=Zz (HB.o.kp ((Kp.refl NoB wr).alloc (.cells (x_g dd a c t dt cell kp) 31)) fun h=>h)
   go_upto_region 8 with fail
   clear q0 q1 q2 q3 q4 q5 q6;change Code.wp _ _ _ _ (wr.alloc (.cells (x_g dd a c t dt cell kp) 31));generalize wr.alloc (.cells (x_g dd a c t dt cell kp) 31)=w5 at *;generalize wr.heap.size=P at *;have a0':=HA.o.c0;have a1':=HA.o.c1;have a2':=HA.o.c2;have a3':=HA.o.c3;have a4':=HA.o.c4;have a5':=HA.o.c5;have a6':=HA.o.c6;have bQ:=ej.o;have PY:=tw_write Uc.o HL.o vW.o (by rw[bQ];exact HW.o) (by omega) dd a c t kp dt cell;rw[bQ] at PY;have gD:=Zz PY;have kI:Hid (plN a m<m):=Zz (q_z _ jy);clear bQ PY;go_wp2_with fail;refine gD.o.mono ?_;rintro e w6 ⟨rfl,Ud,ap⟩;have O8:=Zz Ud;have bk:=Zz (aY.o.kp ap fun h=>h.2 rfl);have HW6:=Zz (HW.o.write kI.o (blkB_size dt c))
   have PZ:(z_J dom (plN a m)).length<=i+1:=by have:=addK_len dom (plN a m);omega
   clear Ud ap Uc aY HW HT HB HA gD a0' a1' a2' a3' a4' a5' a6';go_wp2;go_roundw
   case rel=>exact ⟨i+1,_,_,_,by omega,by go_num,PZ,O8,HW6,bk⟩
   case measure=>simp[intOf];omega
  ·obtain rfl:i=k:=by omega
   have Ue:=Zz (tw_sync HT.o HL.o hw vW.o (show 2<100 by decide) (by rw[ej.o];exact HW.o));go_wp2_with fail;refine Ue.o.mono ?_;rintro e w4 ⟨rfl,q,S,σ,ch,B,kE,Ft',hT,hV,hW,hq,rD,Uf⟩;rw[ej.o] at hW;have bR:=Zz ((HB.o.kp Uf fun h=>h.2 rfl).kp ((Kp.refl NoB w4).alloc (.map #[] 0)) fun h=>h);have Ug:=Zz (hT.add (g:=w4.heap.size) (w'':=w4.alloc (.map #[] 0)) (q_e _) (by rw[World.size_alloc];omega) ((Kp.refl NoB w4).alloc _));have mt:Hid (MapA KI (w4.alloc (.map #[] 0)) w4.heap.size (suF []) []):=Zz (by rw[suF_nil];exact MapA.made w4);have HV:=Zz hV;have mN:=Zz hW;have HQ:Hid (q<=1000/\S.count<700):=Zz ⟨hq,rD⟩;have HWG:Hid (w.heap.size<=w4.heap.size):=Zz hT.k.size;clear hT hV hW hq rD Uf Ue HT HW HB vW kB
   go_upto_region 13 with fail
   generalize w4.alloc (.map #[] 0)=w5 at *;generalize w4.heap.size=M at *;have b0:=bR.o.c0;have b1:=bR.o.c1;have b2:=bR.o.c2
   go_upto_region 14 with fail
   clear b0 b1 b2 bR;have wX:=fun W i hi=>index_three W x0 x1 x2 i hi;generalize xj:[x0,x1,x2]=xs at wX;clear xj;generalize Value.agg #[.int .i64 x0,.int .i64 x1,.int .i64 x2]=V at *;have Uh:=Zz wX;clear wX
   go_loopw [62] (fun s62 wr=>∃(j:Nat) (σ':Nat->DkS) (D:List Nat) (xe:Nat->Prop),j<=3/\s62=.int .i64 j/\D.length<=j/\Hid (Tw w wr (fun x=>x=G+1\/x=M) z p b v (d+2) q gt S σ' (fun _=>none) [] D vn kE now xe)/\Hid (Vk (d+2) d s S σ' ch B D)/\Hid (MapA KI wr M (suF D) D)) (fun s62 _=>3-(intOf s62).toNat)
   case atStart=>exact ⟨0,_,[],_,by omega,rfl,by simp,Ug,HV,mt⟩
   case round =>
    clear Ug HV mt;obtain ⟨j,σ',D,xe,hj,rfl,BW,HT,HV,mt⟩:=hrel;by_cases uz:j<3
    ·have hin3:(j:Int)<3:=by omega
     have wX:=fun W=>Uh.o W j uz;generalize xs.getD j 0=x at *;obtain ⟨kd,bY⟩:∃kd:Nat,max 0 x % ((d:Int)+2)=(kd:Int):=⟨(max 0 x % ((d:Int)+2)).toNat,by have:=Int.emod_nonneg (max 0 x) (show (d:Int)+2≠0 by omega);omega⟩
     have dN:kd<d+2:=by have:=Int.emod_lt_of_pos (max 0 x) (show 0<(d:Int)+2 by omega);omega
     have pH:IntKind.i64.wrap ((d:Int)+2)=(d:Int)+2:=by rw[q_r];omega
     have uK:¬((d:Int)+2=0):=by omega
     have wj:(max (0:Int) x).tmod ((d:Int)+2)=(kd:Int):=by rw[Int.tmod_eq_emod_of_nonneg (by omega)];exact bY
     go_upto_region 16 with fail
     have rV:=Zz (HT.o.no (Kp.refl NoB wr).drew);have Ui:=Zz (mt.o.no (Kp.refl NoB wr).drew);have fZ:=Zz (tw_kill rV.o HV.o dN (by omega));clear HT mt;refine fs ?_;generalize wr.drew=w6 at *;have c0:=rV.o.hz.c0;refine fp 0 ?_;refine fp 1 ?_;refine fp 2 ?_;refine f_c 3 c0 ?_;refine fp 4 ?_;refine fp 5 ?_;refine fp 6 ?_;refine fp 7 ?_;refine fp 8 ?_;refine fd 9 fun K Qx hK=>?_;go_simp;refine fZ.o.mono ?_;rintro e w7 ⟨rfl,Ft3,Uj,aM⟩;have sr:=Zz Uj;have iM:=Zz (Ui.o.kp aM fun h=>h.2 (.inr rfl));refine hK _ _ (oK (sr.o.hz.cell 0) oN) ?_;clear hK K Uj aM rV Ui fZ c0;refine fe ?_;obtain ⟨w8,gS,P0,aL⟩:=iM.o.put kd3 mapIB (by simp only[maxLen];omega) (a:=kd) (show kd<=100000 by omega) (.bool true);replace gS:(Instr.mapUpdate 35 (.map (some M)) (.int .i64 kd) (.bool true)).run prog w7=.ok () w8:=gS;rw[suF_put] at P0;have jn:=Zz P0;have Uk:Hid (w.heap.size<=M):=Zz HWG.o
     have Jo:=Zz (sr.o.own aL fun y e=>by
      have e:y=M:=e
      exact ⟨.inr e,by have:=Uk.o;omega⟩)
     have eT:=Zz (HV.o.kill dN)
     have P5:(z_J D kd).length<=j+1:=by have:=addK_len D kd;omega
     clear P0 aL HV sr iM Uk;go_wp2;go_roundw
     case rel=>exact ⟨j+1,_,_,_,by omega,by go_num,P5,Jo,eT,jn⟩
     case measure=>simp[intOf];omega
    ·obtain rfl:j=3:=by omega
     have IC:=Zz HT.o.hn;obtain ⟨gn,cn,rfl,Hx,Hy,vy⟩:=IC.o.form (by rw[z_c,mN.o.len];exact jy);rw[z_c,mN.o.len] at HT vy;have z1:=HT.o.hz.c1;clear IC Uh
     go_upto_region 20 with fail
     clear z1;generalize wr=wo at *;have bZ:Hid (Kp NoB wo wo):=Zz (Kp.refl _ _)
     go_loopw [87] (fun s87 wq=>∃y:Nat,y<=m/\s87=.int .i64 y/\Hid (Kp NoB wo wq)) (fun s87 _=>m-(intOf s87).toNat)
     case atStart=>exact ⟨0,by omega,rfl,bZ⟩
     case round =>
      clear bZ;obtain ⟨y,hy,rfl,HK⟩:=hrel;by_cases fP:y<m
      ·have hyn:(y:Int)<(m:Int):=by omega
       have xh:=Zz (HT.o.no HK.o);have Ie:=Zz (mt.o.no HK.o);have c1:=y_h xh.o.hn mN.o.len y fP;have c0:=xh.o.hz.c0;have dc:=Zz (tw_read xh.o HL.o hw HV.o (by rw[ej.o];exact mN.o) (k:=y) (by rw[ej.o];exact fP));generalize tl now y=X at *;go_wp2_with fail;refine (y_Z xh.o.hm).mono ?_;rintro e w9 ⟨rfl,bF⟩;have bF:=bF.symm;subst bF;go_wp2_with fail;refine dc.o.mono ?_;rintro e w9 ⟨Y,er,rfl,em,bL⟩;have aT:=Zz (HK.o.trans bL);have iR:=fun ty=>(Ie.o.no bL).len mapIB ty;clear bL dc xh Ie HK c0 c1;rcases em with ⟨rfl,rfl⟩|⟨rfl,_,Ul⟩
       ·go_wp2
        go_roundw
        case rel =>
         (repeat apply Exists.intro)
         refine ⟨?_,rfl⟩;exact ⟨y+1,by omega,by go_num,aT⟩
        case measure=>simp[intOf];omega
       ·have If:¬((D.length:Int)<3):=by omega
        go_wp2;go_roundw
        case rel =>
         (repeat apply Exists.intro)
         refine ⟨?_,rfl⟩;exact ⟨y+1,by omega,by go_num,aT⟩
        case measure=>simp[intOf];omega
      ·obtain rfl:y=m:=by omega
       have xh:=Zz (HT.o.no HK.o);have Ie:=Zz (mt.o.no HK.o);have tm:plN 0 y=0:=Nat.zero_mod y;have tn:=tw_write xh.o HL.o HV.o (by rw[ej.o];exact mN.o) (by simp) 0 0 7 0 0 99 ⟨#[]⟩;rw[ej.o,tm] at tn;have gD:=Zz tn;have mB:Hid (Wp y B (y_9 (fun _=>none) 0 (x_Q 99 7)) [0] (now.set 0 (x_Q 99 7))):=Zz (mN.o.write jy (blkB_size 99 7));have kJ:Hid (tl (now.set 0 (x_Q 99 7)) 0=x_Q 99 7):=Zz (by rw[tl_set _ _ _ _ (by rw[mN.o.len];exact jy),if_pos rfl]);have dE:=Zz (fun W=>block_any W 0 0 7 0 0 99 ⟨#[]⟩);clear HT mt HK tn;go_wp2_with fail;refine gD.o.mono ?_;rintro e w9 ⟨rfl,Um,bL⟩;have pu:Hid (Tw w w9 (fun x=>x=G+1\/x=M) z p b v (d+2) q gt S σ' (y_9 (fun _=>none) 0 (x_Q 99 7)) [0] D (.slice (some ⟨gn,0,none⟩) y cn) kE (now.set 0 (x_Q 99 7)) xe):=Zz Um;have vk:=Zz (Ie.o.kp bL fun h=>h.2 (.inr rfl));have nJ:=Zz (tw_last pu.o HL.o hw HV.o (by rw[ej.o];exact mB.o) (by have:=HQ.o.1;omega) (by have:=HQ.o.2;omega));rw[kJ.o,ej.o] at nJ;have c0:=pu.o.hz.c0;clear Um bL xh Ie gD mB kJ;generalize x_Q 99 7=X at *;go_wp2_with fail;refine (y_Z pu.o.hm).mono ?_;rintro e bO ⟨rfl,bF⟩;have bF:=bF.symm;subst bF;go_wp2_with fail;refine nJ.o.mono ?_;rintro e bO ⟨er,pn,rfl,em,Un,bH,aH,hz,cd,lS⟩;have P7:=Zz Un;have dc:=Zz (bH bO (Kp.refl _ _));have aR:=Zz aH;have HZ:=Zz hz;have kh:=Zz (vk.o.kp cd fun h=>h.2 (.inr rfl));have fB:=Zz lS;clear Un bH aH hz cd lS pu vk nJ c0;have c0:=HZ.o.c0;go_wp2_with fail;refine (P7.o bO (Kp.refl _ _)).mono ?_;rintro e fa ⟨rfl,bF⟩;have bF:=bF.symm;subst bF;go_wp2_with fail;refine dc.o.mono ?_;rintro e fa ⟨rfl,bX⟩;have cW:=Zz bX;have iR:=fun ty=>(kh.o.no bX).len mapIB ty;clear bX dc c0;rcases em with ⟨Ul,rfl,rfl⟩|⟨Ul,rfl,rfl⟩
       ·have If:(D.length:Int)<3:=by omega
        go_wp2_with fail;refine (dE.o fa).mono ?_;rintro e fN ⟨rfl,bN⟩;have bp:=Zz (cW.o.trans bN);clear bN;have c0:fN.cell? ⟨z,0,none⟩=some (.pointer (some ⟨p,0,none⟩)):=(HZ.o.kp bp.o fun h=>h).cell 0;go_wp2_with fail;refine (P7.o fN bp.o).mono ?_;rintro e eU ⟨rfl,bF⟩;have bF:=bF.symm;subst bF;go_wp2_with fail;refine (aR.o fN bp.o).mono ?_;rintro e eU ⟨As,ks,cs,rfl,jq⟩;have gG:=Zz ((fB.o.trans bp.o).trans jq);have I6:∀W,(Instr.field 51 (.agg #[.bool true,.bool false,.int .i64 y,.int .i64 0,.int .i64 d,.int .i64 0,.int .i64 0,.bool false,.slice As ks cs]) 3).run prog W=.ok (.int .i64 0) W:=fun W=>z_af W (y:Int) 0 (d:Int) As ks cs;clear jq c0;go_wp2;go_ret;exact ⟨rfl,gG.o⟩
       ·have If:¬((D.length:Int)<3):=by omega
        go_wp2_with fail;refine (dE.o fa).mono ?_;rintro e fN ⟨rfl,bN⟩;have bp:=Zz (cW.o.trans bN);clear bN;have c0:fN.cell? ⟨z,0,none⟩=some (.pointer (some ⟨p,0,none⟩)):=(HZ.o.kp bp.o fun h=>h).cell 0;go_wp2_with fail;refine (P7.o fN bp.o).mono ?_;rintro e eU ⟨rfl,bF⟩;have bF:=bF.symm;subst bF;go_wp2_with fail;refine (aR.o fN bp.o).mono ?_;rintro e eU ⟨As,ks,cs,rfl,jq⟩;have gG:=Zz ((fB.o.trans bp.o).trans jq);have I6:∀W,(Instr.field 51 (.agg #[.bool true,.bool false,.int .i64 y,.int .i64 1,.int .i64 d,.int .i64 0,.int .i64 0,.bool false,.slice As ks cs]) 3).run prog W=.ok (.int .i64 1) W:=fun W=>z_af W (y:Int) 1 (d:Int) As ks cs;clear jq c0;go_wp2;go_ret;refine ⟨?_,gG.o⟩
        have rN:(!decide ((D.length:Int)<3))=true:=by rw[q_v (by omega)];rfl
        show Ending.returned (.bool (!decide ((D.length:Int)<3)))=_;rw[rN]
end
section
open Go.ChangeShapes Go.WideShapes
theorem spot_none {w:World} {a:Addr} {v:Value} (h:w.cell? a=some v):a=⟨a.block,a.off,none⟩:=by
 obtain ⟨b,o,s⟩:=a
 cases s with
 | none=>rfl
 | some s =>
  unfold World.cell? at h;split at h<;>simp at h
theorem okWide_agg {P:Program} {w:World} {r:Reach} {b0:Nat} {t e:TypeId} {n:Nat} {v:Value} (ht:P.underlying t=some (.array n e)) (h:Value.okWide P w r b0 t v):∃xs:Array Value,v=.agg xs:=by
 simp only[Value.okWide,ht] at h;obtain ⟨cs,h1,_⟩:=h;exact ⟨cs,h1⟩
theorem open_iarr {H:Type} {enc:TypeId × Value->H} {P:Program} {w:World} {base:Nat} {sp:Nat->Bool} {held:Bool} {r:Reach} {b0:Nat} {t e:TypeId} {n:Nat} {k:IntKind} {v:Value} {d:DataW H} {ps:List MemPlace}
  (ht:P.underlying t=some (.array n e)) (he:P.underlying e=some (.int k)) (hc:P.cellsOf e=1) (Ef:P.cellsOf t=n) (fQ:Value.okWide P w r b0 t v) (h:DataW.Trod enc P w base sp held t v d ps) :
  ∃X:List Int,X.length=n/\v=.agg (X.map (Value.int k)).toArray:=by
 obtain ⟨xs,rfl⟩:=okWide_agg ht fQ;obtain ⟨fuel,hf⟩:=h;obtain ⟨ys,m,_,_,hl,hy,uQ⟩:=DataW.trod_array ht hf;have hx:(Value.agg xs).cells.toList=xs.toList:=rfl;rw[hx] at hl uQ;rw[Ef] at hl
 have aa:∀i,i<n->∃s,xs.toList[i]?=some (.int k s):=by
  intro i hi;have h1:=uQ i hi;rw[hc,Nat.mul_one] at h1
  have Ek:i<ys.length:=by omega
  rw[q_d Ek] at h1;obtain ⟨s,hs,_⟩:=DataW.trod_int he h1;refine ⟨s,?_⟩;have h2:=congrArg (fun l:List Value=>l[0]?) hs;simpa[List.getElem?_take] using h2
 refine ⟨xs.toList.map fun u=>(match u with | .int _ s=>s|_=>0),by simpa using hl,?_⟩
 congr 1;apply Array.ext';apply q_G;intro i;by_cases hi:i<n
 ·obtain ⟨s,hs⟩:=aa i hi
  rw[hs];simp only[List.map_map,q_j,hs];rfl
 ·rw[q_q (by omega),q_q (by simpa using (by omega:xs.toList.length<=i))]
end
section
open Go.ChangeShapes Go.WideShapes Go.Deep
theorem take_one {l:List Value} (h:l.length=7) (j:Nat) (hj:j<7):∃x,(l.drop j).take 1=[x]/\l[j]?=some x:=by
 have hl:j<l.length:=by omega
 refine ⟨l[j],?_,q_d hl⟩;rw[List.drop_eq_getElem_cons hl];rfl
theorem open_acts {H:Type} {enc:TypeId × Value->H} {w:World} {base:Nat} {sp:Nat->Bool} {held:Bool} {r:Reach} {b0:Nat} {v:Value} {d:DataW H} {ps:List MemPlace}
  (fQ:Value.okWide prog w r b0 23 v) (h:DataW.Trod enc prog w base sp held 23 v d ps):∃N,ActsR w v N:=by
 have hu:prog.underlying 23=some (.slice 31):=by kernel_rfl
 have Uo:prog.cellsOf 31=7:=by kernel_rfl
 obtain ⟨fs,P8,bP,iN⟩:∃fs:Array Field,prog.underlying 31=some (.struct fs)/\oneCellFields prog fs=true/\fs.map (·.type)=#[3,3,3,3,5,9,29]:=by
  have aD:(match prog.underlying 31 with|some (.struct fs)=>oneCellFields prog fs && decide (fs.map (·.type)=#[3,3,3,3,5,9,29])|_=>false)=true:=by kernel_rfl
  split at aD
  ·rename_i fs P8
   rw[Bool.and_eq_true,decide_eq_true_eq] at aD;exact ⟨fs,P8,aD.1,aD.2⟩
  ·cases aD
 have hn:fs.size=7:=by
  have:=congrArg Array.size iN
  rwa [Array.size_map] at this
 have m8:∀j:Nat,(fs[j]?).map (fun f:Field=>f.type)=(#[3,3,3,3,5,9,29]:Array Nat)[j]?:=fun j=>by rw[<-iN,Array.getElem?_map]
 have h0:=m8 0;have h1:=m8 1;have h2:=m8 2;have h3:=m8 3;have h4:=m8 4;have h5:=m8 5;have h6:=m8 6;obtain ⟨a0,Ig,Ih,rfl⟩:=okWide_slice hu fQ;obtain ⟨fuel,hf⟩:=h;rcases open_slice hu hf with ⟨et,_⟩|⟨a,len,av,m,n,D,Pl,et,_,hl,hm,lB,_,hi⟩
 ·have e0:(Value.slice a0 Ig Ih)=.slice none 0 0:=by simpa[Value.cells] using et
  rw[e0];exact ⟨0,none,0,rfl,by omega,Nat.zero_le _,fun i hi=>absurd hi (by omega)⟩
 ·have e0:(Value.slice a0 Ig Ih)=.slice (some a) len av:=by simpa[Value.cells] using et
  rw[e0];refine ⟨len,some a,av,rfl,hl,hm,fun i bt=>?_⟩
  have jy:i<m:=by rw[lB];split<;>omega
  have ha:a=⟨a.block,a.off,none⟩:=by
   obtain ⟨iz,aK,_⟩:=hi 0 (by omega);obtain ⟨_,P9,Ii⟩:=World.cells?_some aK;rw[Uo] at P9 Ii;have h0:=Ii 0 (by omega)
   have ea:(a.add (0*7)).add 0=a:=by simp[Addr.add]
   rw[ea,q_d (show 0<iz.length by omega)] at h0;exact spot_none h0
  obtain ⟨cs',hc,Nb⟩:=hi i jy;rw[Uo] at hc;obtain ⟨_,co,br⟩:=World.cells?_some hc;obtain ⟨ys,n',_,_,_,IZ,D1⟩:=DataW.trod_struct P8 Nb
  have key:∀j t,j<7->(fs[j]?).map (fun f:Field=>f.type)=some t->∃x y,cs'[j]?=some x/\DataW.trod enc prog w base sp held n' t [x]=some y:=fun j t hj ht=>by
   obtain ⟨f,hf,rfl⟩:=Option.map_eq_some_iff.1 ht;obtain ⟨ho,hk⟩:=hone_of bP j f hf;have h1:=D1 j f hf;rw[ho,hk] at h1;obtain ⟨x,hx,eN⟩:=take_one co j hj;rw[hx,q_d (show j<ys.length by omega)] at h1;exact ⟨x,_,eN,h1⟩
  obtain ⟨x0,y0,e0',t0⟩:=key 0 3 (by omega) h0;obtain ⟨x1,y1,e1,t1⟩:=key 1 3 (by omega) h1;obtain ⟨x2,y2,e2,t2⟩:=key 2 3 (by omega) h2;obtain ⟨x3,y3,e3,t3⟩:=key 3 3 (by omega) h3;obtain ⟨x4,y4,e4,t4⟩:=key 4 5 (by omega) h4;obtain ⟨x5,y5,e5,t5⟩:=key 5 9 (by omega) h5;obtain ⟨x6,y6,e6,t6⟩:=key 6 29 (by omega) h6;obtain ⟨n0,r0,_⟩:=DataW.trod_int underlying3 t0;obtain ⟨n1,r1,_⟩:=DataW.trod_int underlying3 t1;obtain ⟨n2,r2,_⟩:=DataW.trod_int underlying3 t2;obtain ⟨n3,r3,_⟩:=DataW.trod_int underlying3 t3;obtain ⟨n4,r4,_,w4⟩:=DataW.trod_int (show prog.underlying 5=some (.int .u8) by kernel_rfl) t4;obtain ⟨s5,r5,_⟩:=DataW.trod_string underlying9 t5;obtain ⟨n6,r6,_⟩:=DataW.trod_int (show prog.underlying 29=some (.int .u64) by kernel_rfl) t6;injection r0 with r0;injection r1 with r1;injection r2 with r2;injection r3 with r3;injection r4 with r4;injection r5 with r5;injection r6 with r6;subst r0 r1 r2 r3 r4 r5 r6
  have hb:0<=n4/\n4<256:=by
   simp only[Lit.wf,IntKind.min,IntKind.max,IntKind.signed,IntKind.bits,Bool.and_eq_true,decide_eq_true_eq] at w4;simp at w4;omega
  obtain ⟨ab,ao,asp⟩:=a;have hsp:asp=none:=congrArg Addr.spot ha;subst hsp
  have br:∀j,j<7->w.cell? ⟨ab,ao+i*7+j,none⟩=cs'[j]?:=fun j hj=>by
   have:=br j hj;rw[y_M,y_M] at this;exact this
  refine ⟨ab,ao,rfl,n0,n1,n2,n3,n6,UInt8.ofNat n4.toNat,s5,fun j hj=>?_⟩;rw[br j hj]
  have hu8:(((UInt8.ofNat n4.toNat).toNat:Nat):Int)=n4:=by
   rw[UInt8.toNat_ofNat_of_lt' (show n4.toNat<256 by omega)];omega
  unfold x_g;rw[hu8];rcases (show j=0\/j=1\/j=2\/j=3\/j=4\/j=5\/j=6 by omega) with rfl|rfl|rfl|rfl|rfl|rfl|rfl
  ·exact e0'
  ·exact e1
  ·exact e2
  ·exact e3
  ·exact e4
  ·exact e5
  ·exact e6
theorem lay_of {W:World} (h:laidMetH prog Rows.topLostRow.laid W):Lay W:=by
 rw[MakeChecks.laidMetH_plain _ _ _ (by kernel_rfl)] at h;obtain ⟨ps,⟨g0,t0,cs0,f0,p0,q0,mP,jO,pT,pX,⟨g1,t1,iz,f1,p1,q1,bu,Bf,yW,iD,⟨g2,t2,dq,f2,p2,q2,bJ,uY,qI,db,⟨g3,t3,Ha,f3,p3,q3,eW,Pq,Cc,hd3,⟨g4,t4,cs4,f4,p4,q4,ln,ht4,Jz,zG,_,_⟩,_⟩,_⟩,_⟩,_⟩,_,_⟩:=h
 have at_:∀ {nm:String} {g:Nat} {cs:Array Value},prog.globalNamed nm=some g->W.var? prog nm=some cs->∃t fr,W.heap[g]?=some (.cells cs t fr):=fun {nm g cs} hg hv=>by
  unfold World.var? at hv;rw[hg] at hv;simp only[Option.bind_some] at hv;split at hv
  ·rename_i cs' t fr hh
   injection hv with hv
   subst hv;exact ⟨t,fr,hh⟩
  ·cases hv
 obtain rfl:=Option.some.inj ((show prog.globalNamed "math/bits.deBruijn64tab" = some 5 by kernel_rfl).symm.trans bu)
 obtain rfl:=Option.some.inj ((show prog.globalNamed "cofferdam/layout.sizes" = some 0 by kernel_rfl).symm.trans bJ)
 obtain rfl:=Option.some.inj ((show prog.globalNamed "cofferdam/sha.first" = some 1 by kernel_rfl).symm.trans eW)
 obtain rfl:=Option.some.inj ((show prog.globalNamed "cofferdam/sha.round" = some 2 by kernel_rfl).symm.trans ln)
 obtain rfl:=Option.some.inj ((show (prog.globals[5]?).map (·.type)=some 349 by kernel_rfl).symm.trans Bf);obtain rfl:=Option.some.inj ((show (prog.globals[0]?).map (·.type)=some 189 by kernel_rfl).symm.trans uY);obtain rfl:=Option.some.inj ((show (prog.globals[1]?).map (·.type)=some 271 by kernel_rfl).symm.trans Pq);obtain rfl:=Option.some.inj ((show (prog.globals[2]?).map (·.type)=some 313 by kernel_rfl).symm.trans ht4);have c1:=Lib.cells_of_tab (k:=.u8) (zs:=d64L.map fun n:Nat=>(n:Int)) (show prog.underlying 349=some (.array 64 5) by kernel_rfl) (by kernel_rfl) (by kernel_rfl) (by kernel_rfl) iD;have c2:=Lib.cells_of_tab (k:=.i64) (zs:=[2,4,8,16]) (show prog.underlying 189=some (.array 4 3) by kernel_rfl) (by kernel_rfl) (by kernel_rfl) (by kernel_rfl) db;have c3:=Lib.cells_of_tab (k:=.u32) (zs:=v_x.map fun n:Nat=>(n:Int)) (show prog.underlying 271=some (.array 8 213) by kernel_rfl) (by kernel_rfl) (by kernel_rfl) (by kernel_rfl) hd3;have c4:=Lib.cells_of_tab (k:=.u32) (zs:=roundL.map fun n:Nat=>(n:Int)) (show prog.underlying 313=some (.array 64 213) by kernel_rfl) (by kernel_rfl) (by kernel_rfl) (by kernel_rfl) zG
 have up:∀ {cs:Array Value} {l:List Value},cs.toList=l->cs=l.toArray:=fun e=>by rw[<-e]
 have d1:=up c1;have d2:=up c2;have d3:=up c3;have d4:=up c4;subst d1 d2 d3 d4;refine ⟨?_,?_,?_,?_⟩
 ·obtain ⟨t,fr,h⟩:=at_ eW Cc
  exact ⟨t,fr,h⟩
 ·obtain ⟨t,fr,h⟩:=at_ ln Jz
  exact ⟨t,fr,h⟩
 ·obtain ⟨t,fr,h⟩:=at_ bJ qI
  exact ⟨t,fr,h⟩
 ·obtain ⟨t,fr,h⟩:=at_ bu yW
  exact ⟨t,fr,h⟩
end
end Go.Proofs.YtdkheklakfbeeaaGreatDoor
section
open Go.Proofs.Tryz
namespace Go.Proofs.YtdkheklakfbeeaaGreatDoor.lawTopLost
open Go.ChangeShapes Go.WideShapes Go.ChangeAt Go.RowKit
theorem own:ownKnob prog.godebug=none:=by kernel_rfl
theorem laidOut:laidOutB prog=true:=by kernel_rfl
theorem door_met (os:Os) (args:Array Value):laidMetH prog Rows.topLostRow.laid ((World.doorLaid prog 400 os).forCall (fun _ _=>0) ⟨#[],args,[]⟩).memory :=
 laidMetH_of_parts3 (fuel:=8) (laidMet_of_run' 8 (by kernel_rfl) (by kernel_rfl)) (by kernel_rfl) (by kernel_rfl)
end Go.Proofs.YtdkheklakfbeeaaGreatDoor.lawTopLost
end
section
open Go.Proofs.Tryz
namespace Go.Proofs.YtdkheklakfbeeaaGreatDoor.lawTopLost
open Go.ChangeShapes Go.WideShapes Go.ChangeAt Go.RowKit
theorem two_of {l:List Int} (h:l.length=2):∃a b,l=[a,b]:=by
 match l,h with
 | [a,b],_=>exact ⟨a,b,rfl⟩
theorem three_of {l:List Int} (h:l.length=3):∃a b c,l=[a,b,c]:=by
 match l,h with
 | [a,b,c],_=>exact ⟨a,b,c,rfl⟩
theorem g10:decide (10<=(Go.begin prog (fun _ _=>0) default).world.heap.size)=true:=by kernel_rfl
theorem g6:decide (prog.globals.size<=9)=true:=by kernel_rfl
theorem size_of {w:World} (h:w.ShapedOpen prog):10<=w.heap.size:=by
 obtain ⟨o,_,ho,_⟩:=h.2 9 (of_decide_eq_true g6) (q_f (by decide) (of_decide_eq_true g10));have:=(q_K.1 ho).1;omega
theorem core {H:Type} {enc:TypeId × Value->H} (W:World) (base:Nat) (args:Array Value) (ds gs:List (DataW H)) (before:List MemPlace)
  (xi:∀(j:Nat) t v,Tryz.f3.params[j]?=some t->args[j]?=some v->Value.okWide prog W .any base t v)
  (hW:DataW.Whole enc prog Tryz.f3.params.toList Rows.topLostSpec.vars false W args.toList ds gs before) (hL:laidMetH prog Rows.topLostRow.laid W) (aj:10<=W.heap.size) :
  Cl 3 args W fun e W'=>∃v,e=.returned v/\Rows.topLostSpec.post enc prog Tryz.f3 false true false false W args v W':=by
 have fQ:∀(j:Nat) t v,Tryz.f3.params[j]?=some t->args[j]?=some v->Value.okWide prog W .any base t v:=xi;have PV:=hW;obtain ⟨p,q,Up,hV,rfl,nK,hnd⟩:=hW;have hA:DataW.TrodAll enc prog W 0 (fun _=>true) true Tryz.f3.params.toList args.toList ds p:=Up;rw[Tryz.params3] at hA fQ;obtain ⟨v0,pz,d0,ds0,p0,q0,Uq,rfl,rfl,h0,r0⟩:=trodAll_cons hA;obtain ⟨v1,vs1,d1,ds1,p1,q1,rfl,rfl,rfl,h1,r1⟩:=trodAll_cons r0;obtain ⟨v2,vs2,d2,ds2,p2,q2,rfl,rfl,rfl,h2,r2⟩:=trodAll_cons r1;obtain ⟨rfl,rfl,rfl⟩:=trodAll_nil r2
 obtain rfl:args=#[v0,v1,v2]:=by cases args;simp_all
 obtain ⟨rfl,rfl⟩:=trodVars_none hV;have k0:=h0
 have lt0:∀x∈p0,x.block<W.heap.size:=by obtain ⟨m,hm⟩:=k0;exact DataW.trod_lt m _ _ _ hm
 obtain ⟨X0,l0,rfl⟩:=open_iarr (show prog.underlying 22=some (.array 2 3) by kernel_rfl) underlying3 (by kernel_rfl) (by kernel_rfl) (fQ 0 22 v0 rfl rfl) h0;have k1:=h1
 have lt1:∀x∈p1,x.block<W.heap.size:=by obtain ⟨m,hm⟩:=k1;exact DataW.trod_lt m _ _ _ hm
 obtain ⟨N,Ij⟩:=open_acts (fQ 1 23 v1 rfl rfl) h1;have k2:=h2
 have lt2:∀x∈p2,x.block<W.heap.size:=by obtain ⟨m,hm⟩:=k2;exact DataW.trod_lt m _ _ _ hm
 obtain ⟨X2,l2,rfl⟩:=open_iarr (show prog.underlying 24=some (.array 3 3) by kernel_rfl) underlying3 (by kernel_rfl) (by kernel_rfl) (fQ 2 24 v2 rfl rfl) h2;have Qa:=lay_of hL;clear Up xi;obtain ⟨a0,a1,rfl⟩:=two_of l0;obtain ⟨b0,b1,b2,rfl⟩:=three_of l2;refine (toplost_any Qa aj a0 a1 b0 b1 b2 v1 N Ij).mono fun e W' ⟨he,a8⟩=>?_;subst he;have JP:=a8.below0;exact ⟨_,rfl,_,_,_,[],_,[],PV,trodAll_mk1 (shut_bool underlying4 _),(trodAll_cons_mk (Below.trod laidOut (by kernel_rfl) (of_decide_eq_true (by kernel_rfl)) k0 JP lt0) (trodAll_cons_mk (Below.trod laidOut (by kernel_rfl) (of_decide_eq_true (by kernel_rfl)) k1 JP lt1) (trodAll_cons_mk (Below.trod laidOut (by kernel_rfl) (of_decide_eq_true (by kernel_rfl)) k2 JP lt2) trodAll_mk0))),rfl,JP.frame _,fun h=>by cases h⟩
end Go.Proofs.YtdkheklakfbeeaaGreatDoor.lawTopLost
end
section
open Go.Proofs.Tryz
namespace Go.Proofs.YtdkheklakfbeeaaGreatDoor.lawTopLost
open Go.ChangeShapes Go.WideShapes Go.ChangeAt Go.RowKit
theorem lifted (os:Os) (started:os.Started) (H:Type) (enc:TypeId × Value->H) :
  ReturnsInHanded {} Tryz.checked os 3 .any (fun w args=>(Rows.topLostSpec.pre enc prog Tryz.f3 [] false w args/\laidMetH prog Rows.topLostRow.laid w)/\sizedMet enc prog Tryz.f3 (OpenSpec.ofChange Rows.topLostSpec) false w args)
   (Rows.topLostSpec.post enc prog Tryz.f3 false true false false):=by
 refine returnsInHanded_of_calls (C:=Tryz.checked) own started (by kernel_rfl)
  (ChangeSpec.witness_shaped (enc:=enc) (C:=Tryz.checked) (os:=os) (X:=fun w _=>laidMetH prog Rows.topLostRow.laid w) false (World.doorLaid prog 400 os) #[.agg #[.int .i64 0,.int .i64 0],.slice none 0 0,.agg #[.int .i64 0,.int .i64 0,.int .i64 0]] 8 rfl (World.shaped_of_RefB (by kernel_rfl) (by kernel_rfl)) (by kernel_rfl) (by kernel_rfl) (by kernel_rfl) (door_met os _)) ?_
 intro w tape i _ se _ bI Qb Qc;obtain ⟨_,_,_,fn',Qd,_,_,_,_,fQ⟩:=bI;have e:fn'=Tryz.f3:=Option.some.inj (Qd.symm.trans func3);subst e;obtain ⟨⟨⟨ds,gs,before,hw,hc⟩,hx⟩,hz⟩:=Qb;have hw':=DataW.Whole.of_heap (w':=w.forCall tape i) (by rfl) hw;refine (core (w.forCall tape i) w.heap.size i.args ds gs before fQ hw' (laidMetH.of_heap (w:=(w.forCall tape i).memory) (w':=w.forCall tape i) rfl hx) (size_of se)).mono fun e W' ⟨v,he,hp⟩=>?_;subst he;exact ChangeSpec.post_blind hp
end Go.Proofs.YtdkheklakfbeeaaGreatDoor.lawTopLost
end
section
open Go.Proofs.Tryz
namespace Go.Proofs.YtdkheklakfbeeaaGreatDoor.lawTopLost
open Go.ChangeShapes Go.WideShapes Go.ChangeAt Go.RowKit
theorem row:Rows.TopLostSaid :=
 OpenClaim.holds_of_wide 3 Tryz.f3 rfl rfl rfl rfl rfl rfl rfl ⟨rfl,rfl,rfl,rfl,rfl⟩ rfl rfl rfl rfl rfl (by as_aux_lemma=>kernel_rfl) func3 (by as_aux_lemma=>kernel_rfl)
  (of_decide_eq_true (by as_aux_lemma=>kernel_rfl)) (by unfold Func.isWrapper;first|(rw[if_pos (by decide +kernel)];kernel_rfl)|(rw[if_neg (by decide +kernel)];exact ⟨rfl,rfl⟩))
  (fun os started H enc _=>lifted os started H enc)
end Go.Proofs.YtdkheklakfbeeaaGreatDoor.lawTopLost
end
