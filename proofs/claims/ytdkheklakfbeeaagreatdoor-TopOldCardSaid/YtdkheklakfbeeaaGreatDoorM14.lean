/- Part 14 of the proof. -/
import Derived.WalkMore
import Derived.Shelf.SlIterI.Nil
import Derived.Shelf.SortM.Plain
import Derived.Shelf.SortM.SortNone
import Derived.Ground.GgzProg
import Derived.Ground.SlgmProg
import Derived.Test.YtdkheklakfbeeaaGreatDoorProg
import Derived.Test.YtdkheklakfbeeaaGreatDoorM13
set_option linter.all false
set_option maxRecDepth 100000
set_option maxHeartbeats 16000000
namespace Go.Proofs.YtdkheklakfbeeaaGreatDoor
open Go.RowKit Tryz
variable {F:Nat->Prop}{S:cj}{an b n:Nat}{key:List UInt8}{w:W_}{σ:Nat->ao}
def bg.more {e:Nat} {vs vm:Value} (h:bg w b S vs vm) (hb:e<=b):bg w e S vs vm:=⟨h.seats.more hb,w_Q h.mems hb⟩
section
def xK (H6:a_ w) (h:Bk w b n σ F) (hw:10<=w.heap.size) (h4:Nat) (S:cj) (B:a7 S) (eH:S.mem.length=n) (ha:ab w an 180 #[.int .u64 h4,.string (bs (dC (bh S)))])
  (k v:Nat) (hk:k<n) (H1:∀i,i<k->(σ i).dead=true) (h9:(σ k).dead=false) (h7:v<2) (H7:tl (σ k).now v=bs (bh S)) (u:List UInt8) (R:v=1->tl (σ k).now 0=bs u/\u.length<=2048/\(u=[]\/dC u≠dC (bh S))) :
  Cl 87 #[.agg (aT b an key)] w fun e w'=>∃vs vm,e=.returned (.tuple #[.agg (dK S vs vm),.int .i64 0])/\bg w' w.heap.size S vs vm/\Kp ac w w':=by
 have z:=Zz ((ab.new w 113 (aT b an key)).alloc (.cells #[.int .u64 0,.int .u64 0,.int .i64 0,.int .i64 0,.int .i64 0,.int .i64 0,.bool false,.slice none 0 0,.slice none 0 0] 60));have V:=Zz (((Kp.refl ac w).alloc (.cells (aT b an key) 113)).alloc (.cells #[.int .u64 0,.int .u64 0,.int .i64 0,.int .i64 0,.int .i64 0,.int .i64 0,.bool false,.slice none 0 0,.slice none 0 0] 60));have M:=Zz (ab.new (w.alloc (.cells (aT b an key) 113)) 60 #[.int .u64 0,.int .u64 0,.int .i64 0,.int .i64 0,.int .i64 0,.int .i64 0,.bool false,.slice none 0 0,.slice none 0 0]);rw[World.size_alloc] at M;have x1:=Zz (fun W (k:Kp ac w W)=>w_9 W an h4 _ (ha.kp k fun h=>h));have h8:=Zz (fun W (k:Kp ac w W)=>x_m (h.no k));have H2:=Zz (fun W (k:Kp ac w W) i at' (H8:i<n) (h7:at'<140)=>x_n (h.no k) i at' H8 h7);have x5:=Zz (fun W (k:Kp ac w W) l (hl:l.length<=90000000)=>v_w W (H6.no k) (by have:=k.size;omega) l hl);have y0:=Zz JZ;have x9:=Zz (fun W=>ID W S B);have fG:=Zz (Xg B);have x7:=Zz H1;have x8:=Zz R;have jF:=Zz H7;have y8:=Zz h9
 have cE:n<=12:=by obtain ⟨G,c,st,A,Φ,R,_⟩:=h;exact R.n12
 have H3:Hid (∀vs vm,dK S vs vm=#[.int .u64 S.count,.int .u64 S.epoch,.int .i64 S.data,.int .i64 S.slots,.int .i64 0,.int .i64 0,.bool false,vs,vm]):=Zz fun _ _=>rfl;clear H6 h hw B ha H1 h9 H7 R;change Cl 87 #[.agg #[.pointer (some ⟨b,0,none⟩),.pointer (some ⟨an,0,none⟩),.string (bs key)]] w _;go_enter func87,ntmps87
 go_upto_region 1 with fail
 change Code.wp _ _ _ _ ((w.alloc (.cells (aT b an key) 113)).alloc (.cells #[.int .u64 0,.int .u64 0,.int .i64 0,.int .i64 0,.int .i64 0,.int .i64 0,.bool false,.slice none 0 0,.slice none 0 0] 60));generalize (w.alloc (.cells (aT b an key) 113)).alloc (.cells #[.int .u64 0,.int .u64 0,.int .i64 0,.int .i64 0,.int .i64 0,.int .i64 0,.bool false,.slice none 0 0,.slice none 0 0] 60)=w1 at *;obtain ⟨G,hG⟩:∃G,w.heap.size=G:=⟨_,rfl⟩;rw[hG] at z M ⊢;have y7:=Zz hG;clear hG
 go_step3
 have j:=z.o.c0;have m1:=z.o.c1;go_wp2_with fail;refine (x1.o _ V.o).mono ?_;rintro e E ⟨rfl,N⟩;have O:=Zz (z.o.kp N fun h=>h);have jR:=Zz (M.o.kp N fun h=>h);have s:=Zz (V.o.trans N);clear N j m1 z M V x1;have j:=O.o.c0;have m1:=O.o.c1;go_wp2
 go_step3
 go_wp2_with fail;refine (h8.o _ s.o).mono ?_;rintro e E ⟨rfl,rfl⟩;clear j m1;have g:=Zz (Kp.refl ac E)
 go_upto_region 3 with fail
 go_loopw [6,7,8,9,10,11,21] (fun _ _ _ _ _ _ em wr=>∃i:Nat,i<=k/\em=.int .i64 i/\Hid (Kp ac E wr)) (fun _ _ _ _ _ _ em _=>n-(intOf em).toNat)
 case atStart=>exact ⟨0,o_,rfl,g⟩
 case round =>
  clear g;obtain ⟨i,H8,rfl,g⟩:=hrel;have bL:(i:Int)<(n:Int):=o_;by_cases x6:i<k
  ·have L:=x7.o i x6
   go_upto_region 6 with fail
   go_loopw [7,8,9,10,11,24] (fun _ _ _ _ _ f wr=>f=.int .i64 0/\Hid (Kp ac E wr)) (fun _ _ _ _ _ _ _=>0)
   case atStart=>exact ⟨rfl,g⟩
   case round =>
    clear g;obtain ⟨rfl,g⟩:=hrel;have p:=Zz (O.o.kp g.o fun h=>h);have j:=p.o.c0;have m1:=p.o.c1;have HR:=Zz (H2.o wr (s.o.trans g.o) i 0 o_ d_);rw[L] at HR;simp only[if_true] at HR;clear L;go_wp2_with fail;refine HR.o.mono ?_;rintro e w3 ⟨rfl,rfl⟩;go_wp2;exact ⟨⟨i+1,o_,by go_num,g⟩,by simp[intOf];omega⟩
  obtain rfl:i=k:=o_;have uK:v<=1:=o_
  go_upto_region 6 with fail
  go_loopw [7,8,9,10,11,24] (fun _ _ _ _ _ f wr=>∃a:Nat,a<=v/\f=.int .i64 a/\Hid (Kp ac E wr)) (fun _ _ _ _ _ f _=>2-(intOf f).toNat)
  case atStart=>exact ⟨0,o_,rfl,g⟩
  case round =>
   clear g;obtain ⟨a,ha,rfl,g⟩:=hrel;have p:=Zz (O.o.kp g.o fun h=>h);have U:=Zz (jR.o.kp g.o fun h=>h);have YS:(a:Int)<2:=o_;have j:=p.o.c0;have m1:=p.o.c1;have HR:=Zz (H2.o wr (s.o.trans g.o) i a o_ o_);rw[y8.o] at HR;simp only[Bool.false_eq_true,if_false] at HR;by_cases haa:a<v
   ·obtain rfl:a=0:=o_
    obtain rfl:v=1:=o_;obtain ⟨x2,q2,x3⟩:=x8.o rfl;rw[x2] at HR;have d:=Zz (x5.o wr (s.o.trans g.o) u o_);have y2:=Zz x3;clear x2 q2 x3;go_wp2_with fail;refine HR.o.mono ?_;rintro e w3 ⟨rfl,rfl⟩;by_cases X:dC u=dC (bh S)
    ·obtain rfl:u=[]:=by
      rcases y2.o with h|h
      ·exact h
      exact absurd X h
     rw[X] at d;go_wp2_with fail;refine d.o.mono ?_;rintro e I ⟨rfl,m⟩;have Y:=Zz (p.o.kp m fun h=>h);have t:=Zz (g.o.trans m);clear m j m1 p g U;go_wp2_with fail;refine (y0.o I).mono ?_;rintro e J ⟨rfl,x⟩;have P:=Zz ((t.o.trans x).alloc (.cells #[.int .u64 0,.int .u64 0,.int .i64 0,.int .i64 0,.int .i64 0,.int .i64 0,.bool false,.slice none 0 0,.slice none 0 0] 60));clear x t;unfold supZ;go_wp2;go_roundw
     case rel=>exact ⟨1,o_,by go_num,P⟩
     case measure=>simp[intOf]
    have y3:¬bs (dC u)=bs (dC (bh S)):=fun e=>X (X0.1 e);obtain ⟨aq,b9⟩:=Eb y3;go_wp2_with fail;refine d.o.mono ?_;rintro e I ⟨rfl,m⟩;have t:=Zz (g.o.trans m);clear m j m1 p g U;go_wp2;go_roundw
    case rel=>exact ⟨1,o_,by go_num,t⟩
    case measure=>simp[intOf]
   obtain rfl:a=v:=o_;rw[jF.o] at HR;have d:=Zz (x5.o wr (s.o.trans g.o) (bh S) (by have:=fG.o;omega));go_wp2_with fail;refine HR.o.mono ?_;rintro e w3 ⟨rfl,rfl⟩;go_wp2_with fail;refine d.o.mono ?_;rintro e I ⟨rfl,m⟩;have Y:=Zz (p.o.kp m fun h=>h);have h0:=Zz (U.o.kp m fun h=>h);have t:=Zz (g.o.trans m);clear m j m1 p g U;go_wp2_with fail;refine (x9.o I).mono ?_;rintro e J ⟨vs,vm,rfl,H0,x⟩;have Q:=Zz H0;have h1:=Zz (Y.o.kp x fun h=>h);have x0:=Zz (h0.o.kp x fun h=>h);have P:=Zz (t.o.trans x);have qz:Hid (w.heap.size<=I.heap.size):=Zz (cL s.o.size t.o.size);clear x H0 Y h0 t;obtain ⟨o,cs,Am,cm,y6,y5⟩:=Q.o.reads.shape;subst y6 y5;rw[H3.o];rw[eH] at Q ⊢;have C:=Zz (ab.new J 60 #[.int .u64 S.count,.int .u64 S.epoch,.int .i64 S.data,.int .i64 S.slots,.int .i64 0,.int .i64 0,.bool false,.slice o (S.data+2) cs,.slice Am n cm]);have h5:=Zz (h1.o.alloc (.cells #[.int .u64 S.count,.int .u64 S.epoch,.int .i64 S.data,.int .i64 S.slots,.int .i64 0,.int .i64 0,.bool false,.slice o (S.data+2) cs,.slice Am n cm] 60));have x4:=Zz (x0.o.alloc (.cells #[.int .u64 S.count,.int .u64 S.epoch,.int .i64 S.data,.int .i64 S.slots,.int .i64 0,.int .i64 0,.bool false,.slice o (S.data+2) cs,.slice Am n cm] 60));have h2:=Zz (P.o.alloc (.cells #[.int .u64 S.count,.int .u64 S.epoch,.int .i64 S.data,.int .i64 S.slots,.int .i64 0,.int .i64 0,.bool false,.slice o (S.data+2) cs,.slice Am n cm] 60));have H4:=Zz (Q.o.no ((Kp.refl ac J).alloc (.cells #[.int .u64 S.count,.int .u64 S.epoch,.int .i64 S.data,.int .i64 S.slots,.int .i64 0,.int .i64 0,.bool false,.slice o (S.data+2) cs,.slice Am n cm] 60)))
   go_upto_region 15 with fail
   generalize J.alloc (.cells #[.int .u64 S.count,.int .u64 S.epoch,.int .i64 S.data,.int .i64 S.slots,.int .i64 0,.int .i64 0,.bool false,.slice o (S.data+2) cs,.slice Am n cm] 60)=y at *;obtain ⟨D,hD⟩:∃D,J.heap.size=D:=⟨_,rfl⟩;rw[hD] at C ⊢;clear hD h1 x0 P Q;have y9:Hid (ab y.drew G 113 (aT b an key)):=h5;have T:Hid (ab y.drew (G+1) 60 #[.int .u64 0,.int .u64 0,.int .i64 0,.int .i64 0,.int .i64 0,.int .i64 0,.bool false,.slice none 0 0,.slice none 0 0]):=x4;have r:Hid (ab y.drew D 60 #[.int .u64 S.count,.int .u64 S.epoch,.int .i64 S.data,.int .i64 S.slots,.int .i64 0,.int .i64 0,.bool false,.slice o (S.data+2) cs,.slice Am n cm]):=C;have h6:=Zz h2.o.drew;have Z:=Zz (H4.o.no (Kp.refl ac y).drew);have y1:=Zz (h8.o y.drew (s.o.trans h6.o));clear h5 x4 C h2 H4;refine fs ?_;generalize y.drew=w7 at *;have d8:=r.o.c8;have j:=y9.o.c0;refine fp 0 ?_;refine cw 1 d8 ?_;refine fp 2 ?_;refine fp 3 ?_;refine cw 4 j ?_;refine fd 5 fun K Qx H5=>?_;go_simp;refine y1.o.mono ?_;rintro e H ⟨rfl,rfl⟩;refine H5 _ _ (oK j (oK d8 oN)) ?_;clear H5 K d8 j;refine fp 6 ?_;refine fe ?_;have k0:=r.o.c0;have k1:=r.o.c1;have k2:=r.o.c2;have k3:=r.o.c3;have k4:=r.o.c4;have k5:=r.o.c5;have k6:=r.o.c6;have k7:=r.o.c7;have k8:=r.o.c8;have H9:(prog.info? 60).map (·.size)=some 9:=k_
   have y4:(#[.int .u64 S.count,.int .u64 S.epoch,.int .i64 S.data,.int .i64 S.slots,.int .i64 0,.int .i64 0,.bool false,.slice o (S.data+2) cs,.slice Am n cm]:Array Value).all (·.oneCell')=true:=by simp[Value.oneCell']
   go_wp2_with (refine wpList_store_row rfl 60 (.tmp 2) (.tmp 63) rfl (G+1) _ rfl rfl 60 _ T.o H9 rfl y4 ?_)
   have vF:=T.o.setRow (cs':=#[.int .u64 S.count,.int .u64 S.epoch,.int .i64 S.data,.int .i64 S.slots,.int .i64 0,.int .i64 0,.bool false,.slice o (S.data+2) cs,.slice Am n cm]);have h3:Kp (fun q=>q=G+1) H (H.setRow (G+1) #[.int .u64 S.count,.int .u64 S.epoch,.int .i64 S.data,.int .i64 S.slots,.int .i64 0,.int .i64 0,.bool false,.slice o (S.data+2) cs,.slice Am n cm]):=(Kp.refl _ H).setRow (G+1) _ (.inl rfl)
   try rw[Exit.noGoto_ret]
   refine bodyPost_ret (x_X rfl rfl vF underlying60 rfl H9) rfl ?_;exact ⟨_,_,by rw[H3.o];rfl,(Z.o.kp h3 (nI Z.o.seats T.o d_) (nI Z.o.mems T.o d_)).more qz.o,(s.o.trans h6.o).then h3 fun q hq e=>(by have:=y7.o;have e:q=G+1:=e;omega:False)⟩
end
end Go.Proofs.YtdkheklakfbeeaaGreatDoor
section
open Go.Proofs.Tryz
namespace Go.Proofs
open Go.Shelf
def Tryz.keysA_ren:Go.Shelf.Ren:=⟨fun|7=>226|10=>253|n=>n,fun|23=>86|26=>3|3=>9|28=>132|0=>0|27=>131|33=>137|4=>4|n=>n,fun|n=>n⟩
def Tryz.keysA:Go.Proofs.SlLaysZI.n7 prog Tryz.keysA_ren:={
 mixed:=by kernel_rfl
 f7:=⟨Tryz.f226.name,by decide,func226.trans (congrArg some (by kernel_rfl))⟩
 f10:=⟨Tryz.f253.name,by decide,func253.trans (congrArg some (by kernel_rfl))⟩
 t0:=underlying0
 a0:=isAgg0
 z0:=sizeOf0
 v0:=zeroValue0
 t4:=underlying4
 a4:=isAgg4
 z4:=sizeOf4
 v4:=zeroValue4
 t23:=underlying86
 a23:=isAgg86
 z23:=sizeOf86
 v23:=zeroValue86
 t26:=underlying3
 a26:=isAgg3
 z26:=sizeOf3
 v26:=zeroValue3
 t27:=underlying131
 a27:=isAgg131
 z27:=sizeOf131
 v27:=zeroValue131
 t28:=underlying132
 a28:=isAgg132
 z28:=sizeOf132
 v28:=zeroValue132
 t33:=underlying137
 a33:=isAgg137
 z33:=sizeOf137
 v33:=zeroValue137 }
def Tryz.keysB_ren:Go.Shelf.Ren:=⟨fun|7=>57|10=>98|n=>n,fun|23=>35|26=>3|3=>4|28=>132|0=>0|27=>131|33=>137|4=>4|n=>n,fun|n=>n⟩
def Tryz.keysB:Go.Proofs.SlLaysZI.n7 prog Tryz.keysB_ren:={
 mixed:=by kernel_rfl
 f7:=⟨Tryz.f57.name,by decide,func57.trans (congrArg some (by kernel_rfl))⟩
 f10:=⟨Tryz.f98.name,by decide,func98.trans (congrArg some (by kernel_rfl))⟩
 t0:=underlying0
 a0:=isAgg0
 z0:=sizeOf0
 v0:=zeroValue0
 t4:=underlying4
 a4:=isAgg4
 z4:=sizeOf4
 v4:=zeroValue4
 t23:=underlying35
 a23:=isAgg35
 z23:=sizeOf35
 v23:=zeroValue35
 t26:=underlying3
 a26:=isAgg3
 z26:=sizeOf3
 v26:=zeroValue3
 t27:=underlying131
 a27:=isAgg131
 z27:=sizeOf131
 v27:=zeroValue131
 t28:=underlying132
 a28:=isAgg132
 z28:=sizeOf132
 v28:=zeroValue132
 t33:=underlying137
 a33:=isAgg137
 z33:=sizeOf137
 v33:=zeroValue137 }
def Tryz.sortedA_ren:Go.Shelf.Ren:=⟨fun|6=>56|8=>96|9=>97|11=>146|13=>148|12=>147|23=>204|24=>205|14=>195|15=>196|16=>197|17=>198|18=>199|19=>200|20=>201|21=>202|22=>203|25=>235|26=>236|27=>237|28=>238|29=>239|30=>240|31=>259|n=>n,fun|26=>3|28=>132|24=>57|0=>0|3=>3|37=>214|48=>213|50=>29|4=>4|40=>288|39=>287|45=>293|5=>5|9=>9|51=>324|55=>277|57=>336|58=>337|33=>137|n=>n,fun|n=>n⟩
def Tryz.sortedA:Go.Proofs.SlLaysZI.n6 prog Tryz.sortedA_ren:={
 mixed:=by kernel_rfl
 f6:=⟨Tryz.f56.name,by decide,func56.trans (congrArg some (by kernel_rfl))⟩
 f8:=⟨Tryz.f96.name,by decide,func96.trans (congrArg some (by kernel_rfl))⟩
 f11:=⟨Tryz.f146.name,by decide,func146.trans (congrArg some (by kernel_rfl))⟩
 t0:=underlying0
 a0:=isAgg0
 z0:=sizeOf0
 v0:=zeroValue0
 t24:=underlying57
 a24:=isAgg57
 z24:=sizeOf57
 v24:=zeroValue57
 t26:=underlying3
 a26:=isAgg3
 z26:=sizeOf3
 v26:=zeroValue3
 t28:=underlying132
 a28:=isAgg132
 z28:=sizeOf132
 v28:=zeroValue132
 i26:=by kernel_rfl }
def Tryz.sortA_ren:Go.Shelf.Ren:=⟨fun|5=>97|8=>148|7=>147|19=>204|20=>205|10=>195|11=>196|12=>197|13=>198|14=>199|15=>200|16=>201|17=>202|18=>203|30=>235|31=>236|32=>237|33=>238|34=>239|35=>240|40=>259|n=>n,fun|23=>57|25=>3|3=>3|32=>214|22=>57|0=>0|44=>213|46=>29|4=>4|36=>288|35=>287|41=>293|5=>5|9=>9|53=>324|57=>277|63=>336|64=>337|n=>n,fun|n=>n⟩
def Tryz.sortA:Go.Proofs.SlLaysM.n5 prog Tryz.sortA_ren:={
 mixed:=by kernel_rfl
 f5:=⟨Tryz.f97.name,by decide,func97.trans (congrArg some (by kernel_rfl))⟩
 f7:=⟨Tryz.f147.name,by decide,func147.trans (congrArg some (by kernel_rfl))⟩
 f8:=func148.trans (congrArg some (by kernel_rfl))
 f10:=⟨Tryz.f195.name,by decide,func195.trans (congrArg some (by kernel_rfl))⟩
 f11:=⟨Tryz.f196.name,by decide,func196.trans (congrArg some (by kernel_rfl))⟩
 f12:=⟨Tryz.f197.name,by decide,func197.trans (congrArg some (by kernel_rfl))⟩
 f13:=⟨Tryz.f198.name,by decide,func198.trans (congrArg some (by kernel_rfl))⟩
 f14:=⟨Tryz.f199.name,by decide,func199.trans (congrArg some (by kernel_rfl))⟩
 f15:=⟨Tryz.f200.name,by decide,func200.trans (congrArg some (by kernel_rfl))⟩
 f16:=⟨Tryz.f201.name,by decide,func201.trans (congrArg some (by kernel_rfl))⟩
 f17:=⟨Tryz.f202.name,by decide,func202.trans (congrArg some (by kernel_rfl))⟩
 f18:=⟨Tryz.f203.name,by decide,func203.trans (congrArg some (by kernel_rfl))⟩
 f19:=func204.trans (congrArg some (by kernel_rfl))
 f20:=func205.trans (congrArg some (by kernel_rfl))
 f30:=⟨Tryz.f235.name,by decide,func235.trans (congrArg some (by kernel_rfl))⟩
 f31:=func236.trans (congrArg some (by kernel_rfl))
 f32:=func237.trans (congrArg some (by kernel_rfl))
 f33:=⟨Tryz.f238.name,by decide,func238.trans (congrArg some (by kernel_rfl))⟩
 f34:=⟨Tryz.f239.name,by decide,func239.trans (congrArg some (by kernel_rfl))⟩
 f35:=⟨Tryz.f240.name,by decide,func240.trans (congrArg some (by kernel_rfl))⟩
 f40:=⟨Tryz.f259.name,by decide,func259.trans (congrArg some (by kernel_rfl))⟩
 t0:=underlying0
 a0:=isAgg0
 z0:=sizeOf0
 v0:=zeroValue0
 t3:=underlying3
 a3:=isAgg3
 z3:=sizeOf3
 v3:=zeroValue3
 t4:=underlying4
 a4:=isAgg4
 z4:=sizeOf4
 v4:=zeroValue4
 t5:=underlying5
 a5:=isAgg5
 z5:=sizeOf5
 v5:=zeroValue5
 t9:=underlying9
 a9:=isAgg9
 z9:=sizeOf9
 v9:=zeroValue9
 t22:=underlying57
 a22:=isAgg57
 z22:=sizeOf57
 v22:=zeroValue57
 t23:=underlying57
 a23:=isAgg57
 z23:=sizeOf57
 v23:=zeroValue57
 t25:=underlying3
 a25:=isAgg3
 z25:=sizeOf3
 v25:=zeroValue3
 t32:=underlying214
 a32:=isAgg214
 z32:=sizeOf214
 v32:=zeroValue214
 t35:=underlying287
 a35:=isAgg287
 z35:=sizeOf287
 v35:=zeroValue287
 t36:=underlying288
 a36:=isAgg288
 z36:=sizeOf288
 v36:=zeroValue288
 t41:=underlying293
 a41:=isAgg293
 z41:=sizeOf293
 v41:=zeroValue293
 t44:=underlying213
 a44:=isAgg213
 z44:=sizeOf213
 v44:=zeroValue213
 t46:=underlying29
 a46:=isAgg29
 z46:=sizeOf29
 v46:=zeroValue29
 t53:=underlying324
 a53:=isAgg324
 z53:=sizeOf324
 v53:=zeroValue324
 t57:=underlying277
 a57:=isAgg277
 z57:=sizeOf277
 v57:=zeroValue277
 t63:=underlying336
 a63:=isAgg336
 z63:=sizeOf336
 v63:=zeroValue336
 t64:=underlying337
 a64:=isAgg337
 z64:=sizeOf337
 v64:=zeroValue337 }
end Go.Proofs
end
section
open Go.Proofs.Tryz
namespace Go.Proofs
open Go.RowKit Go.Maps Go.Sort Go.Shelf
def Tryz.sortsA (m:Nat):AnyZI.SortsIn prog Tryz.sortedA_ren Fence.wide m :=
 ⟨fun blk off e i W h hblk g=>callsIn_wide.2 (AnyM.slices_Sort_int Tryz.sortA blk off e i W h hblk g),
 fun p e W=>callsIn_wide.2 (AnyM.slices_Sort_int_none Tryz.sortA p e W)⟩
def Tryz.rising0 {H:Type} (b nn:Nat) (h:DataW H) (R:Value->Option (DataW H × List MemPlace)) (w:World) (hown:w.ownsMap prog 3 R b nn h) (hmax:Maps.size h<=maxLen) (hbytes:Maps.size h*8<=140737488355328) :
  Calls prog 172 #[.map (some b)] w fun e w'=>∃(v:Value) (g:List Int),e=.returned v/\g.Perm (intKeys h) /\
   w'.ownsRow w.heap.size 3 1 v g.length ((g.mergeSort (fun x y=>decide (x<=y))).map encZ)/\(v=.slice none 0 0↔g=[])/\Below w.heap.size w w':=by
 refine (callsIn_wide (n:=6)).1 ?_;have j:=hown.lt
 have hseq:SeqGives Fence.wide 2 prog 253 #[.pointer (some ⟨w.heap.size,0,none⟩)] encZ (fun g=>g.Perm (intKeys h)) (Maps.size h) (w.alloc (.cells #[.map (some b)] 86)) :=
  AnyZI.keys_gives (ρ:=Tryz.keysA_ren) { Tryz.keysA with } Fence.wide _ trivial rfl (by omega) w.heap.size b nn h _ (by simp) (by simp) (by
   obtain ⟨es,clock,hb,Ft,hs,hD⟩:=hown
   exact ⟨es,clock,(Below.heap_alloc _ _ b j).trans hb,Ft,hs,hD⟩)
 have l:∀i W,CallsIn Fence.wide 5 prog 226 #[.map i] W fun e w'=>e=.returned (.func (.func 253) #[] #[.pointer (some ⟨W.heap.size,0,none⟩)])/\w'=W.alloc (.cells #[.map i] 86):=fun i W=>AnyZI.keys_in Tryz.keysA Fence.wide 5 trivial rfl i W;have k:=AnyZI.sorted_in Tryz.sortedA Fence.wide 5 trivial trivial trivial trivial rfl (by omega) (Tryz.sortsA _) (enters_of func97 (by kernel_rfl) rfl) 253 #[.pointer (some ⟨w.heap.size,0,none⟩)] trivial (enters_of func253 (by kernel_rfl) rfl) _ _ hmax hbytes _ hseq;change CallsIn _ _ prog 56 _ _ _ at k;have o:Fence.wide.fn 226:=trivial;have p:Fence.wide.fn 56:=trivial;refine callsIn_of_wp func172 rfl trivial ?_ rfl;simp only[ntmps172,List.size_toArray,List.length_cons,List.length_nil,Nat.reduceAdd,Nat.reduceSub,Array.replicate_succ,Array.replicate_zero,List.push_toArray,List.append_toArray,List.nil_append,List.cons_append]
 gi_wp2_with (first
  | (gi_at_call 226;refine (l _ _).mono ?_;rintro e w' ⟨rfl,rfl⟩)
  | (gi_at_call 56;refine k.mono ?_;rintro e w' ⟨v,g,rfl,m,hrow,hnil,hb⟩))
 go_ret;exact ⟨v,g,rfl,m,ownsRow_base_a hrow (by simp),hnil,((Below.refl _ w).alloc (Nat.le_refl _) _).trans (hb.mono (by simp))⟩
end Go.Proofs
namespace Go.Proofs.YtdkheklakfbeeaaGreatDoor
open Go.RowKit
variable {w:W_}
def pV (dom:List Nat):List Nat:=dom.mergeSort fun x y=>decide (x<=y)
def t_ (dom:List Nat):(pV dom).Perm dom:=List.mergeSort_perm _ _
def w_6 (dom:List Nat):(pV dom).length=dom.length:=(t_ dom).length_eq
def Kq (dom:List Nat) (x:Nat):x∈pV dom↔x∈dom:=(t_ dom).mem_iff
def NL (dom:List Nat) (i:List Int) (h:i.Perm (dom.map fun n:Nat=>(n:Int))):i.mergeSort (fun x y=>decide (x<=y))=(pV dom).map fun n:Nat=>(n:Int):=by
 have j:(i.mergeSort (fun x y=>decide (x<=y))).Perm ((pV dom).map fun n:Nat=>(n:Int)):=(List.mergeSort_perm _ _).trans (h.trans ((t_ dom).symm.map _));have k:(i.mergeSort (fun x y=>decide (x<=y))).Pairwise fun x y=>decide (x<=y)=true:=List.pairwise_mergeSort (fun a b c e g=>by simp at e g ⊢;omega) (fun a b=>by simp;omega) i;have l:(pV dom).Pairwise fun x y=>decide (x<=y)=true:=List.pairwise_mergeSort (fun a b c e g=>by simp at e g ⊢;omega) (fun a b=>by simp;omega) dom
 have m:((pV dom).map fun n:Nat=>(n:Int)).Pairwise fun x y=>decide (x<=y)=true:=by
  rw[List.pairwise_map]
  exact l.imp fun h=>by simp at h ⊢;exact h
 exact List.Perm.eq_of_pairwise (le:=fun x y=>decide (x<=y)=true) (fun a b _ _ e g=>by simp at e g;omega) k m j
section
variable {B:Nat} {f:Nat->Option Value} {dom:List Nat}
def aS.keys (h:aS KI w B f dom):∃D,w.ownsMap prog 3 HR B dom.length D/\Maps.size D=dom.length/\(intKeys D).Perm (dom.map fun n:Nat=>(n:Int)):=by
 obtain ⟨D,g,m,o,u,q⟩:=h.own;refine ⟨D,g,m,?_⟩;obtain ⟨es,r,hp⟩:=g.tidy sY;obtain ⟨l,i,j⟩:=g.keysOf;subst r;cases i;refine (perm_intKeys hp (fun p hp=>?_) ?_ fun x=>?_).symm
 ·obtain ⟨v,hv⟩:=j p hp
  obtain ⟨y,_,t,_⟩:=Maps.keyOf_i64 zk hv;exact ⟨y,t⟩
 ·exact List.pairwise_map.2 (h.nodup.imp fun k e=>k (Int.ofNat.inj e))
 rw[List.mem_map];constructor
 ·rintro ⟨a,ha,rfl⟩
  have:=o a (h.oks a ha);rw[(h.isSome a).2 ha] at this;exact this
 intro s;obtain ⟨a,ha,e⟩:=q _ s;exact ⟨a,ha,by injection e⟩
def Jz (h:aS KI w B f dom) (hl:dom.length<=1000) :
  Calls prog 172 #[.map (some B)] w fun e w'=>∃v,e=.returned v/\aH w' w.heap.size 3 v (zv (pV dom))/\Kp ac w w':=by
 obtain ⟨D,l,i,j⟩:=h.keys;refine (Tryz.rising0 B _ D HR w l (by rw[i];simp only[maxLen];omega) (by rw[i];omega)).mono ?_;rintro e w' ⟨v,k,rfl,hp,hrow,_,hb⟩;have hs:=NL dom k (hp.trans j)
 have g:k.length=(zv (pV dom)).length:=by rw[iF,w_6,(hp.trans j).length_eq,List.length_map]
 refine ⟨v,rfl,?_,Kp.of_below hb ac⟩;rw[hs,List.map_map,g] at hrow;exact hrow
end
end Go.Proofs.YtdkheklakfbeeaaGreatDoor
end
namespace Go.Proofs.YtdkheklakfbeeaaGreatDoor
open Go.RowKit Tryz
variable {F:Nat->Prop}{S:cj}{an b i n s:Nat}{key:List UInt8}{w:W_}{σ:Nat->ao}
section
variable {t:Nat} 
def pc (O:a_ w) (h:Bk w b n σ F) (H3:10<=w.heap.size) (V:i<n) (hs:sl s) (hk:key.length=32) (v:Value) (l:List Wr) (hv:iB w v 2 l.length (eu l)) (hl:l.length<=1000) (U:∀x∈l,x.at'<s/\x.cell.size<=2032) :
  Cl 169 #[.agg (di b i s key),v] w fun e w'=>e=.returned (.int .i64 0)/\Kp ac w w':=by
 have o:=Zz (ab.new w 139 (di b i s key));have g:=Zz ((Kp.refl ac w).alloc (.cells (di b i s key) 139))
 have q:10<=(w.alloc (.cells (di b i s key) 139)).heap.size:=by have:=g.o.size;omega
 have P:=Zz (v_E RX (O.no g.o) (h.no g.o) q V hs hk);have C:=Zz (fun W (k:Kp ac w W) t (h4:t<s)=>z_aa (t:=t) RX (O.no k) (h.no k) (by have:=k.size;omega) V hs hk h4);have Q:=Zz (fun W (k:Kp ac w W)=>hv.no k);have h7:=Zz (tH l);have h5:=Zz (fun i (h:i<l.length)=>U (l[i]'h) (rY h));obtain ⟨B,cv,rfl,K,h1,_,_⟩:=hv;obtain ⟨m,hm⟩:∃m,l.length=m:=⟨_,rfl⟩;rw[hm] at Q hl ⊢;have h2:=Zz hm;clear O h q U hm K h1;change Cl 169 #[.agg #[.pointer (some ⟨b,0,none⟩),.int .i64 i,.int .i64 s,.string (bs key)],.slice B m cv] w _;go_enter func169,ntmps169
 go_upto_region 1 with fail
 change Code.wp _ _ _ _ (w.alloc (.cells (di b i s key) 139));generalize q:w.alloc (.cells (di b i s key) 139)=H4 at *;clear q;generalize w.heap.size=G at *;have d:=o.o.c0;have f:=o.o.c1;have E:=o.o.c2;have I:=o.o.c3;go_wp2_with fail;refine P.o.mono ?_;rintro e H5 ⟨rfl,y⟩;have S:=Zz (o.o.kp y fun h=>h);have T:=Zz (g.o.trans y);clear y d f E I o g P
 go_upto_region 4 with fail
 go_loopw [6,7,13] (fun _ _ M wr=>∃j:Nat,j<=m/\M=.int .i64 j/\Hid (ab wr G 139 (di b i s key))/\Hid (Kp ac w wr)) (fun _ _ M _=>m-(intOf M).toNat)
 case atStart=>exact ⟨0,o_,rfl,S,T⟩
 case round =>
  clear S T;obtain ⟨j,H2,rfl,o,g⟩:=hrel;by_cases L:j<m
  ·have u:j<l.length:=by rw[h2.o];exact L
   have H1:(j:Int)<(m:Int):=o_;obtain ⟨A,c,h3,_,_,_,R⟩:=Q.o wr g.o;cases h3;obtain ⟨pb,off,rfl,N⟩:=R o_;obtain ⟨Y,Z⟩:=h7.o j u;have h6:=(N (j*2) o_).trans Y;have X:=(N (j*2+1) o_).trans Z;rw[<-Nat.add_assoc] at X;obtain ⟨h9,H8⟩:=h5.o j u;generalize (l[j]'u).at'=a at *;generalize (l[j]'u).cell=x at *;have J:=Zz (ab.new wr 152 #[.int .i64 a,.string x]);have z:=Zz (g.o.alloc (.cells #[.int .i64 a,.string x] 152));have p:=Zz (o.o.alloc (.cells #[.int .i64 a,.string x] 152));have H0:¬((2032:Int)<(x.size:Int)):=o_;clear R N Y Z o g
   go_upto_region 6 with fail
   clear h6 X;generalize wr.alloc (.cells #[.int .i64 a,.string x] 152)=H6 at *;generalize wr.heap.size=D at *;have d:=p.o.c0;have f:=p.o.c1;have E:=p.o.c2;have I:=p.o.c3;have d0:=J.o.c0;go_wp2_with fail;refine (C.o _ z.o a h9).mono ?_;rintro e H7 ⟨rfl,r⟩;have h8:=Zz (p.o.kp r fun h=>h);have H:=Zz (z.o.trans r);have h0:=Zz (J.o.kp r fun h=>h);clear r d f E I d0 J z p;have d1:=h0.o.c1;go_wp2;go_roundw
   case rel=>exact ⟨j+1,o_,by go_num,h8,H⟩
   case measure=>simp[intOf];omega
  obtain rfl:j=m:=o_;go_wp2;go_ret;exact ⟨rfl,g.o⟩
end
def dg (m:Nat->Option B_):Nat->Option Value:=fun k=>(m k).map Value.string
def Bq:prog.underlying 86=some (.map 3 9):=underlying86
def sV:prog.underlying 264=some (.map 3 9):=underlying264
def Ey {B:Nat} {m:Nat->Option B_} {dom:List Nat} (h:aS KI w B (dg m) dom):NO w (.map (some B)) m:=fun W i k hk=>by
 have g:=(h.no i).look sY sV (jW W) (a:=k) (show k<=100000 by omega)
 cases hm:m k with
 | none =>
  refine ⟨⟨#[]⟩,?_,fun y h=>by cases h⟩
  have e:dg m k=none:=by simp[dg,hm]
  have:=g.2;rw[e] at this
  exact this
 | some y =>
  refine ⟨y,?_,fun z h=>by cases h;rfl⟩
  have e:dg m k=some (.string y):=by simp[dg,hm]
  have:=g.2;rw[e] at this;exact this
def fc (E:Nat->B_) (dom:List Nat):Nat->Option B_:=fun k=>if k∈dom then some (E k) else none
def LI (E:Nat->B_) (dom:List Nat) (a:Nat):lu (dg (fc E dom)) a (.string (E a))=dg (fc E (e8 dom a)):=by
 funext x;unfold lu dg fc;by_cases e:x=a
 ·subst e;simp[MF]
 simp[MF,e]
def zY (E:Nat->B_):dg (fc E [])=fun _=>none:=by funext x;simp[dg,fc]
def dp (e:Nat->B_) (l:List Wr):Nat->B_:=l.foldl (fun c x=>nP c x.at' x.cell) e
def ib (s:Nat) (l:List Wr):List Nat:=l.foldl (fun d x=>(dJ s x.at').foldl e8 d) []
def iE (l:List Wr):List Nat:=l.foldl (fun d x=>e8 d x.at') []
def kH (e:Nat->B_) (l:List Wr) (j:Nat) (h:j<l.length):dp e (l.take (j+1))=nP (dp e (l.take j)) (l[j]'h).at' (l[j]'h).cell:=by
 unfold dp;rw[mx h,List.foldl_append];rfl
def us (s:Nat) (l:List Wr) (j:Nat) (h:j<l.length):ib s (l.take (j+1))=(dJ s (l[j]'h).at').foldl e8 (ib s (l.take j)):=by
 unfold ib;rw[mx h,List.foldl_append];rfl
def EX (l:List Wr) (j:Nat) (h:j<l.length):iE (l.take (j+1))=e8 (iE (l.take j)) (l[j]'h).at':=by
 unfold iE;rw[mx h,List.foldl_append];rfl
def w_0 (L:List Nat):∀(dom:List Nat) (x:Nat),x∈L.foldl e8 dom↔x∈dom\/x∈L:=by
 induction L with
 | nil=>intro dom x;simp
 | cons a L e=>intro dom x;rw[List.foldl_cons,e,MF,List.mem_cons];exact ⟨fun h=>by rcases h with (h | h) | h<;>simp[h],fun h=>by rcases h with h | h | h<;>simp[h]⟩
def gj (s:Nat) (e:Nat->B_) (l:List Wr):List Wr :=
 ((pV (ib s l)).map fun q=>⟨100+q,dD s (dp e l) q⟩)++(pV (iE l)).map fun t=>⟨120+t,dp e l t⟩
def rS (E e:Nat->B_) (dom P:List Nat):Nat->Option B_:=fun k=>if k∈P then some (e k) else if k∈dom then some (E k) else none
def Z7 (E e:Nat->B_) (dom:List Nat):rS E e dom []=fc E dom:=by funext x;simp[rS,fc]
def UC (E g:Nat->B_) (dom P:List Nat) (a:Nat):lu (dg (rS E g dom P)) a (.string (g a))=dg (rS E g dom (P++[a])):=by
 funext x;unfold lu dg rS;by_cases e:x=a
 ·subst e;simp
 simp[e]
def YA (E g:Nat->B_) (dom P:List Nat) (h:∀k,k∈dom->k∉P->E k=g k):rS E g dom P=fc g (P.foldl e8 dom):=by
 funext x;unfold rS fc;simp only[w_0];by_cases e:x∈P
 ·simp[e]
 by_cases i:x∈dom
 ·simp[e,i,h x i e]
 simp[e,i]
def x_9 {α:Type} {l:List α} {d:α} (h:i<l.length):l.getD i d=l[i]'h:=by rw[be,cr h,Option.getD_some]
def q8 (s t:Nat) (e:Nat->B_):RG s t e 0=e9 s e:=by unfold RG;rw[if_pos rfl]
def nj {t q:Nat} (hs:sl s) (e:t<s) (h:q∈dJ s t):1<=q/\q<s:=by
 unfold dJ at h;rcases hs with rfl|rfl
 ·simp at h;omega
 simp at h;omega
def dB (dom:List Nat) (a:Nat):(e8 dom a).length<=dom.length+1:=by
 unfold e8;split
 ·omega
 simp
def z_al (L:List Nat):∀dom:List Nat,(L.foldl e8 dom).length<=dom.length+L.length:=by
 induction L with
 | nil=>intro dom;simp
 | cons a L e=>intro dom;rw[List.foldl_cons];have:=e (e8 dom a);have:=dB dom a;simp;omega
def L_ (s:Nat) (l:List Wr):(ib s l).length<=2*l.length:=by
 unfold ib
 suffices h:∀d:List Nat,(l.foldl (fun d x=>(dJ s x.at').foldl e8 d) d).length<=d.length+2*l.length by
  have:=h [];simpa using this
 induction l with
 | nil=>intro d;simp
 | cons x l e =>
  intro d;rw[List.foldl_cons];have g:=e ((dJ s x.at').foldl e8 d);have i:=z_al (dJ s x.at') d
  have j:(dJ s x.at').length<=2:=by rw[KU];unfold dP;split<;>omega
  simp;omega
def N0 (l:List Wr):(iE l).length<=l.length:=by
 unfold iE
 suffices h:∀d:List Nat,(l.foldl (fun d x=>e8 d x.at') d).length<=d.length+l.length by
  have:=h [];simpa using this
 induction l with
 | nil=>intro d;simp
 | cons x l e=>intro d;rw[List.foldl_cons];have g:=e (e8 d x.at');have:=dB d x.at';simp;omega
def zu (hs:sl s) (l:List Wr) (h:∀x∈l,x.at'<s):∀q∈ib s l,1<=q/\q<s:=by
 unfold ib
 suffices i:∀d:List Nat,(∀q∈d,1<=q/\q<s)->∀q∈l.foldl (fun d x=>(dJ s x.at').foldl e8 d) d,1<=q/\q<s from i [] s_
 induction l with
 | nil=>intro d g;exact g
 | cons x l k =>
  intro d g;rw[List.foldl_cons];refine k (fun y j=>h y (List.mem_cons_of_mem _ j)) _ fun q e=>?_;rcases (w_0 _ _ _).1 e with e|e
  ·exact g q e
  exact nj hs (h x (List.mem_cons_self ..)) e
def Gq (l:List Wr) (h:∀x∈l,x.at'<s):∀q∈iE l,q<s:=by
 unfold iE
 suffices i:∀d:List Nat,(∀q∈d,q<s)->∀q∈l.foldl (fun d x=>e8 d x.at') d,q<s from i [] s_
 induction l with
 | nil=>intro d e;exact e
 | cons x l k =>
  intro d e;rw[List.foldl_cons];refine k (fun y j=>h y (List.mem_cons_of_mem _ j)) _ fun q g=>?_;rcases (MF _ _ _).1 g with g|rfl
  ·exact e q g
  exact h x (List.mem_cons_self ..)
def D9 (hs:sl s) (g:Nat->B_) (l:List Wr) (h:∀x∈l,x.at'<s) (q:Nat) (k:1<=q) (m:q<s):∀j,j<=l.length->q∉ib s (l.take j)->dD s (dp g (l.take j)) q=dD s g q:=by
 intro j
 induction j with
 | zero=>intro _ _;rfl
 | succ j o =>
  intro n i;have e:j<l.length:=n;rw[us s l j e,w_0] at i;rw[kH g l j e,MT hs (h _ (rY e)) _ _ q k m fun h=>i (.inr h)];exact o (Nat.le_of_lt e) fun h=>i (.inl h)
def Tv {α:Type} {l:List α} {j:Nat} {P:α->Prop} (h:∀x∈l,P x):∀x∈l.take j,P x:=fun x e=>h x (List.mem_of_mem_take e)
section
def Sh (c:a_ w) (h:Bk w b n σ F) (I:10<=w.heap.size) (f:i<n) (hs:sl s) (d:(σ i).dead=false) (g:Nat->B_) (l:List Wr) (hl:∀x∈l,x.at'<s) (J:∀q,1<=q->q<s->tl (σ i).now (100+q)=dD s g q) (j:Nat) (G:j<=l.length) (t:Nat) (v:t<s) (r:Nat)
  (hM:aS KI w r (dg (fc (dD s (dp g (l.take j))) (ib s (l.take j)))) (ib s (l.take j))) :
  Cl 151 #[.agg (di b i s key),.string (e9 s (dp g (l.take j))),.int .i64 t,.map (some r)] w fun e w'=>∃u le,e=.returned (.tuple #[u,.string le,.int .i64 0])/\b_ w' u (sv ((dJ s t).map (dD s (dp g (l.take j)))))/\Kp ac w w':=by
 generalize a:dp g (l.take j)=C at *;have key:=Cv (key:=key) RX c h I f hs v (.map (some r)) _ (Ey hM) (dD s C) (RG s t C) (fun k hk=>⟨fun y p=>?_,fun hn=>⟨d,?_⟩⟩) (Kb hs v C)
 rotate_left
 ·unfold fc at p
  split at p
  ·cases p;rfl
  cases p
 ·have hm:(dJ s t).getD k 0∈dJ s t:=by
   rw[x_9 (by rw[KU];exact hk)];exact rY _
  obtain ⟨m,o⟩:=nj hs v hm;rw[J _ m o,<-a,D9 hs g l hl _ m o j G];intro z;unfold fc at hn;rw[if_pos z] at hn;cases hn
 rw[q8] at key;generalize e9 s C=M at *;generalize RG s t C=N at *;generalize dD s C=E at *;refine key.mono ?_;rintro e w' ⟨u,rfl,m,o⟩;exact ⟨u,_,rfl,m,o⟩
def Uw (o:a_ w) (p:10<=w.heap.size) (hs:sl s) (t:Nat) (j:t<s) (g:Nat->B_) (c:B_) (v:Value) (hv:b_ w v (sv ((dJ s t).map (dD s g)))) :
  Cl 170 #[.int .i64 t,v,.string (cK c)] w fun e w'=>∃u,e=.returned (.tuple #[u,.string (e9 s (nP g t c)),.int .i64 0])/\b_ w' u (sv ((dJ s t).map (dD s (nP g t c))))/\Kp ac w w':=by
 have k:RG s t (nP g t c) (dP s)=cK c:=by rw[E4 hs];simp[nP]
 have hl:((dJ s t).map (dD s g)).length=dP s:=by rw[fW,KU]
 have l:∀i,i<dP s->tl ((dJ s t).map (dD s g)) i=dD s g ((dJ s t).getD i 0):=fun i h=>KJ _ _ _ (by rw[KU];exact h)
 have key:=TC w o p s t hs j v _ hv hl (fun i=>dD s (nP g t c) ((dJ s t).getD i 0)) (RG s t (nP g t c)) (by rw[k,wC]) (fun i h=>by
  rw[l i h]
  exact ⟨w_8 _ _ _,(YU hs j g c i h).1,(YU hs j g c i h).2⟩)
 rw[k,q8] at key
 have m:(List.range (dP s)).map (fun i=>dD s (nP g t c) ((dJ s t).getD i 0))=(dJ s t).map (dD s (nP g t c)):=by
  apply i2 (by simp[KU]);intro i q n
  have h:i<(dJ s t).length:=by simpa using n
  simp[be,h]
 rw[m] at key;generalize e9 s (nP g t c)=r at *;generalize cK c=le at *;generalize (dJ s t).map (dD s (nP g t c))=R at *;exact key
end
def C6:Value->Nat
 | .slice _ n _=>n
 | _=>0
def v_U (T:List B_) (j:Nat) (h:j<T.length):sv (T.take j)++[.string (tl T j)]=sv (T.take (j+1)):=by
 rw[mx h];unfold sv tl;rw[List.map_append,x_9 h];rfl
section
def yc (h:Bk w b n σ F) (an:Nat) (key:List UInt8) (i:Nat) (q:i<n) (m:(σ i).dead=true) (l:B_) :
  Cl 132 #[.agg (aT b an key),.int .i64 i,.string l] w fun e w'=>e=.returned (.tuple #[.slice none 0 0,.int .i64 20])/\Kp ac w w':=by
 have o:=Zz (ab.new w 113 (aT b an key));have j:=Zz ((Kp.refl ac w).alloc (.cells (aT b an key) 113));have g:=Zz (fun W (k:Kp ac w W) at' (p:at'<140)=>x_n (h.no k) i at' q p);rw[m] at g;simp only[if_true] at g;clear h m;change Cl 132 #[.agg #[.pointer (some ⟨b,0,none⟩),.pointer (some ⟨an,0,none⟩),.string (bs key)],.int .i64 i,.string l] w _;go_enter func132,ntmps132
 go_upto_region 1 with fail
 change Code.wp _ _ _ _ (w.alloc (.cells (aT b an key) 113));generalize w.alloc (.cells (aT b an key) 113)=t at *;generalize w.heap.size=G at *
 go_upto_region 3 with fail
 go_loopw [8,9,10,11] (fun r s _ _ wr=>r=.slice none 0 0/\s=.int .i64 1/\wr=t) (fun _ _ _ _ _=>0)
 case atStart=>exact ⟨rfl,rfl,rfl⟩
 case round =>
  obtain ⟨rfl,rfl,rfl⟩:=hrel;have u:=o.o.c0;go_wp2_with fail;refine (g.o wr j.o 2 d_).mono ?_;rintro e w3 ⟨rfl,rfl⟩;go_wp2;go_ret2;exact ⟨rfl,j.o⟩
def wq (h:Bk w b n σ F) (an:Nat) (key:List UInt8) (i:Nat) (d:i<n) (r:(σ i).dead=false) (p:tl (σ i).now 2=bs []) (o:B_) :
  Cl 132 #[.agg (aT b an key),.int .i64 i,.string o] w fun e w'=>e=.returned (.tuple #[.slice none 0 0,.int .i64 4])/\Kp ac w w':=by
 have s:=Zz (ab.new w 113 (aT b an key));have g:=Zz ((Kp.refl ac w).alloc (.cells (aT b an key) 113))
 have z:Hid (∀W,Kp ac w W->Cl 130 #[.pointer (some ⟨b,0,none⟩),.int .i64 i,.int .i64 2] W fun e w'=>e=.returned (.tuple #[.string (bs []),.int .i64 0])/\w'=W):=Zz fun W k=>by
  have:=x_n (h.no k) i 2 d d_;rw[r,p] at this;exact this
 have v:Hid (∀W,Cl 128 #[.string (bs [])] W fun e w'=>e=.returned (.tuple #[.int .i64 0,.int .i64 4])/\Kp ac W w'):=Zz fun W=>w_C W [] d_;have c:Hid (∀W:W_,aH W W.heap.size 9 (.slice none 0 0) (sv [])):=Zz fun W=>aH.nil_ _ _ _;clear h r p;change Cl 132 #[.agg #[.pointer (some ⟨b,0,none⟩),.pointer (some ⟨an,0,none⟩),.string (bs key)],.int .i64 i,.string o] w _;go_enter func132,ntmps132
 go_upto_region 1 with fail
 change Code.wp _ _ _ _ (w.alloc (.cells (aT b an key) 113));generalize w.alloc (.cells (aT b an key) 113)=M at *;generalize w.heap.size=G at *
 go_upto_region 3 with fail
 go_loopw [8,9,10,11] (fun I J _ _ wr=>I=.slice none 0 0/\J=.int .i64 1/\wr=M) (fun _ _ _ _ _=>0)
 case atStart=>exact ⟨rfl,rfl,rfl⟩
 case round =>
  obtain ⟨rfl,rfl,rfl⟩:=hrel;have E:=s.o.c0;go_wp2_with fail;refine (z.o wr g.o).mono ?_;rintro e w3 ⟨rfl,rfl⟩;have f:=Zz (c.o w3)
  go_upto_region 8 with (at_builtin;refine Bp (w0:=w3) w3.heap.size rfl (.tmp 29) (.tmp 31) 38 9 (.string ⟨#[]⟩) 16 rfl underlying38 C4 rfl d_ (.slice none 0 0) (sv []) (.string (bs [])) rfl rfl rfl f.o (Below.refl _ _) (bS _) d_ ?_;intro R N m a j u;obtain ⟨O,Q,rfl⟩:=m.shape;have x:=Zz j;clear m a j u)
  have t:=Zz (g.o.trans (Kp.of_grown x.o (S:=ac) fun q h=>by cases h));go_wp2_with fail;refine (v.o N).mono ?_;rintro e P ⟨rfl,l⟩;have y:=Zz (t.o.trans l);clear l E;go_wp2;go_ret2;exact ⟨rfl,y.o⟩
def NU (L:a_ w) (h:Bk w b n σ F) (x0:10<=w.heap.size) (an:Nat) (key:List UInt8) (i:Nat) (H8:i<n) (h1:(σ i).dead=false) (l:List Wr) (hl:l.length<96) (D:∀x∈l,x.ok) (h0:∀k,k<=l.length->tl (σ i).now (2+k)=tl (bm l) k) :
  Cl 132 #[.agg (aT b an key),.int .i64 i,.string (iD (bm l))] w fun e w'=>∃u,e=.returned (.tuple #[u,.int .i64 0])/\w'.ownsRow w.heap.size 240 2 u l.length (eu l)/\Kp ac w w':=by
 have X:=Zz (ab.new w 113 (aT b an key));have z:=Zz ((Kp.refl ac w).alloc (.cells (aT b an key) 113))
 have H4:Hid (∀W,Kp ac w W->∀k,k<=l.length->Cl 130 #[.pointer (some ⟨b,0,none⟩),.int .i64 i,.int .i64 (2+k:Nat)] W fun e w'=>e=.returned (.tuple #[.string (tl (bm l) k),.int .i64 0])/\w'=W):=Zz fun W kk k hk=>by
  have:=x_n (h.no kk) i (2+k) H8 o_;rw[h1,h0 k hk] at this;exact this
 have C:Hid (∀W,Cl 128 #[.string (tl (bm l) 0)] W fun e w'=>e=.returned (.tuple #[.int .i64 (l.length+1:Nat),.int .i64 0])/\Kp ac W w'):=Zz fun W=>by
  have:=w_C W (bQ l.length) (by rw[ec];decide);rw[(v_r hl).1,(v_r hl).2] at this;exact this
 have x3:=Zz (fun W (k:Kp ac w W) v (hv:b_ W v (sv (bm l)))=>XI W (L.no k) (by have:=k.size;omega) v l hv hl D);have d:=Zz (Nd l);have K:Hid (aH (w.alloc (.cells (aT b an key) 113)) (w.alloc (.cells (aT b an key) 113)).heap.size 9 (.slice none 0 0) (sv ((bm l).take 0))):=Zz (aH.nil_ _ _ _);have H7:Hid (w.heap.size<=(w.alloc (.cells (aT b an key) 113)).heap.size):=Zz s_;clear L h h1 h0 D x0;generalize x7:iD (bm l)=H5 at *;change Cl 132 #[.agg #[.pointer (some ⟨b,0,none⟩),.pointer (some ⟨an,0,none⟩),.string (bs key)],.int .i64 i,.string H5] w _;go_enter func132,ntmps132
 go_upto_region 1 with fail
 change Code.wp _ _ _ _ (w.alloc (.cells (aT b an key) 113));generalize w.alloc (.cells (aT b an key) 113)=y at *;obtain ⟨G,hG⟩:∃G,w.heap.size=G:=⟨_,rfl⟩;rw[hG] at X H7 ⊢;have y4:=Zz hG;clear hG;have Z:=Zz (Kp.refl ac y);obtain ⟨N,U⟩:∃N,l.length+1=N:=⟨_,rfl⟩;rw[U] at C d;have h6:=Zz U;have x8:N<=96:=o_;have y7:0<N:=o_;clear U
 go_upto_region 3 with fail
 go_loopw [8,9,10,11] (fun f x2 _ _ wr=>∃j:Nat,j<=N/\C6 f=j/\x2=.int .i64 (if j=0 then 1 else (N:Int))/\Hid (aH wr y.heap.size 9 f (sv ((bm l).take j)))/\Hid (Kp ac y wr)) (fun f _ _ _ _=>N-C6 f)
 case atStart=>exact ⟨0,o_,rfl,rfl,K,Z⟩
 case round =>
  clear K Z;obtain ⟨j,y6,y2,rfl,o,g⟩:=hrel
  have t:((bm l).take j).length=j:=by rw[gC,d.o];omega
  obtain ⟨I,Q,rfl⟩:∃A c,u8=.slice A j c:=by
   obtain ⟨A,c,e⟩:=o.o.shape;exact ⟨A,c,by rw[e,cN,t]⟩
  by_cases h9:j<N
  ·have H2:j<(bm l).length:=by rw[d.o];exact h9
   have hM:=X.o.kp g.o fun h=>h;have x1:=hM.c0;have HR:=Zz (H4.o wr (z.o.trans g.o) j (by have:=h6.o;omega));have Y:Hid (sv ((bm l).take j)++[.string (tl (bm l) j)]=sv ((bm l).take (j+1))):=Zz (v_U _ j H2);have a:=g.o.size;clear hM;by_cases E:j=0
   ·subst E
    have h5:=C;generalize tl (bm l) 0=R at *;go_wp2_with fail;refine HR.o.mono ?_;rintro e w3 ⟨rfl,rfl⟩
    go_upto_region 8 with (at_builtin;refine Bp (w0:=w3) y.heap.size rfl (.tmp 29) (.tmp 31) 38 9 (.string ⟨#[]⟩) 16 rfl underlying38 C4 rfl d_ _ _ (.string R) rfl rfl rfl o.o ((Below.refl _ _).mono a) a (by rw[cN,t];omega) ?_;intro V h3 m T r M;obtain ⟨h4,H1,rfl⟩:∃A c,V=.slice A (0+1) c:=(by obtain ⟨A,c,e⟩:=m.shape;exact ⟨A,c,by rw[e,cd,cN,t];rfl⟩);have s:=Zz m;have O:=Zz r;clear m T r M)
    have p:=Kp.of_grown O.o (S:=fun q=>some q=(Value.slice I (0) Q).ownBlock) fun _ h=>h;have J:=Zz (g.o.then p fun q H9 h=>by have:=(o.o.lt q h.symm).1;omega);rw[Y.o] at s;clear p;go_wp2_with fail;refine (h5.o h3).mono ?_;rintro e y3 ⟨rfl,P⟩;have H0:=Zz (J.o.trans P);have H6:=Zz (s.o.kp P fun _ _ h=>h);clear P x1;go_wp2;go_roundw
    case rel=>exact ⟨1,o_,rfl,rfl,H6,H0⟩
    case measure=>simp[C6];omega
   have y0:(j:Int)<(N:Int):=o_;have y1:(2:Int)+(j:Int)=((2+j:Nat):Int):=o_
   have x6:IntKind.i64.wrap ((2+j:Nat):Int)=((2+j:Nat):Int):=by rw[eM];omega
   have x9:¬(j+1=1):=o_;have x4:¬(((j+1:Nat):Int)=1):=o_
   have x5:(((j+1:Nat):Int)==1)=false:=by rw[pN];omega
   simp only[E,if_false];generalize tl (bm l) j=R at *;generalize 2+j=y8 at *;go_wp2_with fail;refine HR.o.mono ?_;rintro e w3 ⟨rfl,rfl⟩
   go_upto_region 8 with (at_builtin;refine Bp (w0:=w3) y.heap.size rfl (.tmp 29) (.tmp 31) 38 9 (.string ⟨#[]⟩) 16 rfl underlying38 C4 rfl d_ _ _ (.string R) rfl rfl rfl o.o ((Below.refl _ _).mono a) a (by rw[cN,t];omega) ?_;intro V h3 m T r M;obtain ⟨h4,H1,rfl⟩:∃A c,V=.slice A (j+1) c:=(by obtain ⟨A,c,e⟩:=m.shape;exact ⟨A,c,by rw[e,cd,cN,t];rfl⟩);have s:=Zz m;have O:=Zz r;clear m T r M)
   have p:=Kp.of_grown O.o (S:=fun q=>some q=(Value.slice I (j) Q).ownBlock) fun _ h=>h;have J:=Zz (g.o.then p fun q H9 h=>by have:=(o.o.lt q h.symm).1;omega);rw[Y.o] at s;clear p;go_wp2;go_roundw
   case rel=>exact ⟨j+1,o_,rfl,rfl,s,J⟩
   case measure=>simp[C6];omega
  obtain rfl:j=N:=o_;have E:¬j=0:=o_;simp only[E,if_false]
  have B:b_ wr (.slice I j Q) (sv (bm l)):=by
   have:=o.o.reads
   rwa [kx (Nat.le_of_eq d.o)] at this
  have h8:=Zz (x3.o wr (z.o.trans g.o) _ B);clear B;go_wp2_with fail;refine h8.o.mono ?_;rintro e y5 ⟨u,rfl,h2,H⟩;have h7:=Zz (w_Q h2 (z.o.trans g.o).size);have H3:=Zz ((z.o.trans g.o).trans H);clear h2 H;go_wp2;go_ret2;exact ⟨_,rfl,h7.o,H3.o⟩
end
def M8 (σ:ao) (lg:B_):Option (List Wr)->Prop
 | none=>tl σ.now 2=bs []
 | some l=>l.length<96/\0<l.length/\(∀x∈l,x.ok)/\(∀k,k<=l.length->tl σ.now (2+k)=tl (bm l) k)/\lg=iD (bm l)
def qR (σ:ao) (st:Nat) (L:Option (List Wr)):ao:=if st=1/\σ.dead=false then (match L with|some l=>(σ.wrs l).flush|none=>σ) else σ
def dT (S:cj) (i:Nat):Nat:=(S.mem[i]?.map fv.st).getD 0
def SH (h:i<S.mem.length):dT S i=(S.mem[i]'h).st:=by simp[dT,h]
def e6 (σ:Nat->ao) (S:cj) (L:Nat->Option (List Wr)) (k:Nat):Nat->ao:=fun j=>if j<k then qR (σ j) (dT S j) (L j) else σ j
section
variable (σ:Nat->ao) (S:cj) (L:Nat->Option (List Wr))
def xa:e6 σ S L 0=σ:=by funext j;simp[e6]
def RY (k:Nat):e6 σ S L k k=σ k:=by simp[e6]
def xc (k:Nat):dY (e6 σ S L k) k (qR (σ k) (dT S k) (L k))=e6 σ S L (k+1):=by
 funext j;unfold dY e6;by_cases e:j=k
 ·subst e;simp
 have:(j<k+1)=(j<k):=by rw[eq_iff_iff];omega
 simp only[e,if_false,this]
def x_3 (k:Nat) (h:qR (σ k) (dT S k) (L k)=σ k):e6 σ S L (k+1)=e6 σ S L k:=by
 funext j;unfold e6;by_cases e:j=k
 ·subst e;simp[h]
 have:(j<k+1)=(j<k):=by rw[eq_iff_iff];omega
 simp only[this]
end
section
def J_ (J:a_ w) (h:Bk w b n σ F) (hw:10<=w.heap.size) (an:Nat) (hk:key.length=32) (S:cj) (vs vm:Value) (C:a7 S) (Z:S.mem.length=n) (hR:bg w 10 S vs vm) (L:Nat->Option (List Wr)) (fQ:∀j (h:j<S.mem.length),(S.mem[j]'h).st=1->(σ j).dead=false->M8 (σ j) (S.mem[j]'h).log (L j)) (x3:∀j,j<n->(σ j).wait<=500) :
  Cl 88 #[.agg (aT b an key),.agg (dK S vs vm)] w fun e w'=>e=.returned (.int .i64 0)/\∃o,Gr w F o/\Bk w' b n (e6 σ S L n) o/\Kp F w w':=by
 have H2:=Zz ((ab.new w 113 (aT b an key)).alloc (.cells (dK S vs vm) 60));have N:=Zz (((Kp.refl ac w).alloc (.cells (aT b an key) 113)).alloc (.cells (dK S vs vm) 60));have V:=Zz (ab.new (w.alloc (.cells (aT b an key) 113)) 60 (dK S vs vm));rw[World.size_alloc] at V;have jJ:=Zz (fun W m (hm:m.st<=2)=>mv W m hm);have ov:=Zz (fun W σ' o (hb:Bk W b n σ' o) i (M:i<n) (s:(σ' i).dead=true) x1=>yc hb an key i M s x1);have fT:=Zz (fun W σ' o (hb:Bk W b n σ' o) i (M:i<n) (s:(σ' i).dead=false) (x4:tl (σ' i).now 2=bs []) x1=>wq hb an key i M s x4 x1);have nA:=Zz (fun W σ' o (hb:Bk W b n σ' o) (J:a_ W) (Y:10<=W.heap.size) i (M:i<n) (s:(σ' i).dead=false) l hl x0 x4=>NU J hb Y an key i M s l hl x0 x4);have fG:=Zz (fun W i=>x_4 W b an i S.slots key);have pn:=Zz (fun W σ' o (hb:Bk W b n σ' o) (J:a_ W) (Y:10<=W.heap.size) i (M:i<n) v l (hv:∀H3,Kp o W H3->iB H3 v 2 l.length (eu l)) (hl:l.length<=1000) (x0:∀x∈l,x.ok) (x3:(σ' i).wait<=500) (s:(σ' i).dead=false)=>v_h RX J hb Y M C.sl hk v l hv hl x0 o_ s);have gO:=Zz (fun W (k:Kp F w W)=>(hR.kp k (h.offRow hR.seats (by unfold ci;decide)) (h.offRow hR.mems (by unfold ci;decide))));have h6:=Zz (h.no N.o);have bf:=Zz (J.no N.o);have eI:=Zz (fun q (K:F q)=>h.lt K);have Br:=Zz fQ;have je:=Zz x3;have aR:=Zz (fun i h=>C.st2 i h);have GZ:=Zz (fun i h=>Re S.mem i h);have x7:Hid (¬F w.heap.size/\¬F (w.heap.size+1)):=Zz ⟨h.offNew (bS _),h.offNew o_⟩;have dH:=Zz hw
 have cE:n<=12:=by rw[<-Z];exact C.n12
 have Bs:=Zz (fun i (h:i<S.mem.length)=>SH h);obtain ⟨h4,cs,Am,cm,cI,h5⟩:=hR.reads.shape
 have y5:0<S.mem.length:=by have:=C.n1;omega
 obtain ⟨h2,off,mM,_⟩:=hR.reads.memAt (Kp.refl _ _) h5 y5;subst mM;have h7:=Zz (hR.no N.o);have Bt:Hid (∀W,bg W 10 S vs vm->∃h1 A,some (⟨h2,off,none⟩:Addr)=some ⟨h1,A,none⟩/\∀i (h:i<S.mem.length),W.cell? ⟨h1,A+i*3,none⟩=some (.int .i64 ((S.mem[i]'h).st:Int))/\W.cell? ⟨h1,A+i*3+1,none⟩=some (.string (S.mem[i]'h).top)/\W.cell? ⟨h1,A+i*3+2,none⟩=some (.string (S.mem[i]'h).log)):=Zz fun W cM=>cM.reads.memAt (Kp.refl _ _) h5 y5;have kM:=Zz Z;have yw:Hid (∀W,Kp F (w.alloc (.cells (aT b an key) 113) |>.alloc (.cells (dK S vs vm) 60)) W->bg W 10 S vs vm):=Zz fun W k=>h7.o.kp k (h6.o.offRow h7.o.seats (by unfold ci;decide)) (h6.o.offRow h7.o.mems (by unfold ci;decide));rw[Z] at h5;subst cI h5;clear J h hw C hR fQ x3 h7 gO GZ;have sR:dK S (.slice h4 (S.data+2) cs) (.slice (some ⟨h2,off,none⟩) n cm)=#[.int .u64 S.count,.int .u64 S.epoch,.int .i64 S.data,.int .i64 S.slots,.int .i64 0,.int .i64 0,.bool false,.slice h4 (S.data+2) cs,.slice (some ⟨h2,off,none⟩) n cm]:=rfl;rw[sR] at H2 V N h6 bf yw ⊢;rw[Z] at y5;clear Z sR;change Cl 88 #[.agg #[.pointer (some ⟨b,0,none⟩),.pointer (some ⟨an,0,none⟩),.string (bs key)],_] w _;go_enter func88,ntmps88
 go_upto_region 1 with fail
 change Code.wp _ _ _ _ ((w.alloc (.cells (aT b an key) 113)).alloc (.cells #[.int .u64 S.count,.int .u64 S.epoch,.int .i64 S.data,.int .i64 S.slots,.int .i64 0,.int .i64 0,.bool false,.slice h4 (S.data+2) cs,.slice (some ⟨h2,off,none⟩) n cm] 60));generalize (w.alloc (.cells (aT b an key) 113)).alloc (.cells #[.int .u64 S.count,.int .u64 S.epoch,.int .i64 S.data,.int .i64 S.slots,.int .i64 0,.int .i64 0,.bool false,.slice h4 (S.data+2) cs,.slice (some ⟨h2,off,none⟩) n cm] 60)=f at *;obtain ⟨G,hG⟩:∃G,w.heap.size=G:=⟨_,rfl⟩;rw[hG] at H2 V x7 ⊢;have cq:=Zz hG;clear hG;have c8:=V.o.c8;have gK:Hid (∃o,Gr f F o/\Bk f b n (e6 σ S L 0) o):=Zz ⟨F,Gr.refl _ _,by rw[xa];exact h6.o⟩;have bJ:=Zz (Kp.refl F f)
 go_upto_region 2 with fail
 clear c8
 go_loopw [5,6,7,8,12] (fun _ _ _ _ x6 wr=>∃i:Nat,i<=n/\x6=.int .i64 i/\Hid (∃o,Gr f F o/\Bk wr b n (e6 σ S L i) o)/\Hid (Kp F f wr)) (fun _ _ _ _ x6 _=>n-(intOf x6).toNat)
 case atStart=>exact ⟨0,o_,rfl,gK,bJ⟩
 case round =>
  clear gK bJ;obtain ⟨i,M,rfl,z,p⟩:=hrel;obtain ⟨c,br,az⟩:=z.o;have a:=Zz br;have r:=Zz az;have cU:=Zz (H2.o.kp p.o x7.o.1);have mS:=Zz (V.o.kp p.o x7.o.2);have jH:=Zz (bf.o.kp p.o fun g hg H=>by have:=(eI.o g H).1;omega);have j9:Hid (10<=wr.heap.size):=Zz (by have:=dH.o;have:=N.o.size;have:=p.o.size;omega);clear br az z;by_cases R:i<n
  ·have bL:(i:Int)<(n:Int):=o_
   have T:i<S.mem.length:=by rw[kM.o];exact R
   obtain ⟨h1,A,he,aa⟩:=Bt.o wr (yw.o wr p.o);cases he;obtain ⟨x8,x9,y0⟩:=aa i T;have H6:=aR.o i T;have y3:=Zz (Br.o i T);have h8:=Zz (Bs.o i T);have Bv:=Zz (je.o i R);have y4:=Zz (fun W=>jJ.o W (S.mem[i]'T) H6);clear aa;obtain ⟨⟨st,y6,lg⟩,hx⟩:∃x,S.mem[i]'T=x:=⟨_,rfl⟩;rw[hx] at x8 x9 y0 H6 y3 h8 y4
   dsimp only at x8 x9 y0 H6 y3 h8 y4
   clear hx;have U:=Zz (ab.new wr 108 #[.int .i64 st,.string y6,.string lg]);have bF:=Zz ((Kp.refl ac wr).alloc (.cells #[.int .i64 st,.string y6,.string lg] 108));have pU:¬c wr.heap.size:=r.o.offNew (bS _);have eS:=Zz pU;clear pU
   go_upto_region 4 with fail
   clear x8 x9 y0;generalize wr.alloc (.cells #[.int .i64 st,.string y6,.string lg] 108)=w2 at *;obtain ⟨D,hD⟩:∃D,wr.heap.size=D:=⟨_,rfl⟩;rw[hD] at U eS ⊢;clear hD;have d0:=U.o.c0;have d1:=U.o.c1;have d2:=U.o.c2;go_wp2_with fail;refine (y4.o w2).mono ?_;rintro e w3 ⟨rfl,H9⟩;have t:=Zz (bF.o.trans H9);have oV:=Zz (U.o.kp H9 fun h=>h);clear H9 d0 d1 d2 bF U;by_cases x2:st=1
   ·subst x2
    have H0:=Zz (cU.o.kp t.o fun h=>h);have h0:=H0.o.c0;have m1:=H0.o.c1;have m2:=H0.o.c2;have d2:=oV.o.c2
    cases s:(σ i).dead with
    | true =>
     have I:(e6 σ S L i i).dead=true:=by rw[RY];exact s
     have y:qR (σ i) (dT S i) (L i)=σ i:=by unfold qR;rw[if_neg];rintro ⟨_,h⟩;rw[s] at h;cases h
     have P:=Zz y;have z:=Zz (ov.o w3 _ c (r.o.no t.o) i R I lg);clear I y;go_wp2_with fail;refine z.o.mono ?_;rintro e h3 ⟨rfl,E⟩;have d:=Zz (t.o.trans E);clear E h0 m1 m2 d2;have Q:Hid (∃o,Gr f F o/\Bk h3 b n (e6 σ S L (i+1)) o):=Zz ⟨c,a.o,by rw[x_3 σ S L i P.o];exact r.o.no d.o⟩;have O:=Zz (p.o.then d.o fun _ _ h=>h.elim);clear p r a;go_wp2;go_roundw
     case rel=>exact ⟨i+1,o_,by go_num,Q,O⟩
     case measure=>simp[intOf];omega
    | false =>
     have I:(e6 σ S L i i).dead=false:=by rw[RY];exact s
     have B:=y3.o rfl s
     cases h9:L i with
     | none =>
      rw[h9] at B
      have y:qR (σ i) (dT S i) (L i)=σ i:=by unfold qR;rw[h9];split<;>rfl
      have P:=Zz y;have z:=Zz (fT.o w3 _ c (r.o.no t.o) i R I (by rw[RY];exact B) lg);clear I y B;go_wp2_with fail;refine z.o.mono ?_;rintro e h3 ⟨rfl,E⟩;have d:=Zz (t.o.trans E);clear E h0 m1 m2 d2;have Q:Hid (∃o,Gr f F o/\Bk h3 b n (e6 σ S L (i+1)) o):=Zz ⟨c,a.o,by rw[x_3 σ S L i P.o];exact r.o.no d.o⟩;have O:=Zz (p.o.then d.o fun _ _ h=>h.elim);clear p r a;go_wp2;go_roundw
      case rel=>exact ⟨i+1,o_,by go_num,Q,O⟩
      case measure=>simp[intOf];omega
     | some l =>
      rw[h9] at B;obtain ⟨y1,l2,y2,l4,l5⟩:=B
      have y:qR (σ i) (dT S i) (L i)=((σ i).wrs l).flush:=by unfold qR;rw[h9,if_pos ⟨h8.o,s⟩]
      have P:=Zz y;have z:=Zz (nA.o w3 _ c (r.o.no t.o) (jH.o.no t.o) (by have:=t.o.size;have:=j9.o;omega) i R I l y1 y2 (by rw[RY];exact l4));have sS:=Zz (fun W hb J Y v hv=>pn.o W (e6 σ S L i) c hb J Y i R v l hv o_ y2 (by rw[RY];exact Bv.o) I);rw[<-l5] at z;have lV:=Zz l2;have kw:=y1;clear I y y1 y2 l4 l5;obtain ⟨len,H8⟩:∃len,l.length=len:=⟨_,rfl⟩;rw[H8] at z sS l2 kw;have Ki:(0:Int)<(len:Int):=o_;have fE:=Zz H8;clear H8;go_wp2_with fail;refine z.o.mono ?_;rintro e h3 ⟨u,rfl,x5,E⟩;have y9:=Zz x5;have d:=Zz (t.o.trans E);have y8:=Zz ((mS.o.kp d.o fun h=>h));have H1:=Zz ((cU.o.kp d.o fun h=>h));obtain ⟨Au,cu,rfl⟩:=lM x5;clear x5 E h0 m1 m2 d2 H0;have h0:=H1.o.c0;have m1:=H1.o.c1;have m2:=H1.o.c2;have e3:=y8.o.c3;go_wp2_with fail;refine (fG.o h3 i).mono ?_;rintro e w5 ⟨rfl,H5⟩;have X:=Zz (d.o.trans H5);have y7:=Zz (dL y9.o H5 fun _ _ h=>h);have H4:=Zz (r.o.no X.o);clear H5 h0 m1 m2 e3 H1 y8 y9;go_wp2_with fail;refine (sS.o w5 H4.o (jH.o.no X.o) (by have:=X.o.size;have:=j9.o;omega) _ (fun H3 hk=>Sy (dL y7.o hk (H4.o.offRow y7.o (by unfold ci;decide))))).mono ?_;rintro e w6 ⟨rfl,F2,bC,H7,ae⟩;rw[RY,<-P.o,xc] at H7;have Q:Hid (∃o,Gr f F o/\Bk w6 b n (e6 σ S L (i+1)) o):=Zz ⟨F2,a.o.then bC (cL p.o.size X.o.size),H7⟩;have O:=Zz ((p.o.then X.o fun _ _ h=>h.elim).then ae fun q K H=>a.o q K H);clear bC H7 ae p r a y7 H4;go_wp2;go_roundw
      case rel=>exact ⟨i+1,o_,by go_num,Q,O⟩
      case measure=>simp[intOf];omega
   have G6:decide (st=1)=false:=h_ x2
   have y:qR (σ i) (dT S i) (L i)=σ i:=by unfold qR;rw[if_neg];rintro ⟨h,_⟩;rw[h8.o] at h;exact x2 h
   have P:=Zz y;clear y;rw[G6];have Q:Hid (∃o,Gr f F o/\Bk w3 b n (e6 σ S L (i+1)) o):=Zz ⟨c,a.o,by rw[x_3 σ S L i P.o];exact r.o.no t.o⟩;have O:=Zz (p.o.then t.o fun _ _ h=>h.elim);clear p r a;go_wp2;go_roundw
   case rel=>exact ⟨i+1,o_,by go_num,Q,O⟩
   case measure=>simp[intOf];omega
  obtain rfl:i=n:=o_;go_wp2;go_ret;exact ⟨rfl,c,fun q K H=>a.o q (ea K N.o.size) H,r.o,(N.o.mono fun _ _ h=>h.elim).trans p.o⟩
end
def AI (m:fv):fv:={ m with log:=fb }
def oC (L:List fv) (i:Nat):List fv:=(L.take i).map AI++L.drop i
def lB (L:List fv) (i:Nat):(oC L i).length=L.length:=by
 simp[oC];omega
def Ef (L:List fv):oC L L.length=L.map AI:=by simp[oC]
def DN (L:List fv) (i:Nat) (h:i<L.length):(oC L i).set i { (oC L i)[i]'(by rw[lB];exact h) with log:=fb }=oC L (i+1):=by
 have e:(oC L i)[i]'(by rw[lB];exact h)=L[i]'h:=by
  unfold oC;rw[List.getElem_append_right (by simp;omega)];simp[Nat.min_eq_left (Nat.le_of_lt h)]
 rw[e];unfold oC
 have hl:((L.take i).map AI).length=i:=by simp;omega
 rw[List.set_append_right _ _ (by rw[hl];exact bS _),hl,Nat.sub_self,List.drop_eq_getElem_cons h,List.set_cons_zero,mx h,List.map_append,List.append_assoc];rfl
def eG (S:cj):cj:={ S with count:=S.count+1,epoch:=S.epoch+1,mem:=S.mem.map AI }
def AC (g:a7 S) (m:S.count<1000) (n:S.epoch<1000):a7 (eG S) where
 d2:=g.d2
 d8:=g.d8
 sl:=g.sl
 n1:=by show S.data+2<=(S.mem.map AI).length;rw[fW];exact g.n1
 n12:=by show (S.mem.map AI).length<=12;rw[fW];exact g.n12
 mem i h:=by
  have hl:i<S.mem.length:=by have:i<(S.mem.map AI).length:=h;rwa [fW] at this
  obtain ⟨j,o,k,l⟩:=g.mem i hl
  have e:(eG S).mem[i]'h=AI (S.mem[i]'hl):=by simp[eG]
  rw[e];exact ⟨j,v_y,k,l⟩
 c:=m
 e:=n
def gU (b an:Nat) (key:List UInt8) (S:cj) (vs vm:Value) (e:Nat):Array Value:=#[.pointer (some ⟨b,0,none⟩),.pointer (some ⟨an,0,none⟩),.string (bs key),.int .u64 S.count,.int .u64 S.epoch,.int .i64 S.data,.int .i64 S.slots,.int .i64 0,.int .i64 0,.bool false,vs,vm,.pointer (some ⟨e,0,none⟩),.bool false]
def O2 (σ:ao) (st:Nat) (L:Option (List Wr)):(qR σ st L).dead=σ.dead:=by
 unfold qR;split
 ·rename_i h
  split
  ·unfold ao.flush
   rw[ao.wrs_dead,h.2];rfl
  rfl
 rfl
def w_A (σ:Nat->ao) (S:cj) (L:Nat->Option (List Wr)) (k j:Nat):(e6 σ S L k j).dead=(σ j).dead:=by
 unfold e6;split
 ·exact O2 _ _ _
 rfl
def Ct (σ:Nat->ao) (S:cj) (L:Nat->Option (List Wr)) (k j:Nat) (h:(σ j).wait<=500):(e6 σ S L k j).wait<=500:=by
 unfold e6;split
 ·unfold qR
  split
  ·rename_i e
   split
   ·unfold ao.flush
    rw[ao.wrs_dead,e.2];exact Nat.zero_le _
   exact h
  exact h
 exact h
section
def RJ (z:a_ w) (h:Bk w b n σ F) (hw:10<=w.heap.size) (hk:key.length=32) (S:cj) (h4:a7 S) (D:S.mem.length=n) (aP:0<S.count) (bk:S.count<1000) (jA:S.epoch<1000) (ha:ab w an 180 #[.int .u64 S.count,.string (bs (dC (bh S)))])
  (k x2:Nat) (kN:k<n) (cy:∀i,i<k->(σ i).dead=true) (cJ:(σ k).dead=false) (bI:x2<2) (H8:tl (σ k).now x2=bs (bh S)) (B:List UInt8) (h0:x2=1->tl (σ k).now 0=bs B/\B.length<=2048/\(B=[]\/dC B≠dC (bh S)))
  (L:Nat->Option (List Wr)) (fQ:∀j (h:j<S.mem.length),(S.mem[j]'h).st=1->(σ j).dead=false->M8 (σ j) (S.mem[j]'h).log (L j)) (ee:∀j,j<n->(σ j).wait<=500) :
  Cl 50 #[.pointer (some ⟨b,0,none⟩),.pointer (some ⟨an,0,none⟩),.string (bs key)] w fun e w'=>∃st d vs vm,e=.returned (.tuple #[.pointer (some ⟨st,0,none⟩),.int .i64 0])/\w.heap.size<=st/\w.heap.size<=d/\ab w' st 116 (gU b an key (eG S) vs vm d)/\ab w' d 226 #[.int .u64 (S.epoch+1:Nat),.int .u64 0]/\bg w' w.heap.size (eG S) vs vm /\
   ab w' an 180 #[.int .u64 (S.count+1:Nat),.string (bs (dC (bh (eG S))))]/\∃f,Gr w F f/\Bk w' b n (eY (e6 σ S L n) ((S.count+1) % 2) (bs (bh (eG S))) n) f/\Kp (fun q=>F q\/q=an) w w':=by
 have bl:=AC h4 bk jA;have om:=Zz (fun W (k:Kp ac w W)=>ls (h.no k) an hk);have nE:=Zz (fun W (k:Kp ac w W)=>w_9 W an _ _ (ha.kp k fun h=>h));have pj:=Zz (fun W (kk:Kp ac w W)=>xK (key:=key) (z.no kk) (h.no kk) (by have:=kk.size;omega) S.count S h4 D (ha.kp kk fun h=>h) k x2 kN cy cJ bI H8 B h0);have uu:=Zz (fun W (kk:Kp ac w W) vs vm (hR:bg W 10 S vs vm)=>J_ (key:=key) (z.no kk) (h.no kk) (by have:=kk.size;omega) an hk S vs vm h4 D hR L fQ ee);have Gu:=Zz (fun W (z:a_ W) (bn:10<=W.heap.size)=>v_C W z bn);have mo:=Zz (fun W f (hb:Bk W b n (e6 σ S L n) f) (z:a_ W) (bn:10<=W.heap.size) (ha:ab W an 180 #[.int .u64 S.count,.string (bs (dC (bh S)))]) vs vm hR=>z_ah (key:=key) z hb bn S.count (dC (bh S)) ha (eG S) vs vm bl hR (Nat.lt_succ_self _) (fun i hi=>cL (Ct σ S L n i (ee i hi)) d_) ⟨k,kN,by rw[w_A];exact cJ⟩);have dN:=Zz (fun W=>Ci W (S.epoch+1) o_ o_);have eI:=Zz (fun q (l:F q)=>h.lt l);have cz:=Zz (h.off ha (by unfold ci;decide));have dr:=Zz h;have qn:=Zz ha;have bf:=Zz z;have R:=Zz hw;have gI:=Zz (fun W base vs vm (hr:bg W base S vs vm)=>hr.reads.shape);have qB:0<n:=o_;have U:=Zz D
 have cE:n<=12:=by rw[<-D];exact h4.n12
 have eU:((S.count:Int)==0)=false:=by rw[pN];omega
 have pT:=Zz aP;have jR:=Zz bk;have Y6:=Zz jA;have y2:¬((4294967295:Int)<=(S.epoch:Int)):=o_;have O4:=Zz (h_ y2);clear y2
 have x1:IntKind.u64.wrap ((S.count:Int)+1)=((S.count+1:Nat):Int):=by rw[ie];omega
 have y0:IntKind.u64.wrap ((S.epoch:Int)+1)=((S.epoch+1:Nat):Int):=by rw[ie];omega
 have Q:=Zz (ab.new w 113 (aT b an key));have y6:=Zz ((Kp.refl ac w).alloc (.cells (aT b an key) 113));have fK:Hid (∀vs vm,dK S vs vm=#[.int .u64 S.count,.int .u64 S.epoch,.int .i64 S.data,.int .i64 S.slots,.int .i64 0,.int .i64 0,.bool false,vs,vm]):=Zz fun _ _=>rfl;have Bx:Hid (∀vs vm,dK (eG S) vs vm=#[.int .u64 (S.count+1:Nat),.int .u64 (S.epoch+1:Nat),.int .i64 S.data,.int .i64 S.slots,.int .i64 0,.int .i64 0,.bool false,vs,vm]):=Zz fun _ _=>rfl;have sm:=Zz x1;have O5:=Zz y0;clear x1 y0;clear z h hw ha h4 cy cJ bI H8 h0 fQ ee bl D aP bk jA;go_enter func50,ntmps50
 go_upto_region 2 with fail
 change Code.wp _ _ _ _ (w.alloc (.cells (aT b an key) 113));generalize w.alloc (.cells (aT b an key) 113)=w1 at *;obtain ⟨G,hG⟩:∃G,w.heap.size=G:=⟨_,rfl⟩;rw[hG] at Q ⊢;have cq:=Zz hG;clear hG;have a:=Q.o.c0;have m1:=Q.o.c1;have m2:=Q.o.c2;go_wp2_with fail;refine (om.o _ y6.o).mono ?_;rintro e w2 ⟨rfl,y9⟩;have ak:=Zz (Q.o.kp y9 fun h=>h);have am:=Zz (y6.o.trans y9);clear y9 a m1 m2 Q y6 om;go_wp2_with fail;refine (nE.o _ am.o).mono ?_;rintro e w3 ⟨rfl,u⟩;have Z:=Zz (ak.o.kp u fun h=>h);have H0:=Zz (am.o.trans u);clear u ak am nE;have a:=Z.o.c0;have m1:=Z.o.c1;have m2:=Z.o.c2;go_wp2_with fail;refine (pj.o _ H0.o).mono ?_;rintro e h7 ⟨vs,vm,rfl,cM,ar⟩;have cC:=Zz (Z.o.kp ar fun h=>h);have ay:=Zz (H0.o.trans ar);have x0:=Zz (cM.more H0.o.size);clear ar cM a m1 m2 Z H0 pj;obtain ⟨t,cs,Am,cm,cI,bU⟩:=gI.o _ _ _ _ x0.o;obtain ⟨g,cg,lE,br,bC⟩:=LF x0.o.mems (by rw[U.o];exact qB);rw[U.o] at bU lE;rw[lE] at bU;cases bU;subst cI lE;have mR:Hid (w.heap.size<=g):=Zz br;rw[fK.o];clear br bC
 go_upto_region 9 with fail
 have p:=Zz (ab.new h7 60 #[.int .u64 S.count,.int .u64 S.epoch,.int .i64 S.data,.int .i64 S.slots,.int .i64 0,.int .i64 0,.bool false,.slice t (S.data+2) cs,.slice (some ⟨g,0,none⟩) n cm]);have Y:=Zz (cC.o.alloc (.cells #[.int .u64 S.count,.int .u64 S.epoch,.int .i64 S.data,.int .i64 S.slots,.int .i64 0,.int .i64 0,.bool false,.slice t (S.data+2) cs,.slice (some ⟨g,0,none⟩) n cm] 60));have J:=Zz (ay.o.alloc (.cells #[.int .u64 S.count,.int .u64 S.epoch,.int .i64 S.data,.int .i64 S.slots,.int .i64 0,.int .i64 0,.bool false,.slice t (S.data+2) cs,.slice (some ⟨g,0,none⟩) n cm] 60));have h2:=Zz (x0.o.no ((Kp.refl ac h7).alloc (.cells #[.int .u64 S.count,.int .u64 S.epoch,.int .i64 S.data,.int .i64 S.slots,.int .i64 0,.int .i64 0,.bool false,.slice t (S.data+2) cs,.slice (some ⟨g,0,none⟩) n cm] 60)));have H9:Hid (w.heap.size<=h7.heap.size):=Zz ay.o.size;clear cC ay x0;generalize h7.alloc (.cells #[.int .u64 S.count,.int .u64 S.epoch,.int .i64 S.data,.int .i64 S.slots,.int .i64 0,.int .i64 0,.bool false,.slice t (S.data+2) cs,.slice (some ⟨g,0,none⟩) n cm] 60)=w5 at *;obtain ⟨P,hP⟩:∃P,h7.heap.size=P:=⟨_,rfl⟩;rw[hP] at p H9 ⊢;clear hP;have X:=p.o.c0;have c:=p.o.c1;have x4:=p.o.c2;have x5:=p.o.c3;have x6:=p.o.c4;have x7:=p.o.c5;have x8:=p.o.c6;have x9:=p.o.c7;have y:=p.o.c8;have a:=Y.o.c0;have m1:=Y.o.c1;have m2:=Y.o.c2;have li:=Zz (uu.o w5 J.o _ _ (h2.o.more R.o));rw[fK.o] at li;clear uu;have y2:=O4.o;go_wp2_with fail;refine li.o.mono ?_;rintro e y1 ⟨rfl,h8,o9,eT,au⟩;have uy:=Zz o9;have oy:=Zz eT;have E:=Zz au;clear o9 eT au li a m1 m2 X c x4 x5 x6 x7 x8 x9 y;have qY:Hid (¬F P/\¬F G):=Zz ⟨fun s=>by have:=(eI.o _ s).2;have:=H9.o;omega,fun s=>by have:=(eI.o _ s).2;have:=cq.o;omega⟩;have r:=p.o.kp E.o qY.o.1;have bA:=Zz (Y.o.kp E.o qY.o.2);have oz:=Zz (dr.o.no J.o);have H5:=Zz (h2.o.kp E.o (oz.o.offRow h2.o.seats (by unfold ci;decide)) (oz.o.offRow h2.o.mems (by unfold ci;decide)));have ji:=Zz ((qn.o.kp J.o fun h=>h).kp E.o cz.o);have vK:=Zz ((bf.o.no J.o).kp E.o fun g hg s=>by have:=(eI.o g s).1;omega);have x1:=sm.o;have y0:=O5.o;have X:=r.cell 0;have c:=r.cell 1;have f0:=r.frozen 0;have f1:=r.frozen 1;have I:=((Kp.refl (fun q=>q=P) y1).setCell ⟨P,0,none⟩ (.int .u64 (S.count+1:Nat)) (.inl rfl)).setCell ⟨P,1,none⟩ (.int .u64 (S.epoch+1:Nat)) (.inl rfl);have H:Hid (ab ((y1.setCell ⟨P,0,none⟩ (.int .u64 (S.count+1:Nat))).setCell ⟨P,1,none⟩ (.int .u64 (S.epoch+1:Nat))) P 60 #[.int .u64 (S.count+1:Nat),.int .u64 (S.epoch+1:Nat),.int .i64 S.data,.int .i64 S.slots,.int .i64 0,.int .i64 0,.bool false,.slice t (S.data+2) cs,.slice (some ⟨g,0,none⟩) n cm]):=Zz ((r.set_ 0 (.int .u64 (S.count+1:Nat))).set_ 1 (.int .u64 (S.epoch+1:Nat)));have dy:=Zz (bA.o.kp I fun e=>ab.ne_ bA.o r d_ e);have C:=Zz (H5.o.kp I (nI H5.o.seats r d_) (nI H5.o.mems r d_));have jk:=Zz (ji.o.kp I fun e=>ab.ne_ ji.o r d_ e)
 have oA:=Zz (oy.o.kp I fun q l s=>by
  have l:q=P:=l;subst l
  exact oy.o.off r (by unfold ci;decide) s)
 have tT:=Zz (vK.o.kp I fun g hg e=>by have e:g=P:=e;have:=H9.o;have:=R.o;omega);have H1:=Zz (((J.o.mono (T:=ac) (S:=F) fun _ _ h=>h.elim).trans E.o).then I fun q l e=>(by have e:q=P:=e;have:=H9.o;omega:False).elim);clear r I bA H5 ji vK p Y h2 oz
 go_upto_region 18 with fail
 change Code.wp _ _ _ _ ((y1.setCell ⟨P,0,none⟩ (.int .u64 (S.count+1:Nat))).setCell ⟨P,1,none⟩ (.int .u64 (S.epoch+1:Nat)));clear X c f0 f1 x1 y0 oy;generalize (y1.setCell ⟨P,0,none⟩ (.int .u64 (S.count+1:Nat))).setCell ⟨P,1,none⟩ (.int .u64 (S.epoch+1:Nat))=w7 at *;have y:=H.o.c8
 have mf:Hid (w7.ownsRow w.heap.size 108 3 (.slice (some ⟨g,0,none⟩) n cm) n (ds (oC S.mem 0))):=Zz (by
  have h1:=C.o.mems;rw[U.o] at h1
  exact h1)
 have sU:=Zz (Kp.refl (fun q=>q=g) w7)
 have h6:Hid (P≠g/\G≠g/\an≠g/\¬h8 g):=Zz (by
  obtain ⟨yx,H4⟩:=fj mf.o (q:=g) rfl
  exact ⟨ab.ne_ H.o H4 d_,ab.ne_ dy.o H4 d_,ab.ne_ jk.o H4 d_,oA.o.off H4 (by unfold ci;decide)⟩)
 go_upto_region 19 with fail
 clear y
 go_loopw [15,65] (fun _ y3 wr=>∃i:Nat,i<=n/\y3=.int .i64 i/\Hid (wr.ownsRow w.heap.size 108 3 (.slice (some ⟨g,0,none⟩) n cm) n (ds (oC S.mem i)))/\Hid (Kp (fun q=>q=g) w7 wr)) (fun _ y3 _=>n-(intOf y3).toNat)
 case atStart=>exact ⟨0,o_,rfl,mf,sU⟩
 case round =>
  clear mf sU;obtain ⟨i,hi,rfl,h9,o⟩:=hrel;by_cases af:i<n
  ·have bL:(i:Int)<(n:Int):=o_
   have bB:i<S.mem.length:=by rw[U.o];exact af
   have sW:i<(oC S.mem i).length:=by rw[lB];exact bB
   have m:=Zz (H.o.kp o.o h6.o.1).drew;have x3:=Zz ((tT.o.kp o.o fun q l e=>by have e:q=g:=e;have:=mR.o;have:=R.o;omega).no (Kp.refl ac wr).drew);have jK:Hid (wr.drew.ownsRow w.heap.size 108 3 (.slice (some ⟨g,0,none⟩) n cm) n (ds (oC S.mem i))):=h9;have bp:=Zz o.o.drew;have qC:Hid (10<=wr.drew.heap.size):=Zz (by have:=R.o;have:=H1.o.size;have:=bp.o.size;omega);have qD:=Zz (w_4 (oC S.mem i) i sW fb);have bD:=Zz (DN S.mem i bB);have mW:=Zz (Re (oC S.mem i) i sW);clear h9
   go_upto_region 21 with fail
   refine fs ?_;generalize wr.drew=w8 at *;have y:=m.o.c8;refine fp 0 ?_;refine cw 1 y ?_;refine fp 2 ?_;refine fd 3 fun K Qx h3=>?_;go_simp;refine (Gu.o _ x3.o qC.o).mono ?_;rintro e w9 ⟨rfl,H2⟩;have iw:=Zz (m.o.kp H2 fun h=>h);have H7:=Zz (dL jK.o H2 fun _ _ h=>h);have aL:=Zz (bp.o.then H2 fun _ _ h=>h.elim);refine h3 _ _ (oK (iw.o.cell 8) oN) ?_;clear h3 K y H2 m jK bp x3;refine fp 4 ?_;refine fp 5 ?_
   have g2:w9.cell? ⟨g,i*3+2,none⟩=some (.string ((oC S.mem i)[i]'sW).log):=by
    rw[Ho H7.o _ o_];exact mW.o.2.2
   have fg:=y_e H7.o (i*3+2);refine fd 6 fun K Qx h3=>?_;go_simp;refine h3 _ _ (oW oN) ?_;clear h3 K;refine fe ?_;have oB:=x_a H7.o (i*3+2) (.string fb);rw[qD.o,bD.o] at oB;have eR:=Zz oB;have A:=Zz (aL.o.setCell ⟨g,i*3+2,none⟩ (.string fb) (.inl rfl));clear oB g2 fg iw H7 aL;go_wp2;go_roundw
   case rel=>exact ⟨i+1,o_,by go_num,eR,A⟩
   case measure=>simp[intOf];omega
  obtain rfl:i=n:=o_;have m:=Zz (H.o.kp o.o h6.o.1);have N:=Zz (dy.o.kp o.o h6.o.2.1);have V:=Zz (jk.o.kp o.o h6.o.2.2.1);have h5:=Zz (oA.o.kp o.o fun q l s=>by have l:q=g:=l;subst l;exact h6.o.2.2.2 s);have x3:=Zz (tT.o.kp o.o fun q l e=>by have e:q=g:=e;have:=mR.o;have:=R.o;omega)
  have sX:=Zz (C.o.seats.kp o.o fun q l e=>by
   obtain ⟨iR,az⟩:=fj C.o.seats l;obtain ⟨dj,aq⟩:=fj C.o.mems (q:=g) rfl;have e:q=g:=e;subst e
   exact ab.ne_ az aq d_ rfl)
  have O:Hid (bg wr w.heap.size (eG S) (.slice t (S.data+2) cs) (.slice (some ⟨g,0,none⟩) i cm)):=Zz ⟨sX.o,by
   have h1:=h9.o
   have e1:oC S.mem i=S.mem.map AI:=by rw[<-U.o];exact Ef _
   have e2:(eG S).mem.length=i:=by rw[<-U.o];exact fW _
   rw[e1] at h1;rw[e2]
   exact h1⟩
  have y7:=Zz (mo.o wr h8 h5.o x3.o (by have:=R.o;have:=H1.o.size;have:=o.o.size;omega) V.o _ _ O.o.reads);rw[Bx.o] at y7;have a:=N.o.c0;have m1:=N.o.c1;have m2:=N.o.c2;have X:=m.o.c0;have c:=m.o.c1;have x4:=m.o.c2;have x5:=m.o.c3;have x6:=m.o.c4;have x7:=m.o.c5;have x8:=m.o.c6;have x9:=m.o.c7;have y:=m.o.c8;have y5:Hid (Kp F w wr):=Zz (H1.o.then o.o fun q l e=>(by have e:q=g:=e;have:=mR.o;omega:False).elim);have qE:Hid (Gr w F h8):=Zz fun q l s=>uy.o q (ea l J.o.size) s;clear h9 o H dy jk oA tT C sX H1 E J;go_wp2_with fail;refine y7.o.mono ?_;rintro e H3 ⟨rfl,G7,F3,fa,b9,u⟩;have y8:∀ {H6 t':Nat} {cs':Array Value},ab wr H6 t' cs'->¬ci t'->H6≠an->¬(h8 H6\/H6=an):=fun hb ht aD h=>h.elim (h5.o.off hb ht) aD;have jr:=Zz (m.o.kp u (y8 m.o (by unfold ci;decide) (ab.ne_ m.o V.o d_)));have vU:=Zz (N.o.kp u (y8 N.o (by unfold ci;decide) (ab.ne_ N.o V.o d_)));have yz:=Zz (O.o.kp u (fun q l h=>h.elim (h5.o.offRow O.o.seats (by unfold ci;decide) q l) (nI O.o.seats V.o d_ q l)) (fun q l h=>h.elim (h5.o.offRow O.o.mems (by unfold ci;decide) q l) (nI O.o.mems V.o d_ q l)));have G8:=Zz G7;have yB:=Zz b9;have gF:Hid (Gr w F F3):=Zz (qE.o.then fa y5.o.size);have A:Hid (Kp (fun q=>F q\/q=an) w H3):=Zz ((y5.o.mono fun q _ h=>Or.inl h).then u fun q l h=>h.elim (fun h=>.inl (qE.o q l h)) .inr);clear G7 fa b9 u y8 y7 m N O V h5 y5 qE a m1 m2 X c x4 x5 x6 x7 x8 x9 y;have c:=jr.o.c1;go_wp2_with fail;refine (dN.o H3).mono ?_;rintro e v ⟨rfl,hsp,M⟩;have fw:=Zz hsp;have x:=Zz (jr.o.kp M fun h=>h);have y4:=Zz (vU.o.kp M fun h=>h);have G9:=Zz (yz.o.no M);have O6:=Zz (G8.o.kp M fun h=>h);have Ha:=Zz (yB.o.no M);have dI:=Zz (A.o.then M fun _ _ h=>h.elim);have O7:Hid (w.heap.size<=H3.heap.size):=Zz A.o.size;clear hsp M c jr vU yz G8 yB A;generalize H3.heap.size=d at *;have a:=y4.o.c0;have m1:=y4.o.c1;have m2:=y4.o.c2;have X:=x.o.c0;have c:=x.o.c1;have x4:=x.o.c2;have x5:=x.o.c3;have x6:=x.o.c4;have x7:=x.o.c5;have x8:=x.o.c6;have x9:=x.o.c7;have y:=x.o.c8
  have aY:∀cells:Array Value,cells=gU b an key (eG S) (.slice t (S.data+2) cs) (.slice (some ⟨g,0,none⟩) i cm) d->w.heap.size<=v.heap.size/\w.heap.size<=d/\ab (v.alloc (.cells cells 116)) v.heap.size 116 (gU b an key (eG S) (.slice t (S.data+2) cs) (.slice (some ⟨g,0,none⟩) i cm) d)/\ab (v.alloc (.cells cells 116)) d 226 #[.int .u64 (S.epoch+1:Nat),.int .u64 0]/\bg (v.alloc (.cells cells 116)) w.heap.size (eG S) (.slice t (S.data+2) cs) (.slice (some ⟨g,0,none⟩) i cm) /\
    ab (v.alloc (.cells cells 116)) an 180 #[.int .u64 (S.count+1:Nat),.string (bs (dC (bh (eG S))))]/\∃f,Gr w F f/\Bk (v.alloc (.cells cells 116)) b i (eY (e6 σ S L i) ((S.count+1) % 2) (bs (bh (eG S))) i) f/\Kp (fun q=>F q\/q=an) w (v.alloc (.cells cells 116)):=fun cells H8=>by
   have hk:=(Kp.refl ac v).alloc (.cells cells 116);refine ⟨dI.o.size,O7.o,by rw[<-H8];exact ab.new _ _ _,fw.o.kp hk fun h=>h,G9.o.no hk,O6.o.kp hk fun h=>h,F3,gF.o,Ha.o.no hk,dI.o.alloc _⟩
  have bx:=Zz aY;clear aY;go_wp2;go_ret2;exact ⟨_,_,_,_,rfl,bx.o _ rfl⟩
end
end Go.Proofs.YtdkheklakfbeeaaGreatDoor
