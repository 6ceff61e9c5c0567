/- Part 42 of the proof. -/
import Derived.Test.YtdkheklakfbeeaaGreatDoorM41
set_option linter.all false
set_option maxRecDepth 100000
set_option maxHeartbeats 16000000
namespace Go.Proofs.YtdkheklakfbeeaaGreatDoor
open Go.RowKit Go.Proofs.Tryz
structure Wz (w w':World) (z p:Nat) (cs:Array Value) (Ft:Nat->Prop):Prop where
 hz:Blk w' z 43 cs
 k:Kp NoB w w'
 F:∀q,Ft q->w.heap.size<=q/\q≠z
theorem Wz.step {w w' w'':World} {z p:Nat} {cs:Array Value} {Ft Ft':Nat->Prop} (h:Wz w w' z p cs Ft) (hg:Gr w' Ft Ft') (k:Kp Ft w' w''):Wz w w'' z p cs Ft':=by
 refine ⟨h.hz.kp k fun hf=>(h.F _ hf).2 rfl,h.k.then k fun q hq hf=>?_,fun q hq=>?_⟩
 ·have:=(h.F _ hf).1
  omega
 ·by_cases e:q<w'.heap.size
  ·exact h.F q (hg q e hq)
  ·have:=h.hz.lt
   have:=h.k.size;omega
def lvB:Nat->ByteArray:=fun k=>(y_9 (fun _=>none) 3 (bs z_B) k).getD (bs z_M)
def x_E:Sup:=bgS 2 2 5
def lvM0:Nat->DkS:=bgD 2 2 5
def y_F:Sup:=cmS x_E lvM0 5 (fun _=>ch0) lvL
def x_Y:Nat->DkS:=y_U x_E lvM0 5 (fun _=>ch0) lvL
def lvM2:Nat->DkS:=z_A x_Y 0 (x_Y 0).fail
def lvM3:Nat->DkS:=z_A lvM2 2 (lvM2 2).fail
def lvLg:Nat->Option (List Wr):=fun j=>some (cmX 2 (fun _=>ch0) lvL j)
def lvM4:Nat->DkS:=z_R (z_2 lvM3 y_F lvLg 5) ((y_F.count+1) % 2) (bs (z_t (z_S y_F))) 5
theorem lv_cnt0:cnt (wtP 2 (y_9 (fun _=>none) 3 (bs z_B)) 0) 2=0:=by rfl
theorem lv_cnt1:cnt (wtP 2 (y_9 (fun _=>none) 3 (bs z_B)) 1) 2=1:=by rfl
theorem lv_stp:stp 2 lvB 1=lvZ:=by rfl
theorem lv_all:z_z (stp 2 lvB 1)=lvC:=by
 have hs:Siz lvZ 32:=fun j hj=>by
  have hj:j<2:=hj;rcases (show j=0\/j=1 by omega) with rfl|rfl<;>rfl
 rw[lv_stp];unfold z_z;rw[hs.enP (by decide) (by decide) (by decide),hs.enQ (by decide) (by decide) (by decide)];rfl
theorem lv_synL:x_Z x_E z_B (fun t=>cnt (wtP x_E.data (y_9 (fun _=>none) 3 (bs z_B)) t) x_E.data) (fun t=>z_z (y_s x_E.data (y_9 (fun _=>none) 3 (bs z_B)) (z_z (stp x_E.data (fun _=>bs z_M) t)) t)) 0 x_E.slots=lvL:=by
 simp only[mix_stp];show x_Z x_E z_B (fun t=>cnt (wtP 2 (y_9 (fun _=>none) 3 (bs z_B)) t) 2) (fun t=>z_z (stp 2 lvB t)) 0 2=lvL;rw[x_Z,x_Z,x_Z];simp only[lv_cnt0,lv_cnt1,lv_all];rfl
theorem lv_ok0:VOk 5 z_B x_E lvM0 (fun _=>ch0) (fun _=>bs z_M):=(bg_ok z_B (by decide) (by decide) (by unfold sl;omega) (by decide) (by decide)).1
theorem lv_live0:∀i,(lvM0 i).dead=false:=(bg_ok (d:=2) (s:=2) (n:=5) z_B (by decide) (by decide) (by unfold sl;omega) (by decide) (by decide)).2.2.1
theorem lv_good0:∀i,i<4->bad x_E lvM0 i=false:=(bg_ok (d:=2) (s:=2) (n:=5) z_B (by decide) (by decide) (by unfold sl;omega) (by decide) (by decide)).2.2.2
theorem lv_lost0:z_5 x_E lvM0=0:=by
 unfold z_5;rw[if_pos];show cnt (bad x_E lvM0) 4<=2;rw[w_i 4 (q:=fun _=>false) lv_good0];decide
theorem lv_one:(y_F=cmS (bgS 2 2 5) (fun _=>dk0) 5 (fun _=>ch0) lvL):=cmS_live _ _ _ _ _ _ fun i=>by rw[lv_live0];rfl
theorem lv_fz:∀k y,y_9 (fun _=>none) 3 (bs z_B) k=some y->y.size=32:=fun k y h=>by
 unfold y_9 at h;split at h
 ·injection h with h;subst h;rfl
 ·cases h
theorem lv_ok1 (h:SynR x_E z_B (fun t=>cnt (wtP x_E.data (y_9 (fun _=>none) 3 (bs z_B)) t) x_E.data) (fun t=>y_s x_E.data (y_9 (fun _=>none) 3 (bs z_B)) (z_z (stp x_E.data (fun _=>bs z_M) t)) t) x_E.slots lvL) :
  VOk 5 z_B y_F x_Y (fun j=>chW ch0 (lC lvL j)) lvB/\LOk y_F x_Y lvLg/\(∀i,i<5->tl (x_Y i).now 0=bs (z_t x_E))/\∀i,i<4->bad y_F x_Y i=false:=by
 obtain ⟨z1,z2,z3,z4⟩:=lv_ok0.synced (show 2<1000 by decide) lv_fz h (t0:=1) (show 1<2 by decide) (show 0<cnt (wtP 2 _ 1) 2 by rw[lv_cnt1];decide);refine ⟨z1,z2,fun i hi=>(z3 i hi (lv_live0 i)).trans (lv_ok0.rc i hi (lv_live0 i)),fun i hi=>(z4 i (by omega)).trans (lv_good0 i hi)⟩
theorem lv_live1 (i:Nat):(x_Y i).dead=false:=by
 show (y_U _ _ _ _ _ i).dead=false;rw[cmD4_dead];exact lv_live0 i
theorem lv_bad3 (h:∀i,i<4->bad y_F x_Y i=false):∀i,i<4->bad y_F lvM3 i=decide (i=0\/i=2):=fun i hi=>by
 unfold lvM3;rw[bad_kill];unfold lvM2;rw[bad_kill,h i hi];simp
theorem lv_cell0 (h:∀i,i<5->tl (x_Y i).now 0=bs (z_t x_E)):∀i,i<5->(lvM3 i).dead=false->tl (lvM3 i).now 0=bs (z_t x_E):=fun i hi hd=>by
 unfold lvM3 at hd ⊢;by_cases e:i=2
 ·subst e;rw[y_q] at hd;cases hd
 ·rw[y_w _ _ e] at hd ⊢
  unfold lvM2 at hd ⊢;by_cases e:i=0
  ·subst e;rw[y_q] at hd;cases hd
  ·rw[y_w _ _ e] at hd ⊢
   exact h i hi
theorem lv_alive3:(lvM3 1).dead=false:=by
 unfold lvM3;rw[y_w _ _ (by decide)];unfold lvM2;rw[y_w _ _ (by decide)];exact lv_live1 1
theorem lv_supB0:(z_t x_E).length<=2048:=by
 rw[show x_E=_ from lv0_is];decide +kernel
section
variable {w:World} {p b v q:Nat} {kept:Value} {Ft:Nat->Prop}
theorem lv_mount (hL:Lay w) (hw:10<=w.heap.size) (h1:VOk 5 z_B y_F x_Y (fun j=>chW ch0 (lC lvL j)) lvB) (h2:LOk y_F x_Y lvLg) (h3:∀i,i<5->tl (x_Y i).now 0=bs (z_t x_E)) (h:Mu w p b v 5 y_F.count z_B (z_Z (z_t y_F)) lvM3 [0,2] kept Ft) :
  Cl 23 #[.pointer (some ⟨v,0,none⟩)] w fun e w'=>e=.returned (.int .i64 0)/\∃Ft',Gr w Ft Ft'/\Mc w' p b v 5 0 z_B (z_S y_F) lvM4 (fun _=>none) [] [0,2] kept Ft'/\Kp Ft w w' :=
 mu_mount hL hw rfl ((h1.kill 0).kill 2) ((h2.kill 0).kill 2) (show 0<3 by decide) (show 3<1000 by decide) (show 2<1000 by decide) h ⟨1,by decide,lv_alive3⟩ fun _ i hi hd=>⟨z_t x_E,lv_cell0 h3 i hi hd,lv_supB0,.inr (by
  have:=lv_unlike;rw[<-lv_one] at this
  exact this)⟩
theorem lv_read (hL:Lay w) (hw:10<=w.heap.size) (h1:VOk 5 z_B y_F x_Y (fun j=>chW ch0 (lC lvL j)) lvB) (h2:LOk y_F x_Y lvLg) (h4:∀i,i<4->bad y_F x_Y i=false) (h:Mc w p b v 5 q z_B (z_S y_F) lvM4 (fun _=>none) [] [0,2] kept Ft) :
  Cl 11 #[.pointer (some ⟨v,0,none⟩),.int .i64 3] w fun e w'=>e=.returned (.tuple #[.string (bs z_B),.int .i64 0])/\Kp NoB w w':=by
 obtain ⟨z1,z2,z3⟩:=((h1.kill 0).kill 2).opened ((h2.kill 0).kill 2) (show 3<1000 by decide) (show 2<1000 by decide)
 have hc:cnt (bad (z_S y_F) lvM4) 4<=2:=by
  have e:cnt (bad (z_S y_F) lvM4) 4=cnt (fun i=>decide (i=0\/i=2)) 4:=w_i 4 fun i hi=>(z2 i).trans (lv_bad3 h4 i hi);rw[e];decide
 have hr:=mc_read hL hw rfl z1 h 3 (show 3<2*2 by decide)
 have e1:rdB (z_S y_F) lvM4 lvB 3=bs z_B:=if_neg fun hh=>by
  have:2<cnt (bad (z_S y_F) lvM4) 4:=hh.2;omega
 have e2:rdE (z_S y_F) lvM4 3=0:=if_neg fun hh=>by
  have:2<cnt (bad (z_S y_F) lvM4) 4:=hh.2;omega
 refine hr.mono ?_;rintro e w' ⟨rfl,hk⟩;refine ⟨?_,hk⟩;show Ending.returned (.tuple #[.string (rdB (z_S y_F) lvM4 lvB 3),.int .i64 (rdE (z_S y_F) lvM4 3)])=_;rw[e1,e2]
theorem lives_any (hL:Lay w) (hw:10<=w.heap.size):Cl 6 #[] w fun e w'=>e=.returned (.bool true)/\Kp NoB w w':=by
 have HL:=Zz hL;have aI:=Zz (begin_any hL hw 2 2 1 (by decide) (by decide) (by unfold sl;omega) (by decide));change Hid (Calls _ _ _ w fun e w'=>∃z p b v gt vn vl Ft,e=.returned (.tuple #[.pointer (some ⟨z,0,none⟩),.bool true])/\Blk w' z 43 (wdC p vn vl (.slice none 0 0) gt true)/\_/\_/\Mc w' p b v 5 0 z_B x_E lvM0 (fun _=>none) [] [] (.slice none 0 0) Ft/\_) at aI;have dN:(⟨#[48,49,50,51,52,53,54,55,56,57,97,98,99,100,101,102,48,49,50,51,52,53,54,55,56,57,97,98,99,100,101,102]⟩:ByteArray)=bs z_B:=rfl;have H7:=Zz lv_ok1;go_enter func6,ntmps6;go_wp2_with fail;refine aI.o.mono ?_;rintro e w1 ⟨z,p,b,v,gt,vn,vl,Ft,rfl,hz,_,_,hm,hF,_,_,⟨sB,_,Jy,_⟩,hk⟩;have HM:=Zz hm;have HW:=Zz (⟨hz,hk,fun q hq=>⟨hF q hq,fun e=>sB (by rw[<-e];exact hq)⟩⟩:Wz w w1 z p (wdC p vn vl (.slice none 0 0) gt true) Ft);clear hz hm hF sB hk aI Jy;have dj:=Zz (HM.o.no (Kp.refl NoB w1).drew);have dR:=Zz (HW.o.step (Ft':=Ft) (fun _ _ h=>h) (((Kp.refl NoB w1).drew).mono fun _ _ h=>h.elim));clear HM HW
 go_upto_region 4 with fail
 refine fs ?_;generalize w1.drew=w2 at *;have c0:=dR.o.hz.c0;refine fp 0 ?_;refine fp 1 ?_;refine fp 2 ?_;refine fp 6 ?_;refine fp 7 ?_;refine fp 8 ?_;refine f_c 3 c0 ?_;refine f_c 9 c0 ?_;refine fd 4 fun K Qx hK=>?_;go_simp;refine (y_Z dj.o).mono ?_;rintro e w6 ⟨rfl,bF⟩;have bF:=bF.symm;subst bF;refine hK _ _ (oK c0 (oK c0 oN)) ?_;clear hK K;refine fd 5 fun K Qx hK=>?_;go_simp;refine (mc_write (HL.o.no dR.o.k) dj.o lv_ok0.ok (by decide) 3 (show 3<2*2 by decide) (bs z_B) rfl).mono ?_;rintro e w7 ⟨rfl,Ub,aM⟩;have AM:=Zz (dR.o.step (Ft':=Ft) (fun _ _ h=>h) aM);have vV:Hid (Mc w7 p b v 5 0 z_B x_E lvM0 (y_9 (fun _=>none) 3 (bs z_B)) [3] [] (.slice none 0 0) Ft):=Zz Ub
 have HS:=Zz (mc_sync (HL.o.no AM.o.k) (by have:=AM.o.k.size;omega) rfl lv_ok0 vV.o lv_fz (fun k hk=>by
  rcases List.mem_singleton.1 hk with rfl
  show 3<2*2
  decide) (by decide) (show 2<1000 by decide) (t0:=1) (show 1<2 by decide) (show 0<cnt (wtP 2 _ 1) 2 by rw[lv_cnt1];decide) (.inl lv_lost0))
 rw[lv_synL,lv_lost0] at HS;refine hK _ _ (oK (AM.o.hz.cell 0) (oK (AM.o.hz.cell 0) oN)) ?_;clear hK K Ub aM dj dR c0;have c0:=AM.o.hz.c0;refine fd 10 fun K Qx hK=>?_;go_simp;refine (y_Z vV.o).mono ?_;rintro e w6 ⟨rfl,bF⟩;have bF:=bF.symm;subst bF;refine hK _ _ (oK c0 (oK c0 oN)) ?_;clear hK K;refine fd 11 fun K Qx hK=>?_;go_simp;refine HS.o.mono ?_;rintro e w8 ⟨rfl,_,bI⟩;obtain ⟨l,q',Ft8,uF,⟨rfl,rfl⟩,Hu,H8,aL⟩:=bI rfl;have jR:=Zz (AM.o.step Hu aL);have jn:Hid (∃q:Nat,Mc w8 p b v 5 q z_B y_F x_Y (fun _=>none) [] [] (.slice none 0 0) Ft8):=Zz ⟨_,H8⟩;have HO:=Zz (H7.o uF);refine hK _ _ (oK (jR.o.hz.cell 0) (oK (jR.o.hz.cell 0) oN)) ?_;clear hK K bI uF Hu H8 aL HS vV AM H7 c0;refine fp 12 ?_;refine fp 13 ?_;refine fe ?_;obtain ⟨q8,H8⟩:=jn.o;have HM:=Zz H8;clear jn H8;have c0:=jR.o.hz.c0;go_wp2_with fail;refine (mc_kill HM.o 0 (by decide) (by decide) (by decide)).mono ?_;rintro e w9 ⟨rfl,Ft9,hg,hm,hk⟩;have PQ:=Zz (jR.o.step hg hk);have gF:Hid (Mc w9 p b v 5 q8 z_B y_F lvM2 (fun _=>none) [] [0] (.slice none 0 0) Ft9):=Zz hm;clear hg hm hk c0 HM jR;have c0:=PQ.o.hz.c0;go_wp2_with fail;refine (mc_kill gF.o 2 (by decide) (by decide) (by decide)).mono ?_;rintro e bO ⟨rfl,PR,hg,hm,hk⟩;have oz:=Zz (PQ.o.step hg hk);have eL:Hid (Mc bO p b v 5 q8 z_B y_F lvM3 (fun _=>none) [] [0,2] (.slice none 0 0) PR):=Zz hm;clear hg hm hk c0 gF PQ;have c0:=oz.o.hz.c0;go_wp2_with fail;refine (mc_crash ((HO.o.1.kill 0).kill 2) eL.o).mono ?_;rintro e fa ⟨rfl,Ft11,hg,hm,hk⟩;have rG:=Zz (oz.o.step hg hk);have jh:=Zz hm;clear hg hm hk c0 eL oz;have c0:=rG.o.hz.c0
 have Ia:10<=fa.heap.size:=by have:=rG.o.k.size;omega
 go_wp2_with fail;refine (mu_volume jh.o).mono ?_;rintro e w6 ⟨rfl,bF⟩;have bF:=bF.symm;subst bF;go_wp2_with fail;refine (lv_mount (HL.o.no rG.o.k) Ia HO.o.1 HO.o.2.1 HO.o.2.2.1 jh.o).mono ?_;rintro e fN ⟨rfl,PS,hg,hm,hk⟩;have rH:=Zz (rG.o.step hg hk);have iu:=Zz hm;clear hg hm hk c0 jh rG Ia;have c0:=rH.o.hz.c0
 have Ib:10<=fN.heap.size:=by have:=rH.o.k.size;omega
 go_wp2_with fail;refine (y_Z iu.o).mono ?_;rintro e w6 ⟨rfl,bF⟩;have bF:=bF.symm;subst bF;go_wp2_with fail;refine (lv_read (HL.o.no rH.o.k) Ib HO.o.1 HO.o.2.1 HO.o.2.2.2 iu.o).mono ?_;rintro e eU ⟨rfl,hk⟩;have ud:=Zz (iu.o.no hk);have gK:=Zz (rH.o.step (Ft':=PS) (fun _ _ h=>h) (hk.mono fun _ _ h=>h.elim));clear hk iu rH c0 Ib;have c0:=gK.o.hz.c0;go_wp2_with fail;refine (mc_suspects ud.o (by decide)).mono ?_;rintro e kQ ⟨⟨A,c,rfl⟩,hk⟩;have jY:=Zz (gK.o.k.trans hk);clear hk ud gK c0;go_wp2;go_ret;exact ⟨rfl,jY.o⟩
end
theorem addK_nodup {L:List Nat} (h:L.Nodup) (a:Nat):(z_J L a).Nodup:=by
 unfold z_J;split
 ·exact h
 ·rename_i h2
  exact List.nodup_append.2 ⟨h,by simp,fun x hx y hy=>by
   rcases List.mem_singleton.1 hy with rfl
   exact fun e=>h2 (e▸hx)⟩
theorem cnt_mem {D:List Nat} {n:Nat} (h:D.Nodup) (hn:∀i∈D,i<n):cnt (fun i=>decide (i∈D)) n=D.length:=by
 unfold cnt;rw[List.countP_eq_length_filter];refine List.Perm.length_eq ((List.perm_ext_iff_of_nodup (List.nodup_range.filter _) h).2 fun a=>?_);rw[List.mem_filter,List.mem_range];constructor
 ·rintro ⟨_,h2⟩;simpa using h2
 ·intro h2;exact ⟨hn a h2,by simpa using h2⟩
theorem cnt_some {p:Nat->Bool} {n c:Nat} (h:p c=true) (hc:c<n):0<cnt p n:=by
 refine Nat.pos_of_ne_zero fun e=>?_;have:=cnt_none e c hc;rw[h] at this;cases this
structure Wp (m:Nat) (B:Nat->ByteArray) (f:Nat->Option ByteArray) (dom:List Nat) (now:List ByteArray):Prop where
 len:now.length=m
 at':∀k,k<m->tl now k=(f k).getD (B k)
 fz:∀k y,f k=some y->y.size=32
 dm:∀k∈dom,k<m
 is:∀k,(f k).isSome=true↔k∈dom
section
variable {m:Nat} {B:Nat->ByteArray} {f:Nat->Option ByteArray} {dom:List Nat} {now:List ByteArray}
theorem Wp.write (h:Wp m B f dom now) {i:Nat} (hi:i<m) {x:ByteArray} (hx:x.size=32):Wp m B (y_9 f i x) (z_J dom i) (now.set i x):=by
 refine ⟨by rw[q_k];exact h.len,fun k hk=>?_,fun k y hy=>?_,fun k hk=>?_,fun k=>?_⟩
 ·rw[tl_set _ _ _ _ (by rw[h.len];exact hi)]
  unfold y_9;by_cases e:k=i
  ·rw[if_pos e,if_pos e];rfl
  ·rw[if_neg e,if_neg e];exact h.at' k hk
 ·unfold y_9 at hy
  by_cases e:k=i
  ·rw[if_pos e] at hy
   injection hy with hy
   subst hy;exact hx
  ·rw[if_neg e] at hy
   exact h.fz k y hy
 ·rcases (z_9 _ _ _).1 hk with hk|rfl
  ·exact h.dm k hk
  ·exact hi
 ·rw[z_9,<-h.is k]
  unfold y_9;by_cases e:k=i
  ·rw[if_pos e];simp[e]
  ·rw[if_neg e];simp[e]
theorem Wp.synced (h:Wp m B f dom now):Wp m (fun k=>(f k).getD (B k)) (fun _=>none) [] now :=
 ⟨h.len,h.at',fun k y hy=>by (cases hy),fun k hk=>by (cases hk),fun k=>by simp⟩
theorem Wp.none_ (h:Wp m B f [] now):f=fun _=>none:=by
 funext k
 cases hf:f k with
 | none=>rfl
 | some y =>
  have:=(h.is k).1 (by rw[hf];rfl);cases this
end
structure Vk (n d s:Nat) (S:Sup) (σ:Nat->DkS) (ch:Nat->Nat->ByteArray) (B:Nat->ByteArray) (D:List Nat):Prop where
 ok:VOk n z_B S σ ch B
 ed:S.data=d
 es:S.slots=s
 bd:∀i,i<d+2->bad S σ i=decide (i∈D)
 c:S.count<900
 nd:D.Nodup
 lt:∀i∈D,i<d+2
section
variable {n d s:Nat} {S:Sup} {σ:Nat->DkS} {ch:Nat->Nat->ByteArray} {B:Nat->ByteArray} {D:List Nat}
theorem Vk.kill (h:Vk n d s S σ ch B D) {i:Nat} (hi:i<d+2):Vk n d s S (z_A σ i (σ i).fail) ch B (z_J D i):=by
 refine ⟨h.ok.kill i,h.ed,h.es,fun j hj=>?_,h.c,addK_nodup h.nd i,fun j hj=>?_⟩
 ·rw[bad_kill,h.bd j hj]
  by_cases e:j=i
  ·simp[e,z_9]
  ·simp[e,z_9]
 ·rcases (z_9 _ _ _).1 hj with hj|rfl
  ·exact h.lt j hj
  ·exact hi
theorem Vk.count_ (h:Vk n d s S σ ch B D):cnt (bad S σ) (S.data+2)=D.length:=by
 rw[h.ed,w_i (d+2) h.bd];exact cnt_mem h.nd h.lt
theorem Vk.lost (h:Vk n d s S σ ch B D):z_5 S σ=if D.length<3 then 0 else 24:=by
 unfold z_5;rw[h.count_];by_cases e:D.length<3
 ·rw[if_pos (by omega),if_pos e]
 ·rw[if_neg (by omega),if_neg e]
theorem Vk.begin {d s:Nat} (h2:2<=d) (h4:d<=4) (hs:sl s):Vk (d+2) d s (bgS d s (d+2)) (bgD d s (d+2)) (fun _=>ch0) (fun _=>bs z_M) []:=by
 obtain ⟨z1,z2,z3,z4⟩:=bg_ok (n:=d+2) z_B h2 h4 hs (q_e _) (by omega);exact ⟨z1,rfl,rfl,fun i hi=>by rw[z4 i hi];simp,by show 2<900;decide,List.nodup_nil,fun i hi=>by (cases hi)⟩
theorem Vk.synced (h:Vk n d s S σ ch B D) {f:Nat->Option ByteArray} (nK:∀k y,f k=some y->y.size=32) {l:List Cgd} (hl:SynR S z_B (fun t=>cnt (wtP S.data f t) S.data) (fun t=>y_s S.data f (z_z (stp S.data B t)) t) S.slots l) {t0:Nat} (jO:t0<S.slots) (ja:0<cnt (wtP S.data f t0) S.data) (hc:S.count<800) :
  Vk n d s (cmS S σ n ch l) (y_U S σ n ch l) (fun j=>chW (ch j) (lC l j)) (fun k=>(f k).getD (B k)) D:=by
 obtain ⟨z1,z2,z3,z4⟩:=h.ok.synced (by omega) nK hl jO ja;refine ⟨z1,h.ed,h.es,fun i hi=>?_,by show S.count+1<900;omega,h.nd,h.lt⟩;have:=h.ok.ok.n12;have hl:=h.ok.len;have h2:=h.ed;rw[z4 i (by have:=h.ok.ok.n1;omega)];exact h.bd i hi
end
def Yx (w:World) (X:Nat->Prop):Nat->Prop:=fun x=>w.heap.size<=x/\¬X x
structure Tw (w w':World) (X:Nat->Prop) (z p b v n q gt:Nat) (S:Sup) (σ:Nat->DkS) (f:Nat->Option ByteArray) (dom D:List Nat) (vn vl:Value) (now:List ByteArray) (Ft:Nat->Prop):Prop where
 hz:Blk w' z 43 (wdC p vn vl (.slice none 0 0) gt true)
 hn:Own w' 0 9 vn (sv now)
 hm:Mc w' p b v n q z_B S σ f dom D (.slice none 0 0) Ft
 k:Kp NoB w w'
 F:∀x,Ft x->w.heap.size<=x/\x≠z/\vn.ownBlock≠some x/\¬X x
 zlo:w.heap.size<=z/\¬X z
 vlo:∀x,vn.ownBlock=some x->w.heap.size<=x/\¬X x
 xlt:∀x,X x->x<w'.heap.size
section
variable {w w1 w' w'':World} {X:Nat->Prop} {z p b v n q gt d s:Nat} {S:Sup} {σ:Nat->DkS} {f:Nat->Option ByteArray} {dom D:List Nat} {vn vl:Value} {now:List ByteArray} {Ft:Nat->Prop} {ch:Nat->Nat->ByteArray} {B:Nat->ByteArray}
theorem Tw.no (h:Tw w w' X z p b v n q gt S σ f dom D vn vl now Ft) (k:Kp NoB w' w''):Tw w w'' X z p b v n q gt S σ f dom D vn vl now Ft :=
 ⟨h.hz.kp k fun h=>h,h.hn.kp k fun _ _ h=>h,h.hm.no k,h.k.trans k,h.F,h.zlo,h.vlo,fun x hx=>q_f (h.xlt x hx) k.size⟩
theorem Tw.own (h:Tw w w' X z p b v n q gt S σ f dom D vn vl now Ft) {T:Nat->Prop} (k:Kp T w' w'') (hT:∀x,T x->X x/\w.heap.size<=x):Tw w w'' X z p b v n q gt S σ f dom D vn vl now Ft :=
 ⟨h.hz.kp k fun e=>h.zlo.2 (hT _ e).1,h.hn.kp k fun x hx e=>(h.vlo x hx).2 (hT _ e).1,h.hm.kp k fun x e hf=>(h.F x hf).2.2.2 (hT _ e).1,h.k.then k fun x hx e=>(by have:=(hT x e).2;omega:False),h.F,h.zlo,h.vlo,fun x hx=>q_f (h.xlt x hx) k.size⟩
theorem Tw.add (h:Tw w w' X z p b v n q gt S σ f dom D vn vl now Ft) {g:Nat} (hg:w'.heap.size<=g) (bJ:g<w''.heap.size) (k:Kp NoB w' w''):Tw w w'' (fun x=>X x\/x=g) z p b v n q gt S σ f dom D vn vl now Ft:=by
 have h2:=h.no k;refine ⟨h2.hz,h2.hn,h2.hm,h2.k,fun x hx=>⟨(h.F x hx).1,(h.F x hx).2.1,(h.F x hx).2.2.1,fun e=>?_⟩,⟨h.zlo.1,fun e=>?_⟩,fun x hx=>⟨(h.vlo x hx).1,fun e=>?_⟩,fun x hx=>?_⟩
 ·rcases e with e|rfl
  ·exact (h.F x hx).2.2.2 e
  ·have:=(h.hm.lt hx).2
   omega
 ·rcases e with e|e
  ·exact h.zlo.2 e
  ·have:=h.hz.lt
   omega
 ·rcases e with e|rfl
  ·exact (h.vlo x hx).2 e
  ·have:=(h.hn.lt x hx).2
   omega
 ·rcases hx with hx|rfl
  ·exact h2.xlt x hx
  ·exact bJ
theorem Tw.yF (h:Tw w w' X z p b v n q gt S σ f dom D vn vl now Ft) (k:Kp Ft w' w''):Kp (Yx w X) w' w'':=k.mono fun x _ hx=>⟨(h.F x hx).1,(h.F x hx).2.2.2⟩
theorem Tw.step (h:Tw w w' X z p b v n q gt S σ f dom D vn vl now Ft) {q':Nat} {S':Sup} {σ':Nat->DkS} {f':Nat->Option ByteArray} {PU D':List Nat} {Ft':Nat->Prop} (hg:Gr w' Ft Ft') (hm:Mc w'' p b v n q' z_B S' σ' f' PU D' (.slice none 0 0) Ft') (k:Kp Ft w' w'') :
  Tw w w'' X z p b v n q' gt S' σ' f' PU D' vn vl now Ft':=by
 refine ⟨h.hz.kp k fun hf=>(h.F _ hf).2.1 rfl,h.hn.kp k fun x hx hf=>(h.F x hf).2.2.1 hx,hm,h.k.then k fun x hx hf=>(by have:=(h.F x hf).1;omega:False),fun x hx=>?_,h.zlo,h.vlo,fun x hx=>q_f (h.xlt x hx) k.size⟩;by_cases e:x<w'.heap.size
 ·exact h.F x (hg x e hx)
 ·have h1:=h.k.size
  have h2:=h.hz.lt;exact ⟨by omega,by omega,fun e2=>by have:=(h.hn.lt x e2).2;omega,fun e2=>by have:=h.xlt x e2;omega⟩
theorem tw_begin (hL:Lay w1) (hw:10<=w1.heap.size) (hk:Kp NoB w w1) (hX:∀x,X x->x<w1.heap.size) (h2:2<=d) (h4:d<=4) (hs:sl s) :
  Cl 5 #[.int .i64 d,.int .i64 s,.int .i64 0] w1 fun e w'=>∃z p b v gt vn vl Ft,e=.returned (.tuple #[.pointer (some ⟨z,0,none⟩),.bool true])/\Tw w w' X z p b v (d+2) 0 gt (bgS d s (d+2)) (bgD d s (d+2)) (fun _=>none) [] [] vn vl (List.replicate (s*d) (bs z_M)) Ft/\Kp NoB w1 w':=by
 refine (begin_any hL hw d s 0 h2 h4 hs (by decide)).mono ?_;rintro e w' ⟨z,p,b,v,gt,vn,vl,Ft,rfl,hz,⟨ho,_⟩,_,hm,hF,Ds,_,⟨sB,_,Jy,_⟩,lS⟩;have hs:=hk.size;refine ⟨z,p,b,v,gt,vn,vl,Ft,rfl,⟨hz,ho.more (Nat.zero_le _),hm,hk.trans lS,fun x hx=>⟨by have:=hF x hx;omega,fun e=>sB (by rw[<-e];exact hx),fun e=>(Ds x e).1 hx,fun e=>by have:=hX x e;have:=hF x hx;omega⟩,⟨by omega,fun e=>by have:=hX _ e;omega⟩,fun x hx=>⟨by have:=(ho.lt x hx).1;omega,fun e=>by have:=hX _ e;have:=(ho.lt x hx).1;omega⟩,fun x hx=>q_f (hX x hx) lS.size⟩,lS⟩
theorem Wp.begin (m:Nat):Wp m (fun _=>bs z_M) (fun _=>none) [] (List.replicate m (bs z_M)):=by
 refine ⟨q_w,fun k hk=>?_,fun k y h=>by (cases h),fun k h=>by (cases h),fun k=>by simp⟩;unfold tl;rw[q_a,List.getElem?_replicate,if_pos hk];rfl
theorem tw_write (h:Tw w w' X z p b v n q gt S σ f dom D vn vl now Ft) (hL:Lay w) (hV:Vk n d s S σ ch B D) (hW:Wp (s*d) B f dom now) (hd:dom.length<1000) (dd a c t kp:Int) (dt:UInt8) (cell:ByteArray) :
  Cl 7 #[.pointer (some ⟨z,0,none⟩),.agg (x_g dd a c t dt cell kp)] w' fun e w''=>e=.returned (.tuple #[])/\Tw w w'' X z p b v n q gt S σ (y_9 f (plN a (s*d)) (x_Q dt c)) (z_J dom (plN a (s*d))) D vn vl (now.set (plN a (s*d)) (x_Q dt c)) Ft/\Kp (Yx w X) w' w'':=by
 have e:S.slots*S.data=s*d:=by rw[hV.es,hV.ed]
 have hr:=wwrite_any (hL.no h.k) hV.ok.ok h.hz h.hn (hW.len.trans e.symm) h.hm (fun hf=>(h.F _ hf).2.1 rfl) (fun x hx hf=>(h.F x hf).2.2.1 hx) hd dd a c t kp dt cell;rw[e] at hr;refine hr.mono ?_;rintro e w'' ⟨rfl,hz,hn,hm,hk⟩;refine ⟨rfl,⟨hz,hn,hm,h.k.then hk fun x hx hf=>?_,h.F,h.zlo,h.vlo,fun x hx=>q_f (h.xlt x hx) hk.size⟩,hk.mono fun x _ hf=>?_⟩
 ·rcases hf with hf|hf
  ·have:=(h.F x hf).1
   omega
  ·have:=(h.vlo x hf).1
   omega
 ·rcases hf with hf|hf
  ·exact ⟨(h.F x hf).1,(h.F x hf).2.2.2⟩
  ·exact h.vlo x hf
theorem tw_sync (h:Tw w w' X z p b v n 0 gt S σ f dom [] vn vl now Ft) (hL:Lay w) (hw:10<=w.heap.size) (hV:Vk n d s S σ ch B []) (hc:S.count<100) (hW:Wp (s*d) B f dom now) :
  Cl 8 #[.pointer (some ⟨z,0,none⟩)] w' fun e w''=>e=.returned (.int .i64 0)/\∃q' S' σ' AN B' kE Ft',Tw w w'' X z p b v n q' gt S' σ' (fun _=>none) [] [] vn kE now Ft'/\Vk n d s S' σ' AN B' []/\Wp (s*d) B' (fun _=>none) [] now/\q'<=1000/\S'.count<700/\Kp (Yx w X) w' w'':=by
 have hm:0<s*d:=by
  have:=hV.ok.ok.d2;rw[hV.ed] at this
  have:2<=s:=by rw[<-hV.es];rcases hV.ok.ok.sl with h|h<;>omega
  exact Nat.mul_pos (by omega) (by omega)
 have lu:s*d<=1000:=by
  have h1:=hV.ok.ok.d8;rw[hV.ed] at h1
  have h2:s<=4:=by rw[<-hV.es];rcases hV.ok.ok.sl with h|h<;>omega
  exact q_g (Nat.mul_le_mul h2 h1) (by decide)
 have Ic:∀W,Kp NoB w' W->Cl 12 #[.pointer (some ⟨v,0,none⟩)] W fun e w''=>e=.returned (.int .i64 0)/\∃Ft',Gr W Ft Ft'/\Kp Ft W w''/\∃q' S' σ' AN B',Tw w w'' X z p b v n q' gt S' σ' (fun _=>none) [] [] vn vl now Ft'/\Vk n d s S' σ' AN B' []/\Wp (s*d) B' (fun _=>none) [] now/\q'<=1000/\S'.count<700:=fun W k=>by
  have h:=h.no k
  cases dom with
  | nil =>
   have hf:=hW.none_;subst hf;refine (mc_sync0 h.hm).mono ?_;rintro e w'' ⟨rfl,rfl⟩
   exact ⟨rfl,Ft,fun _ _ h=>h,Kp.refl _ _,0,S,σ,ch,B,h,hV,hW,by omega,by omega⟩
  | cons k0 iw =>
   have kK:=hW.dm k0 List.mem_cons_self;have qz:=(hW.is k0).2 List.mem_cons_self
   have pX:0<d:=by have:=hV.ok.ok.d2;rw[hV.ed] at this;omega
   have jO:k0 / d<S.slots:=by rw[hV.es];exact Nat.div_lt_of_lt_mul (by rw[Nat.mul_comm];exact kK)
   have ja:0<cnt (wtP S.data f (k0 / d)) S.data:=by
    rw[hV.ed];refine cnt_some (c:=k0 % d) ?_ (q_z _ pX);unfold wtP;rw[Nat.mul_comm,Nat.div_add_mod];exact qz
   have fA:z_5 S σ=0:=by rw[hV.lost];rfl
   refine (mc_sync (hL.no h.k) (by have:=h.k.size;omega) rfl hV.ok h.hm hW.fz (fun k hk=>by rw[hV.es,hV.ed];exact hW.dm k hk) (by decide) (by omega) jO ja (.inl fA)).mono ?_;rintro e w'' ⟨rfl,_,bI⟩;obtain ⟨l,q',Ft',uF,⟨_,JL⟩,hg,sy,mW⟩:=bI fA;have hl:=uF.hl hV.ok.ok;exact ⟨by rw[fA],Ft',hg,mW,q',_,_,_,_,h.step hg sy mW,hV.synced hW.fz uF jO ja (by omega),hW.synced,by omega,by show S.count+1<700;omega⟩
 refine (wsync_any (R:=fun w'' Ft'=>∃q' S' σ' AN B',Tw w w'' X z p b v n q' gt S' σ' (fun _=>none) [] [] vn vl now Ft'/\Vk n d s S' σ' AN B' []/\Wp (s*d) B' (fun _=>none) [] now/\q'<=1000/\S'.count<700) h.hz h.hn ⟨by rw[hW.len];exact hm,by rw[hW.len];exact lu⟩ h.hm (fun hf=>(h.F _ hf).2.1 rfl) (fun x hx hf=>(h.F x hf).2.2.1 hx) Ic).mono ?_;rintro e w'' ⟨rfl,Ft',kE,W,hg,⟨q',S',σ',AN,B',hT,JN,PV,JL,hc'⟩,xf,hz',JR,_,hk⟩;refine ⟨rfl,q',S',σ',AN,B',kE,Ft',⟨hz',JR,hT.hm.kp xf fun x hx hf=>(hT.F x hf).2.1 hx,hT.k.then xf fun x hx e=>(by have e:x=z:=e;have:=hT.zlo.1;omega:False),hT.F,hT.zlo,hT.vlo,fun x hx=>q_f (hT.xlt x hx) xf.size⟩,JN,PV,JL,hc',hk.mono fun x _ hx=>?_⟩;rcases hx with hx|rfl
 ·exact ⟨(h.F x hx).1,(h.F x hx).2.2.2⟩
 ·exact h.zlo
theorem tw_kill (h:Tw w w' X z p b v n q gt S σ f dom D vn vl now Ft) (hV:Vk n d s S σ ch B D) {i:Nat} (hi:i<d+2) (hD:D.length<1000) :
  Cl 9 #[.pointer (some ⟨p,0,none⟩),.int .i64 i] w' fun e w''=>e=.returned (.int .i64 0)/\∃Ft',Tw w w'' X z p b v n q gt S (z_A σ i (σ i).fail) f dom (z_J D i) vn vl now Ft'/\Kp (Yx w X) w' w'':=by
 have h1:=hV.ok.ok.n1;have h2:=hV.ok.len;have h3:=hV.ok.ok.d8;have h4:=hV.ed;refine (mc_kill h.hm i (by omega) (by omega) hD).mono ?_;rintro e w'' ⟨rfl,Ft',hg,hm,hk⟩;exact ⟨rfl,Ft',h.step hg hm hk,h.yF hk⟩
theorem tw_read (h:Tw w w' X z p b v n q gt S σ f dom D vn vl now Ft) (hL:Lay w) (hw:10<=w.heap.size) (hV:Vk n d s S σ ch B D) (hW:Wp (s*d) B f dom now) {k:Nat} (hk:k<s*d) :
  Cl 11 #[.pointer (some ⟨v,0,none⟩),.int .i64 k] w' fun e w''=>∃(y:ByteArray) (er:Int),e=.returned (.tuple #[.string y,.int .i64 er])/\(er=0/\y=tl now k\/er=24/\f k=none/\¬D.length<3)/\Kp NoB w' w'':=by
 have e:S.slots*S.data=s*d:=by rw[hV.es,hV.ed]
 refine (mc_read (hL.no h.k) (by have:=h.k.size;omega) rfl hV.ok h.hm k (by rw[e];exact hk)).mono ?_;rintro e w'' ⟨rfl,a8⟩;refine ⟨_,_,rfl,?_,a8⟩;rw[hW.at' k hk]
 cases hf:f k with
 | some y=>exact .inl ⟨rfl,rfl⟩
 | none =>
  unfold rdB rdE;rw[hV.count_];by_cases hc:bad S σ ((k % S.data+k / S.data) % (S.data+2))=true/\2<D.length
  ·exact .inr ⟨if_pos hc,rfl,by omega⟩
  ·exact .inl ⟨if_neg hc,if_neg hc⟩
theorem tw_last (h:Tw w w' X z p b v n q gt S σ f [0] D vn vl now Ft) (hL:Lay w) (hw:10<=w.heap.size) (hV:Vk n d s S σ ch B D) (hW:Wp (s*d) B f [0] now) (hq:q<=90000) (hc:S.count<800) :
  Cl 12 #[.pointer (some ⟨v,0,none⟩)] w' fun e w''=>∃(er:Int) (pn:Nat),e=.returned (.int .i64 er)/\(D.length<3/\er=0/\pn=0\/¬D.length<3/\er=24/\pn=1) /\
   (∀W,Kp NoB w'' W->Cl 10 #[.pointer (some ⟨p,0,none⟩)] W fun e w'=>e=.returned (.pointer (some ⟨v,0,none⟩))/\w'=W) /\
   (∀W,Kp NoB w'' W->Cl 11 #[.pointer (some ⟨v,0,none⟩),.int .i64 0] W fun e w'=>e=.returned (.tuple #[.string (tl now 0),.int .i64 0])/\Kp NoB W w') /\
   (∀W,Kp NoB w'' W->Cl 14 #[.pointer (some ⟨v,0,none⟩)] W fun e w'=>∃(A:Option Addr) (k c:Nat),e=.returned (.agg #[.bool true,.bool false,.int .i64 (s*d:Nat),.int .i64 pn,.int .i64 d,.int .i64 0,.int .i64 0,.bool false,.slice A k c])/\Kp NoB W w') /\
   Blk w'' z 43 (wdC p vn vl (.slice none 0 0) gt true)/\Kp (Yx w X) w' w''/\Kp NoB w w'':=by
 have he:S.slots*S.data=s*d:=by rw[hV.es,hV.ed]
 have db:2<=d:=by have:=hV.ok.ok.d2;rw[hV.ed] at this;exact this
 have nt:2<=s:=by rw[<-hV.es];rcases hV.ok.ok.sl with h|h<;>omega
 have qz:(f 0).isSome=true:=(hW.is 0).2 (by simp)
 have ja:0<cnt (wtP S.data f 0) S.data:=by
  rw[hV.ed];exact cnt_some (c:=0) (by unfold wtP;rw[Nat.zero_mul];exact qz) (by omega)
 have hNd:cnt (wtP S.data f 0) S.data<S.data:=by
  have h1:=cnt_le (wtP S.data f 0) S.data;refine Nat.lt_of_le_of_ne h1 fun e=>?_;have:=cnt_full e 1 (by rw[hV.ed];omega);unfold wtP at this;rw[Nat.zero_mul] at this;have:=(hW.is 1).1 this;simp at this
 have jy:0<s*d:=Nat.mul_pos (by omega) (by omega);refine (mc_sync (hL.no h.k) (by have:=h.k.size;omega) rfl hV.ok h.hm hW.fz (fun k hk=>by rw[he];exact hW.dm k hk) hq (by omega) (t0:=0) (by rw[hV.es];omega) ja (.inr ⟨ja,hNd⟩)).mono ?_;rintro e w'' ⟨rfl,ls,bI⟩;rw[hV.lost] at ls bI ⊢;by_cases hD:D.length<3
 ·rw[if_pos hD] at ls bI ⊢
  obtain ⟨l,q',Ft',uF,_,hg,sy,mW⟩:=bI rfl;have hT:=h.step hg sy mW;have JN:=hV.synced hW.fz uF (t0:=0) (by rw[hV.es];omega) ja hc;refine ⟨0,0,rfl,.inl ⟨hD,rfl,rfl⟩,fun W k=>y_Z (hT.no k).hm,fun W k=>(tw_read (hT.no k) hL hw JN hW.synced jy).mono ?_,fun W k=>(mc_status (hL.no (hT.no k).k) (by have:=(hT.no k).k.size;omega) JN.ok.ok (hT.no k).hm).mono ?_,hT.hz,h.yF mW,hT.k⟩
  ·rintro e w3 ⟨y,er,rfl,h1,a8⟩
   rcases h1 with ⟨rfl,rfl⟩|⟨_,_,h2⟩
   ·exact ⟨rfl,a8⟩
   ·exact absurd hD h2
  ·rintro e w3 ⟨A,k,c,rfl,a8⟩
   refine ⟨A,k,c,?_,a8⟩;show Ending.returned (.agg #[.bool true,.bool false,.int .i64 (S.slots*S.data:Nat),.int .i64 0,.int .i64 S.data,.int .i64 0,.int .i64 0,.bool false,.slice A k c])=_;rw[he,hV.ed];rfl
 ·rw[if_neg hD] at ls bI ⊢
  have mW:=ls (by decide);have hT:=h.no mW;refine ⟨24,1,rfl,.inr ⟨hD,rfl,rfl⟩,fun W k=>y_Z (hT.no k).hm,fun W k=>(tw_read (hT.no k) hL hw hV hW jy).mono ?_,fun W k=>(mc_status (hL.no (hT.no k).k) (by have:=(hT.no k).k.size;omega) hV.ok.ok (hT.no k).hm).mono ?_,hT.hz,mW.mono fun _ _ h=>h.elim,hT.k⟩
  ·rintro e w3 ⟨y,er,rfl,h1,a8⟩
   rcases h1 with ⟨rfl,rfl⟩|⟨_,h2,_⟩
   ·exact ⟨rfl,a8⟩
   ·rw[h2] at qz;cases qz
  ·rintro e w3 ⟨A,k,c,rfl,a8⟩
   refine ⟨A,k,c,?_,a8⟩;rw[he,hV.ed];rfl
end
end Go.Proofs.YtdkheklakfbeeaaGreatDoor
