/- Part 20 of the proof. -/
import Derived.Test.YtdkheklakfbeeaaGreatDoorM19
set_option linter.all false
set_option maxRecDepth 100000
set_option maxHeartbeats 16000000
namespace Go.Proofs.YtdkheklakfbeeaaGreatDoor
open Go.RowKit Tryz
section
open GfM
theorem take_pk (B:List Bool) (k:Nat) (n:Nat):k<=(pk B n).length->∃j,j<=n/\(pk B n).take k=pk B j/\(pk B j).length=k:=by
 induction n with
 | zero =>
  intro h
  have:k=0:=by simpa[pk] using h
  subst this
  exact ⟨0,q_e _,by simp[pk],rfl⟩
 | succ n ih =>
  intro h;by_cases hk:k<=(pk B n).length
  ·obtain ⟨j,hj,h1,h2⟩:=ih hk
   refine ⟨j,by omega,?_,h2⟩;by_cases hb:B.getD n false=true
   ·rw[x_7 hb,List.take_append_of_le_length hk,h1]
   ·rw[pk_no (by simpa using hb),h1]
  ·have hl:(pk B (n+1)).length=k:=by
    by_cases hb:B.getD n false=true
    ·rw[x_7 hb,q_b,q_x] at h ⊢;omega
    ·rw[pk_no (by simpa using hb)] at h;omega
   exact ⟨n+1,q_e _,q_t (by omega),hl⟩
theorem pk_all (B:List Bool) (n:Nat):(pk B n).length=n->∀s,s<n->s∈pk B n:=by
 induction n with
 | zero=>intro _ s hs;omega
 | succ n ih =>
  intro h s hs;have hn:=pk_len B n;by_cases hb:B.getD n false=true
  ·rw[x_7 hb] at h ⊢
   rw[q_b,q_x] at h;by_cases e:s=n
   ·subst e;simp
   ·exact List.mem_append_left _ (ih (by omega) s (by omega))
  ·rw[pk_no (by simpa using hb)] at h;omega
theorem pk_one (B:List Bool) (n:Nat):(pk B n).length+1=n->∃x,x<n/\∀s,s<n->s≠x->s∈pk B n:=by
 induction n with
 | zero=>intro h;omega
 | succ n ih =>
  intro h;by_cases hb:B.getD n false=true
  ·rw[x_7 hb] at h ⊢
   rw[q_b,q_x] at h;obtain ⟨x,hx,hs⟩:=ih (by omega);refine ⟨x,by omega,fun s h1 h2=>?_⟩;by_cases e:s=n
   ·subst e;simp
   ·exact List.mem_append_left _ (hs s (by omega) h2)
  ·rw[pk_no (by simpa using hb)] at h ⊢
   exact ⟨n,by omega,fun s h1 h2=>pk_all B n (by omega) s (by omega)⟩
theorem pk_two (B:List Bool) (n:Nat):(pk B n).length+2=n->∃x y,x<y/\y<n/\∀s,s<n->s≠x->s≠y->s∈pk B n:=by
 induction n with
 | zero=>intro h;omega
 | succ n ih =>
  intro h;by_cases hb:B.getD n false=true
  ·rw[x_7 hb] at h ⊢
   rw[q_b,q_x] at h;obtain ⟨x,y,vt,hy,hs⟩:=ih (by omega);refine ⟨x,y,vt,by omega,fun s h1 h2 h3=>?_⟩;by_cases e:s=n
   ·subst e;simp
   ·exact List.mem_append_left _ (hs s (by omega) h2 h3)
  ·rw[pk_no (by simpa using hb)] at h ⊢
   obtain ⟨x,hx,hs⟩:=pk_one B n (by omega);exact ⟨x,n,hx,by omega,fun s h1 h2 h3=>hs s (by omega) h2⟩
theorem pk_lack (B:List Bool) (k:Nat) (h:k<=(pk B (k+2)).length):∃x y,x<y/\y<k+2/\∀s,s<k+2->s≠x->s≠y->s∈(pk B (k+2)).take k:=by
 obtain ⟨j,hj,h1,h2⟩:=take_pk B k (k+2) h;rw[h1];have xm:=pk_len B j
 have hc:j=k+2\/j=k+1\/j=k:=by omega
 rcases hc with rfl|rfl|rfl
 ·exact pk_two B (k+2) (by omega)
 ·obtain ⟨x,hx,hs⟩:=pk_one B (k+1) (by omega)
  exact ⟨x,k+1,hx,by omega,fun s a b c=>hs s (by omega) b⟩
 ·exact ⟨j,j+1,by omega,by omega,fun s a b c=>pk_all B j h2 s (by omega)⟩
theorem genM_row (k r:Nat) (h:r<k):(y_c k).getD r []=y_2 k r:=by
 unfold y_c;rw[q_a,q_F (by rw[x_u];exact h),<-q_a,idM_row k r h]
theorem genM_par (k j:Nat) (h:j<2):(y_c k).getD (k+j) []=(List.range k).map fun c=>ex (j*c):=by
 unfold y_c;rw[q_a,q_u (by rw[x_u];omega),x_u,Nat.add_sub_cancel_left,<-q_a,vdM_row 2 k j h]
theorem genM_shp (k:Nat):Shp (y_c k) (k+2) k:=by
 refine ⟨z_6 k,fun r hr=>?_⟩;by_cases h:r<k
 ·rw[genM_row k r h,v_1]
 ·obtain ⟨j,rfl⟩:∃j,r=k+j:=⟨r-k,by omega⟩
  rw[genM_par k j (by omega)];simp
theorem genM_en (k r c:Nat) (h:r<k) (hc:c<k):en (y_c k) r c=dl r c:=by
 unfold en;rw[genM_row k r h,unitRow_at k r c h hc]
theorem genM_enp (k j c:Nat) (h:j<2) (hc:c<k):en (y_c k) (k+j) c=ex (j*c):=by
 unfold en;rw[genM_par k j h,q_a,q_j,q_n hc];rfl
theorem genM_good (k:Nat) (h1:1<=k) (h8:k<=8):y_r (y_c k)=true:=by
 have hS:=genM_shp k;have h0:=hS.2 0 (by omega);exact (w_N _).2 ⟨by rw[hS.1];omega,by rw[hS.1];omega,by omega,by omega,⟨rfl,fun r hr=>by rw[hS.2 r (by rw[<-hS.1];exact hr),h0]⟩⟩
theorem sx_two (n a b:Nat) (f:Nat->UInt8) (ha:a<n) (hb:b<n) (XH:a≠b) (h:∀j,j<n->j≠a->j≠b->f j=0):sx n f=f a ^^^ f b:=by
 have e:sx n f=sx n (fun j=>(if j=a then f j else 0) ^^^ (if j=a then 0 else f j)):=z_I n fun j _=>by
  by_cases q:j=a
  ·rw[if_pos q,if_pos q,UInt8.xor_zero]
  ·rw[if_neg q,if_neg q,UInt8.zero_xor]
 rw[e,sx_add,v_G n a _ ha (fun j _ hj=>if_neg hj),if_pos rfl]
 rw[v_G n b (fun j=>if j=a then 0 else f j) hb (fun j hj aA=>by
  by_cases q:j=a
  ·exact if_pos q
  ·exact (if_neg q).trans (h j hj q aA))]
 rw[if_neg (Ne.symm XH)]
theorem gen_noker (k:Nat) (h8:k<=8) (x y:Nat) (vt:x<y) (hy:y<k+2) (v:Nat->UInt8) (hv:∀r,r<k+2->r≠x->r≠y->sx k (fun c=>mul (en (y_c k) r c) (v c))=0):∀c,c<k->v c=0:=by
 have hd:∀r,r<k->r≠x->r≠y->v r=0:=by
  intro r hr h1 h2;have:=hv r (by omega) h1 h2;rw[z_I k (fun c hc=>by rw[genM_en k r c hr hc]),x_X k r v hr] at this;exact this
 have hp:∀j,j<2->k+j≠x->k+j≠y->sx k (fun c=>mul (ex (j*c)) (v c))=0:=by
  intro j hj h1 h2;have:=hv (k+j) (by omega) h1 h2;rw[z_I k (fun c hc=>by rw[genM_enp k j c hj hc])] at this;exact this
 by_cases yO:y<k
 ·have p0:=hp 0 (by omega) (by omega) (by omega)
  have p1:=hp 1 (by omega) (by omega) (by omega);rw[sx_two k x y _ (by omega) yO (by omega) (fun j hj a b=>by rw[hd j hj a b,z_3])] at p0 p1;simp only[Nat.zero_mul,ex_zero,one_mul,Nat.one_mul] at p0 p1;have RL:=xor_eq p0;rw[RL,<-add_mul] at p1
  have RM:v y=0:=by
   rcases (v_X _ _).1 p1 with h|h
   ·have:=ex_inj (by omega) (by omega) (xor_eq h)
    omega
   ·exact h
  intro c hc;by_cases e1:c=x
  ·rw[e1,RL,RM]
  ·by_cases e2:c=y
   ·rw[e2,RM]
   ·exact hd c hc e1 e2
 ·by_cases XI:x<k
  ·have XJ:v x=0:=by
    have hj:∃j,j<2/\k+j≠y:=by
     by_cases e:y=k
     ·exact ⟨1,by omega,by omega⟩
     ·exact ⟨0,by omega,by omega⟩
    obtain ⟨j,AQ,xm⟩:=hj;have p:=hp j AQ (by omega) xm;rw[v_G k x _ XI (fun c hc aA=>by rw[hd c hc aA (by omega),z_3])] at p;rcases (v_X _ _).1 p with h|h
    ·exact absurd h (ex_ne _)
    ·exact h
   intro c hc;by_cases e1:c=x
   ·rw[e1,XJ]
   ·exact hd c hc e1 (by omega)
  ·exact fun c hc=>hd c hc (by omega) (by omega)
def ix (B:List Bool) (k r:Nat):Nat:=((pk B (k+2)).take k).getD r 0
section
variable {B:List Bool} {k:Nat}
theorem tk_len (h:k<=(pk B (k+2)).length):((pk B (k+2)).take k).length=k:=by rw[q_l];omega
theorem ix_mem (h:k<=(pk B (k+2)).length) (r:Nat) (hr:r<k):ix B k r∈(pk B (k+2)).take k:=by
 unfold ix;rw[q_a,q_d (by rw[tk_len h];exact hr)];exact q_B _
theorem mem_ix (h:k<=(pk B (k+2)).length) {s:Nat} (hs:s∈(pk B (k+2)).take k):∃r,r<k/\ix B k r=s:=by
 obtain ⟨r,hr,he⟩:=List.getElem_of_mem hs;refine ⟨r,by rw[tk_len h] at hr;exact hr,?_⟩;unfold ix;rw[q_a,q_d hr,he];rfl
theorem ix_lt (h:k<=(pk B (k+2)).length) (r:Nat) (hr:r<k):ix B k r<k+2:=(pk_lt B (k+2) _ (List.mem_of_mem_take (ix_mem h r hr))).1
theorem pkR_row (h:k<=(pk B (k+2)).length) (r:Nat) (hr:r<k):(pkR B k).getD r []=(y_c k).getD (ix B k r) []:=by
 unfold pkR ix;rw[q_a,q_j,q_a (l:=(pk B (k+2)).take k),q_d (by rw[tk_len h];exact hr)];rfl
theorem pkR_shp (h:k<=(pk B (k+2)).length):Shp (pkR B k) k k:=by
 refine ⟨by unfold pkR;rw[q_i,tk_len h],fun r hr=>?_⟩;rw[pkR_row h r hr];exact (genM_shp k).2 _ (ix_lt h r hr)
theorem pkR_en (h:k<=(pk B (k+2)).length) (r c:Nat) (hr:r<k):en (pkR B k) r c=en (y_c k) (ix B k r) c:=by
 unfold en;rw[pkR_row h r hr]
theorem pkC_len (C:List ByteArray) (h:k<=(pk B (k+2)).length):(pkC B C k).length=k:=by unfold pkC;rw[q_i,tk_len h]
theorem pkC_tl (C:List ByteArray) (h:k<=(pk B (k+2)).length) (r:Nat) (hr:r<k):tl (pkC B C k) r=tl C (ix B k r):=by
 unfold pkC ix;show (List.map (tl C) _).getD r _=_;rw[q_a,q_j,q_a (l:=(pk B (k+2)).take k),q_d (by rw[tk_len h];exact hr)];rfl
theorem pkR_inv (h:k<=(pk B (k+2)).length) (h1:1<=k) (h8:k<=8) {X:List (List UInt8)} {e:Int} (hR:InvR (pkR B k) X e):Shp X k k/\IsInv k (en (pkR B k)) (en X):=by
 have hS:=pkR_shp (B:=B) h;have h0:=hS.2 0 (by omega);have hg:y_r (pkR B k)=true:=(w_N _).2 ⟨by rw[hS.1];exact h1,by rw[hS.1];omega,by omega,by omega,⟨rfl,fun r hr=>by rw[hS.2 r (by rw[<-hS.1];exact hr),h0]⟩⟩
 have hs:(pkR B k).length=((pkR B k).getD 0 []).length:=by rw[hS.1,h0]
 rcases invR_sq hR hg hs with ⟨_,hX,hi⟩|⟨_,_,vN⟩
 ·rw[hS.1] at hX hi
  exact ⟨hX,hi⟩
 ·exfalso
  rw[hS.1] at vN;obtain ⟨v,⟨c,hc,QY⟩,hz⟩:=vN;obtain ⟨x,y,vt,hy,aD⟩:=pk_lack B k h;refine QY (gen_noker k h8 x y vt hy v (fun s hs a b=>?_) c hc);obtain ⟨r,hr,rfl⟩:=mem_ix h (aD s hs a b);rw[<-hz r hr]
  exact z_I k fun j _=>by rw[pkR_en h r j hr]
end
theorem tl_ext {A C:List ByteArray} (hl:A.length=C.length) (h:∀i,i<A.length->tl A i=tl C i):A=C:=by
 apply q_m hl;intro i h1 h2;have:=h i h1;simpa[tl,q_a,h1,h2] using this
theorem tl_bytes {s t:ByteArray} {n:Nat} (hs:s.size=n) (ht:t.size=n) (h:∀j,j<n->s.data.toList.getD j 0=t.data.toList.getD j 0):s=t:=by
 rw[<-x_D s,<-x_D t];exact congrArg bs (list_ext0 (n:=n) hs ht h)
theorem apL_sz {A:List (List UInt8)} {T:List ByteArray} (h:∀j,j<T.length->(tl T j).size=nn T) (r:Nat) (hr:r<A.length):(tl (apL A T) r).size=nn T:=by
 rw[apL_at A T r hr,z_b,apRow_length A T (nn T) r _ h]
theorem v_r {A:List (List UInt8)} {T:List ByteArray} (h:∀j,j<T.length->(tl T j).size=nn T) (r:Nat) (hr:r<A.length) (j:Nat) (hj:j<nn T) :
  (tb (apL A T) r).getD j 0=sx T.length (fun c=>mul (en A r c) ((tb T c).getD j 0)):=by
 unfold tb;rw[apL_at A T r hr,z_Y,apRow_at A T (nn T) r T.length j h hj];rfl
theorem pb_sx (T:List ByteArray) (j i:Nat):pb T j i=sx i (fun c=>(tb T c).getD j 0):=by
 induction i with
 | zero=>rfl
 | succ i ih=>show pb T j i ^^^ _=sx i _ ^^^ _;rw[ih]
theorem qb_sx (T:List ByteArray) (j i:Nat):qb T j i=sx i (fun c=>mul (ex c) ((tb T c).getD j 0)):=by
 induction i with
 | zero=>rfl
 | succ i ih =>
  show qb T j i ^^^ mul (wt i) _=sx i _ ^^^ mul (ex i) _;rw[ih];unfold wt;rw[pwI_ex]
theorem gen_all {D:List ByteArray} (h:enE D=0):apL (y_c D.length) D=D++[bs (enP D),bs (enQ D)]:=by
 obtain ⟨h1,h8,hs,hN⟩:=enE_ok h
 have e2:enP D=pp D (nn D) D.length:=by unfold enP;rw[if_pos h]
 have e3:enQ D=qq D (nn D) D.length:=by unfold enQ;rw[if_pos h]
 have aq:(apL (y_c D.length) D).length=(D++[bs (enP D),bs (enQ D)]).length:=by rw[v_d,z_6,q_b];rfl
 refine tl_ext aq fun i hi=>?_;rw[v_d,z_6] at hi;have aj:=apL_sz hs i (A:=y_c D.length) (by rw[z_6];exact hi);rw[v_S];by_cases hd:i<D.length
 ·rw[if_pos hd]
  refine tl_bytes aj (hs i hd) fun j hj=>?_;have:=v_r hs i (A:=y_c D.length) (by rw[z_6];exact hi) j hj;rw[z_I D.length (fun c hc=>by rw[genM_en D.length i c hd hc]),x_X D.length i _ hd] at this;exact this
 ·rw[if_neg hd]
  have hc:i=D.length+0\/i=D.length+1:=by omega
  rcases hc with rfl|rfl
  ·rw[Nat.add_sub_cancel_left]
   show _=bs (enP D);refine tl_bytes aj (by rw[z_b,e2];exact pp_length D _ _ (fun j hj=>hs j hj)) fun j hj=>?_;have:=v_r hs (D.length+0) (A:=y_c D.length) (by rw[z_6];exact hi) j hj;rw[z_I D.length (fun c hc=>by rw[genM_enp D.length 0 c (by omega) hc,Nat.zero_mul,ex_zero,one_mul])] at this;rw[z_Y,e2,pp_at D _ _ j hs hj,pb_sx];exact this
  ·rw[Nat.add_sub_cancel_left]
   show _=bs (enQ D);refine tl_bytes aj (by rw[z_b,e3];exact qq_length D _ _ (fun j hj=>hs j hj)) fun j hj=>?_;have:=v_r hs (D.length+1) (A:=y_c D.length) (by rw[z_6];exact hi) j hj;rw[z_I D.length (fun c hc=>by rw[genM_enp D.length 1 c (by omega) hc,Nat.one_mul])] at this;rw[z_Y,e3,qq_at D _ _ j hs hj,qb_sx];exact this
theorem dec_of {B:List Bool} {C D:List ByteArray} {k:Nat} (aX:1<=k) (aL:k<=8) (hp:k<=(pk B (k+2)).length) (hD:D.length=k) (hE:enE D=0)
  (gX:∀s∈(pk B (k+2)).take k,tl C s=tl (apL (y_c k) D) s) {X:List (List UInt8)} {e:Int} (hR:InvR (pkR B k) X e) :
  apT (y_c k) (apT X (pkC B C k))=D++[bs (enP D),bs (enQ D)]:=by
 obtain ⟨hX,hi⟩:=pkR_inv hp aX aL hR;obtain ⟨_,_,hs,hN⟩:=enE_ok hE;have hlc:=pkC_len C hp
 have vO:∀r,r<k->tl (pkC B C k) r=tl (apL (y_c k) D) (ix B k r):=fun r hr=>by rw[pkC_tl C hp r hr,gX _ (ix_mem hp r hr)]
 have aj:∀r,r<k->(tl (pkC B C k) r).size=nn D:=fun r hr=>by
  rw[vO r hr];exact apL_sz hs _ (by rw[z_6];exact ix_lt hp r hr)
 have gv:nn (pkC B C k)=nn D:=aj 0 (by omega)
 have yP:∀j,j<(pkC B C k).length->(tl (pkC B C k) j).size=nn (pkC B C k):=fun j hj=>by rw[gv];exact aj j (by rw[hlc] at hj;exact hj)
 have RN:=hX.2 0 (by omega);have XK:y_r X=true:=(w_N _).2 ⟨by rw[hX.1];exact aX,by rw[hX.1];omega,by omega,by omega,⟨rfl,fun r hr=>by rw[hX.2 r (by rw[<-hX.1];exact hr),RN]⟩⟩;have eA:apE X (pkC B C k)=0:=apE_of XK (by rw[hlc,RN]) yP (by rw[gv];exact hN)
 have eD:apL X (pkC B C k)=D:=by
  refine tl_ext (by rw[v_d,hX.1,hD]) fun i BE=>?_;rw[v_d,hX.1] at BE;refine tl_bytes (n:=nn D) (by rw[<-gv];exact apL_sz yP i (by rw[hX.1];exact BE)) (hs i (by rw[hD];exact BE)) fun j hj=>?_;have hb:=v_r yP i (A:=X) (by rw[hX.1];exact BE) j (by rw[gv];exact hj)
  have f1:∀r,r<k->(tb (pkC B C k) r).getD j 0=sx k (fun c=>mul (en (pkR B k) r c) ((tb D c).getD j 0)):=fun r hr=>by
   unfold tb;rw[vO r hr];have:=v_r hs (ix B k r) (A:=y_c k) (by rw[z_6];exact ix_lt hp r hr) j hj;rw[hD] at this;refine this.trans (z_I k fun c _=>?_);rw[pkR_en hp r c hr];rfl
  rw[hlc,z_I k (fun r hr=>by rw[f1 r hr])] at hb;have f2:sx k (fun r=>mul (en X i r) (sx k (fun c=>mul (en (pkR B k) r c) ((tb D c).getD j 0))))=mm k (en X) (mm k (en (pkR B k)) (fun c j=>(tb D c).getD j 0)) i j:=rfl;rw[f2,<-mm_assoc] at hb
  have f3:mm k (mm k (en X) (en (pkR B k))) (fun c j=>(tb D c).getD j 0) i j=sx k (fun c=>mul (dl i c) ((tb D c).getD j 0)):=z_I k fun c hc=>by rw[hi.2 i c BE hc]
  rw[f3,x_X k i _ BE] at hb;exact hb
 have e1:apT X (pkC B C k)=D:=by unfold apT;rw[if_pos eA,eD]
 have XL:=genM_good k aX aL;have eG:apE (y_c k) D=0:=apE_of XL (by rw[hD,(genM_shp k).2 0 (by omega)]) hs hN;rw[e1];unfold apT;rw[if_pos eG];have:=gen_all hE;rw[hD] at this;exact this
end
section
open GfM
end
section
open GfM
end
section
open GfM
def dl (o n:ByteArray):List UInt8:=z_H o.data.toList n.data.toList
def ups (p o n:ByteArray) (k:Nat):List UInt8:=(List.range k).map fun j=>p.data.toList.getD j 0 ^^^ (o.data.toList.getD j 0 ^^^ n.data.toList.getD j 0)
end
section
open GfM
def Siz (T:List ByteArray) (n:Nat):Prop:=∀j,j<T.length->(tl T j).size=n
theorem Siz.set_ {T:List ByteArray} {n:Nat} (h:Siz T n) (i:Nat) (s:ByteArray) (hs:s.size=n):Siz (T.set i s) n:=by
 intro j hj;rw[q_k] at hj;by_cases hi:i<T.length
 ·rw[tl_set T i j s hi]
  split
  ·exact hs
  ·exact h j hj
 ·rw[List.set_eq_of_length_le (by omega)]
  exact h j hj
theorem Siz.nn {T:List ByteArray} {n:Nat} (h:Siz T n) (h0:0<T.length):nn T=n:=h 0 h0
theorem Siz.enE {T:List ByteArray} {n:Nat} (h:Siz T n) (h1:1<=T.length) (h2:T.length<=8) (h3:n<=65536):enE T=0:=enE_of h1 h2 (fun j hj=>by rw[h j hj,h.nn h1]) (by rw[h.nn h1];exact h3)
theorem Siz.enP {T:List ByteArray} {n:Nat} (h:Siz T n) (h1:1<=T.length) (h2:T.length<=8) (h3:n<=65536):enP T=pp T n T.length:=by
 unfold Go.Proofs.YtdkheklakfbeeaaGreatDoor.enP;rw[if_pos (h.enE h1 h2 h3),h.nn h1]
theorem Siz.enQ {T:List ByteArray} {n:Nat} (h:Siz T n) (h1:1<=T.length) (h2:T.length<=8) (h3:n<=65536):enQ T=qq T n T.length:=by
 unfold Go.Proofs.YtdkheklakfbeeaaGreatDoor.enQ;rw[if_pos (h.enE h1 h2 h3),h.nn h1]
end
section
open GfM
theorem two_of {X:List Int} (h:X.length=2):∃a b,X=[a,b]:=by
 match X,h with
 | [a,b],_=>exact ⟨a,b,rfl⟩
end
section
open GfM
theorem dec_lost {C:List ByteArray} {B:List Bool} {T:List ByteArray} {e:Int} (h:DecR C B T e) (h1:3<=C.length) (h2:C.length<=10) (h3:B.length=C.length) (h4:(pk B C.length).length<C.length-2):T=[]/\e=24:=by
 cases h with
 | arg h=>exact absurd ⟨h1,h2,h3⟩ h
 | lost=>exact ⟨rfl,rfl⟩
 | shape _ _ _ h=>omega
 | done k h0 _ _ _ h=>omega
theorem evn_of {L:List ByteArray} {m:Nat} (h:∀s∈L,s.size=m) (hm:m<=65536):shE L=0:=by
 by_cases h0:0<L.length
 ·have e0:=h _ (tl_mem L 0 h0)
  exact shE_zero (fun i hi=>by rw[h _ (tl_mem L i hi),e0]) (by omega)
 ·have:L=[]:=q_I (by omega)
  subst this;exact shE_zero (fun i hi=>absurd hi (by simp)) (by decide)
theorem dec_fit {C D:List ByteArray} {B:List Bool} {T:List ByteArray} {e:Int} {k:Nat} (h:DecR C B T e) (aX:1<=k) (aL:k<=8) (hC:C.length=k+2) (hB:B.length=k+2) (hD:D.length=k) (hE:enE D=0)
  (hp:k<=(pk B (k+2)).length) (gX:∀s,s<k+2->B.getD s false=true->tl C s=tl (D++[bs (enP D),bs (enQ D)]) s):T=D++[bs (enP D),bs (enQ D)]/\e=0:=by
 obtain ⟨_,_,hs,hN⟩:=enE_ok hE;have hg:=gen_all hE;rw[hD] at hg
 have aj:∀r,r<k+2->(tl (D++[bs (enP D),bs (enQ D)]) r).size=nn D:=fun r hr=>by
  rw[<-hg];exact apL_sz hs r (by rw[z_6];exact hr)
 have se:shE ((pk B C.length).map (tl C))=0:=by
  refine evn_of (m:=nn D) (fun s Bs=>?_) hN;obtain ⟨r,hr,rfl⟩:=List.mem_map.1 Bs;rw[hC] at hr;obtain ⟨h1,h2⟩:=pk_lt B (k+2) r hr;rw[gX r h1 h2,aj r h1]
 cases h with
 | arg h=>exact absurd ⟨by omega,by omega,by omega⟩ h
 | lost _ _ _ h=>rw[hC] at h;omega
 | shape _ _ _ _ h=>exact absurd se h
 | done k' h0 _ _ _ _ _ X e1 hR =>
  obtain rfl:k'=k:=by omega
  refine ⟨dec_of aX aL hp hD hE (fun s Bs=>?_) hR,rfl⟩;obtain ⟨h1,h2⟩:=pk_lt B (k'+2) s (List.mem_of_mem_take Bs);rw[gX s h1 h2,hg]
theorem tv_set (B:List Bool) (r:Nat) (b:Bool):(tv B).set r (.bool b)=tv (B.set r b):=by simp[tv,List.map_set]
theorem info4:(prog.info? 4).map (fun i=>(i.zero,i.size,i.bytes))=some (some (.bool false),1,1):=by kernel_rfl
theorem make_bools (m:Nat) (hm:m<=1000):∀W:World,(Instr.makeSlice 128 (.int .i64 m) (.int .i64 m)).run prog W=.ok (.slice (some ⟨W.heap.size,0,none⟩) m m) (W.alloc (.cells (madeCells #[.bool false] m) 4)):=by
 intro W;exact run_make_row' 128 4 (.bool false) 1 underlying128 info4 rfl .i64 .i64 m (by omega) (by omega) W
end
section
open GfM
def gu (C:List ByteArray) (U:List Bool) (p r:Nat):UInt8:=if U.getD r false=true then (tb C r).getD p 0 else 0
theorem info3:(prog.info? 3).map (fun i=>(i.zero,i.size,i.bytes))=some (some (.int .i64 0),1,8):=by kernel_rfl
end
end Go.Proofs.YtdkheklakfbeeaaGreatDoor
