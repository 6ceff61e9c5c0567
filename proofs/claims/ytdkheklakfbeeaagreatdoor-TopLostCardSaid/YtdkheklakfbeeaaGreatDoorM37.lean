/- Part 37 of the proof. -/
import Derived.Test.YtdkheklakfbeeaaGreatDoorM36
set_option linter.all false
set_option maxRecDepth 100000
set_option maxHeartbeats 16000000
namespace Go.Proofs.YtdkheklakfbeeaaGreatDoor
open Go.RowKit Go.Proofs.Tryz
def stp (d:Nat) (B:Nat->ByteArray) (t:Nat):List ByteArray:=(List.range d).map fun c=>B (t*d+c)
theorem w_o (d:Nat) (B:Nat->ByteArray) (t:Nat):(stp d B t).length=d:=by simp[stp]
theorem stp_at (d:Nat) (B:Nat->ByteArray) (t c:Nat) (h:c<d):tl (stp d B t) c=B (t*d+c):=by
 unfold stp tl;rw[q_a,q_j,q_n h];rfl
theorem stp_congr {d:Nat} {B B':Nat->ByteArray} {t:Nat} (h:∀c,c<d->B (t*d+c)=B' (t*d+c)):stp d B t=stp d B' t:=List.map_congr_left fun c hc=>h c (List.mem_range.1 hc)
theorem blk_lt {d s t c:Nat} (ht:t<s) (hc:c<d):t*d+c<s*d:=by
 have:=Nat.mul_le_mul_right d (Nat.succ_le_of_lt ht);rw[Nat.succ_mul] at this;omega
theorem stp_siz {d s:Nat} {B:Nat->ByteArray} (h:∀k,k<s*d->(B k).size=32) {t:Nat} (ht:t<s):Siz (stp d B t) 32:=fun j hj=>by
 rw[w_o] at hj;rw[stp_at _ _ _ _ hj];exact h _ (blk_lt ht hj)
def bad (S:Sup) (σ:Nat->DkS) (i:Nat):Bool:=decide (stA S i≠1) || (σ i).dead
theorem bad_no {S:Sup} {σ:Nat->DkS} {i:Nat}:bad S σ i=false↔stA S i=1/\(σ i).dead=false:=by
 unfold bad;rw[Bool.or_eq_false_iff,decide_eq_false_iff_not,Decidable.not_not]
def logA (S:Sup) (i:Nat):ByteArray:=(S.mem[i]?.map Mem.log).getD ByteArray.empty
theorem logA_at {S:Sup} {i:Nat} (h:i<S.mem.length):logA S i=(S.mem[i]'h).log:=by simp[logA,h]
theorem SupOk.act {S:Sup} (hS:SupOk S) {i:Nat} (h:stA S i=1):i<S.data+2/\i<S.mem.length:=by
 by_cases hi:i<S.mem.length
 ·refine ⟨Nat.lt_of_not_le fun hn=>?_,hi⟩
  have:=(hS.mem i hi).2.2.2 hn;rw[x_6 hi] at h;omega
 ·have:stA S i=0:=by
   unfold stA;rw[q_q (by omega)];rfl
  omega
structure VOk (n:Nat) (key:List UInt8) (S:Sup) (σ:Nat->DkS) (ch:Nat->Nat->ByteArray) (B:Nat->ByteArray):Prop where
 ok:SupOk S
 len:S.mem.length=n
 dk:∀i,i<n->(σ i).Whole
 top:∀i,bad S σ i=false->x_0 S i=z_L S.slots (ch i)
 tree:∀i,bad S σ i=false->∀q,1<=q->q<S.slots->tl (σ i).now (100+q)=prT S.slots (ch i) q
 cell:∀i,bad S σ i=false->∀t,t<S.slots->tl (σ i).now (120+t)=ch i t
 csz:∀j t,(ch j t).size<=2032
 chk:∀t,t<S.slots->∀c,c<S.data+2->bad S σ ((c+t) % (S.data+2))=false->ChkIs key ((c+t) % (S.data+2)) t (ch ((c+t) % (S.data+2)) t) (tl (z_z (stp S.data B t)) c).data.toList
 bsz:∀k,k<S.slots*S.data->(B k).size=32
 rc:∀i,i<n->(σ i).dead=false->tl (σ i).now (S.count % 2)=bs (z_t S)
def LOk (S:Sup) (σ:Nat->DkS) (L:Nat->Option (List Wr)):Prop:=∀i,bad S σ i=false->LogOk (σ i) (logA S i) (L i)/\∀l,L i=some l->∀x∈l,tl (σ i).now x.at'=x.cell
theorem chW_at (P:ByteArray->Prop) (t:Nat) (l:List Wr):∀ch:Nat->ByteArray,(∀x∈l,x.at'=t->P x.cell)->(P (ch t)\/∃x∈l,x.at'=t)->P (chW ch l t):=by
 induction l with
 | nil =>
  intro ch _ h;rcases h with h|⟨x,hx,_⟩
  ·exact h
  ·cases hx
 | cons x l ih =>
  intro ch hx h;refine ih (y_I ch x.at' x.cell) (fun y hy=>hx y (List.mem_cons_of_mem _ hy)) ?_;by_cases e:t=x.at'
  ·refine .inl ?_
   unfold y_I;rw[if_pos e];exact hx x List.mem_cons_self e.symm
  ·have e2:y_I ch x.at' x.cell t=ch t:=if_neg e
   rw[e2];rcases h with h|⟨y,hy,yO⟩
   ·exact .inl h
   ·rcases List.mem_cons.1 hy with rfl|hy
    ·exact absurd yO.symm e
    ·exact .inr ⟨y,hy,yO⟩
theorem doC_mem (l:List Wr) (t:Nat):t∈doC l↔∃x∈l,x.at'=t:=by
 have h:∀(l:List Wr) (d:List Nat),t∈l.foldl (fun d x=>z_J d x.at') d↔t∈d\/∃x∈l,x.at'=t:=by
  intro l
  induction l with
  | nil=>intro d;simp
  | cons x l ih =>
   intro d;rw[List.foldl_cons,ih,z_9];constructor
   ·rintro ((h|rfl)|⟨y,hy,JE⟩)
    ·exact .inl h
    ·exact .inr ⟨x,List.mem_cons_self,rfl⟩
    ·exact .inr ⟨y,List.mem_cons_of_mem _ hy,JE⟩
   ·rintro (h|⟨y,hy,JE⟩)
    ·exact .inl (.inl h)
    ·rcases List.mem_cons.1 hy with rfl|hy
     ·exact .inl (.inr JE.symm)
     ·exact .inr ⟨y,hy,JE⟩
 have:=h l [];simpa[doC] using this
theorem lC_mem (l:List Cgd) (i:Nat) (x:Wr):x∈lC l i↔∃y∈l,y.disk=i/\x=⟨y.slot,y.cell⟩:=by
 unfold lC;rw[List.mem_map];constructor
 ·rintro ⟨y,hy,rfl⟩
  obtain ⟨h1,h2⟩:=List.mem_filter.1 hy;exact ⟨y,h1,by simpa using h2,rfl⟩
 ·rintro ⟨y,hy,hi,rfl⟩
  exact ⟨y,List.mem_filter.2 ⟨hy,by simpa using hi⟩,rfl⟩
section
variable (S:Sup) (σ:Nat->DkS) (n:Nat)
theorem prS_stA (j:Nat):stA (prS S σ n) j=if j<n/\stA S j=1/\(σ j).dead=true then 2 else stA S j:=by
 unfold stA prS prM;rw[List.getElem?_mapIdx]
 cases h:S.mem[j]? with
 | none=>simp
 | some m =>
  simp only[Option.map_some,Option.getD_some];split<;>rfl
theorem bumpS_stA (j:Nat):stA (z_y S) j=stA S j:=rfl
theorem lgS_topA (S:Sup) (G:Nat->Option (ByteArray × ByteArray)) (k j:Nat) (hj:j<k) (hm:j<S.mem.length) (t d:ByteArray) (hG:G j=some (t,d)):x_0 (lgS S G k) j=t/\logA (lgS S G k) j=d:=by
 unfold x_0 logA lgS lgM;rw[List.getElem?_mapIdx,q_d hm];simp only[Option.map_some,Option.getD_some];rw[if_pos hj,hG];exact ⟨rfl,rfl⟩
variable (ch:Nat->Nat->ByteArray) (l:List Cgd)
theorem cmS_stA (j:Nat):stA (cmS S σ n ch l) j=if j<n/\stA S j=1/\(σ j).dead=true then 2 else stA S j:=by
 unfold cmS;rw[lgS_stA,prS_stA,bumpS_stA]
theorem lgD_now (σ:Nat->DkS) (dom:List Nat) (T:Nat->List Wr) (k j:Nat) (h:j<k/\j∈dom):lgD σ dom T k j=((σ j).wrs (T j)).flush:=if_pos h
theorem lgD_not (σ:Nat->DkS) (dom:List Nat) (T:Nat->List Wr) (k j:Nat) (h:¬(j<k/\j∈dom)):lgD σ dom T k j=σ j:=if_neg h
theorem cmD4_dead (j:Nat):(y_U S σ n ch l j).dead=(σ j).dead:=by
 unfold y_U cmD2 cmD1;rw[lgD_dead,w_l,lgD_dead]
theorem cmS_bad (j:Nat) (hj:j<n):bad (cmS S σ n ch l) (y_U S σ n ch l) j=bad S σ j:=by
 unfold bad;rw[cmS_stA,cmD4_dead];by_cases hd:(σ j).dead=true
 ·rw[hd];simp
 ·rw[if_neg fun h=>hd h.2.2]
theorem cm_dom (j:Nat) (hj:j<n) (h:bad S σ j=false):j<n/\j∈prD (z_y S) σ n:=by
 obtain ⟨h1,h2⟩:=bad_no.1 h;exact ⟨hj,(prD_mem _ _ _ _).2 ⟨hj,h1,h2⟩⟩
end
theorem lgW_mem (T:List ByteArray) (x:Wr) (h:x∈lgW T):∃k,k<T.length/\x.at'=2+k/\x.cell=tl T k:=by
 unfold lgW at h;obtain ⟨k,hk,rfl⟩:=List.mem_map.1 h;exact ⟨k,List.mem_range.1 hk,rfl,rfl⟩
theorem prW_mem (s:Nat) (ch:Nat->ByteArray) (l:List Wr) (x:Wr) (h:x∈prW s ch l):(∃q,q∈doP s l/\x.at'=100+q/\x.cell=prT s (chW ch l) q)\/∃t,t∈doC l/\x.at'=120+t/\x.cell=chW ch l t:=by
 unfold prW at h;rcases List.mem_append.1 h with h|h
 ·obtain ⟨q,hq,rfl⟩:=List.mem_map.1 h
  exact .inl ⟨q,(x_A _ _).1 hq,rfl,rfl⟩
 ·obtain ⟨q,hq,rfl⟩:=List.mem_map.1 h
  exact .inr ⟨q,(x_A _ _).1 hq,rfl,rfl⟩
theorem prW_pair (s:Nat) (ch:Nat->ByteArray) (l:List Wr) (q:Nat) (h:q∈doP s l):⟨100+q,prT s (chW ch l) q⟩∈prW s ch l:=List.mem_append_left _ (List.mem_map.2 ⟨q,(x_A _ _).2 h,rfl⟩)
theorem prW_chunk (s:Nat) (ch:Nat->ByteArray) (l:List Wr) (t:Nat) (h:t∈doC l):⟨120+t,chW ch l t⟩∈prW s ch l:=List.mem_append_right _ (List.mem_map.2 ⟨t,(x_A _ _).2 h,rfl⟩)
theorem disk_commit {s:Nat} (hs:sl s) (σ:DkS) (hd:σ.dead=false) (aq:σ.now.length=140) (ch:Nat->ByteArray) (l:List Wr) (hl:∀x∈l,x.at'<s) (hX:(prW s ch l).length<96) (cc:Nat) (mx:cc<2) (rc:ByteArray) (σ':DkS)
  (hσ:σ'=((((((σ.wrs (lgW (z_o (prW s ch l)))).flush).write cc rc).flush).wrs (prW s ch l)).flush))
  (wE:∀q,1<=q->q<s->tl σ.now (100+q)=prT s ch q) (mI:∀t,t<s->tl σ.now (120+t)=ch t) :
  (∀q,1<=q->q<s->tl σ'.now (100+q)=prT s (chW ch l) q)/\(∀t,t<s->tl σ'.now (120+t)=chW ch l t)/\tl σ'.now cc=rc/\tl σ'.now (1-cc)=tl σ.now (1-cc)/\(∀k,k<=(prW s ch l).length->tl σ'.now (2+k)=tl (z_o (prW s ch l)) k)/\(∀x∈prW s ch l,tl σ'.now x.at'=x.cell)/\σ'.Whole/\σ'.dead=false:=by
 have jw:s<=4:=by rcases hs with rfl|rfl<;>decide
 obtain ⟨X,ZI⟩:∃X,prW s ch l=X:=⟨_,rfl⟩;have G9:=prW_mem s ch l;have TF:=prW_pair s ch l;have TG:=prW_chunk s ch l;rw[ZI] at hX hσ G9 TF TG ⊢;have wT:=doP_lt hs l hl;have NS:=doC_lt l hl
 have e1d:(((σ.wrs (lgW (z_o X))).flush).write cc rc).flush.dead=false:=by rw[DkS.flush_dead,DkS.write_dead,DkS.flush_dead,DkS.wrs_dead];exact hd
 have e1l:(((σ.wrs (lgW (z_o X))).flush).write cc rc).flush.now.length=140:=by rw[DkS.flush_now,DkS.write_len,DkS.flush_now,DkS.wrs_len];exact aq
 have TH:∀k,98<k->tl (((σ.wrs (lgW (z_o X))).flush).write cc rc).flush.now k=tl σ.now k:=fun k hk=>by
  rw[DkS.flush_now,DkS.write_off _ _ _ _ (by omega),DkS.flush_now,DkS.wrs_off];intro x hx;obtain ⟨j,hj,e,_⟩:=lgW_mem _ _ hx;rw[y_5] at hj;omega
 have kN:∀k,k<100->tl σ'.now k=tl (((σ.wrs (lgW (z_o X))).flush).write cc rc).flush.now k:=fun k hk=>by
  rw[hσ,DkS.flush_now,DkS.wrs_off];intro x hx;rcases G9 x hx with ⟨q,_,e,_⟩|⟨q,_,e,_⟩<;>omega
 have br:∀(P:ByteArray->Prop) k,k<140->(∀x∈X,x.at'=k->P x.cell)->(P (tl (((σ.wrs (lgW (z_o X))).flush).write cc rc).flush.now k)\/∃x∈X,x.at'=k)->P (tl σ'.now k):=fun P k hk h1 h2=>by
  rw[hσ,DkS.flush_now];exact DkS.wrs_at P X _ k e1d (by rw[e1l];exact hk) h1 h2
 have hP:∀q,1<=q->q<s->tl σ'.now (100+q)=prT s (chW ch l) q:=fun q h1 h2=>by
  refine br (·=prT s (chW ch l) q) (100+q) (by omega) (fun x hx e=>?_) ?_
  ·rcases G9 x hx with ⟨q',_,e2,e3⟩|⟨t,_,e2,_⟩
   ·obtain rfl:q'=q:=by omega
    exact e3
   ·omega
  ·by_cases hq:q∈doP s l
   ·exact .inr ⟨_,TF q hq,rfl⟩
   ·refine .inl ?_
    have:=prT_offs hs ch l hl q h1 h2 l.length (q_e _) (by rw[List.take_length];exact hq);rw[List.take_length] at this;rw[TH _ (by omega),wE q h1 h2,this]
 have hC:∀t,t<s->tl σ'.now (120+t)=chW ch l t:=fun t ht=>by
  refine br (·=chW ch l t) (120+t) (by omega) (fun x hx e=>?_) ?_
  ·rcases G9 x hx with ⟨q',h',e2,e3⟩|⟨t',_,e2,e3⟩
   ·have:=wT q' h'
    omega
   ·obtain rfl:t'=t:=by omega
    exact e3
  ·by_cases hq:t∈doC l
   ·exact .inr ⟨_,TG t hq,rfl⟩
   ·refine .inl ?_
    rw[TH _ (by omega),mI t ht];have ls:∀x∈l,x.at'≠t:=fun x hx e=>hq ((doC_mem l t).2 ⟨x,hx,e⟩);exact (chW_at (·=ch t) t l ch (fun x hx e=>absurd e (ls x hx)) (.inl rfl)).symm
 refine ⟨hP,hC,?_,?_,?_,?_,?_,?_⟩
 ·rw[kN cc (by omega),DkS.flush_now,DkS.write_on _ _ _ (by rw[DkS.flush_dead,DkS.wrs_dead];exact hd) (by rw[DkS.flush_now,DkS.wrs_len,aq];omega)]
 ·rw[kN _ (by omega),DkS.flush_now,DkS.write_off _ _ _ _ (by omega),DkS.flush_now,DkS.wrs_off]
  intro x hx;obtain ⟨j,hj,e,_⟩:=lgW_mem _ _ hx;omega
 ·intro k hk
  rw[kN _ (by omega),DkS.flush_now,DkS.write_off _ _ _ _ (by omega),DkS.flush_now];refine DkS.wrs_at (·=tl (z_o X) k) _ _ _ hd (by rw[aq];omega) (fun x hx e=>?_) (.inr ⟨⟨2+k,tl (z_o X) k⟩,?_,rfl⟩)
  ·obtain ⟨j,hj,e2,e3⟩:=lgW_mem _ _ hx
   obtain rfl:j=k:=by omega
   exact e3
  ·exact List.mem_map.2 ⟨k,List.mem_range.2 (by rw[y_5];omega),rfl⟩
 ·intro x hx
  rcases G9 x hx with ⟨q,hq,e2,e3⟩|⟨t,ht,e2,e3⟩
  ·rw[e2,e3]
   obtain ⟨h1,h2⟩:=wT q hq;exact hP q h1 h2
  ·rw[e2,e3]
   exact hC t (NS t ht)
 ·rw[hσ]
  refine DkS.Whole.flush (by rw[DkS.wrs_len];exact e1l) fun db=>?_;rw[DkS.wrs_dead,e1d] at db;cases db
 ·rw[hσ,DkS.flush_dead,DkS.wrs_dead]
  exact e1d
structure PutR (S:Sup) (key:List UInt8) (t:Nat) (C:List ByteArray) (c:Nat) (l:List Cgd):Prop where
 mem:∀x∈l,x.slot=t/\stA S x.disk=1/\x.cell.size<=2032/\∃j,j<c/\(j+t) % (S.data+2)=x.disk/\ChkIs key x.disk t x.cell (tl C j).data.toList
 all:∀j,j<c->stA S ((j+t) % (S.data+2))=1->∃x∈l,x.disk=(j+t) % (S.data+2)
 one:∀i,(lC l i).length<=1
 len:l.length<=c
theorem PutR.zero (S:Sup) (key:List UInt8) (t:Nat) (C:List ByteArray):PutR S key t C 0 []:=⟨fun x hx=>(by cases hx),fun j hj=>(by omega),fun i=>Nat.zero_le _,q_e _⟩
theorem PutR.no {S:Sup} {key:List UInt8} {t:Nat} {C:List ByteArray} {c:Nat} {l:List Cgd} (h:PutR S key t C c l) (hn:stA S ((c+t) % (S.data+2))≠1):PutR S key t C (c+1) l where
 mem x hx:=by
  obtain ⟨h1,h2,h3,j,hj,h4,h5⟩:=h.mem x hx;exact ⟨h1,h2,h3,j,by omega,h4,h5⟩
 all j hj hs:=by
  by_cases e:j=c
  ·subst e;exact absurd hs hn
  ·exact h.all j (by omega) hs
 one:=h.one
 len:=by have:=h.len;omega
theorem PutR.yes {S:Sup} {key:List UInt8} {t:Nat} {C:List ByteArray} {c:Nat} {l:List Cgd} (h:PutR S key t C c l) (hc:c<S.data+2) (hn:stA S ((c+t) % (S.data+2))=1) (x:ByteArray) (hx:x.size<=2032) (hk:ChkIs key ((c+t) % (S.data+2)) t x (tl C c).data.toList) :
  PutR S key t C (c+1) (l++[⟨(c+t) % (S.data+2),t,x⟩]) where
 mem y hy:=by
  rcases List.mem_append.1 hy with hy|hy
  ·obtain ⟨h1,h2,h3,j,hj,h4,h5⟩:=h.mem y hy
   exact ⟨h1,h2,h3,j,by omega,h4,h5⟩
  ·rw[List.mem_singleton.1 hy]
   exact ⟨rfl,hn,hx,c,by omega,rfl,hk⟩
 all j hj hs:=by
  by_cases e:j=c
  ·subst e;exact ⟨_,List.mem_append_right _ List.mem_cons_self,rfl⟩
  ·obtain ⟨y,hy,e2⟩:=h.all j (by omega) hs
   exact ⟨y,List.mem_append_left _ hy,e2⟩
 one i:=by
  have e:lC (l++[⟨(c+t) % (S.data+2),t,x⟩]) i=lC l i++lC [⟨(c+t) % (S.data+2),t,x⟩] i:=by unfold lC;rw[List.filter_append,List.map_append]
  rw[e,q_b];by_cases hi:(c+t) % (S.data+2)=i
  ·have h0:lC l i=[]:=by
    refine List.eq_nil_iff_forall_not_mem.2 fun y hy=>?_;obtain ⟨z,hz,Q8,_⟩:=(lC_mem l i y).1 hy;obtain ⟨_,_,_,j,hj,h4,_⟩:=h.mem z hz;have:=rot_inj (n:=S.data+2) (t:=t) (x:=j) (y:=c) (by omega) hc (by rw[h4,Q8,hi]);omega
   rw[h0];have:=lC_len [⟨(c+t) % (S.data+2),t,x⟩] i;simpa using this
  ·have h0:lC [⟨(c+t) % (S.data+2),t,x⟩] i=[]:=by
    unfold lC;rw[List.filter_cons_of_neg (by simpa using hi)];rfl
   rw[h0];have:=h.one i;simpa using this
 len:=by rw[q_b,q_x];have:=h.len;omega
def putL (S:Sup) (key:List UInt8) (t:Nat) (C:List ByteArray) (q:Nat):Nat->List Cgd
 | 0=>[]
 | c+1=>if stA S ((c+t) % (S.data+2))=1 then putL S key t C q c++[⟨(c+t) % (S.data+2),t,chkB key (y_D S.epoch (q+(putL S key t C q c).length)) ((c+t) % (S.data+2)) t (tl C c).data.toList⟩] else putL S key t C q c
def PT (w:World) (bz sp p:Nat):Nat->Prop:=fun x=>x=sp\/x=p\/(bz<=x/\∃cs,Blk w x 154 cs)
theorem w_g {w w' w'':World} {bz sp p:Nat} {T:Nat->Prop} (h:Kp (PT w bz sp p) w w') (k:Kp T w' w'') (hT:∀q,T q->PT w' bz sp p q):Kp (PT w bz sp p) w w'':=h.then k fun q hq ht=>by
 by_cases h2:PT w bz sp p q
 ·exact h2
 ·rcases hT q ht with e|e|⟨e1,cs,hb⟩
  ·exact .inl e
  ·exact .inr (.inl e)
  ·exact .inr (.inr ⟨e1,cs,(h.block q hq h2).symm.trans hb⟩)
theorem PT_from {w w' w'':World} {bz sp p:Nat} (h:Kp NoB w w') (k:Kp (PT w' bz sp p) w' w''):Kp (PT w bz sp p) w w'':=(h.mono fun _ _ h=>h.elim).then k fun q hq ht=>by
 rcases ht with e|e|⟨e1,cs,hb⟩
 ·exact .inl e
 ·exact .inr (.inl e)
 ·exact .inr (.inr ⟨e1,cs,(h.block q hq fun h=>h).symm.trans hb⟩)
theorem PT_row {w:World} {sp p bz size n:Nat} {v:Value} {xs:List Value} (h:w.ownsRow bz 154 size v n xs):∀q,some q=v.ownBlock->PT w bz sp p q:=fun q hq=>by
 obtain ⟨cs,h1⟩:=z_i h hq.symm;exact .inr (.inr ⟨(z_u h hq.symm).1,cs,h1⟩)
theorem PT_off {w:World} {bz sp p g t:Nat} {cs iz dq:Array Value} (hb:Blk w g t cs) (h1:Blk w sp 226 iz) (h2:Blk w p 97 dq) (Bf:t≠226) (uY:t≠97) (Pq:t≠154):¬PT w bz sp p g:=fun h=>by
 rcases h with rfl|rfl|⟨_,Ha,h3⟩
 ·exact Bf (hb.ty_eq h1)
 ·exact uY (hb.ty_eq h2)
 ·exact Pq (hb.ty_eq h3)
theorem infoCG:(prog.info? 154).map (fun i=>(i.zero,i.size,i.bytes))=some (some (.agg #[.int .i64 0,.int .i64 0,.string ⟨#[]⟩]),3,32):=by kernel_rfl
theorem cgC_snoc (l m:List Cgd) (a t:Nat) (x:ByteArray):cgC (l++(m++[⟨a,t,x⟩]))=cgC (l++m)++[.int .i64 a,.int .i64 t,.string x]:=by
 rw[<-List.append_assoc,cgC_append];rfl
section
variable {w:World} {b n an st sp p t bz base0:Nat} {key:List UInt8} {σ:Nat->DkS} {F:Nat->Prop} {S:Sup} {vs vm nD nE u cv:Value} {q0:Nat} {C:List ByteArray} {l:List Cgd}
theorem put_any (hL:Lay w) (hw:10<=w.heap.size) (hb:Bk w b n σ F) (hs:Blk w st 116 (stC b an key S vs vm sp)) (hsp:Blk w sp 226 #[.int .u64 S.epoch,.int .u64 q0]) (hR:SupO w base0 S vs vm) (hS:SupOk S) (gi:S.mem.length=n) (hk:key.length=32) (ht:t<S.slots)
  (hp:Blk w p 97 (plC S nD nE cv)) (ae:w.ownsRow bz 154 3 cv l.length (cgC l)) (ZJ:10<=bz) (fo:bz<=w.heap.size) (lK:10<=sp) (nP:10<=p) (hC:Own w base0 9 u (sv C)) (Pr:C.length=S.data+2) (TI:∀c,c<C.length->(tl C c).size=32) (hq:q0<=100000) (hl:l.length<=100) :
  Cl 40 #[.pointer (some ⟨st,0,none⟩),.pointer (some ⟨p,0,none⟩),.int .i64 t,u] w fun e w'=>e=.returned (.int .i64 0)/\∃(JF:Value) (l2:List Cgd) (q':Nat),Blk w' p 97 (plC S nD nE JF)/\w'.ownsRow bz 154 3 JF (l++l2).length (cgC (l++l2))/\Blk w' sp 226 #[.int .u64 S.epoch,.int .u64 q']/\(l2=putL S key t C q0 (S.data+2)/\q'=q0+l2.length) /\
   PutR S key t C (S.data+2) l2/\Kp (PT w bz sp p) w w':=by
 have db:=hS.d2;have zG:=hS.d8;have dy:=hS.n12;have he:=hS.e;have iC:=Zz (v_T hL hs hR.reads hS ht);have vQ:=Zz (shL_at b S.slots key (y_j S t));have kF:=Zz (shfL_at S t);have fu:=Zz (w_M S t);have HZ:=Zz hS.sl;have g9:=Zz hS.n1;obtain ⟨gu,cu,rfl,ZK,ZL,Dw⟩:=hC.form (by rw[z_c];omega);rw[z_c,Pr] at hC ⊢;have mG:=Zz hC;have l8:=Zz hb;have jD:=Zz hs;have Hb:=Zz hsp;have I4:=Zz hp;have Fm:=Zz ae;have ZM:=Zz TI;have Hc:=Zz hL;clear hL hb hs hsp hR hS hp ae hC TI;go_enter func40,ntmps40;go_wp2_with fail;refine iC.o.mono ?_;rintro e w2 ⟨ux,rfl,hx,ag⟩;obtain ⟨gx,cx,rfl,ZN,ZO⟩:=y_u hx (by omega);have HX:=Zz hx;have al:=Zz ag;have ee:=Zz (I4.o.kp ag fun h=>h);have pL:=Zz (z_e Fm.o ag fun _ _ h=>h);have mR:=Zz (Hb.o.kp ag fun h=>h);have fh:=Zz (jD.o.kp ag fun h=>h);have ak:=Zz (l8.o.no ag);have mp:=Zz (mG.o.kp ag fun _ _ h=>h);have lv:=Zz (Hc.o.no ag)
 have fi:10<=w2.heap.size:=by have:=ag.size;omega
 have ZP:bz<=w2.heap.size:=by have:=ag.size;omega
 have dv:¬((S.data:Int)+2=0):=by omega
 have ZQ:(((S.data:Int)+2)==0)=false:=by rw[q_o];exact dv
 have qk:Hid (¬PT w2 bz sp p gx/\¬PT w2 bz sp p gu):=Zz (by
  obtain ⟨c1,h1⟩:=z_i hx (q:=gx) rfl;obtain ⟨c2,h2⟩:=x_N mp.o (q:=gu) rfl
  exact ⟨PT_off h1 mR.o ee.o (by decide) (by decide) (by decide),PT_off h2 mR.o ee.o (by decide) (by decide) (by decide)⟩)
 have Hd:Hid (Kp (PT w2 bz sp p) w2 w2):=Zz (Kp.refl _ _);have He:=Zz (PutR.zero S key t C);have xJ:Hid (([]:List Cgd)=putL S key t C q0 0/\q0=q0+([]:List Cgd).length):=Zz ⟨rfl,rfl⟩;have AE:=pL;rw[<-List.append_nil l] at AE;clear hx ag iC I4 Fm Hb jD l8 mG Hc
 go_upto_region 7 with fail
 go_loopw [10,11,12,13,35] (fun _ _ _ _ s35 wr=>∃(c:Nat) (AF:Value) (l2:List Cgd) (q:Nat),c<=S.data+2/\s35=.int .i64 c/\Hid (Blk wr p 97 (plC S nD nE AF))/\Hid (wr.ownsRow bz 154 3 AF (l++l2).length (cgC (l++l2)))/\Hid (Blk wr sp 226 #[.int .u64 S.epoch,.int .u64 q])/\Hid (l2=putL S key t C q0 c/\q=q0+l2.length)/\Hid (PutR S key t C c l2)/\Hid (Kp (PT w2 bz sp p) w2 wr)) (fun _ _ _ _ s35 _=>S.data+2-(intOf s35).toNat)
 case atStart=>exact ⟨0,cv,[],q0,by omega,rfl,ee,AE,mR,xJ,He,Hd⟩
 case round =>
  clear AE xJ He Hd;obtain ⟨c,AF,l2,q,hc,rfl,HP,HR,ff,HQ,nz,HK⟩:=hrel
  have HF:Hid (∀g,PT w2 bz sp p g->¬F g):=Zz fun g hg hf=>by
   obtain ⟨t2,dq,am,iN⟩:=ak.o.ty hf;rcases hg with rfl|rfl|⟨_,Ha,bW⟩
   ·have e:=am.ty_eq mR.o
    rw[e] at iN;exact absurd iN (by unfold tyB;decide)
   ·have e:=am.ty_eq ee.o
    rw[e] at iN;exact absurd iN (by unfold tyB;decide)
   ·have e:=am.ty_eq bW
    rw[e] at iN;exact absurd iN (by unfold tyB;decide)
  have dF:=Zz (ak.o.kp HK.o HF.o);have ip:=Zz (fh.o.kp HK.o (PT_off fh.o mR.o ee.o (by decide) (by decide) (by decide)))
  have kP:=Zz (lv.o.kp HK.o fun g h6 hg=>by
   rcases hg with e|e|⟨bE,_⟩<;>omega)
  have TJ:=Zz (z_e HX.o HK.o fun g hg=>by
   have e:gx=g:=by injection hg
   subst e
   exact qk.o.1)
  have ox:=Zz (mp.o.kp HK.o fun g hg=>by
   have e:gu=g:=by injection hg
   subst e
   exact qk.o.2)
  have tn:10<=wr.heap.size:=by have:=HK.o.size;omega
  have ZR:bz<=wr.heap.size:=by have:=HK.o.size;omega
  by_cases af:c<S.data+2
  ·have bV:(c:Int)<(S.data:Int)+2:=by omega
   have ib:c<(y_j S t).length:=by rw[fu.o];exact af
   have aa:∀j,j<6->wr.cell? ⟨gx,c*6+j,none⟩=(shC b S.slots key ((y_j S t)[c]'ib)).toList[j]?:=fun j hj=>by
    rw[z_O TJ.o (c*6+j) (by omega)];exact vQ.o c ib j hj
   rw[kF.o c af] at aa;have hr:(c+t) % (S.data+2)<S.data+2:=q_z _ (by omega);have JG:=Zz (fun hn x hx hk=>nz.o.yes af hn x hx hk);have rk:=Zz (fun hn=>nz.o.no hn);have AG:=Zz (ZM.o c (by omega));have rz:=y_h ox.o Pr c af;obtain ⟨pc,Ps⟩:∃pc,tl C c=pc:=⟨_,rfl⟩;have ZS:=Zz Ps;rw[Ps] at JG AG rz;clear Ps;obtain ⟨dk,o6⟩:∃dk,(c+t) % (S.data+2)=dk:=⟨_,rfl⟩;have uZ:=Zz o6;rw[o6] at aa hr JG rk;clear o6;generalize x_0 S dk=tp at *;have k0:wr.cell? ⟨gx,c*6,none⟩=some (.pointer (some ⟨b,0,none⟩)):=aa 0 (by decide);have k1:wr.cell? ⟨gx,c*6+1,none⟩=some (.int .i64 dk):=aa 1 (by decide);have k2:wr.cell? ⟨gx,c*6+2,none⟩=some (.int .i64 S.slots):=aa 2 (by decide);have k3:wr.cell? ⟨gx,c*6+3,none⟩=some (.string (bs key)):=aa 3 (by decide);have k4:wr.cell? ⟨gx,c*6+4,none⟩=some (.string tp):=aa 4 (by decide);have k5:wr.cell? ⟨gx,c*6+5,none⟩=some (.bool (decide (stA S dk=1))):=aa 5 (by decide);clear aa TJ;by_cases aH:stA S dk=1
   ·rw[decide_eq_true aH] at k5
    have aR:=Zz aH;clear aH rk;have cN:=Zz (Blk.new wr 141 #[.pointer (some ⟨b,0,none⟩),.int .i64 dk,.int .i64 S.slots,.string (bs key),.string tp,.bool true]);have aE:=(Kp.refl NoB wr).alloc (.cells #[.pointer (some ⟨b,0,none⟩),.int .i64 dk,.int .i64 S.slots,.string (bs key),.string tp,.bool true] 141);have bn:=Zz (w_g HK.o aE fun _ h=>h.elim);have wU:=Zz (HP.o.kp aE fun h=>h);have mA:=Zz (z_e HR.o aE fun _ _ h=>h);have uA:=Zz (ff.o.kp aE fun h=>h);have gZ:=Zz (ip.o.kp aE fun h=>h);have Hf:=Zz (dF.o.no aE);have JH:=Zz (kP.o.no aE);have ZT:=y_h (ox.o.kp aE fun _ _ h=>h) Pr c af;have tX:=Zz (show (wr.alloc (.cells #[.pointer (some ⟨b,0,none⟩),.int .i64 dk,.int .i64 S.slots,.string (bs key),.string tp,.bool true] 141)).cell? ⟨gu,c,none⟩=some (.string pc) from (aE.below0.cell (q_c wr _ rz)).trans rz)
    have TK:10<=(wr.alloc (.cells #[.pointer (some ⟨b,0,none⟩),.int .i64 dk,.int .i64 S.slots,.string (bs key),.string tp,.bool true] 141)).heap.size:=by have:=aE.size;omega
    have TL:bz<=(wr.alloc (.cells #[.pointer (some ⟨b,0,none⟩),.int .i64 dk,.int .i64 S.slots,.string (bs key),.string tp,.bool true] 141)).heap.size:=by have:=aE.size;omega
    clear aE ZT rz HP HR ff ip dF kP ox HK
    go_upto_region 9 with fail
    clear k0 k1 k2 k3 k4 k5;generalize fY:wr.alloc (.cells #[.pointer (some ⟨b,0,none⟩),.int .i64 dk,.int .i64 S.slots,.string (bs key),.string tp,.bool true] 141)=w5 at *;clear fY;generalize wr.heap.size=D at *;have d5:=cN.o.c5
    go_upto_region 10 with fail
    clear d5;have fZ:=Zz bn.o.drew;have lQ:=Zz cN.o.drew;have fS:=Zz wU.o.drew;have dc:Hid (w5.drew.ownsRow bz 154 3 AF (l++l2).length (cgC (l++l2))):=mA;have gM:=Zz uA.o.drew;have np:=Zz gZ.o.drew;have Hg:=Zz (Hf.o.no (Kp.refl NoB w5).drew);have oG:=Zz (JH.o.no (Kp.refl NoB w5).drew);have TM:Hid (w5.drew.cell? ⟨gu,c,none⟩=some (.string pc)):=tX;have JI:10<=w5.drew.heap.size:=TK;have TN:bz<=w5.drew.heap.size:=TL;clear bn cN wU mA uA gZ Hf JH tX TK TL;refine fs ?_;generalize w5.drew=w6 at *;have d1:=lQ.o.c1;have g1:=TM.o;refine fp 0 ?_;refine fp 1 ?_;refine fp 2 ?_;refine f_c 3 d1 ?_;refine fp 4 ?_;refine fp 5 ?_;refine fp 6 ?_;refine fp 7 ?_;refine f_c 8 g1 ?_;refine fd 9 fun K Qx hK=>?_;go_simp;have zY:=sseal_any (ep:=S.epoch) (q:=q) oG.o Hg.o JI np.o gM.o lK (i:=dk) (by have:=g9.o;omega) HZ.o hk ht (by omega) (by have:=HQ.o.2;have:=nz.o.len;omega) pc.data.toList (by rw[z_n];exact AG.o);rw[bs_ba] at zY;refine zY.mono ?_;rintro e w7 ⟨rfl,rA,aM⟩;have uB:=Zz rA;have bC:=Zz (w_g fZ.o aM fun q h=>.inl h);have dM:=Zz (lQ.o.kp aM fun e=>Blk.ne_ lQ.o gM.o (by decide) e);have gE:=Zz (fS.o.kp aM fun e=>Blk.ne_ fS.o gM.o (by decide) e);have rX:=Zz (z_e dc.o aM fun q hq e=>z_s dc.o gM.o (by decide) (hq.trans (congrArg some e)))
    have TO:bz<=w7.heap.size:=by have:=aM.size;omega
    have iV:Hid ((chkB key (y_D S.epoch q) dk t pc.data.toList).size<=2032/\ChkIs key dk t (chkB key (y_D S.epoch q) dk t pc.data.toList) pc.data.toList):=Zz (by
     have TQ:pc.data.toList.length=32:=by rw[z_n];exact AG.o
     exact ⟨by rw[chkB_size _ _ _ _ _ (nonF_len _ _) TQ];decide,TQ,.inr ⟨_,nonF_len _ _,rfl⟩⟩)
    refine hK _ _ (oW (oW oN)) ?_;clear hK K d1 g1 zY rA aM fZ lQ fS dc gM np Hg oG TM JI TN;obtain ⟨cc,mI⟩:∃cc,chkB key (y_D S.epoch q) dk t pc.data.toList=cc:=⟨_,rfl⟩;have GH:=Zz mI;rw[mI] at iV ⊢;clear mI;refine fp 10 ?_;refine fp 11 ?_;refine fp 12 ?_;refine fp 13 ?_;refine fp 14 ?_;refine fe ?_
    go_upto_region 13 with fail
    have fZ:=Zz bC.o.drew;have lQ:=Zz dM.o.drew;have fS:=Zz gE.o.drew;have dc:Hid (w7.drew.ownsRow bz 154 3 AF (l++l2).length (cgC (l++l2))):=rX;have gM:=Zz uB.o.drew;have TN:bz<=w7.drew.heap.size:=TO;clear bC dM gE rX uB TO;refine fs ?_;generalize w7.drew=w8 at *;have px:=fS.o.c10;have d1:=lQ.o.c1;refine fp 0 ?_;refine fp 1 ?_;refine fp 2 ?_;refine fp 3 ?_;refine f_c 4 px ?_;refine fp 5 ?_;refine fp 6 ?_;refine f_c 7 d1 ?_;refine fp 8 ?_;refine fp 9 ?_;refine fp 10 ?_;refine fp 11 ?_;refine fd 12 fun K Qx hK=>?_;go_simp;have aE:=(Kp.refl NoB w8).alloc (.cells #[.int .i64 dk,.int .i64 t,.string cc] 154);have dK:=Zz (w_g fZ.o aE fun _ h=>h.elim);have jf:=Zz (fS.o.kp aE fun h=>h);have gp:=Zz (lQ.o.kp aE fun h=>h);have rB:=Zz (z_e dc.o aE fun _ _ h=>h);have AH:=Zz (gM.o.kp aE fun h=>h);have eQ:Hid (z_Q (w8.alloc (.cells #[.int .i64 dk,.int .i64 t,.string cc] 154)) (.slice (some ⟨w8.heap.size,0,none⟩) 1 1) 3 1 [.int .i64 dk,.int .i64 t,.string cc]):=Zz (v_c w8 154 3 [.int .i64 dk,.int .i64 t,.string cc] rfl (by decide))
    have TR:bz<=(w8.alloc (.cells #[.int .i64 dk,.int .i64 t,.string cc] 154)).heap.size:=by have:=aE.size;omega
    refine hK _ _ (oW (oK (jf.o.cell 10) oN)) ?_;clear hK K px d1 aE fZ fS lQ dc gM;generalize w8.alloc (.cells #[.int .i64 dk,.int .i64 t,.string cc] 154)=w9 at *;refine y_L 13 rfl rfl (by kernel_rfl) ?_;have gY:=nz.o.len;refine v_b (m:=1) (k:=(l++l2).length) rfl underlying95 infoCG rfl (by decide) (by decide) rfl rfl (fun u hu=>by simp at hu;rcases hu with rfl|rfl|rfl<;>rfl) rB.o eQ.o (by decide) TR (by rw[q_b];omega) ?_;intro v1 bO ho hg;have aC:Kp (fun q=>some q=AF.ownBlock) w9 bO:=Kp.of_grown hg fun _ h=>h;have At:=Zz (w_g dK.o aC (PT_row rB.o));have sm:=Zz (jf.o.kp aC fun h=>z_s rB.o jf.o (by decide) h.symm);have AI:=Zz (AH.o.kp aC fun h=>z_s rB.o AH.o (by decide) h.symm);refine ⟨oW (oW oN),?_⟩;rw[<-cgC_snoc l l2 dk t cc,show (l++l2).length+1=(l++(l2++[(⟨dk,t,cc⟩:Cgd)])).length by simp[Nat.add_assoc]] at ho;obtain ⟨m,hm⟩:∃m,(l++(l2++[(⟨dk,t,cc⟩:Cgd)])).length=m:=⟨_,rfl⟩;have ej:=Zz hm;rw[hm] at ho;obtain ⟨A1,c1,rfl⟩:=z_r ho;have ow:=Zz ho;clear hm;clear ho hg aC dK jf AH gp rB eQ TR gY;have px:=sm.o.c10;have Jg:=sm.o.frozen 10;refine fp 14 ?_;refine fp 15 ?_;refine fd 16 fun K Qx hK=>?_;go_simp;refine hK _ _ (oW (oW oN)) ?_;clear hK K;refine fe ?_;have dS:=(Kp.refl (fun q=>q=p) bO).setCell ⟨p,10,none⟩ (.slice A1 m c1) (.inl rfl);have eY:=Zz (w_g At.o dS fun q h=>.inr (.inl h));have mi:Hid (Blk (bO.setCell ⟨p,10,none⟩ (.slice A1 m c1)) p 97 (plC S nD nE (.slice A1 m c1))):=Zz (sm.o.set_ 10 _);have rM:=Zz (z_e ow.o dS fun q hq e=>z_s ow.o sm.o (by decide) (hq.trans (congrArg some e)));have Pt:=Zz (AI.o.kp dS fun e=>Blk.ne_ AI.o sm.o (by decide) e);have Pu:=Zz (JG.o aR.o cc iV.o.1 iV.o.2)
    have ZU:Hid (l2++[(⟨dk,t,cc⟩:Cgd)]=putL S key t C q0 (c+1)/\q+1=q0+(l2++[(⟨dk,t,cc⟩:Cgd)]).length):=Zz (by
     obtain ⟨h1,h2⟩:=HQ.o;refine ⟨?_,by rw[h2,q_b];rfl⟩;have aH:=aR.o;rw[<-uZ.o] at aH;unfold putL
     rw[if_pos aH,<-h1,<-h2,uZ.o,ZS.o,GH.o])
    clear dS px Jg At sm ow AI;generalize bO.setCell ⟨p,10,none⟩ (.slice A1 m c1)=fa at *;go_wp2;go_roundw
    case rel=>exact ⟨c+1,_,_,q+1,by omega,by go_num,mi,by rw[ej.o];exact rM,Pt,ZU,Pu,eY⟩
    case measure=>simp[intOf];omega
   ·rw[q_v aH] at k5
    have Pv:=Zz (rk.o aH);have kn:=Zz aH;clear aH JG rk nz;have aE:=(Kp.refl NoB wr).alloc (.cells #[.pointer (some ⟨b,0,none⟩),.int .i64 dk,.int .i64 S.slots,.string (bs key),.string tp,.bool false] 141);have cN:=Zz (Blk.new wr 141 #[.pointer (some ⟨b,0,none⟩),.int .i64 dk,.int .i64 S.slots,.string (bs key),.string tp,.bool false]);have bn:=Zz (w_g HK.o aE fun _ h=>h.elim);have wU:=Zz (HP.o.kp aE fun h=>h);have mA:=Zz (z_e HR.o aE fun _ _ h=>h);have uA:=Zz (ff.o.kp aE fun h=>h)
    have ZV:Hid (l2=putL S key t C q0 (c+1)/\q=q0+l2.length):=Zz (by
     obtain ⟨h1,h2⟩:=HQ.o;refine ⟨?_,h2⟩;have aH:=kn.o;rw[<-uZ.o] at aH;unfold putL;rw[if_neg aH]
     exact h1)
    clear aE rz HP HR ff ip dF kP ox HK
    go_upto_region 9 with fail
    clear k0 k1 k2 k3 k4 k5;generalize fY:wr.alloc (.cells #[.pointer (some ⟨b,0,none⟩),.int .i64 dk,.int .i64 S.slots,.string (bs key),.string tp,.bool false] 141)=w5 at *;clear fY;generalize wr.heap.size=D at *;have d5:=cN.o.c5;go_wp2;go_roundw
    case rel=>exact ⟨c+1,_,_,q,by omega,by go_num,wU,mA,uA,ZV,Pv,bn⟩
    case measure=>simp[intOf];omega
  ·obtain rfl:c=S.data+2:=by omega
   go_wp2;go_ret;exact ⟨rfl,AF,l2,q,HP.o,HR.o,ff.o,HQ.o,nz.o,PT_from al.o HK.o⟩
end
def sfE (S:Sup) (σ:Nat->DkS) (t c:Nat):Int:=if stA S ((c+t) % (S.data+2))=1 then (if (σ ((c+t) % (S.data+2))).dead=true then 20 else 0) else 24
noncomputable def sfA (S:Sup) (σ:Nat->DkS) (B:Nat->ByteArray) (t c:Nat):ByteArray:=if bad S σ ((c+t) % (S.data+2))=true then ByteArray.empty else tl (z_z (stp S.data B t)) c
theorem v_v (S:Sup) (σ:Nat->DkS) (t c:Nat):sfE S σ t c=0↔bad S σ ((c+t) % (S.data+2))=false:=by
 unfold sfE;rw[bad_no];by_cases h1:stA S ((c+t) % (S.data+2))=1
 ·rw[if_pos h1]
  by_cases h2:(σ ((c+t) % (S.data+2))).dead=true
  ·rw[if_pos h2];simp[h2]
  ·rw[if_neg h2];simp[h1,h2]
 ·rw[if_neg h1];simp[h1]
theorem sfE_21 (S:Sup) (σ:Nat->DkS) (t c:Nat):sfE S σ t c≠21:=by
 unfold sfE;split
 ·split<;>decide
 ·decide
def z_5 (S:Sup) (σ:Nat->DkS):Int:=if cnt (bad S σ) (S.data+2)<=2 then 0 else 24
theorem stp_all {d:Nat} (B:Nat->ByteArray) (t c:Nat) (hc:c<d):tl (z_z (stp d B t)) c=B (t*d+c):=by
 unfold z_z;rw[v_S,w_o,if_pos hc,stp_at _ _ _ _ hc]
section
variable {w:World} {b n:Nat} {key:List UInt8} {σ:Nat->DkS} {F:Nat->Prop} {S:Sup} {ch:Nat->Nat->ByteArray} {B:Nat->ByteArray}
theorem sget_vol (hL:Lay w) (h:Bk w b n σ F) (hw:10<=w.heap.size) (hk:key.length=32) (hV:VOk n key S σ ch B) {t c:Nat} (ht:t<S.slots) (hc:c<S.data+2) (co:c<(y_j S t).length) :
  Cl 60 #[.agg (shC b S.slots key ((y_j S t)[c]'co)),.int .i64 t] w fun e w'=>e=.returned (.tuple #[.string (sfA S σ B t c),.int .i64 (sfE S σ t c)])/\Kp NoB w w':=by
 rw[shfL_at S t c hc];have Bz:=v_v S σ t c;have hd:(c+t) % (S.data+2)<S.data+2:=q_z _ (by have:=hV.ok.d2;omega);have Pw:=hV.chk t ht c hc;unfold sfA;unfold sfE at Bz ⊢;generalize (c+t) % (S.data+2)=i at *
 have bV:i<n:=by have:=hV.ok.n1;have:=hV.len;omega
 by_cases h1:stA S i=1
 ·rw[if_pos h1] at Bz ⊢
  refine sget_yes w b S.slots key ⟨i,x_0 S i,decide (stA S i=1)⟩ t (decide_eq_true h1) _ _ fun W k=>?_;by_cases h2:(σ i).dead=true
  ·have hb:bad S σ i=true:=by unfold bad;rw[h2];simp
   rw[if_pos h2,if_pos hb];exact getdead_any y_R (hL.no k) (h.no k) (by have:=k.size;omega) bV hV.ok.sl hk ht h2 _
  ·have hb:bad S σ i=false:=bad_no.2 ⟨h1,by simpa using h2⟩
   rw[if_neg h2,if_neg (by rw[hb];decide)]
   have hg:=get_any (i:=i) (s:=S.slots) (t:=t) (key:=key) y_R (hL.no k) (h.no k) (by have:=k.size;omega) bV (by have:=hV.ok.n12;have:=hV.len;omega) hV.ok.sl hk ht (by simpa using h2) (tpT S.slots t (ch i)) (tl (z_z (stp S.data B t)) c).data.toList (fun j hj=>by
    obtain ⟨z1,z2⟩:=pathN_mem hV.ok.sl ht (q:=(z_p S.slots t).getD j 0) (by
     rw[x_O (by rw[y_1];exact hj)]
     exact q_B _)
    rw[hV.tree i hb _ z1 z2]
    exact way_ok hV.ok.sl ht (ch i) j hj) (by rw[tpT_last hV.ok.sl,hV.cell i hb t ht]) (by rw[hV.cell i hb t ht];exact Pw hb)
   rw[tpT_zero,<-hV.top i hb,bs_ba] at hg;exact hg
 ·have hb:bad S σ i=true:=by unfold bad;rw[decide_eq_true h1];rfl
  rw[if_neg h1,if_pos hb];exact sget_no w b S.slots key ⟨i,x_0 S i,decide (stA S i=1)⟩ t (q_v h1)
theorem dec_vol (hV:VOk n key S σ ch B) {t:Nat} (ht:t<S.slots) (T:List ByteArray) (e0:Int) (hD:DecR (ldC (S.data+2) (sfA S σ B t) (sfE S σ t) (S.data+2)) (ldB (S.data+2) (sfE S σ t) (S.data+2)) T e0) :
  e0=z_5 S σ/\(z_5 S σ=0->T=z_z (stp S.data B t)):=by
 have h2:=hV.ok.d2;have h8:=hV.ok.d8
 obtain ⟨l1,l2⟩:=load_dec h2 (by omega) (w_o S.data B t) (stp_siz hV.bsz ht) (sfA S σ B t) (sfE S σ t) (fun c hc h=>by
  unfold sfA
  rw[if_neg (by rw[(v_v S σ t c).1 h];decide)]) hD
 have vy:cnt (fun c=>decide (sfE S σ t c≠0)) (S.data+2)=cnt (bad S σ) (S.data+2):=by
  rw[<-cnt_rot (bad S σ) (S.data+2) t (by omega)];refine w_i _ fun c _=>?_;have:=v_v S σ t c
  cases hb:bad S σ ((c+t) % (S.data+2)) with
  | false=>rw[hb] at this;simp[this.2 rfl]
  | true =>
   rw[hb] at this;refine decide_eq_true fun h0=>?_;have:=this.1 h0;cases this
 rw[vy] at l1 l2;unfold z_5;by_cases h:cnt (bad S σ) (S.data+2)<=2
 ·rw[if_pos h]
  obtain ⟨z1,z2⟩:=l1 h;exact ⟨z2,fun _=>z1⟩
 ·rw[if_neg h]
  exact ⟨l2 (by omega),fun h=>by cases h⟩
theorem load_vol (hL:Lay w) (h:Bk w b n σ F) (hw:10<=w.heap.size) (hk:key.length=32) (hV:VOk n key S σ ch B) {t:Nat} (ht:t<S.slots) (v:Value) (hv:z_Q w v 6 (S.data+2) (shL b S.slots key (y_j S t))) :
  Cl 61 #[v,.int .i64 t] w fun e w'=>∃u vl,e=.returned (.tuple #[u,vl,.int .i64 (z_5 S σ)])/\(z_5 S σ=0->Own w' w.heap.size 9 u (sv (z_z (stp S.data B t))))/\Kp NoB w w':=by
 have h2:=hV.ok.d2;have h8:=hV.ok.d8;have hl:=w_M S t;refine load_fix w b S.slots t key v (y_j S t) (by rw[hl];exact hv) (by rw[hl];omega) (sfA S σ B t) (sfE S σ t) (sfE_21 S σ t) (fun c hc W k=>?_) (z_z (stp S.data B t)) (z_5 S σ) (fun T e0 hD=>?_)
 ·exact sget_vol (hL.no k) (h.no k) (by have:=k.size;omega) hk hV ht (by rw[hl] at hc;exact hc) hc
 ·rw[hl] at hD
  exact dec_vol hV ht T e0 hD
def rdB (S:Sup) (σ:Nat->DkS) (B:Nat->ByteArray) (k:Nat):ByteArray:=if bad S σ ((k % S.data+k / S.data) % (S.data+2))=true/\2<cnt (bad S σ) (S.data+2) then ByteArray.empty else B k
def rdE (S:Sup) (σ:Nat->DkS) (k:Nat):Int:=if bad S σ ((k % S.data+k / S.data) % (S.data+2))=true/\2<cnt (bad S σ) (S.data+2) then 24 else 0
theorem one_vol (hL:Lay w) (h:Bk w b n σ F) (hw:10<=w.heap.size) (hk:key.length=32) (hV:VOk n key S σ ch B) {k:Nat} (rW:k<S.slots*S.data) (v:Value) (hv:z_Q w v 6 (S.data+2) (shL b S.slots key (y_j S (k / S.data)))) :
  Cl 36 #[v,.int .i64 (k / S.data:Nat),.int .i64 (k % S.data:Nat)] w fun e w'=>e=.returned (.tuple #[.string (rdB S σ B k),.int .i64 (rdE S σ k)])/\Kp NoB w w':=by
 have h2:=hV.ok.d2;have h8:=hV.ok.d8;have ht:k / S.data<S.slots:=Nat.div_lt_of_lt_mul (by rw[Nat.mul_comm];exact rW);have hm:k % S.data<S.data:=q_z _ (by omega);have hl:=w_M S (k / S.data)
 have bP:=one_any w b S.slots (k / S.data) key v (y_j S (k / S.data)) (by rw[hl];exact hv) (by rw[hl];omega) (sfA S σ B (k / S.data)) (sfE S σ (k / S.data)) (sfE_21 S σ (k / S.data)) (fun c hc W k'=>sget_vol (hL.no k') (h.no k') (by have:=k'.size;omega) hk hV ht (by rw[hl] at hc;exact hc) hc) (z_z (stp S.data B (k / S.data))) (z_5 S σ)
  (fun T e0 hD=>by rw[hl] at hD;exact dec_vol hV ht T e0 hD) (fun _=>by rw[allC_len,w_o,hl]) (k % S.data) (by rw[hl];omega)
 have hB:B (k / S.data*S.data+k % S.data)=B k:=by rw[Nat.mul_comm,Nat.div_add_mod]
 have e1:(if sfE S σ (k / S.data) (k % S.data)=0 then sfA S σ B (k / S.data) (k % S.data) else if z_5 S σ=0 then tl (z_z (stp S.data B (k / S.data))) (k % S.data) else ByteArray.empty)=rdB S σ B k:=by
  unfold rdB sfA z_5;have hz:=v_v S σ (k / S.data) (k % S.data);rw[stp_all B _ _ hm,hB]
  cases hb:bad S σ ((k % S.data+k / S.data) % (S.data+2)) with
  | false=>rw[if_pos (hz.2 hb)];simp
  | true =>
   rw[if_neg fun h0=>by rw[hz.1 h0] at hb;cases hb];by_cases hc:cnt (bad S σ) (S.data+2)<=2
   ·rw[if_pos hc,if_pos rfl,if_neg fun h=>by omega]
   ·rw[if_neg hc,if_neg (by decide),if_pos ⟨rfl,by omega⟩]
 have e2:(if sfE S σ (k / S.data) (k % S.data)=0 then 0 else z_5 S σ)=rdE S σ k:=by
  unfold rdE z_5;have hz:=v_v S σ (k / S.data) (k % S.data)
  cases hb:bad S σ ((k % S.data+k / S.data) % (S.data+2)) with
  | false=>rw[if_pos (hz.2 hb)];simp
  | true =>
   rw[if_neg fun h0=>by rw[hz.1 h0] at hb;cases hb];by_cases hc:cnt (bad S σ) (S.data+2)<=2
   ·rw[if_pos hc,if_neg fun h=>by omega]
   ·rw[if_neg hc,if_pos ⟨rfl,by omega⟩]
 rw[e1,e2] at bP;exact bP
end
end Go.Proofs.YtdkheklakfbeeaaGreatDoor
