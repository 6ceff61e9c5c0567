/- Part 38 of the proof. -/
import Derived.Test.YtdkheklakfbeeaaGreatDoorM37
set_option linter.all false
set_option maxRecDepth 100000
set_option maxHeartbeats 16000000
namespace Go.Proofs.YtdkheklakfbeeaaGreatDoor
open Go.RowKit Go.Proofs.Tryz
structure SynR (S:Sup) (key:List UInt8) (N:Nat->Nat) (CC:Nat->List ByteArray) (T:Nat) (l:List Cgd):Prop where
 mem:∀x∈l,x.slot<T/\0<N x.slot/\stA S x.disk=1/\x.cell.size<=2032/\∃j,j<S.data+2/\(j+x.slot) % (S.data+2)=x.disk/\ChkIs key x.disk x.slot x.cell (tl (z_z (CC x.slot)) j).data.toList
 all:∀t,t<T->0<N t->∀j,j<S.data+2->stA S ((j+t) % (S.data+2))=1->∃x∈l,x.disk=(j+t) % (S.data+2)/\x.slot=t
 one:∀i,(lC l i).length<=T
 len:l.length<=T*(S.data+2)
section
variable {S:Sup} {key:List UInt8} {N:Nat->Nat} {CC:Nat->List ByteArray} {l:List Cgd}
theorem SynR.hlc (h:SynR S key N CC S.slots l) (hS:SupOk S) {t0:Nat} (jO:t0<S.slots) (hN:0<N t0):∀i (h:i<S.mem.length),(S.mem[i]'h).st=1->0<(lC l i).length/\(lC l i).length<=20/\∀x∈lC l i,x.at'<S.slots/\x.cell.size<=2032:=fun i hi h1=>by
 have aH:stA S i=1:=by rw[x_6 hi];exact h1
 obtain ⟨hd,_⟩:=hS.act aH;refine ⟨?_,?_,fun x hx=>?_⟩
 ·obtain ⟨j,hj,e⟩:=rot_ex t0 hd
  obtain ⟨x,hx,e1,_⟩:=h.all t0 jO hN j hj (by rw[e];exact aH);exact List.length_pos_of_mem ((lC_mem l i _).2 ⟨x,hx,by rw[e1,e],rfl⟩)
 ·have:=h.one i
  have:S.slots<=4:=by rcases hS.sl with h|h<;>omega
  omega
 ·obtain ⟨y,hy,_,rfl⟩:=(lC_mem l i x).1 hx
  obtain ⟨z1,_,_,z4,_⟩:=h.mem y hy;exact ⟨z1,z4⟩
theorem SynR.hld (h:SynR S key N CC S.slots l) (hS:SupOk S):∀x∈l,x.disk<S.mem.length:=fun x hx=>by
 obtain ⟨_,_,z3,_⟩:=h.mem x hx;exact (hS.act z3).2
theorem SynR.hl (h:SynR S key N CC S.slots l) (hS:SupOk S):l.length<=100:=by
 have h1:=h.len
 have h2:S.slots<=4:=by rcases hS.sl with h|h<;>omega
 have h3:=Nat.mul_le_mul h2 (show S.data+2<=6 by have:=hS.d8;omega);omega
end
section
variable {n:Nat} {key:List UInt8} {S:Sup} {σ:Nat->DkS} {ch:Nat->Nat->ByteArray} {B:Nat->ByteArray}
theorem VOk.goodLt (h:VOk n key S σ ch B) {i:Nat} (hb:bad S σ i=false):i<n/\i<S.data+2/\i<S.mem.length:=by
 obtain ⟨h1,h2⟩:=h.ok.act (bad_no.1 hb).1;have:=h.len;exact ⟨by omega,h1,h2⟩
theorem VOk.htop (h:VOk n key S σ ch B):∀i (hi:i<S.mem.length),(S.mem[i]'hi).st=1->(σ i).dead=false->(S.mem[i]'hi).top=z_L S.slots (ch i)/\∀q,1<=q->q<S.slots->tl (σ i).now (100+q)=prT S.slots (ch i) q:=fun i hi h1 hd=>by
 have hb:bad S σ i=false:=bad_no.2 ⟨by rw[x_6 hi];exact h1,hd⟩;exact ⟨by rw[<-topA_at hi];exact h.top i hb,h.tree i hb⟩
theorem goneN_cnt (S:Sup) (σ:Nat->DkS) (n k:Nat) (hk:k<=n):y_l (prS (z_y S) σ n) k=cnt (bad S σ) k:=by
 induction k with
 | zero=>rfl
 | succ k ih =>
  rw[v_u,y_l,ih (by omega),prS_stA,bumpS_stA]
  have ra:k<n:=by omega
  by_cases h1:stA S k=1
  ·by_cases h2:(σ k).dead=true
   ·simp[bad,h1,h2,ra]
   ·simp[bad,h1,h2,ra]
  ·simp[bad,h1,ra]
theorem VOk.commit (h:VOk n key S σ ch B) (hc:S.count<1000) (l:List Cgd) (N:Nat->Nat) (CC:Nat->List ByteArray) (hl:SynR S key N CC S.slots l) (B':Nat->ByteArray) (Bb:∀k,k<S.slots*S.data->(B' k).size=32) (ZW:∀t,t<S.slots->0<N t->CC t=stp S.data B' t)
  (ls:∀t,t<S.slots->N t=0->∀c,c<S.data->B (t*S.data+c)=B' (t*S.data+c)) {t0:Nat} (jO:t0<S.slots) (ja:0<N t0) :
  VOk n key (cmS S σ n ch l) (y_U S σ n ch l) (fun j=>chW (ch j) (lC l j)) B'/\LOk (cmS S σ n ch l) (y_U S σ n ch l) (fun j=>some (cmX S.slots ch l j))/\∀i,i<n->(σ i).dead=false->tl (y_U S σ n ch l i).now (S.count % 2)=tl (σ i).now (S.count % 2):=by
 have eP:=h.ok.sl
 have jw:S.slots<=4:=by rcases eP with h|h<;>omega
 have hlc:=hl.hlc h.ok jO ja;have aq:=h.len
 have co:(cmS S σ n ch l).mem.length=S.mem.length:=by unfold cmS;rw[w_R,x_n];rfl
 have hX:∀i,bad S σ i=false->(cmX S.slots ch l i).length<96/\(∀x∈cmX S.slots ch l i,x.ok)/\0<(cmX S.slots ch l i).length/\∀x∈lC l i,x.at'<S.slots:=fun i hb=>by
  obtain ⟨_,_,hm⟩:=h.goodLt hb;obtain ⟨z1,z2,z3⟩:=hlc i hm (by rw[<-x_6 hm];exact (bad_no.1 hb).1);refine ⟨prW_len _ _ _ z2,prW_ok eP _ _ (h.csz i) z3,?_,fun x hx=>(z3 x hx).1⟩;obtain ⟨x,hx⟩:=List.exists_mem_of_length_pos z1;exact List.length_pos_of_mem (prW_chunk S.slots (ch i) (lC l i) x.at' ((doC_mem _ _).2 ⟨x,hx,rfl⟩))
 have mx:(S.count+1) % 2=1-S.count % 2:=by omega
 have hD:∀i,bad S σ i=false->_:=fun i hb=>disk_commit eP (σ i) (bad_no.1 hb).2 (h.dk i (h.goodLt hb).1).len (ch i) (lC l i) (hX i hb).2.2.2 (hX i hb).1 ((S.count+1) % 2) (by omega) (bs (z_t (cmS S σ n ch l))) (y_U S σ n ch l i) (by
  have iE:=cm_dom S σ n i (h.goodLt hb).1 hb;unfold y_U;rw[lgD_now _ _ _ _ _ iE];unfold cmD2;unfold z_R;rw[if_pos iE.1];unfold cmD1;rw[lgD_now _ _ _ _ _ iE]
  rfl) (h.tree i hb) (h.cell i hb)
 have hO:∀i,i<n->bad S σ i=true->y_U S σ n ch l i=((σ i).write ((S.count+1) % 2) (bs (z_t (cmS S σ n ch l)))).flush:=fun i hi hb=>by
  have iE:¬(i<n/\i∈prD (z_y S) σ n):=fun h2=>by
   obtain ⟨_,h3,h4⟩:=(prD_mem _ _ _ _).1 h2.2;have:bad S σ i=false:=bad_no.2 ⟨h3,h4⟩;rw[hb] at this;cases this
  unfold y_U;rw[lgD_not _ _ _ _ _ iE];unfold cmD2 z_R;rw[if_pos hi];unfold cmD1;rw[lgD_not _ _ _ _ _ iE];rfl
 have du:∀i,bad (cmS S σ n ch l) (y_U S σ n ch l) i=false->bad S σ i=false:=fun i hb=>by
  by_cases hi:i<n
  ·rw[cmS_bad S σ n ch l i hi] at hb;exact hb
  ·have h1:=(bad_no.1 hb).1
   rw[cmS_stA,if_neg fun h=>hi h.1] at h1;have:=(h.ok.act h1).2;omega
 have jP:∀i,bad S σ i=false->x_0 (cmS S σ n ch l) i=z_L S.slots (chW (ch i) (lC l i))/\logA (cmS S σ n ch l) i=y_O (z_o (cmX S.slots ch l i)):=fun i hb=>by
  obtain ⟨hi,_,hm⟩:=h.goodLt hb;have iE:=(cm_dom S σ n i hi hb).2;unfold cmS;exact lgS_topA _ _ n i hi (by rw[x_n];exact hm) (cmT S.slots ch l i) (y_O (z_o (cmX S.slots ch l i))) (by unfold lgG;rw[if_pos iE])
 refine ⟨⟨?_,by rw[co];exact aq,fun i hi=>?_,fun i hb=>(jP i (du i hb)).1,fun i hb=>(hD i (du i hb)).1,fun i hb=>(hD i (du i hb)).2.1,fun j t=>?_,fun t ht c bf hb=>?_,Bb,fun i hi hd=>?_⟩,fun i hb=>?_,fun i hi hd=>?_⟩
 ·unfold cmS
  refine lgS_ok (prS_ok (bumpS_ok h.ok hc) σ n) _ (fun j t d hg=>?_) n;unfold lgG at hg;split at hg
  ·injection hg with hg
   injection hg with h1 h2
   subst h1 h2;exact ⟨v_Q eP _,v_P _⟩
  ·cases hg
 ·cases hb:bad S σ i with
  | false=>exact (hD i hb).2.2.2.2.2.2.1
  | true =>
   rw[hO i hi hb];by_cases hd:(σ i).dead=true
   ·rw[DkS.write_of_dead hd,DkS.flush_of_dead hd]
    exact h.dk i hi
   ·exact DkS.Whole.flush (by rw[DkS.write_len];exact (h.dk i hi).len) fun db=>by rw[DkS.write_dead] at db;exact absurd db hd
 ·by_cases hj:∀x∈lC l j,x.cell.size<=2032
  ·exact chW_size (lC l j) (ch j) (h.csz j) hj t
  ·exact absurd (fun x hx=>by
    obtain ⟨y,hy,_,rfl⟩:=(lC_mem l j x).1 hx
    exact (hl.mem y hy).2.2.2.1) hj
 ·have iy:=du _ hb
  show ChkIs key ((c+t) % (S.data+2)) t (chW (ch ((c+t) % (S.data+2))) (lC l ((c+t) % (S.data+2))) t) (tl (z_z (stp S.data B' t)) c).data.toList;refine chW_at (fun x=>ChkIs key ((c+t) % (S.data+2)) t x (tl (z_z (stp S.data B' t)) c).data.toList) t _ _ (fun x hx e=>?_) ?_
  ·obtain ⟨y,hy,ZX,rfl⟩:=(lC_mem l _ x).1 hx
   have e:y.slot=t:=e;obtain ⟨_,z2,_,_,j,hj,JD,iH⟩:=hl.mem y hy;rw[e] at JD iH z2;rw[ZX] at JD iH;have ZY:j=c:=rot_inj hj bf JD;subst ZY;rw[ZW t ht z2] at iH;exact iH
  ·by_cases hN:0<N t
   ·obtain ⟨x,hx,e1,e2⟩:=hl.all t ht hN c bf (bad_no.1 iy).1
    exact .inr ⟨⟨x.slot,x.cell⟩,(lC_mem l _ _).2 ⟨x,hx,e1,rfl⟩,e2⟩
   ·refine .inl ?_
    rw[<-stp_congr (ls t ht (by omega))];exact h.chk t ht c bf iy
 ·rw[cmD4_dead] at hd
  show tl (y_U S σ n ch l i).now ((S.count+1) % 2)=_
  cases hb:bad S σ i with
  | false=>exact (hD i hb).2.2.1
  | true =>
   rw[hO i hi hb,DkS.flush_now];exact DkS.write_on _ _ _ hd (by rw[(h.dk i hi).len];omega)
 ·obtain ⟨z1,z2,z3,z4⟩:=hX i (du i hb)
  have TS:=hD i (du i hb);refine ⟨⟨z1,z3,z2,TS.2.2.2.2.1,(jP i (du i hb)).2⟩,fun l' hl' x hx=>?_⟩;injection hl' with hl';subst hl';exact TS.2.2.2.2.2.1 x hx
 ·cases hb:bad S σ i with
  | false =>
   have:=(hD i hb).2.2.2.1;rw[mx] at this
   rwa [show 1-(1-S.count % 2)=S.count % 2 by omega] at this
  | true =>
   rw[hO i hi hb,DkS.flush_now];exact DkS.write_off _ _ _ _ (by omega)
theorem VOk.kill (h:VOk n key S σ ch B) (i:Nat):VOk n key S (z_A σ i (σ i).fail) ch B:=by
 have du:∀j,bad S (z_A σ i (σ i).fail) j=false->bad S σ j=false/\z_A σ i (σ i).fail j=σ j:=fun j hb=>by
  by_cases e:j=i
  ·subst e
   have:=(bad_no.1 hb).2;rw[y_q] at this;cases this
  ·rw[y_w _ _ e]
   refine ⟨?_,rfl⟩;have:=bad_no.1 hb;rw[y_w _ _ e] at this;exact bad_no.2 this
 refine ⟨h.ok,h.len,fun j hj=>?_,fun j hb=>h.top j (du j hb).1,fun j hb=>?_,fun j hb=>?_,h.csz,fun t ht c hc hb=>h.chk t ht c hc (du _ hb).1,h.bsz,fun j hj hd=>?_⟩
 ·by_cases e:j=i
  ·subst e
   rw[y_q];exact ⟨(h.dk j hj).len,rfl,fun hd=>by cases hd⟩
  ·rw[y_w _ _ e];exact h.dk j hj
 ·rw[(du j hb).2];exact h.tree j (du j hb).1
 ·rw[(du j hb).2];exact h.cell j (du j hb).1
 ·by_cases e:j=i
  ·subst e
   rw[y_q] at hd;cases hd
  ·rw[y_w _ _ e] at hd ⊢;exact h.rc j hj hd
theorem LOk.kill {L:Nat->Option (List Wr)} (h:LOk S σ L) (i:Nat):LOk S (z_A σ i (σ i).fail) L:=fun j hb=>by
 by_cases e:j=i
 ·subst e
  have:=(bad_no.1 hb).2;rw[y_q] at this;cases this
 ·have h2:=bad_no.1 hb
  rw[y_w _ _ e] at h2 ⊢;exact h j (bad_no.2 h2)
end
theorem SynR.zero (S:Sup) (key:List UInt8) (N:Nat->Nat) (CC:Nat->List ByteArray):SynR S key N CC 0 []:=⟨fun x hx=>(by cases hx),fun t ht=>(by omega),fun i=>Nat.zero_le _,Nat.zero_le _⟩
theorem SynR.skip {S:Sup} {key:List UInt8} {N:Nat->Nat} {CC:Nat->List ByteArray} {T:Nat} {l:List Cgd} (h:SynR S key N CC T l) (hN:N T=0):SynR S key N CC (T+1) l where
 mem x hx:=by
  obtain ⟨h1,h2⟩:=h.mem x hx;exact ⟨by omega,h2⟩
 all t ht hn:=by
  by_cases e:t=T
  ·subst e;omega
  ·exact h.all t (by omega) hn
 one i:=by have:=h.one i;omega
 len:=by have:=h.len;rw[Nat.succ_mul];omega
theorem SynR.put {S:Sup} {key:List UInt8} {N:Nat->Nat} {CC:Nat->List ByteArray} {T:Nat} {l l2:List Cgd} (h:SynR S key N CC T l) (hN:0<N T) (hp:PutR S key T (z_z (CC T)) (S.data+2) l2):SynR S key N CC (T+1) (l++l2) where
 mem x hx:=by
  rcases List.mem_append.1 hx with hx|hx
  ·obtain ⟨h1,h2⟩:=h.mem x hx
   exact ⟨by omega,h2⟩
  ·obtain ⟨h1,h2,h3,j,hj,h4,h5⟩:=hp.mem x hx
   rw[h1];exact ⟨by omega,hN,h2,h3,j,hj,h4,h5⟩
 all t ht hn j hj hs:=by
  by_cases e:t=T
  ·subst e
   obtain ⟨x,hx,e2⟩:=hp.all j hj hs;exact ⟨x,List.mem_append_right _ hx,e2,(hp.mem x hx).1⟩
  ·obtain ⟨x,hx,e2⟩:=h.all t (by omega) hn j hj hs
   exact ⟨x,List.mem_append_left _ hx,e2⟩
 one i:=by
  have e:lC (l++l2) i=lC l i++lC l2 i:=by unfold lC;rw[List.filter_append,List.map_append]
  rw[e,q_b];have:=h.one i;have:=hp.one i;omega
 len:=by
  rw[q_b,Nat.succ_mul];have:=h.len;have:=hp.len;omega
def x_Z (S:Sup) (key:List UInt8) (N:Nat->Nat) (CC:Nat->List ByteArray) (q:Nat):Nat->List Cgd
 | 0=>[]
 | T+1=>if N T=0 then x_Z S key N CC q T else x_Z S key N CC q T++putL S key T (CC T) (q+(x_Z S key N CC q T).length) (S.data+2)
theorem SynR.hl' {S:Sup} {key:List UInt8} {N:Nat->Nat} {CC:Nat->List ByteArray} {T:Nat} {l:List Cgd} (h:SynR S key N CC T l) (hS:SupOk S) (hT:T<=S.slots):l.length<=100:=by
 have h1:=h.len
 have h2:S.slots<=4:=by rcases hS.sl with h|h<;>omega
 have h3:=Nat.mul_le_mul (show T<=4 by omega) (show S.data+2<=6 by have:=hS.d8;omega);omega
theorem allC_size {C:List ByteArray} (h2:1<=C.length) (h8:C.length<=8) (hs:Siz C 32) (c:Nat) (hc:c<C.length+2):(tl (z_z C) c).size=32:=by
 unfold z_z;rw[v_S];by_cases h:c<C.length
 ·rw[if_pos h];exact hs c h
 ·rw[if_neg h]
  rcases (show c-C.length=0\/c-C.length=1 by omega) with e|e<;>rw[e]
  ·show (bs (enP C)).size=32
   rw[z_b,hs.enP h2 h8 (by decide)];exact pp_length _ _ _ hs
  ·show (bs (enQ C)).size=32
   rw[z_b,hs.enQ h2 h8 (by decide)];exact qq_length _ _ _ hs
theorem VOk.alive {n:Nat} {key:List UInt8} {S:Sup} {σ:Nat->DkS} {ch:Nat->Nat->ByteArray} {B:Nat->ByteArray} (h:VOk n key S σ ch B) (hc:cnt (bad S σ) (S.data+2)<=2):∃i,i<n/\(σ i).dead=false:=by
 by_cases hx:∃i,i<S.data+2/\bad S σ i=false
 ·obtain ⟨i,hi,hb⟩:=hx
  exact ⟨i,(h.goodLt hb).1,(bad_no.1 hb).2⟩
 ·have:cnt (bad S σ) (S.data+2)=S.data+2:=by
   have e:cnt (bad S σ) (S.data+2)=cnt (fun _=>true) (S.data+2):=w_i _ fun i hi=>by
    cases hb:bad S σ i with
    | true=>rfl
    | false=>exact absurd ⟨i,hi,hb⟩ hx
   rw[e];unfold cnt;simp
  have:=h.ok.d2;omega
theorem PT_offMap {w:World} {bz sp p g:Nat} {k:TypeId} {α:Type} {M:KM prog k α} {f:α->Option Value} {dom:List α} {iz dq:Array Value} (hm:MapA M w g f dom) (h1:Blk w sp 226 iz) (h2:Blk w p 97 dq):¬PT w bz sp p g:=fun h=>by
 rcases h with e|e|⟨_,Ha,h3⟩
 ·exact hm.ne_blk h1 e
 ·exact hm.ne_blk h2 e
 ·exact hm.ne_blk h3 rfl
def SyF (F:Nat->Prop) (an st sp g:Nat):Nat->Prop:=fun x=>F x\/x=an\/x=st\/x=sp\/x=g
def SyncPost (w w':World) (v b an st sp g n q0:Nat) (lo:Int) (key:List UInt8) (σ:Nat->DkS) (F:Nat->Prop) (S:Sup) (ch:Nat->Nat->ByteArray) (B:Nat->ByteArray) (f:Nat->Option ByteArray):Prop :=
 (lo≠0->Kp NoB w w')/\(lo=0->∃(l:List Cgd) (q':Nat) (bU ct:Value) (F':Nat->Prop),SynR S key (fun t=>cnt (wtP S.data f t) S.data) (fun t=>y_s S.data f (z_z (stp S.data B t)) t) S.slots l /\
   Blk w' v 88 (vlC b an key (some ⟨st,0,none⟩) (some g))/\Blk w' st 116 (stC b an key (cmS S σ n ch l) bU ct sp)/\SupO w' w.heap.size (cmS S σ n ch l) bU ct/\Blk w' an 180 #[.int .u64 ((cmS S σ n ch l).count:Int),.string (bs (z_Z (z_t (cmS S σ n ch l))))]/\Gr w F F'/\Bk w' b n (y_U S σ n ch l) F' /\
   MapA KI w' g (fun _=>none) []/\Blk w' sp 226 #[.int .u64 S.epoch,.int .u64 q']/\(l=x_Z S key (fun t=>cnt (wtP S.data f t) S.data) (fun t=>z_z (y_s S.data f (z_z (stp S.data B t)) t)) q0 S.slots/\q'=q0+l.length)/\Kp (SyF F an st sp g) w w')
section
variable {w:World} {v b n an st sp g base0 q0:Nat} {key ad:List UInt8} {σ:Nat->DkS} {F:Nat->Prop} {S:Sup} {vs vm:Value} {ch:Nat->Nat->ByteArray} {B:Nat->ByteArray} {f:Nat->Option ByteArray} {dom:List Nat}
theorem vsync_none (hv:Blk w v 88 (vlC b an key (some ⟨st,0,none⟩) (some g))) (hs:Blk w st 116 (stC b an key S vs vm sp)) (hM:MapA KI w g (txM f) []) :
  Cl 12 #[.pointer (some ⟨v,0,none⟩)] w fun e w'=>e=.returned (.int .i64 0)/\w'=w:=by
 have HU:=Zz (w_T hv hs);have c4:=hv.c4;have aq:=fun ty=>hM.len y_7 ty;simp only[List.length_nil] at aq;clear hv hs hM;go_enter func12,ntmps12;go_wp2_with fail;refine HU.o.mono ?_;rintro e w2 ⟨rfl,rfl⟩;go_wp2;go_ret;exact ⟨rfl,rfl⟩
theorem vsync_any (hL:Lay w) (hw:10<=w.heap.size) (hv:Blk w v 88 (vlC b an key (some ⟨st,0,none⟩) (some g))) (hb:Bk w b n σ F) (hs:Blk w st 116 (stC b an key S vs vm sp)) (hsp:Blk w sp 226 #[.int .u64 S.epoch,.int .u64 q0]) (hR:SupO w base0 S vs vm) (hV:VOk n key S σ ch B) (hk:key.length=32)
  (ha:Blk w an 180 #[.int .u64 S.count,.string (bs ad)]) (hM:MapA KI w g (txM f) dom) (nK:∀k y,f k=some y->y.size=32) (iE:∀k∈dom,k<S.slots*S.data) (ZZ:10<=v) (Hh:10<=st) (lK:10<=sp) (Hi:10<=an) (hq:q0<=90000) (hc:S.count<1000)
  {t0:Nat} (jO:t0<S.slots) (ja:0<cnt (wtP S.data f t0) S.data) (em:z_5 S σ=0\/0<cnt (wtP S.data f 0) S.data/\cnt (wtP S.data f 0) S.data<S.data) :
  Cl 12 #[.pointer (some ⟨v,0,none⟩)] w fun e w'=>e=.returned (.int .i64 (z_5 S σ))/\SyncPost w w' v b an st sp g n q0 (z_5 S σ) key σ F S ch B f:=by
 have db:=hV.ok.d2;have BG:=hV.ok.d8
 have jw:S.slots<=4:=by rcases hV.ok.sl with h|h<;>omega
 have nt:2<=S.slots:=by rcases hV.ok.sl with h|h<;>omega
 have fP:lyOk S.data S.slots:=⟨db,by omega,hV.ok.sl⟩;have HU:=Zz (w_T hv hs);have tF:=Zz (ssuper_any hs hR.reads hV.ok);have c4:=hv.c4;have c3:=hv.c3;have aq:=fun ty=>hM.len y_7 ty;have mt:=Zz iE
 have lY:0<dom.length:=by
  refine Nat.pos_of_ne_zero fun h=>?_;have dY:=q_I h
  have:cnt (wtP S.data f t0) S.data=cnt (fun _=>false) S.data:=w_i _ fun i _=>by
   unfold wtP
   cases hf:f (t0*S.data+i) with
   | none=>rfl
   | some y =>
    have:=(hM.isSome (t0*S.data+i)).1 (by unfold txM;rw[hf];rfl);rw[dY] at this;cases this
  rw[this] at ja
  have h0:cnt (fun _=>false) S.data=0:=by unfold cnt;simp
  omega
 have Px:¬((dom.length:Int)=0):=by omega
 have Z0:((dom.length:Int)==0)=false:=by rw[q_o];exact Px
 have TU:Hid (∀t,t<S.slots->∀c,c<S.data->(x_1 S.data f (z_z (stp S.data B t)) t c).size=32):=Zz fun t ht c bf=>by
  unfold x_1
  cases hf:f (t*S.data+c) with
  | some y=>exact nK _ y hf
  | none =>
   show (tl (z_z (stp S.data B t)) c).size=32;rw[stp_all B t c bf];exact hV.bsz _ (blk_lt ht bf)
 have iZ:=Zz hV;have HL:=Zz hL;have HV:=Zz hv;have HB:=Zz hb;have HS:=Zz hs;have ff:=Zz hsp;have HR:=Zz hR;have HA:=Zz ha;have HM:=Zz hM;have Hj:=Zz (fun W (k:Kp NoB w W)=>places_any (hL.no k) (hv.kp k fun h=>h) (hs.kp k fun h=>h) (hM.no k) fP iE);have Oe:=Zz fP;have ya:Hid (z_5 S σ=0\/z_5 S σ=24):=Zz (by unfold z_5;split<;>simp)
 have Py:Hid (z_5 S σ=0->cnt (bad S σ) (S.data+2)<=2):=Zz fun h=>by
  unfold z_5 at h;split at h
  ·assumption
  ·cases h
 have lP:=Zz em;have Z1:=Zz ja;generalize kN:z_5 S σ=lo at *;clear hL hv hb hs hsp hR ha hM hV nK iE fP em ja lY;go_enter func12,ntmps12;go_wp2_with fail;refine HU.o.mono ?_;rintro e w2 ⟨rfl,rfl⟩;go_wp2_with fail;refine tF.o.mono ?_;rintro e w3 ⟨nD,nE,rfl,cP,au⟩;obtain ⟨As,cs,Am,cm,rfl,rfl⟩:=cP.reads.shape;rw[show z_N S (.slice As (S.data+2) cs) (.slice Am S.mem.length cm)=#[.int .u64 S.count,.int .u64 S.epoch,.int .i64 S.data,.int .i64 S.slots,.int .i64 0,.int .i64 0,.bool false,.slice As (S.data+2) cs,.slice Am S.mem.length cm] from rfl];have kI:=Zz (Blk.new w3 97 (plC S (.slice As (S.data+2) cs) (.slice Am S.mem.length cm) (.slice none 0 0)));have aE:=(Kp.refl NoB w3).alloc (.cells (plC S (.slice As (S.data+2) cs) (.slice Am S.mem.length cm) (.slice none 0 0)) 97);have ir:=Zz (cP.no aE);have az:=Zz (au.trans aE);have rT:w2.heap.size<=w3.heap.size:=au.size;clear cP au aE aq c3 c4 tF
 go_upto_region 7 with fail
 change Code.wp _ _ _ _ (w3.alloc (.cells (plC S (.slice As (S.data+2) cs) (.slice Am S.mem.length cm) (.slice none 0 0)) 97));generalize w3.alloc (.cells (plC S (.slice As (S.data+2) cs) (.slice Am S.mem.length cm) (.slice none 0 0)) 97)=w4 at *;obtain ⟨p,tD⟩:∃p,w3.heap.size=p:=⟨_,rfl⟩;rw[tD] at kI rT ⊢;clear tD;go_wp2_with fail;refine (Hj.o w4 az.o).mono ?_;rintro e w5 ⟨BB,dm,rfl,TV,aG⟩;have F9:=Zz TV;have ax:=Zz (az.o.trans aG);have gH:=Zz (kI.o.kp aG fun h=>h);have j9:=Zz (ir.o.no aG);have Hk:=Zz (HV.o.kp ax.o fun h=>h);have aY:=Zz (HB.o.no ax.o);have o7:=Zz (HS.o.kp ax.o fun h=>h);have uC:=Zz (ff.o.kp ax.o fun h=>h);have oe:=Zz (HR.o.no ax.o);have oZ:=Zz (HA.o.kp ax.o fun h=>h);have mD:=Zz (HM.o.no ax.o);have lr:=Zz (HL.o.no ax.o)
 have fY:10<=w5.heap.size:=by have:=ax.o.size;omega
 have cM:Hid (w2.heap.size<=p/\p<w5.heap.size):=Zz ⟨rT,gH.o.lt⟩;obtain ⟨bz,ZJ⟩:∃bz,w2.heap.size=bz:=⟨_,rfl⟩
 have Hl:10<=bz:=by omega
 have kJ:Hid (w5.ownsRow bz 154 3 (.slice none 0 0) ([]:List Cgd).length (cgC [])):=Zz (World.ownsRow_nil _ _ _ _);have xJ:Hid (([]:List Cgd)=x_Z S key (fun t=>cnt (wtP S.data f t) S.data) (fun t=>z_z (y_s S.data f (z_z (stp S.data B t)) t)) q0 0/\q0=q0+([]:List Cgd).length):=Zz ⟨rfl,rfl⟩;have TW:=Zz (SynR.zero S key (fun t=>cnt (wtP S.data f t) S.data) (fun t=>y_s S.data f (z_z (stp S.data B t)) t));have Hm:Hid (Kp (PT w5 bz sp p) w5 w5):=Zz (Kp.refl _ _);have p3:=gH.o.c3;clear TV aG kI ir HV HB HS ff HR HA HM HL az Hj rT
 go_upto_region 9 with fail
 clear p3
 go_loopw [6,7,8,32] (fun _ _ _ s32 wr=>∃(T:Nat) (cv:Value) (l:List Cgd) (q:Nat),T<=S.slots/\s32=.int .i64 T/\Hid (T=0\/lo=0)/\Hid (Blk wr p 97 (plC S (.slice As (S.data+2) cs) (.slice Am S.mem.length cm) cv))/\Hid (wr.ownsRow bz 154 3 cv l.length (cgC l))/\Hid (Blk wr sp 226 #[.int .u64 S.epoch,.int .u64 q])/\Hid (l=x_Z S key (fun t=>cnt (wtP S.data f t) S.data) (fun t=>z_z (y_s S.data f (z_z (stp S.data B t)) t)) q0 T/\q=q0+l.length) /\
  Hid (SynR S key (fun t=>cnt (wtP S.data f t) S.data) (fun t=>y_s S.data f (z_z (stp S.data B t)) t) T l)/\Hid (Kp (PT w5 bz sp p) w5 wr)/\Hid (T=0->Kp NoB w5 wr)) (fun _ _ _ s32 _=>S.slots-(intOf s32).toNat)
 case atStart=>exact ⟨0,.slice none 0 0,[],q0,by omega,rfl,Zz (.inl rfl),gH,kJ,uC,xJ,TW,Hm,Zz fun _=>Kp.refl _ _⟩
 case round =>
  clear kJ xJ TW Hm;obtain ⟨T,cv,l,q,hT,rfl,HT,HP,uw,uD,HQ,HY,HK,HZ⟩:=hrel;have rC:Hid (∀g2 t2 dq,Blk w5 g2 t2 dq->t2≠226->t2≠97->t2≠154->¬PT w5 bz sp p g2):=Zz fun g2 t2 dq h1 h2 h3 h4=>PT_off h1 uC.o gH.o h2 h3 h4;have Hn:=Zz (Hk.o.kp HK.o (rC.o _ _ _ Hk.o (by decide) (by decide) (by decide)));have ip:=Zz (o7.o.kp HK.o (rC.o _ _ _ o7.o (by decide) (by decide) (by decide)));have EX:=Zz (oZ.o.kp HK.o (rC.o _ _ _ oZ.o (by decide) (by decide) (by decide)));have vu:=Zz (mD.o.kp HK.o (PT_offMap mD.o uC.o gH.o));have AJ:=Zz (F9.o.kp HK.o (PT_offMap F9.o uC.o gH.o))
  have lR:∀ {base e size k:Nat} {v:Value} {xs:List Value},w5.ownsRow base e size v k xs->e≠226->e≠97->e≠154->∀q,v.ownBlock=some q->¬PT w5 bz sp p q:=fun ho h1 h2 h3 q hq=>by
   obtain ⟨dq,am⟩:=z_i ho hq;exact rC.o _ _ _ am h1 h2 h3
  have Ho:=Zz (oe.o.kp HK.o (lR oe.o.seats (by decide) (by decide) (by decide)) (lR oe.o.mems (by decide) (by decide) (by decide)));have oJ:=Zz (j9.o.kp HK.o (lR j9.o.seats (by decide) (by decide) (by decide)) (lR j9.o.mems (by decide) (by decide) (by decide)))
  have dF:=Zz (aY.o.kp HK.o fun g2 hg hf=>by
   obtain ⟨t2,dq,am,iN⟩:=aY.o.ty hf
   exact rC.o _ _ _ am (fun e=>by rw[e] at iN;exact absurd iN (by unfold tyB;decide)) (fun e=>by rw[e] at iN;exact absurd iN (by unfold tyB;decide)) (fun e=>by rw[e] at iN;exact absurd iN (by unfold tyB;decide)) hg)
  have kP:=Zz (lr.o.kp HK.o fun g2 h6 hg=>by
   have:=cM.o
   rcases hg with e|e|⟨bE,_⟩<;>omega)
  have tn:10<=wr.heap.size:=by have:=HK.o.size;omega
  have pJ:Hid (bz<=wr.heap.size):=Zz (by have:=HK.o.size;have:=cM.o;omega);clear lR;by_cases af:T<S.slots
  ·have bV:(T:Int)<(S.slots:Int):=by omega
   have iV:=Zz (chunks_any kP.o Hn.o ip.o Ho.o.reads iZ.o.ok af AJ.o (z_z (stp S.data B T)) (z_5 S σ) (TU.o T af) (by rw[allC_len,w_o];omega) (by rw[allC_len,w_o];omega) fun W u k hu=>load_vol (kP.o.no k) (dF.o.no k) (by have:=k.size;omega) hk iZ.o af u hu);rw[kN] at iV;go_wp2_with fail;refine iV.o.mono ?_;rintro e w6 ⟨u,er,rfl,ap,bm⟩;have aB:=Zz (w_g HK.o ap fun _ h=>h.elim);have kR:=Zz (HP.o.kp ap fun h=>h);have Hp:=Zz (z_e uw.o ap fun _ _ h=>h);have Hq:=Zz (uD.o.kp ap fun h=>h);have Pz:=Zz (Hn.o.kp ap fun h=>h);have dH:=Zz (ip.o.kp ap fun h=>h);have ns:=Zz (Ho.o.no ap);have bk:=Zz (dF.o.no ap);have BR:=Zz (kP.o.no ap)
   have LV:10<=w6.heap.size:=by have:=ap.size;omega
   have PA:Hid (bz<=w6.heap.size):=Zz (by have:=ap.size;have:=pJ.o;omega);have fG:Hid (T<S.slots):=Zz af;have dU:Hid (Kp NoB wr w6):=Zz ap;clear ap iV Hn ip EX vu AJ Ho oJ dF kP HP uw uD;rcases bm with ⟨hn,rfl,rfl⟩|⟨iJ,kM,aA,z7,rfl⟩|⟨iJ,kM,rfl,ho⟩
   ·have oT:lo=0:=by
     rcases HT.o with h|h
     ·rcases lP.o with h2|h2
      ·exact h2
      ·rw[h] at hn
       omega
     ·exact h
    have N9:=Zz (HY.o.skip hn)
    have tH:Hid (T+1=0->Kp NoB w5 w6):=Zz fun h=>by omega
    have vS:Hid (T+1=0\/lo=0):=Zz (.inr oT);have Eg:Hid (l=x_Z S key (fun t=>cnt (wtP S.data f t) S.data) (fun t=>z_z (y_s S.data f (z_z (stp S.data B t)) t)) q0 (T+1)/\q=q0+l.length):=Zz ⟨by unfold x_Z;rw[if_pos hn];exact HQ.o.1,HQ.o.2⟩;clear hn oT;go_wp2;go_roundw
    case rel=>exact ⟨T+1,cv,l,q,by omega,by go_num,vS,kR,Hp,Hq,Eg,N9,aB,tH⟩
    case measure=>simp[intOf];omega
   ·have vH:T=0:=HT.o.resolve_right aA
    have z7:=z7.symm;subst z7;have xY:lo=24:=ya.o.resolve_left aA;have pC:=Zz ((ax.o.trans (HZ.o vH)).trans dU.o);subst xY;clear iJ kM aA;go_wp2;go_ret;exact ⟨rfl,fun _=>pC.o,fun h=>absurd h (by decide)⟩
   ·have oT:lo=0:=by
     rcases HT.o with h|h
     ·rcases lP.o with h2|h2
      ·exact h2
      ·rw[h] at iJ kM
       exact kM.resolve_left (by omega)
     ·exact h
    have PB:=Zz oT;obtain ⟨Au,cu,rfl⟩:=z_r ho
    have aq:(z_z (y_s S.data f (z_z (stp S.data B T)) T)).length=S.data+2:=by rw[allC_len,x_T]
    have eP:=HY.o.hl' iZ.o.ok hT
    have AK:=Zz (put_any (p:=p) (bz:=bz) (cv:=cv) (l:=l) (q0:=q) (C:=z_z (y_s S.data f (z_z (stp S.data B T)) T)) (base0:=0) BR.o LV bk.o dH.o Hq.o (ns.o.more (Nat.zero_le _)) iZ.o.ok iZ.o.len hk af kR.o Hp.o Hl PA.o lK (by have:=cM.o;omega) (ho.more (Nat.zero_le _)) aq (fun c bf=>by
     rw[aq] at bf
     exact allC_size (by rw[x_T];omega) (by rw[x_T];omega) (fun j hj=>by
      rw[x_T] at hj
      have e:tl (y_s S.data f (z_z (stp S.data B T)) T) j=x_1 S.data f (z_z (stp S.data B T)) T j:=by
       unfold y_s tl;rw[q_a,q_j,q_n hj];rfl
      rw[e]
      exact TU.o T af j hj) c (by rw[x_T];exact bf)) (by have:=HQ.o.2;omega) eP)
    rw[z_c,aq] at AK ⊢;have g9:=Zz iJ;have c3:=Pz.o.c3;clear ho aq eP iJ kM oT;go_wp2_with fail;refine AK.o.mono ?_;rintro e w7 ⟨rfl,JF,l2,q',TX,Hr,rA,PC,tC,aM⟩;have bC:=Zz (w_g aB.o aM fun _ h=>h);have gE:=Zz TX;have PD:=Zz Hr;have uB:=Zz rA;have zJ:=Zz (HY.o.put g9.o tC)
    have Z2:Hid (l++l2=x_Z S key (fun t=>cnt (wtP S.data f t) S.data) (fun t=>z_z (y_s S.data f (z_z (stp S.data B t)) t)) q0 (T+1)/\q'=q0+(l++l2).length):=Zz (by
     obtain ⟨h1,h2⟩:=HQ.o;refine ⟨?_,by rw[PC.2,h2,q_b];omega⟩;have hn:=g9.o;unfold x_Z
     rw[if_neg (by omega),<-h1,<-h2,<-PC.1])
    have Z3:Hid (T+1=0->Kp NoB w5 w7):=Zz fun h=>by omega
    have sr:Hid (T+1=0\/lo=0):=Zz (.inr (by
     rcases HT.o with h|h
     ·rcases lP.o with h2|h2
      ·exact h2
      ·exact PB.o
     ·exact h))
    clear TX Hr rA PC tC aM c3 AK;go_wp2;go_roundw
    case rel=>exact ⟨T+1,JF,l++l2,q',by omega,by go_num,sr,gE,PD,uB,Z2,zJ,bC,Z3⟩
    case measure=>simp[intOf];omega
  ·obtain rfl:T=S.slots:=by omega
   have oT:lo=0:=HT.o.resolve_left (by omega);subst oT;obtain ⟨Ac,cc,rfl⟩:=z_r uw.o;have rD:=Py.o rfl;have fZ:=Zz HK.o.drew;have oG:=Zz (kP.o.no (Kp.refl NoB wr).drew);have lQ:=Zz (dF.o.no (Kp.refl NoB wr).drew);have JJ:=Zz Hn.o.drew;have np:=Zz ip.o.drew;have gM:=Zz uD.o.drew;have gk:=Zz EX.o.drew;have fS:=Zz HP.o.drew;have dc:=Zz (Ho.o.no (Kp.refl NoB wr).drew);have Hs:=Zz (oJ.o.no (Kp.refl NoB wr).drew);have jg:=Zz (vu.o.no (Kp.refl NoB wr).drew);have Ht:Hid (wr.drew.ownsRow bz 154 3 (.slice Ac l.length cc) l.length (cgC l)):=uw;have JI:10<=wr.drew.heap.size:=tn;have zL:=Zz rD;clear HK kP dF Hn ip uD EX HP Ho oJ vu uw AJ rD
   go_upto_region 17 with fail
   refine fs ?_;generalize wr.drew=w7 at *;have c3:=JJ.o.c3;have p0:=fS.o.c0;have p1:=fS.o.c1;have p2:=fS.o.c2;have p3:=fS.o.c3;have p4:=fS.o.c4;have p5:=fS.o.c5;have p6:=fS.o.c6;have p7:=fS.o.c7;have p8:=fS.o.c8;have p9:=fS.o.c9;have px:=fS.o.c10;refine fp 0 ?_;refine fp 1 ?_;refine fp 2 ?_;refine f_c 3 c3 ?_;refine fq 4 (fun W=>W.cell? ⟨p,0,none⟩=some (.int .u64 S.count)/\W.cell? ⟨p,1,none⟩=some (.int .u64 S.epoch)/\W.cell? ⟨p,2,none⟩=some (.int .i64 S.data)/\W.cell? ⟨p,3,none⟩=some (.int .i64 S.slots)/\W.cell? ⟨p,4,none⟩=some (.int .i64 0)/\W.cell? ⟨p,5,none⟩=some (.int .i64 0)/\W.cell? ⟨p,6,none⟩=some (.bool false)/\W.cell? ⟨p,7,none⟩=some (.slice As (S.data+2) cs)/\W.cell? ⟨p,8,none⟩=some (.slice Am S.mem.length cm)/\W.cell? ⟨p,9,none⟩=some (.slice none 0 0)/\W.cell? ⟨p,10,none⟩=some (.slice Ac l.length cc)) ⟨p0,p1,p2,p3,p4,p5,p6,p7,p8,p9,px⟩ ?_;refine fd 5 fun K Qx hK=>?_;go_simp;have uM:=commit_any (n:=n) oG.o lQ.o JI hk np.o dc.o.reads iZ.o.ok hc iZ.o.len (.slice As (S.data+2) cs) (.slice Am S.mem.length cm) (.slice Ac l.length cc) Hs.o.reads l bz Ht.o (HY.o.hl iZ.o.ok) (fun x hx=>by rw[<-iZ.o.len];exact HY.o.hld iZ.o.ok x hx) gk.o Hi Hh ch iZ.o.csz (HY.o.hlc iZ.o.ok jO Z1.o) iZ.o.htop (fun j hj=>by rw[(iZ.o.dk j hj).wait];exact Nat.zero_le _) (iZ.o.alive zL.o) (by rw[goneN_cnt S σ n _ (by have:=iZ.o.len;have:=iZ.o.ok.n1;omega)];exact zL.o);refine uM.mono ?_;rintro e w8 ⟨rfl,bU,ct,TY,TZ,EE,F',Hu,T0,aL⟩
   have aZ:∀g2 t2 dq,Blk w7 g2 t2 dq->¬tyB t2->t2≠180->t2≠116->¬(F g2\/g2=an\/g2=st):=fun g2 t2 dq h1 h2 h3 h4 hq=>by
    rcases hq with hq|rfl|rfl
    ·exact lQ.o.off h1 h2 hq
    ·exact Blk.ne_ h1 gk.o h3 rfl
    ·exact Blk.ne_ h1 np.o h4 rfl
   have eT:=Zz (JJ.o.kp aL (aZ _ _ _ JJ.o (by unfold tyB;decide) (by decide) (by decide)));have Hv:=Zz (gM.o.kp aL (aZ _ _ _ gM.o (by unfold tyB;decide) (by decide) (by decide)))
   have jn:=Zz (jg.o.kp aL fun hq=>by
    rcases hq with hq|e|e
    ·exact lQ.o.offMap jg.o hq
    ·exact jg.o.ne_blk gk.o e
    ·exact jg.o.ne_blk np.o e)
   have mH:=Zz TY;have qs:=Zz TZ;have lz:=Zz EE;have Jt:=Zz Hu;have ef:=Zz T0;have bq:Hid (Kp (fun x=>F x\/x=an\/x=st) w7 w8):=Zz aL;refine hK _ _ (oW (oW oN)) ?_;clear hK K c3 p0 p1 p2 p3 p4 p5 p6 p7 p8 p9 px uM TY TZ EE Hu T0 aL aZ oG lQ JJ np gM gk fS dc Hs jg Ht;refine fp 6 ?_;refine fe ?_;have c4:=eT.o.c4;obtain ⟨w9,co,T1,bL⟩:=jn.o.clear y_7 0;have ON:=Zz (eT.o.kp bL fun e=>(jn.o.ne_blk eT.o) e.symm);have ig:=Zz (mH.o.kp bL fun e=>(jn.o.ne_blk mH.o) e.symm);have Mk:=Zz (lz.o.kp bL fun e=>(jn.o.ne_blk lz.o) e.symm);have PE:=Zz (Hv.o.kp bL fun e=>(jn.o.ne_blk Hv.o) e.symm)
   have rE:∀ {base e size k:Nat} {v:Value} {xs:List Value},w8.ownsRow base e size v k xs->∀q,v.ownBlock=some q->¬q=g:=fun ho q hq e=>by
    obtain ⟨dq,am⟩:=z_i ho hq;exact jn.o.ne_blk am e.symm
   have mg:=Zz (qs.o.kp bL (rE qs.o.seats) (rE qs.o.mems))
   have fL:=Zz (ef.o.kp bL fun q e hf=>by
    have e:q=g:=e;subst e
    exact ef.o.offMap jn.o hf)
   have gF:=Zz T1;have b6:Hid (w2.heap.size<=w7.heap.size):=Zz (q_g ax.o.size fZ.o.size)
   have pC:Hid (Kp (SyF F an st sp g) w2 w9):=Zz ((((ax.o.mono fun _ _ h=>h.elim).then fZ.o fun q hq h=>by
    have:=cM.o;rcases h with e|e|⟨e,_⟩
    ·exact .inr (.inr (.inr (.inl e)))
    ·omega
    ·omega).then bq.o fun q _ h=>by
    rcases h with e|e|e
    ·exact .inl e
    ·exact .inr (.inl e)
    ·exact .inr (.inr (.inl e))).then bL fun q _ e=>.inr (.inr (.inr (.inr e))))
   clear T1 bL rE;go_wp2;go_ret;exact ⟨rfl,fun h=>absurd rfl h,fun _=>⟨l,q,bU,ct,F',HY.o,ON.o,ig.o,mg.o.more b6.o,Mk.o,(Gr.refl _ F).then Jt.o b6.o,fL.o,gF.o,PE.o,HQ.o,pC.o⟩⟩
end
end Go.Proofs.YtdkheklakfbeeaaGreatDoor
