/- Part 19 of the proof. -/
import Derived.Test.YtdkheklakfbeeaaGreatDoorM18
set_option linter.all false
set_option maxRecDepth 100000
set_option maxHeartbeats 16000000
namespace Go.Proofs.YtdkheklakfbeeaaGreatDoor
open Go.RowKit Go.Proofs.Tryz
variable {B:Nat->B_}{CC:Nat->List B_}{N:Nat->Nat}{S:cj}{T an b g n p sp st t0 v:Nat}{ch:Nat->Nat->B_}{dom:List Nat}{f:Nat->Option B_}{kept vm vs:Value}{key:List UInt8}{l:List fu}{w:W_}{σ:Nat->ao}
structure e_ (S:cj) (key:List UInt8) (N:Nat->Nat) (CC:Nat->List B_) (T:Nat) (l:List fu):Prop where
 mem:∀x∈l,x.slot<T/\0<N x.slot/\dT S x.disk=1/\x.cell.size<=2032/\∃j,j<S.data+2/\(j+x.slot) % (S.data+2)=x.disk/\lx key x.disk x.slot x.cell (tl (eg (CC x.slot)) j).data.toList
 all:∀t,t<T->0<N t->∀j,j<S.data+2->dT S ((j+t) % (S.data+2))=1->∃x∈l,x.disk=(j+t) % (S.data+2)/\x.slot=t
 one:∀i,(lC l i).length<=T
 len:l.length<=T*(S.data+2)
section
def e_.hlc (h:e_ S key N CC S.slots l) (m:a7 S) (u:t0<S.slots) (p:0<N t0):∀i (h:i<S.mem.length),(S.mem[i]'h).st=1->0<(lC l i).length/\(lC l i).length<=20/\∀x∈lC l i,x.at'<S.slots/\x.cell.size<=2032:=fun i r o=>by
 have k:dT S i=1:=by rw[SH r];exact o
 obtain ⟨q,_⟩:=m.act k;refine ⟨?_,?_,fun x g=>?_⟩
 ·obtain ⟨j,s,e⟩:=YW t0 q
  obtain ⟨x,g,n,_⟩:=h.all t0 u p j s (by rw[e];exact k);exact List.length_pos_of_mem ((mQ l i _).2 ⟨x,g,by rw[n,e],rfl⟩)
 ·have:=h.one i
  have:S.slots<=4:=by rcases m.sl with h|h<;>omega
  omega
 obtain ⟨y,t,_,rfl⟩:=(mQ l i x).1 g;obtain ⟨v,_,_,z,_⟩:=h.mem y t;exact ⟨v,z⟩
def e_.hld (h:e_ S key N CC S.slots l) (e:a7 S):∀x∈l,x.disk<S.mem.length:=fun x g=>by
 obtain ⟨_,_,i,_⟩:=h.mem x g;exact (e.act i).2
def e_.hl (h:e_ S key N CC S.slots l) (e:a7 S):l.length<=100:=by
 have i:=h.len
 have g:S.slots<=4:=by rcases e.sl with h|h<;>omega
 have j:=Nat.mul_le_mul g (show S.data+2<=6 by have:=e.d8;omega);omega
end
section
def gQ.goodLt (h:gQ n key S σ ch B) {i:Nat} (hb:bad S σ i=false):i<n/\i<S.data+2/\i<S.mem.length:=by
 obtain ⟨e,g⟩:=h.ok.act (c_.1 hb).1;have:=h.len;exact ⟨o_,e,g⟩
def gQ.htop (h:gQ n key S σ ch B):∀i (e:i<S.mem.length),(S.mem[i]'e).st=1->(σ i).dead=false->(S.mem[i]'e).top=e9 S.slots (ch i)/\∀q,1<=q->q<S.slots->tl (σ i).now (100+q)=dD S.slots (ch i) q:=fun i e g j=>by
 have hb:bad S σ i=false:=c_.2 ⟨by rw[SH e];exact g,j⟩;exact ⟨by rw[<-AZ e];exact h.top i hb,h.tree i hb⟩
def QH (S:cj) (σ:Nat->ao) (n k:Nat) (hk:k<=n):pG (f_ (e7 S) σ n) k=cS (bad S σ) k:=by
 induction k with
 | zero=>rfl
 | succ k i =>
  rw[v_L,pG,i o_,Nw,xq];have g:k<n:=o_;by_cases e:dT S k=1
  ·by_cases h:(σ k).dead=true
   ·simp[bad,e,h,g]
   simp[bad,e,h,g]
  simp[bad,e,g]
def gQ.commit (h:gQ n key S σ ch B) (h0:S.count<1000) (l:List fu) (N:Nat->Nat) (CC:Nat->List B_) (hl:e_ S key N CC S.slots l) (B':Nat->B_) (W:∀k,k<S.slots*S.data->(B' k).size=32) (X:∀t,t<S.slots->0<N t->CC t=fi S.data B' t)
  (h3:∀t,t<S.slots->N t=0->∀c,c<S.data->B (t*S.data+c)=B' (t*S.data+c)) (h1:t0<S.slots) (h2:0<N t0) :
  gQ n key (dZ S σ n ch l) (l1 S σ n ch l) (fun j=>dp (ch j) (lC l j)) B'/\zX (dZ S σ n ch l) (l1 S σ n ch l) (fun j=>some (wM S.slots ch l j))/\∀i,i<n->(σ i).dead=false->tl (l1 S σ n ch l i).now (S.count % 2)=tl (σ i).now (S.count % 2):=by
 have u:=h.ok.sl
 have h4:S.slots<=4:=by rcases u with h|h<;>omega
 have O:=hl.hlc h.ok h1 h2;have A:=h.len
 have C:(dZ S σ n ch l).mem.length=S.mem.length:=by unfold dZ;rw[w_7,Tz];rfl
 have M:∀i,bad S σ i=false->(wM S.slots ch l i).length<96/\(∀x∈wM S.slots ch l i,x.ok)/\0<(wM S.slots ch l i).length/\∀x∈lC l i,x.at'<S.slots:=fun i hb=>by
  obtain ⟨_,_,hm⟩:=h.goodLt hb;obtain ⟨Q,s,f⟩:=O i hm (by rw[<-SH hm];exact (c_.1 hb).1);refine ⟨MA _ _ _ s,Kl u _ _ (h.csz i) f,?_,fun x m=>(f x m).1⟩;obtain ⟨x,m⟩:=List.exists_mem_of_length_pos Q;exact List.length_pos_of_mem (Cs S.slots (ch i) (lC l i) x.at' ((M4 _ _).2 ⟨x,m,rfl⟩))
 have H:(S.count+1) % 2=1-S.count % 2:=o_
 have hD:∀i,bad S σ i=false->_:=fun i hb=>DV u (σ i) (c_.1 hb).2 (h.dk i (h.goodLt hb).1).len (ch i) (lC l i) (M i hb).2.2.2 (M i hb).1 ((S.count+1) % 2) o_ (bs (bh (dZ S σ n ch l))) (l1 S σ n ch l i) (by
  have o:=EE S σ n i (h.goodLt hb).1 hb;unfold l1;rw[Nv _ _ _ _ _ o];unfold JQ;unfold eY;rw[if_pos o.1];unfold Fy;rw[Nv _ _ _ _ _ o]
  rfl) (h.tree i hb) (h.cell i hb)
 have J:∀i,i<n->bad S σ i=true->l1 S σ n ch l i=((σ i).write ((S.count+1) % 2) (bs (bh (dZ S σ n ch l)))).flush:=fun i g hb=>by
  have o:¬(i<n/\i∈cZ (e7 S) σ n):=fun I=>by
   obtain ⟨_,K,L⟩:=(j1 _ _ _ _).1 I.2;have:bad S σ i=false:=c_.2 ⟨K,L⟩;rw[hb] at this;cases this
  unfold l1;rw[MG _ _ _ _ _ o];unfold JQ eY;rw[if_pos g];unfold Fy;rw[MG _ _ _ _ _ o];rfl
 have p:∀i,bad (dZ S σ n ch l) (l1 S σ n ch l) i=false->bad S σ i=false:=fun i hb=>by
  by_cases g:i<n
  ·rw[LG S σ n ch l i g] at hb;exact hb
  have v:=(c_.1 hb).1;rw[N4,if_neg fun h=>g h.1] at v;have:=(h.ok.act v).2;omega
 have U:∀i,bad S σ i=false->Gl (dZ S σ n ch l) i=e9 S.slots (dp (ch i) (lC l i))/\y_ (dZ S σ n ch l) i=iD (bm (wM S.slots ch l i)):=fun i hb=>by
  obtain ⟨g,_,hm⟩:=h.goodLt hb;have o:=(EE S σ n i g hb).2;unfold dZ;exact EI _ _ n i g (by rw[Tz];exact hm) (cmT S.slots ch l i) (iD (bm (wM S.slots ch l i))) (by unfold lL;rw[if_pos o])
 refine ⟨⟨?_,by rw[C];exact A,fun i g=>?_,fun i hb=>(U i (p i hb)).1,fun i hb=>(hD i (p i hb)).1,fun i hb=>(hD i (p i hb)).2.1,fun j t=>?_,fun t a c G hb=>?_,W,fun i g q=>?_⟩,fun i hb=>?_,fun i g q=>?_⟩
 ·unfold dZ
  refine Gt (JB (DZ h.ok h0) σ n) _ (fun j t d hg=>?_) n;unfold lL at hg;split at hg
  ·injection hg with hg
   injection hg with v I
   subst v I;exact ⟨v_9 u _,v_2 _⟩
  cases hg
 ·cases hb:bad S σ i with
  | false=>exact (hD i hb).2.2.2.2.2.2.1
  | true =>
   rw[J i g hb];by_cases q:(σ i).dead=true
   ·rw[ao.write_of_dead q,ao.flush_of_dead q]
    exact h.dk i g
   exact ao.Whole.flush (by rw[ao.write_len];exact (h.dk i g).len) fun T=>by rw[ao.write_dead] at T;exact absurd T q
 ·by_cases z:∀x∈lC l j,x.cell.size<=2032
  ·exact Dt (lC l j) (ch j) (h.csz j) z t
  exact absurd (fun x m=>by
   obtain ⟨y,P,_,rfl⟩:=(mQ l j x).1 m
   exact (hl.mem y P).2.2.2.1) z
 ·have V:=p _ hb
  show lx key ((c+t) % (S.data+2)) t (dp (ch ((c+t) % (S.data+2))) (lC l ((c+t) % (S.data+2))) t) (tl (eg (fi S.data B' t)) c).data.toList;refine WN (fun x=>lx key ((c+t) % (S.data+2)) t x (tl (eg (fi S.data B' t)) c).data.toList) t _ _ (fun x m e=>?_) ?_
  ·obtain ⟨y,P,Y,rfl⟩:=(mQ l _ x).1 m
   have e:y.slot=t:=e;obtain ⟨_,s,_,_,j,z,E,b⟩:=hl.mem y P;rw[e] at E b s;rw[Y] at E b;have Z:j=c:=yD z G E;subst Z;rw[X t a s] at b;exact b
  by_cases w:0<N t
  ·obtain ⟨x,m,D,F⟩:=hl.all t a w c G (c_.1 V).1
   exact .inr ⟨⟨x.slot,x.cell⟩,(mQ l _ _).2 ⟨x,m,D,rfl⟩,F⟩
  refine .inl ?_;rw[<-QQ (h3 t a o_)];exact h.chk t a c G V
 ·rw[v_7] at q
  show tl (l1 S σ n ch l i).now ((S.count+1) % 2)=_
  cases hb:bad S σ i with
  | false=>exact (hD i hb).2.2.1
  | true =>
   rw[J i g hb,ao.flush_now];exact ao.write_on _ _ _ q (by rw[(h.dk i g).len];omega)
 ·obtain ⟨Q,s,f,h6⟩:=M i (p i hb)
  have R:=hD i (p i hb);refine ⟨⟨Q,f,s,R.2.2.2.2.1,(U i (p i hb)).2⟩,fun h5 r x m=>?_⟩;injection r with r;subst r;exact R.2.2.2.2.2.1 x m
 cases hb:bad S σ i with
 | false =>
  have:=(hD i hb).2.2.2.1;rw[H] at this
  rwa [show 1-(1-S.count % 2)=S.count % 2 by omega] at this
 | true =>
  rw[J i g hb,ao.flush_now];exact ao.write_off _ _ _ _ o_
def gQ.kill (h:gQ n key S σ ch B) (i:Nat):gQ n key S (dY σ i (σ i).fail) ch B:=by
 have g:∀j,bad S (dY σ i (σ i).fail) j=false->bad S σ j=false/\dY σ i (σ i).fail j=σ j:=fun j hb=>by
  by_cases e:j=i
  ·subst e
   have:=(c_.1 hb).2;rw[P_] at this;cases this
  rw[Vu _ _ e];refine ⟨?_,rfl⟩;have:=c_.1 hb;rw[Vu _ _ e] at this;exact c_.2 this
 refine ⟨h.ok,h.len,fun j l=>?_,fun j hb=>h.top j (g j hb).1,fun j hb=>?_,fun j hb=>?_,h.csz,fun t o c m hb=>h.chk t o c m (g _ hb).1,h.bsz,fun j l k=>?_⟩
 ·by_cases e:j=i
  ·subst e
   rw[P_];exact ⟨(h.dk j l).len,rfl,fun k=>by cases k⟩
  rw[Vu _ _ e];exact h.dk j l
 ·rw[(g j hb).2];exact h.tree j (g j hb).1
 ·rw[(g j hb).2];exact h.cell j (g j hb).1
 by_cases e:j=i
 ·subst e
  rw[P_] at k;cases k
 rw[Vu _ _ e] at k ⊢;exact h.rc j l k
def zX.kill {L:Nat->Option (List Wr)} (h:zX S σ L) (i:Nat):zX S (dY σ i (σ i).fail) L:=fun j hb=>by
 by_cases e:j=i
 ·subst e
  have:=(c_.1 hb).2;rw[P_] at this;cases this
 have g:=c_.1 hb;rw[Vu _ _ e] at g ⊢;exact h j (c_.2 g)
end
def e_.zero (S:cj) (key:List UInt8) (N:Nat->Nat) (CC:Nat->List B_):e_ S key N CC 0 []:=⟨fun x e=>(by cases e),fun t g=>o_,fun i=>Nat.zero_le _,Nat.zero_le _⟩
def e_.skip (h:e_ S key N CC T l) (k:N T=0):e_ S key N CC (T+1) l where
 mem x hx:=by
  obtain ⟨j,g⟩:=h.mem x hx;exact ⟨o_,g⟩
 all t ht hn:=by
  by_cases e:t=T
  ·subst e;omega
  exact h.all t o_ hn
 one i:=by have:=h.one i;omega
 len:=by have:=h.len;rw[Nat.succ_mul];omega
def e_.put {m:List fu} (h:e_ S key N CC T l) (u:0<N T) (hp:pF S key T (eg (CC T)) (S.data+2) m):e_ S key N CC (T+1) (l++m) where
 mem x g:=by
  rcases List.mem_append.1 g with g|g
  ·obtain ⟨p,o⟩:=h.mem x g
   exact ⟨o_,o⟩
  obtain ⟨p,o,q,j,k,r,s⟩:=hp.mem x g;rw[p];exact ⟨o_,u,o,q,j,k,r,s⟩
 all t ht hn j k hs:=by
  by_cases e:t=T
  ·subst e
   obtain ⟨x,g,n⟩:=hp.all j k hs;exact ⟨x,List.mem_append_right _ g,n,(hp.mem x g).1⟩
  obtain ⟨x,g,n⟩:=h.all t o_ hn j k hs;exact ⟨x,List.mem_append_left _ g,n⟩
 one i:=by
  have e:lC (l++m) i=lC l i++lC m i:=by unfold lC;rw[List.filter_append,List.map_append]
  rw[e,cd];have:=h.one i;have:=hp.one i;omega
 len:=by
  rw[cd,Nat.succ_mul];have:=h.len;have:=hp.len;omega
def FZ (S:cj) (key:List UInt8) (N:Nat->Nat) (CC:Nat->List B_) (q:Nat):Nat->List fu
 | 0=>[]
 | T+1=>if N T=0 then FZ S key N CC q T else FZ S key N CC q T++pC S key T (CC T) (q+(FZ S key N CC q T).length) (S.data+2)
def e_.hl' (h:e_ S key N CC T l) (e:a7 S) (k:T<=S.slots):l.length<=100:=by
 have g:=h.len
 have i:S.slots<=4:=by rcases e.sl with h|h<;>omega
 have j:=Nat.mul_le_mul (show T<=4 by omega) (show S.data+2<=6 by have:=e.d8;omega);omega
def Oj {C:List B_} (g:1<=C.length) (i:C.length<=8) (hs:MU C 32) (c:Nat) (j:c<C.length+2):(tl (eg C) c).size=32:=by
 unfold eg;rw[z_ac];by_cases h:c<C.length
 ·rw[if_pos h];exact hs c h
 rw[if_neg h];rcases (show c-C.length=0\/c-C.length=1 by omega) with e|e<;>rw[e]
 ·show (bs (enP C)).size=32
  rw[cG,hs.enP g i d_];exact ms _ _ _ hs
 show (bs (enQ C)).size=32;rw[cG,hs.enQ g i d_];exact mP _ _ _ hs
def gQ.alive (h:gQ n key S σ ch B) (k:cS (bad S σ) (S.data+2)<=2):∃i,i<n/\(σ i).dead=false:=by
 by_cases j:∃i,i<S.data+2/\bad S σ i=false
 ·obtain ⟨i,g,hb⟩:=j
  exact ⟨i,(h.goodLt hb).1,(c_.1 hb).2⟩
 have:cS (bad S σ) (S.data+2)=S.data+2:=by
  have e:cS (bad S σ) (S.data+2)=cS (fun _=>true) (S.data+2):=w_B _ fun i g=>by
   cases hb:bad S σ i with
   | true=>rfl
   | false=>exact absurd ⟨i,g,hb⟩ j
  rw[e];unfold cS;simp
 have:=h.ok.d2;omega
def xm {bz:Nat} {k:TypeId} {α:Type} {M:KM prog k α} {f:α->Option Value} {dom:List α} {n i:Array Value} (hm:aS M w g f dom) (j:ab w sp 226 n) (l:ab w p 97 i):¬PT w bz sp p g:=fun h=>by
 rcases h with e|e|⟨_,o,m⟩
 ·exact hm.ne_blk j e
 ·exact hm.ne_blk l e
 exact hm.ne_blk m rfl
def SyF (F:Nat->Prop) (an st sp g:Nat):Nat->Prop:=fun x=>F x\/x=an\/x=st\/x=sp\/x=g
def ZO (w w':W_) (v b an st sp g n q0:Nat) (lo:Int) (key:List UInt8) (σ:Nat->ao) (F:Nat->Prop) (S:cj) (ch:Nat->Nat->B_) (B:Nat->B_) (f:Nat->Option B_):Prop :=
 (lo≠0->Kp ac w w')/\(lo=0->∃(l:List fu) (j:Nat) (h i:Value) (e:Nat->Prop),e_ S key (fun t=>cS (go S.data f t) S.data) (fun t=>i1 S.data f (eg (fi S.data B t)) t) S.slots l /\
   ab w' v 88 (i3 b an key (some ⟨st,0,none⟩) (some g))/\ab w' st 116 (gU b an key (dZ S σ n ch l) h i sp)/\bg w' w.heap.size (dZ S σ n ch l) h i/\ab w' an 180 #[.int .u64 ((dZ S σ n ch l).count:Int),.string (bs (dC (bh (dZ S σ n ch l))))]/\Gr w F e/\Bk w' b n (l1 S σ n ch l) e /\
   aS KI w' g (fun _=>none) []/\ab w' sp 226 #[.int .u64 S.epoch,.int .u64 j]/\(l=FZ S key (fun t=>cS (go S.data f t) S.data) (fun t=>eg (i1 S.data f (eg (fi S.data B t)) t)) q0 S.slots/\j=q0+l.length)/\Kp (SyF F an st sp g) w w')
section
variable {base0 q0:Nat} {ad:List UInt8} {F:Nat->Prop} 
def Gs (hv:ab w v 88 (i3 b an key (some ⟨st,0,none⟩) (some g))) (hs:ab w st 116 (gU b an key S vs vm sp)) (hM:aS KI w g (dg f) []) :
  Cl 12 #[.pointer (some ⟨v,0,none⟩)] w fun e w'=>e=.returned (.int .i64 0)/\w'=w:=by
 have h:=Zz (v_k hv hs);have k:=hv.c4;have i:=fun j=>hM.len Bq j;simp only[List.length_nil] at i;clear hv hs hM;go_enter func12,ntmps12;go_wp2_with fail;refine h.o.mono ?_;rintro e l ⟨rfl,rfl⟩;go_wp2;go_ret;exact ⟨rfl,rfl⟩
def RE (hL:a_ w) (hw:10<=w.heap.size) (hv:ab w v 88 (i3 b an key (some ⟨st,0,none⟩) (some g))) (hb:Bk w b n σ F) (hs:ab w st 116 (gU b an key S vs vm sp)) (hsp:ab w sp 226 #[.int .u64 S.epoch,.int .u64 q0]) (hR:bg w base0 S vs vm) (J:gQ n key S σ ch B) (hk:key.length=32)
  (ha:ab w an 180 #[.int .u64 S.count,.string (bs ad)]) (hM:aS KI w g (dg f) dom) (np:∀k y,f k=some y->y.size=32) (iK:∀k∈dom,k<S.slots*S.data) (Z9:10<=v) (Jk:10<=st) (mY:10<=sp) (Jl:10<=an) (a:q0<=90000) (hc:S.count<1000)
  (ik:t0<S.slots) (io:0<cS (go S.data f t0) S.data) (ju:i7 S σ=0\/0<cS (go S.data f 0) S.data/\cS (go S.data f 0) S.data<S.data) :
  Cl 12 #[.pointer (some ⟨v,0,none⟩)] w fun e w'=>e=.returned (.int .i64 (i7 S σ))/\ZO w w' v b an st sp g n q0 (i7 S σ) key σ F S ch B f:=by
 have cD:=J.ok.d2;have Dy:=J.ok.d8
 have kA:S.slots<=4:=by rcases J.ok.sl with h|h<;>omega
 have pd:2<=S.slots:=by rcases J.ok.sl with h|h<;>omega
 have iJ:pJ S.data S.slots:=⟨cD,o_,J.ok.sl⟩;have HU:=Zz (v_k hv hs);have nZ:=Zz (z_ao hs hR.reads J.ok);have c4:=hv.c4;have Y:=hv.c3;have X:=fun ty=>hM.len Bq ty;have CX:=Zz iK
 have lW:0<dom.length:=by
  refine Nat.pos_of_ne_zero fun h=>?_;have eX:=q_I h
  have:cS (go S.data f t0) S.data=cS (fun _=>false) S.data:=w_B _ fun i _=>by
   unfold go
   cases P:f (t0*S.data+i) with
   | none=>rfl
   | some y =>
    have:=(hM.isSome (t0*S.data+i)).1 (by unfold dg;rw[P];rfl);rw[eX] at this;cases this
  rw[this] at io
  have h0:cS (fun _=>false) S.data=0:=by unfold cS;simp
  omega
 have QI:¬((dom.length:Int)=0):=o_
 have hdlb:((dom.length:Int)==0)=false:=by rw[pN];exact QI
 have U0:Hid (∀t,t<S.slots->∀c,c<S.data->(Ga S.data f (eg (fi S.data B t)) t c).size=32):=Zz fun t ht c h8=>by
  unfold Ga
  cases P:f (t*S.data+c) with
  | some y=>exact np _ y P
  | none =>
   show (tl (eg (fi S.data B t)) c).size=32;rw[An B t c h8];exact J.bsz _ (Wv ht h8)
 have o:=Zz J;have HL:=Zz hL;have HV:=Zz hv;have HB:=Zz hb;have HS:=Zz hs;have fw:=Zz hsp;have HR:=Zz hR;have HA:=Zz ha;have HM:=Zz hM;have Jm:=Zz (fun W (k:Kp ac w W)=>Hi (hL.no k) (hv.kp k fun h=>h) (hs.kp k fun h=>h) (hM.no k) iJ iK);have Pm:=Zz iJ;have nA:Hid (i7 S σ=0\/i7 S σ=24):=Zz (by unfold i7;split<;>simp)
 have QJ:Hid (i7 S σ=0->cS (bad S σ) (S.data+2)<=2):=Zz fun h=>by
  unfold i7 at h;split at h
  ·assumption
  cases h
 have ng:=Zz ju;have y7:=Zz io;generalize eQ:i7 S σ=lo at *;clear hL hv hb hs hsp hR ha hM J np iK iJ ju io lW;go_enter func12,ntmps12;go_wp2_with fail;refine HU.o.mono ?_;rintro e H7 ⟨rfl,rfl⟩;go_wp2_with fail;refine nZ.o.mono ?_;rintro e w3 ⟨pz,pA,rfl,cM,aw⟩;obtain ⟨G,cs,Am,cm,rfl,rfl⟩:=cM.reads.shape;rw[show dK S (.slice G (S.data+2) cs) (.slice Am S.mem.length cm)=#[.int .u64 S.count,.int .u64 S.epoch,.int .i64 S.data,.int .i64 S.slots,.int .i64 0,.int .i64 0,.bool false,.slice G (S.data+2) cs,.slice Am S.mem.length cm] from rfl];have mc:=Zz (ab.new w3 97 (i_ S (.slice G (S.data+2) cs) (.slice Am S.mem.length cm) (.slice none 0 0)));have aG:=(Kp.refl ac w3).alloc (.cells (i_ S (.slice G (S.data+2) cs) (.slice Am S.mem.length cm) (.slice none 0 0)) 97);have gM:=Zz (cM.no aG);have ay:=Zz (aw.trans aG);have tY:H7.heap.size<=w3.heap.size:=aw.size;clear cM aw aG X Y c4 nZ
 go_upto_region 7 with fail
 change Code.wp _ _ _ _ (w3.alloc (.cells (i_ S (.slice G (S.data+2) cs) (.slice Am S.mem.length cm) (.slice none 0 0)) 97));generalize w3.alloc (.cells (i_ S (.slice G (S.data+2) cs) (.slice Am S.mem.length cm) (.slice none 0 0)) 97)=w4 at *;obtain ⟨p,vz⟩:∃p,w3.heap.size=p:=⟨_,rfl⟩;rw[vz] at mc tY ⊢;clear vz;go_wp2_with fail;refine (Jm.o w4 ay.o).mono ?_;rintro e r ⟨BB,dm,rfl,U1,x2⟩;have Ig:=Zz U1;have d:=Zz (ay.o.trans x2);have Z:=Zz (mc.o.kp x2 fun h=>h);have fR:=Zz (gM.o.no x2);have Jn:=Zz (HV.o.kp d.o fun h=>h);have a8:=Zz (HB.o.no d.o);have qZ:=Zz (HS.o.kp d.o fun h=>h);have x9:=Zz (fw.o.kp d.o fun h=>h);have nS:=Zz (HR.o.no d.o);have nQ:=Zz (HA.o.kp d.o fun h=>h);have lk:=Zz (HM.o.no d.o);have kz:=Zz (HL.o.no d.o)
 have gZ:10<=r.heap.size:=by have:=d.o.size;omega
 have x3:Hid (H7.heap.size<=p/\p<r.heap.size):=Zz ⟨tY,Z.o.lt⟩;obtain ⟨bz,ZT⟩:∃bz,H7.heap.size=bz:=⟨_,rfl⟩;have Jo:10<=bz:=o_;have me:Hid (r.ownsRow bz 154 3 (.slice none 0 0) ([]:List fu).length (pS [])):=Zz (World.ownsRow_nil _ _ _ _);have zx:Hid (([]:List fu)=FZ S key (fun t=>cS (go S.data f t) S.data) (fun t=>eg (i1 S.data f (eg (fi S.data B t)) t)) q0 0/\q0=q0+([]:List fu).length):=Zz ⟨rfl,rfl⟩;have U3:=Zz (e_.zero S key (fun t=>cS (go S.data f t) S.data) (fun t=>i1 S.data f (eg (fi S.data B t)) t));have Jp:Hid (Kp (PT r bz sp p) r r):=Zz (Kp.refl _ _);have x7:=Z.o.c3;clear U1 x2 mc gM HV HB HS fw HR HA HM HL ay Jm tY
 go_upto_region 9 with fail
 clear x7
 go_loopw [6,7,8,32] (fun _ _ _ y3 wr=>∃(T:Nat) (cv:Value) (l:List fu) (q:Nat),T<=S.slots/\y3=.int .i64 T/\Hid (T=0\/lo=0)/\Hid (ab wr p 97 (i_ S (.slice G (S.data+2) cs) (.slice Am S.mem.length cm) cv))/\Hid (wr.ownsRow bz 154 3 cv l.length (pS l))/\Hid (ab wr sp 226 #[.int .u64 S.epoch,.int .u64 q])/\Hid (l=FZ S key (fun t=>cS (go S.data f t) S.data) (fun t=>eg (i1 S.data f (eg (fi S.data B t)) t)) q0 T/\q=q0+l.length) /\
  Hid (e_ S key (fun t=>cS (go S.data f t) S.data) (fun t=>i1 S.data f (eg (fi S.data B t)) t) T l)/\Hid (Kp (PT r bz sp p) r wr)/\Hid (T=0->Kp ac r wr)) (fun _ _ _ y3 _=>S.slots-(intOf y3).toNat)
 case atStart=>exact ⟨0,.slice none 0 0,[],q0,o_,rfl,Zz (.inl rfl),Z,me,x9,zx,U3,Jp,Zz fun _=>Kp.refl _ _⟩
 case round =>
  clear me zx U3 Jp;obtain ⟨T,cv,l,q,hT,rfl,L,x0,H9,y0,H,O,s,HZ⟩:=hrel;have H6:Hid (∀g2 t2 N,ab r g2 t2 N->t2≠226->t2≠97->t2≠154->¬PT r bz sp p g2):=Zz fun g2 t2 N I m h3 h4=>AQ I x9.o Z.o m h3 h4;have h1:=Zz (Jn.o.kp s.o (H6.o _ _ _ Jn.o d_ d_ d_));have H3:=Zz (qZ.o.kp s.o (H6.o _ _ _ qZ.o d_ d_ d_));have y6:=Zz (nQ.o.kp s.o (H6.o _ _ _ nQ.o d_ d_ d_));have xD:=Zz (lk.o.kp s.o (xm lk.o x9.o Z.o));have y4:=Zz (Ig.o.kp s.o (xm Ig.o x9.o Z.o))
  have H5:∀ {base e size k:Nat} {v:Value} {xs:List Value},r.ownsRow base e size v k xs->e≠226->e≠97->e≠154->∀q,v.ownBlock=some q->¬PT r bz sp p q:=fun Q I m h3 q a=>by
   obtain ⟨N,h7⟩:=fj Q a;exact H6.o _ _ _ h7 I m h3
  have h2:=Zz (nS.o.kp s.o (H5 nS.o.seats d_ d_ d_) (H5 nS.o.mems d_ d_ d_));have qI:=Zz (fR.o.kp s.o (H5 fR.o.seats d_ d_ d_) (H5 fR.o.mems d_ d_ d_))
  have h9:=Zz (a8.o.kp s.o fun g2 hg P=>by
   obtain ⟨t2,N,h7,D⟩:=a8.o.ty P
   exact H6.o _ _ _ h7 (fun e=>by rw[e] at D;exact absurd D (by unfold ci;decide)) (fun e=>by rw[e] at D;exact absurd D (by unfold ci;decide)) (fun e=>by rw[e] at D;exact absurd D (by unfold ci;decide)) hg)
  have A:=Zz (kz.o.kp s.o fun g2 h6 hg=>by
   have:=x3.o
   rcases hg with e|e|⟨bn,_⟩<;>omega)
  have Di:10<=wr.heap.size:=by have:=s.o.size;omega
  have rE:Hid (bz<=wr.heap.size):=Zz (by have:=s.o.size;have:=x3.o;omega);clear H5;by_cases V:T<S.slots
  ·have bL:(T:Int)<(S.slots:Int):=o_
   have jV:=Zz (Lt A.o h1.o H3.o h2.o.reads o.o.ok V y4.o (eg (fi S.data B T)) (i7 S σ) (U0.o T V) (by rw[kO,w_I];omega) (by rw[kO,w_I];omega) fun W u k hu=>Zc (A.o.no k) (h9.o.no k) (by have:=k.size;omega) hk o.o V u hu);rw[eQ] at jV;go_wp2_with fail;refine jV.o.mono ?_;rintro e x8 ⟨u,er,rfl,z,bw⟩;have aB:=Zz (w_D s.o z fun _ h=>h.elim);have mq:=Zz (x0.o.kp z fun h=>h);have Js:=Zz (dL H9.o z fun _ _ h=>h);have Jt:=Zz (y0.o.kp z fun h=>h);have QK:=Zz (h1.o.kp z fun h=>h);have dW:=Zz (H3.o.kp z fun h=>h);have pa:=Zz (h2.o.no z);have bA:=Zz (h9.o.no z);have vK:=Zz (A.o.no z)
   have Nk:10<=x8.heap.size:=by have:=z.size;omega
   have QL:Hid (bz<=x8.heap.size):=Zz (by have:=z.size;have:=rE.o;omega);have eI:Hid (T<S.slots):=Zz V;have cT:Hid (Kp ac wr x8):=Zz z;clear z jV h1 H3 y6 xD y4 h2 qI h9 A x0 H9 y0;rcases bw with ⟨hn,rfl,rfl⟩|⟨H1,H4,aD,y2,rfl⟩|⟨H1,H4,rfl,Q⟩
   ·have U:lo=0:=by
     rcases L.o with h|h
     ·rcases ng.o with m|m
      ·exact m
      rw[h] at hn;omega
     exact h
    have Pg:=Zz (O.o.skip hn);have vE:Hid (T+1=0->Kp ac r x8):=Zz fun h=>o_;have xX:Hid (T+1=0\/lo=0):=Zz (.inr U);have FO:Hid (l=FZ S key (fun t=>cS (go S.data f t) S.data) (fun t=>eg (i1 S.data f (eg (fi S.data B t)) t)) q0 (T+1)/\q=q0+l.length):=Zz ⟨by unfold FZ;rw[if_pos hn];exact H.o.1,H.o.2⟩;clear hn U;go_wp2;go_roundw
    case rel=>exact ⟨T+1,cv,l,q,o_,by go_num,xX,mq,Js,Jt,FO,Pg,aB,vE⟩
    case measure=>simp[intOf];omega
   ·have xM:T=0:=L.o.resolve_right aD
    have y2:=y2.symm;subst y2;have zN:lo=24:=nA.o.resolve_left aD;have rx:=Zz ((d.o.trans (HZ.o xM)).trans cT.o);subst zN;clear H1 H4 aD;go_wp2;go_ret;exact ⟨rfl,fun _=>rx.o,fun h=>absurd h d_⟩
   have U:lo=0:=by
    rcases L.o with h|h
    ·rcases ng.o with m|m
     ·exact m
     rw[h] at H1 H4;exact H4.resolve_left o_
    exact h
   have QM:=Zz U;obtain ⟨Au,cu,rfl⟩:=lM Q
   have X:(eg (i1 S.data f (eg (fi S.data B T)) T)).length=S.data+2:=by rw[kO,x_6]
   have fk:=O.o.hl' o.o.ok hT
   have y5:=Zz (put_any (p:=p) (bz:=bz) (cv:=cv) (l:=l) (q0:=q) (C:=eg (i1 S.data f (eg (fi S.data B T)) T)) (base0:=0) vK.o Nk bA.o dW.o Jt.o (pa.o.more (Nat.zero_le _)) o.o.ok o.o.len hk V mq.o Js.o Jo QL.o mY (by have:=x3.o;omega) (Q.more (Nat.zero_le _)) X (fun c h8=>by
    rw[X] at h8
    exact Oj (by rw[x_6];omega) (by rw[x_6];omega) (fun j H0=>by
     rw[x_6] at H0
     have e:tl (i1 S.data f (eg (fi S.data B T)) T) j=Ga S.data f (eg (fi S.data B T)) T j:=by
      unfold i1 tl;rw[be,gq,pB H0];rfl
     rw[e]
     exact U0.o T V j H0) c (by rw[x_6];exact h8)) (by have:=H.o.2;omega) fk)
   rw[cN,X] at y5 ⊢;have jc:=Zz H1;have Y:=QK.o.c3;clear Q X fk H1 H4 U;go_wp2_with fail;refine y5.o.mono ?_;rintro e H8 ⟨rfl,Lo,l2,q',U4,Ju,tF,y9,vy,aI⟩;have bH:=Zz (w_D aB.o aI fun _ h=>h);have fM:=Zz U4;have QO:=Zz Ju;have wN:=Zz tF;have BG:=Zz (O.o.put jc.o vy)
   have uE:Hid (l++l2=FZ S key (fun t=>cS (go S.data f t) S.data) (fun t=>eg (i1 S.data f (eg (fi S.data B t)) t)) q0 (T+1)/\q'=q0+(l++l2).length):=Zz (by
    obtain ⟨I,m⟩:=H.o;refine ⟨?_,by rw[y9.2,m,cd];omega⟩;have hn:=jc.o;unfold FZ
    rw[if_neg o_,<-I,<-m,<-y9.1])
   have y8:Hid (T+1=0->Kp ac r H8):=Zz fun h=>o_
   have ta:Hid (T+1=0\/lo=0):=Zz (.inr (by
    rcases L.o with h|h
    ·rcases ng.o with m|m
     ·exact m
     exact QM.o
    exact h))
   clear U4 Ju tF y9 vy aI Y y5;go_wp2;go_roundw
   case rel=>exact ⟨T+1,Lo,l++l2,q',o_,by go_num,ta,fM,QO,wN,uE,BG,bH,y8⟩
   case measure=>simp[intOf];omega
  obtain rfl:T=S.slots:=o_;have U:lo=0:=L.o.resolve_left o_;subst U;obtain ⟨y1,cc,rfl⟩:=lM H9.o;have tI:=QJ.o rfl;have jb:=Zz s.o.drew;have ov:=Zz (A.o.no (Kp.refl ac wr).drew);have x5:=Zz (h9.o.no (Kp.refl ac wr).drew);have x1:=Zz h1.o.drew;have x6:=Zz H3.o.drew;have iC:=Zz y0.o.drew;have x4:=Zz y6.o.drew;have E:=Zz x0.o.drew;have dU:=Zz (h2.o.no (Kp.refl ac wr).drew);have Jv:=Zz (qI.o.no (Kp.refl ac wr).drew);have H2:=Zz (xD.o.no (Kp.refl ac wr).drew);have Jw:Hid (wr.drew.ownsRow bz 154 3 (.slice y1 l.length cc) l.length (pS l)):=H9;have Lr:10<=wr.drew.heap.size:=Di;have BI:=Zz tI;clear s A h9 h1 H3 y0 y6 x0 h2 qI xD H9 y4 tI
  go_upto_region 17 with fail
  refine fs ?_;generalize wr.drew=H8 at *;have Y:=x1.o.c3;have p0:=E.o.c0;have p1:=E.o.c1;have p2:=E.o.c2;have x7:=E.o.c3;have p4:=E.o.c4;have p5:=E.o.c5;have p6:=E.o.c6;have p7:=E.o.c7;have p8:=E.o.c8;have p9:=E.o.c9;have rp:=E.o.c10;refine fp 0 ?_;refine fp 1 ?_;refine fp 2 ?_;refine cw 3 Y ?_;refine fq 4 (fun W=>W.cell? ⟨p,0,none⟩=some (.int .u64 S.count)/\W.cell? ⟨p,1,none⟩=some (.int .u64 S.epoch)/\W.cell? ⟨p,2,none⟩=some (.int .i64 S.data)/\W.cell? ⟨p,3,none⟩=some (.int .i64 S.slots)/\W.cell? ⟨p,4,none⟩=some (.int .i64 0)/\W.cell? ⟨p,5,none⟩=some (.int .i64 0)/\W.cell? ⟨p,6,none⟩=some (.bool false)/\W.cell? ⟨p,7,none⟩=some (.slice G (S.data+2) cs)/\W.cell? ⟨p,8,none⟩=some (.slice Am S.mem.length cm)/\W.cell? ⟨p,9,none⟩=some (.slice none 0 0)/\W.cell? ⟨p,10,none⟩=some (.slice y1 l.length cc)) ⟨p0,p1,p2,x7,p4,p5,p6,p7,p8,p9,rp⟩ ?_;refine fd 5 fun K Qx hK=>?_;go_simp;have xe:=JK (n:=n) ov.o x5.o Lr hk x6.o dU.o.reads o.o.ok hc o.o.len (.slice G (S.data+2) cs) (.slice Am S.mem.length cm) (.slice y1 l.length cc) Jv.o.reads l bz Jw.o (O.o.hl o.o.ok) (fun x hx=>by rw[<-o.o.len];exact O.o.hld o.o.ok x hx) x4.o Jl Jk ch o.o.csz (O.o.hlc o.o.ok ik y7.o) o.o.htop (fun j H0=>by rw[(o.o.dk j H0).wait];exact Nat.zero_le _) (o.o.alive BI.o) (by rw[QH S σ n _ (by have:=o.o.len;have:=o.o.ok.n1;omega)];exact BI.o);refine xe.mono ?_;rintro e w8 ⟨rfl,bN,bX,U5,U6,Gf,F',Jx,U7,h5⟩
  have aW:∀g2 t2 N,ab H8 g2 t2 N->¬ci t2->t2≠180->t2≠116->¬(F g2\/g2=an\/g2=st):=fun g2 t2 N I m h3 h4 a=>by
   rcases a with a|rfl|rfl
   ·exact x5.o.off I m a
   ·exact ab.ne_ I x4.o h3 rfl
   exact ab.ne_ I x6.o h4 rfl
  have fZ:=Zz (x1.o.kp h5 (aW _ _ _ x1.o (by unfold ci;decide) d_ d_));have Jy:=Zz (iC.o.kp h5 (aW _ _ _ iC.o (by unfold ci;decide) d_ d_))
  have R:=Zz (H2.o.kp h5 fun a=>by
   rcases a with a|e|e
   ·exact x5.o.offMap H2.o a
   ·exact H2.o.ne_blk x4.o e
   exact H2.o.ne_blk x6.o e)
  have n9:=Zz U5;have r8:=Zz U6;have ll:=Zz Gf;have Lc:=Zz Jx;have ew:=Zz U7;have bp:Hid (Kp (fun x=>F x\/x=an\/x=st) H8 w8):=Zz h5;refine hK _ _ (oW (oW oN)) ?_;clear hK K Y p0 p1 p2 x7 p4 p5 p6 p7 p8 p9 rp xe U5 U6 Gf Jx U7 h5 aW ov x5 x1 x6 iC x4 E dU Jv H2 Jw;refine fp 6 ?_;refine fe ?_;have c4:=fZ.o.c4;obtain ⟨w9,cH,U8,M⟩:=R.o.clear Bq 0;have PU:=Zz (fZ.o.kp M fun e=>(R.o.ne_blk fZ.o) e.symm);have jg:=Zz (n9.o.kp M fun e=>(R.o.ne_blk n9.o) e.symm);have NF:=Zz (ll.o.kp M fun e=>(R.o.ne_blk ll.o) e.symm);have QP:=Zz (Jy.o.kp M fun e=>(R.o.ne_blk Jy.o) e.symm)
  have tJ:∀ {base e size k:Nat} {v:Value} {xs:List Value},w8.ownsRow base e size v k xs->∀q,v.ownBlock=some q->¬q=g:=fun Q q a e=>by
   obtain ⟨N,h7⟩:=fj Q a;exact R.o.ne_blk h7 e.symm
  have ny:=Zz (r8.o.kp M (tJ r8.o.seats) (tJ r8.o.mems))
  have gL:=Zz (ew.o.kp M fun q e P=>by
   have e:q=g:=e;subst e
   exact ew.o.offMap R.o P)
  have ge:=Zz U8;have bR:Hid (H7.heap.size<=H8.heap.size):=Zz (cL d.o.size jb.o.size)
  have rx:Hid (Kp (SyF F an st sp g) H7 w9):=Zz ((((d.o.mono fun _ _ h=>h.elim).then jb.o fun q a h=>by
   have:=x3.o;rcases h with e|e|⟨e,_⟩
   ·exact .inr (.inr (.inr (.inl e)))
   ·omega
   ·omega).then bp.o fun q _ h=>by
   rcases h with e|e|e
   ·exact .inl e
   ·exact .inr (.inl e)
   exact .inr (.inr (.inl e))).then M fun q _ e=>.inr (.inr (.inr (.inr e))))
  clear U8 M tJ;go_wp2;go_ret;exact ⟨rfl,fun h=>absurd rfl h,fun _=>⟨l,q,bN,bX,F',O.o,PU.o,jg.o,ny.o.more bR.o,NF.o,(Gr.refl _ F).then Lc.o bR.o,gL.o,ge.o,QP.o,H.o,rx.o⟩⟩
end
structure StW (w0 W:W_) (v b an st sp g P2 P3:Nat) (key:List UInt8) (S:cj) (vs vm bN bX:Value) (f:Nat->Option B_) (dom:List Nat):Prop where
 l:a_ W
 v:ab W v 88 (i3 b an key (some ⟨st,0,none⟩) (some g))
 s:ab W st 116 (gU b an key S vs vm sp)
 m:aS KI W g (dg f) dom
 p:ab W P3 60 (dK S bN bX)
 r:ab W P2 51 #[.bool false,.bool false,.int .i64 0,.int .i64 0,.int .i64 0,.int .i64 0,.int .i64 0,.bool false,.slice none 0 0]
 o:bg W w0.heap.size S bN bX
 k:Kp ac w0 W
 z:w0.heap.size<=P2
def StW.no {w0 W j:W_} {e i:Nat} {l m:Value} (h:StW w0 W v b an st sp g e i key S vs vm l m f dom) (k:Kp ac W j):StW w0 j v b an st sp g e i key S vs vm l m f dom :=
 ⟨h.l.no k,h.v.kp k fun h=>h,h.s.kp k fun h=>h,h.m.no k,h.p.kp k fun h=>h,h.r.kp k fun h=>h,h.o.no k,h.k.trans k,h.z⟩
def StW.kpN {w0 W o:W_} {j m i:Nat} {r s:Value} {cs:Array Value} (h:StW w0 W v b an st sp g j m key S vs vm r s f dom) (hb:ab W i 51 cs) (a:6<=i) (x:i≠j) (c:w0.heap.size<=i) (k:Kp (fun q=>q=i) W o):StW w0 o v b an st sp g j m key S vs vm r s f dom:=by
 have p:∀ {base e size n:Nat} {u:Value} {z:List Value},W.ownsRow base e size u n z->e≠51->∀q,u.ownBlock=some q->¬q=i:=fun y t q l e=>hH y hb t (l.trans (congrArg some e));refine ⟨h.l.kp k fun q l e=>(by have e:q=i:=e;omega),h.v.kp k fun e=>ab.ne_ h.v hb d_ e,h.s.kp k fun e=>ab.ne_ h.s hb d_ e,h.m.kp k fun e=>h.m.ne_blk hb e,h.p.kp k fun e=>ab.ne_ h.p hb d_ e,h.r.kp k fun e=>x e.symm,h.o.kp k (p h.o.seats d_) (p h.o.mems d_),h.k.then k fun q l e=>(by have e:q=i:=e;omega:False),h.z⟩
def infoST:(prog.info? 106).map (fun i=>(i.zero,i.size,i.bytes))=some (some (.int .i64 0),1,8):=k_
section
variable {base0:Nat} 
def Cg (hL:a_ w) (hw:10<=w.heap.size) (hv:ab w v 88 (i3 b an key (some ⟨st,0,none⟩) (some g))) (hs:ab w st 116 (gU b an key S vs vm sp)) (hR:ja w S vs vm) (F:a7 S) (hM:aS KI w g (dg f) dom) :
  Cl 14 #[.pointer (some ⟨v,0,none⟩)] w fun e w'=>∃(A:Option Addr) (k c:Nat),e=.returned (.agg #[.bool true,.bool false,.int .i64 (S.slots*S.data:Nat),.int .i64 (dom.length:Nat),.int .i64 S.data,.int .i64 0,.int .i64 0,.bool false,.slice A k c])/\Kp ac w w':=by
 have iJ:pJ S.data S.slots:=⟨F.d2,by have:=F.d8;omega,F.sl⟩;have h9:=Zz (fun W (l:a_ W)=>kF W l S.data S.slots iJ);obtain ⟨x,jw⟩:∃q,S.slots*S.data=q:=⟨_,rfl⟩;rw[jw] at h9 ⊢;clear jw;have z:=(Kp.refl ac w).alloc (.cells #[.bool false,.bool false,.int .i64 0,.int .i64 0,.int .i64 0,.int .i64 0,.int .i64 0,.bool false,.slice none 0 0] 51);have nZ:=Zz (z_ao (hs.kp z fun h=>h) (hR.no z) F);have y1:=Zz (hv.kp z fun h=>h);have ya:=Zz (hs.kp z fun h=>h);have dG:=Zz (hM.no z);have gX:=Zz (hL.no z);have H5:=Zz (ab.new w 51 #[.bool false,.bool false,.int .i64 0,.int .i64 0,.int .i64 0,.int .i64 0,.int .i64 0,.bool false,.slice none 0 0]);have x1:=Zz z;have cE:=F.n12;have aJ:=fun i h=>F.st2 i h;have jc:Hid (0<S.mem.length):=Zz (by have:=F.n1;omega);clear hL hv hs hR F hM z iJ;go_enter func14,ntmps14
 go_upto_region 1 with fail
 generalize w.alloc (.cells #[.bool false,.bool false,.int .i64 0,.int .i64 0,.int .i64 0,.int .i64 0,.int .i64 0,.bool false,.slice none 0 0] 51)=w1 at *;have h8:=y1.o.c3;obtain ⟨t,x8⟩:∃t,w.heap.size=t:=⟨_,rfl⟩;rw[x8] at H5 hw ⊢;have h0:=Zz x8;clear x8;go_wp2_with fail;refine nZ.o.mono ?_;rintro e X ⟨H3,H4,rfl,x4,C⟩;obtain ⟨h6,cs,Am,cm,cI,bU⟩:=x4.reads.shape
 have qz:Hid (StW w (X.alloc (.cells (dK S H3 H4) 60)) v b an st sp g t X.heap.size key S vs vm H3 H4 f dom):=Zz (by
  have O:=(Kp.refl ac X).alloc (.cells (dK S H3 H4) 60)
  exact ⟨(gX.o.no C).no O,(y1.o.kp C fun h=>h).kp O fun h=>h,(ya.o.kp C fun h=>h).kp O fun h=>h,(dG.o.no C).no O,ab.new X 60 (dK S H3 H4),(H5.o.kp C fun h=>h).kp O fun h=>h,(x4.no O).more (by have:=x1.o.size;omega),(x1.o.trans C).trans O,by have:=h0.o;omega⟩)
 have fx:Hid (t<X.heap.size):=Zz (H5.o.kp C fun h=>h).lt;subst cI bU;clear h8 nZ y1 ya dG gX H5 x1 C x4;rw[show dK S (.slice h6 (S.data+2) cs) (.slice Am S.mem.length cm)=#[.int .u64 S.count,.int .u64 S.epoch,.int .i64 S.data,.int .i64 S.slots,.int .i64 0,.int .i64 0,.bool false,.slice h6 (S.data+2) cs,.slice Am S.mem.length cm] from rfl]
 go_upto_region 4 with fail
 change Code.wp _ _ _ _ (X.alloc (.cells (dK S (.slice h6 (S.data+2) cs) (.slice Am S.mem.length cm)) 60));have bR:Hid (t<(X.alloc (.cells (dK S (.slice h6 (S.data+2) cs) (.slice Am S.mem.length cm)) 60)).heap.size):=Zz (by have:=fx.o;simp;omega);generalize X.alloc (.cells (dK S (.slice h6 (S.data+2) cs) (.slice Am S.mem.length cm)) 60)=y0 at *;generalize X.heap.size=P3 at *
 go_cut [4] (fun s4 wx=>∃o,s4=.pointer (some ⟨o,0,none⟩)/\Hid (ab wx o 51 #[.bool true,.bool false,.int .i64 x,.int .i64 (dom.length:Nat),.int .i64 S.data,.int .i64 0,.int .i64 0,.bool false,.slice none 0 0]/\o≠t/\w.heap.size<=o)/\Hid (StW w wx v b an st sp g t P3 key S vs vm (.slice h6 (S.data+2) cs) (.slice Am S.mem.length cm) f dom))
 case first =>
  have M:=Zz (qz.o.no (Kp.refl ac y0).drew);have yU:Hid (t<y0.drew.heap.size):=bR;clear qz;refine fs ?_;generalize y0.drew=J at *;have h8:=M.o.v.c3;have y8:=M.o.v.c4;have p2:=M.o.p.c2;have p4:=M.o.p.c4;have p5:=M.o.p.c5;have p6:=M.o.p.c6;refine fp 0 ?_;refine fp 1 ?_;refine fp 2 ?_;refine cw 3 h8 ?_;refine fp 5 ?_;refine fp 6 ?_;refine fp 7 ?_;refine cw 8 h8 ?_;refine fp 11 ?_;refine fp 12 ?_;refine fp 13 ?_;refine cw 14 y8 ?_;refine fp 16 ?_;refine cw 17 p2 ?_;refine fp 18 ?_;refine cw 19 p4 ?_;refine fp 20 ?_;refine cw 21 p5 ?_;refine fp 22 ?_;refine cw 23 p6 ?_;clear h8 y8 p2 p4 p5 p6;refine v_p 4 25 k_ ?_ ?_
  ·refine C9 4 rfl (fun K d j=>?_)
   go_simp;refine (ma M.o.s).mono ?_;rintro e H1 ⟨rfl,L⟩;have L:=L.symm;subst L;have E:=M;refine j _ _ (oK (E.o.p.cell 6) (oK (E.o.p.cell 5) (oK (E.o.p.cell 4) (oK (E.o.p.cell 2) (oK (E.o.v.cell 4) (oK (E.o.v.cell 3) (oK (E.o.v.cell 3) oN))))))) ?_;clear j K;refine v_p 9 25 k_ ?_ ?_
   ·refine C9 9 rfl (fun K d j=>?_)
    go_simp;refine (x_b E.o.s).mono ?_;rintro e H ⟨rfl,mt⟩;have G:=Zz (E.o.no mt);refine j _ _ (oK (G.o.p.cell 6) (oK (G.o.p.cell 5) (oK (G.o.p.cell 4) (oK (G.o.p.cell 2) (oK (G.o.v.cell 4) (oK (G.o.v.cell 3) (oK (G.o.v.cell 3) oN))))))) ?_;clear j K;refine v_p 10 25 k_ ?_ ?_
    ·refine C9 10 rfl (fun K d j=>?_)
     go_simp;refine (h9.o _ G.o.l).mono ?_;rintro e Y ⟨rfl,mt⟩;have I:=Zz (G.o.no mt);refine j _ _ (oK (I.o.p.cell 6) (oK (I.o.p.cell 5) (oK (I.o.p.cell 4) (oK (I.o.p.cell 2) (oK (I.o.v.cell 4) (oK (I.o.v.cell 3) (oK (I.o.v.cell 3) oN))))))) ?_;clear j K;have N:=fun y=>I.o.m.len Bq y;refine w_h 15 (fun W=>aS KI W g (dg f) dom) rfl rfl k_ k_ I.o.m (fun K j=>?_);go_simp;refine j _ (fun W h1=>by have N:=fun y=>h1.len Bq y;go_simp) ?_;clear j K N;refine fp 24 ?_;refine fd 25 fun K d j=>?_;go_simp;have Z:=Zz (I.o.no ((Kp.refl ac Y).alloc (.cells #[.bool false,.bool false,.int .i64 0,.int .i64 0,.int .i64 0,.int .i64 0,.int .i64 0,.bool false,.slice none 0 0] 51)));have n:=Zz (ab.new Y 51 #[.bool false,.bool false,.int .i64 0,.int .i64 0,.int .i64 0,.int .i64 0,.int .i64 0,.bool false,.slice none 0 0]);have r:Hid (Y.heap.size≠t/\w.heap.size<=Y.heap.size):=Zz ⟨by have:=(I.o.r).lt;omega,I.o.k.size⟩;refine j _ _ (oK Z.o.m (oK (Z.o.p.cell 6) (oK (Z.o.p.cell 5) (oK (Z.o.p.cell 4) (oK (Z.o.p.cell 2) (oK (Z.o.v.cell 4) (oK (Z.o.v.cell 3) (oK (Z.o.v.cell 3) oN)))))))) ?_;clear j K;generalize Y.alloc (.cells #[.bool false,.bool false,.int .i64 0,.int .i64 0,.int .i64 0,.int .i64 0,.int .i64 0,.bool false,.slice none 0 0] 51)=wz at *;generalize Y.heap.size=o at *;refine x_1 26 rfl rfl k_ 51 (.tmp 4) (.tmp 46) rfl o #[.bool true,.bool false,.int .i64 x,.int .i64 (dom.length:Nat),.int .i64 S.data,.int .i64 0,.int .i64 0,.bool false,.slice none 0 0] rfl rfl 51 _ n.o k_ rfl (by simp[Value.oneCell']) ⟨(oW (oW (oW (oW (oW (oW (oW (oW oN)))))))),?_⟩;refine fe ?_;have Q:=Zz (n.o.setRow (cs':=#[.bool true,.bool false,.int .i64 x,.int .i64 (dom.length:Nat),.int .i64 S.data,.int .i64 0,.int .i64 0,.bool false,.slice none 0 0]));have h2:=Zz (Z.o.kpN n.o (by have:=r.o.2;have:=h0.o;omega) r.o.1 r.o.2 ((Kp.refl (fun q=>q=o) _).setRow o #[.bool true,.bool false,.int .i64 x,.int .i64 (dom.length:Nat),.int .i64 S.data,.int .i64 0,.int .i64 0,.bool false,.slice none 0 0] (.inl rfl)));go_wp2_with fail
     go_meet
     exact ⟨o,rfl,Zz ⟨Q.o,r.o.1,r.o.2⟩,h2⟩
    refine C9 25 rfl (fun K d j=>?_);go_simp;have R:=Zz (G.o.no ((Kp.refl ac H).alloc (.cells #[.bool false,.bool false,.int .i64 0,.int .i64 0,.int .i64 0,.int .i64 0,.int .i64 0,.bool false,.slice none 0 0] 51)));have n:=Zz (ab.new H 51 #[.bool false,.bool false,.int .i64 0,.int .i64 0,.int .i64 0,.int .i64 0,.int .i64 0,.bool false,.slice none 0 0]);have r:Hid (H.heap.size≠t/\w.heap.size<=H.heap.size):=Zz ⟨by have:=(G.o.r).lt;omega,G.o.k.size⟩;refine j _ _ (oK (R.o.p.cell 6) (oK (R.o.p.cell 5) (oK (R.o.p.cell 4) (oK (R.o.p.cell 2) (oK (R.o.v.cell 4) (oK (R.o.v.cell 3) (oK (R.o.v.cell 3) oN))))))) ?_;clear j K;generalize H.alloc (.cells #[.bool false,.bool false,.int .i64 0,.int .i64 0,.int .i64 0,.int .i64 0,.int .i64 0,.bool false,.slice none 0 0] 51)=Y at *;generalize H.heap.size=o at *;refine fd 10 fun K d j=>?_;go_simp;refine (h9.o _ R.o.l).mono ?_;rintro e h4 ⟨rfl,mt⟩;have p:=Zz (R.o.no mt);have n:=Zz (n.o.kp mt fun h=>h);refine j _ _ (oK (p.o.p.cell 6) (oK (p.o.p.cell 5) (oK (p.o.p.cell 4) (oK (p.o.p.cell 2) (oK (p.o.v.cell 4) (oK (p.o.v.cell 3) (oK (p.o.v.cell 3) oN))))))) ?_;clear j K;have N:=fun y=>p.o.m.len Bq y;refine w_h 15 (fun W=>aS KI W g (dg f) dom) rfl rfl k_ k_ p.o.m (fun K j=>?_);go_simp;refine j _ (fun W h1=>by have N:=fun y=>h1.len Bq y;go_simp) ?_;clear j K N;refine fp 24 ?_;refine x_1 26 rfl rfl k_ 51 (.tmp 4) (.tmp 46) rfl o #[.bool true,.bool false,.int .i64 x,.int .i64 (dom.length:Nat),.int .i64 S.data,.int .i64 0,.int .i64 0,.bool false,.slice none 0 0] rfl rfl 51 _ n.o k_ rfl (by simp[Value.oneCell']) ⟨(oW (oW (oW (oW (oW (oW (oW (oW oN)))))))),?_⟩;refine fe ?_;have Q:=Zz (n.o.setRow (cs':=#[.bool true,.bool false,.int .i64 x,.int .i64 (dom.length:Nat),.int .i64 S.data,.int .i64 0,.int .i64 0,.bool false,.slice none 0 0]));have h2:=Zz (p.o.kpN n.o (by have:=r.o.2;have:=h0.o;omega) r.o.1 r.o.2 ((Kp.refl (fun q=>q=o) _).setRow o #[.bool true,.bool false,.int .i64 x,.int .i64 (dom.length:Nat),.int .i64 S.data,.int .i64 0,.int .i64 0,.bool false,.slice none 0 0] (.inl rfl)));go_wp2_with fail
    go_meet
    exact ⟨o,rfl,Zz ⟨Q.o,r.o.1,r.o.2⟩,h2⟩
   refine C9 25 rfl (fun K d j=>?_);go_simp;have T:=Zz (E.o.no ((Kp.refl ac J).alloc (.cells #[.bool false,.bool false,.int .i64 0,.int .i64 0,.int .i64 0,.int .i64 0,.int .i64 0,.bool false,.slice none 0 0] 51)));have n:=Zz (ab.new J 51 #[.bool false,.bool false,.int .i64 0,.int .i64 0,.int .i64 0,.int .i64 0,.int .i64 0,.bool false,.slice none 0 0]);have r:Hid (J.heap.size≠t/\w.heap.size<=J.heap.size):=Zz ⟨by have:=(E.o.r).lt;omega,E.o.k.size⟩;refine j _ _ (oK (T.o.p.cell 6) (oK (T.o.p.cell 5) (oK (T.o.p.cell 4) (oK (T.o.p.cell 2) (oK (T.o.v.cell 4) (oK (T.o.v.cell 3) (oK (T.o.v.cell 3) oN))))))) ?_;clear j K;generalize J.alloc (.cells #[.bool false,.bool false,.int .i64 0,.int .i64 0,.int .i64 0,.int .i64 0,.int .i64 0,.bool false,.slice none 0 0] 51)=H at *;generalize J.heap.size=o at *;refine fd 9 fun K d j=>?_;go_simp;refine (x_b T.o.s).mono ?_;rintro e Y ⟨rfl,mt⟩;have s:=Zz (T.o.no mt);have n:=Zz (n.o.kp mt fun h=>h);refine j _ _ (oK (s.o.p.cell 6) (oK (s.o.p.cell 5) (oK (s.o.p.cell 4) (oK (s.o.p.cell 2) (oK (s.o.v.cell 4) (oK (s.o.v.cell 3) (oK (s.o.v.cell 3) oN))))))) ?_;clear j K;refine fd 10 fun K d j=>?_;go_simp;refine (h9.o _ s.o.l).mono ?_;rintro e h4 ⟨rfl,mt⟩;have p:=Zz (s.o.no mt);have n:=Zz (n.o.kp mt fun h=>h);refine j _ _ (oK (p.o.p.cell 6) (oK (p.o.p.cell 5) (oK (p.o.p.cell 4) (oK (p.o.p.cell 2) (oK (p.o.v.cell 4) (oK (p.o.v.cell 3) (oK (p.o.v.cell 3) oN))))))) ?_;clear j K;have N:=fun y=>p.o.m.len Bq y;refine w_h 15 (fun W=>aS KI W g (dg f) dom) rfl rfl k_ k_ p.o.m (fun K j=>?_);go_simp;refine j _ (fun W h1=>by have N:=fun y=>h1.len Bq y;go_simp) ?_;clear j K N;refine fp 24 ?_;refine x_1 26 rfl rfl k_ 51 (.tmp 4) (.tmp 46) rfl o #[.bool true,.bool false,.int .i64 x,.int .i64 (dom.length:Nat),.int .i64 S.data,.int .i64 0,.int .i64 0,.bool false,.slice none 0 0] rfl rfl 51 _ n.o k_ rfl (by simp[Value.oneCell']) ⟨(oW (oW (oW (oW (oW (oW (oW (oW oN)))))))),?_⟩;refine fe ?_;have Q:=Zz (n.o.setRow (cs':=#[.bool true,.bool false,.int .i64 x,.int .i64 (dom.length:Nat),.int .i64 S.data,.int .i64 0,.int .i64 0,.bool false,.slice none 0 0]));have h2:=Zz (p.o.kpN n.o (by have:=r.o.2;have:=h0.o;omega) r.o.1 r.o.2 ((Kp.refl (fun q=>q=o) _).setRow o #[.bool true,.bool false,.int .i64 x,.int .i64 (dom.length:Nat),.int .i64 S.data,.int .i64 0,.int .i64 0,.bool false,.slice none 0 0] (.inl rfl)));go_wp2_with fail
   go_meet
   exact ⟨o,rfl,Zz ⟨Q.o,r.o.1,r.o.2⟩,h2⟩
  refine C9 25 rfl (fun K d j=>?_);go_simp;have U:=Zz (M.o.no ((Kp.refl ac J).alloc (.cells #[.bool false,.bool false,.int .i64 0,.int .i64 0,.int .i64 0,.int .i64 0,.int .i64 0,.bool false,.slice none 0 0] 51)));have n:=Zz (ab.new J 51 #[.bool false,.bool false,.int .i64 0,.int .i64 0,.int .i64 0,.int .i64 0,.int .i64 0,.bool false,.slice none 0 0]);have r:Hid (J.heap.size≠t/\w.heap.size<=J.heap.size):=Zz ⟨by have:=(M.o.r).lt;omega,M.o.k.size⟩;refine j _ _ (oK (U.o.p.cell 6) (oK (U.o.p.cell 5) (oK (U.o.p.cell 4) (oK (U.o.p.cell 2) (oK (U.o.v.cell 4) (oK (U.o.v.cell 3) (oK (U.o.v.cell 3) oN))))))) ?_;clear j K;generalize J.alloc (.cells #[.bool false,.bool false,.int .i64 0,.int .i64 0,.int .i64 0,.int .i64 0,.int .i64 0,.bool false,.slice none 0 0] 51)=H1 at *;generalize J.heap.size=o at *;refine fd 4 fun K d j=>?_;go_simp;refine (ma U.o.s).mono ?_;rintro e H ⟨rfl,L⟩;have L:=L.symm;subst L;have V:=U;refine j _ _ (oK (V.o.p.cell 6) (oK (V.o.p.cell 5) (oK (V.o.p.cell 4) (oK (V.o.p.cell 2) (oK (V.o.v.cell 4) (oK (V.o.v.cell 3) (oK (V.o.v.cell 3) oN))))))) ?_;clear j K;refine fd 9 fun K d j=>?_;go_simp;refine (x_b V.o.s).mono ?_;rintro e Y ⟨rfl,mt⟩;have s:=Zz (V.o.no mt);have n:=Zz (n.o.kp mt fun h=>h);refine j _ _ (oK (s.o.p.cell 6) (oK (s.o.p.cell 5) (oK (s.o.p.cell 4) (oK (s.o.p.cell 2) (oK (s.o.v.cell 4) (oK (s.o.v.cell 3) (oK (s.o.v.cell 3) oN))))))) ?_;clear j K;refine fd 10 fun K d j=>?_;go_simp;refine (h9.o _ s.o.l).mono ?_;rintro e h4 ⟨rfl,mt⟩;have p:=Zz (s.o.no mt);have n:=Zz (n.o.kp mt fun h=>h);refine j _ _ (oK (p.o.p.cell 6) (oK (p.o.p.cell 5) (oK (p.o.p.cell 4) (oK (p.o.p.cell 2) (oK (p.o.v.cell 4) (oK (p.o.v.cell 3) (oK (p.o.v.cell 3) oN))))))) ?_;clear j K;have N:=fun y=>p.o.m.len Bq y;refine w_h 15 (fun W=>aS KI W g (dg f) dom) rfl rfl k_ k_ p.o.m (fun K j=>?_);go_simp;refine j _ (fun W h1=>by have N:=fun y=>h1.len Bq y;go_simp) ?_;clear j K N;refine fp 24 ?_;refine x_1 26 rfl rfl k_ 51 (.tmp 4) (.tmp 46) rfl o #[.bool true,.bool false,.int .i64 x,.int .i64 (dom.length:Nat),.int .i64 S.data,.int .i64 0,.int .i64 0,.bool false,.slice none 0 0] rfl rfl 51 _ n.o k_ rfl (by simp[Value.oneCell']) ⟨(oW (oW (oW (oW (oW (oW (oW (oW oN)))))))),?_⟩;refine fe ?_;have Q:=Zz (n.o.setRow (cs':=#[.bool true,.bool false,.int .i64 x,.int .i64 (dom.length:Nat),.int .i64 S.data,.int .i64 0,.int .i64 0,.bool false,.slice none 0 0]));have h2:=Zz (p.o.kpN n.o (by have:=r.o.2;have:=h0.o;omega) r.o.1 r.o.2 ((Kp.refl (fun q=>q=o) _).setRow o #[.bool true,.bool false,.int .i64 x,.int .i64 (dom.length:Nat),.int .i64 S.data,.int .i64 0,.int .i64 0,.bool false,.slice none 0 0] (.inl rfl)));go_wp2_with fail
  go_meet
  exact ⟨o,rfl,Zz ⟨Q.o,r.o.1,r.o.2⟩,h2⟩
 case rest =>
  obtain ⟨o,rfl,n,B⟩:=hcut;obtain ⟨P,mX,nB,_,_⟩:=LF B.o.o.mems jc.o;injection nB with mM lU Fn;subst mM Fn;have uj:Hid (Kp (fun q=>q=o) wc wc):=Zz (Kp.refl _ _);have dN:Hid (o≠t/\w.heap.size<=o/\6<=o):=Zz ⟨n.o.2.1,n.o.2.2,by have:=n.o.2.2;have:=h0.o;omega⟩
  have ul:Hid (P<wc.heap.size/\P≠o):=Zz (by
   obtain ⟨dj,y5⟩:=fj B.o.o.mems (q:=P) rfl
   exact ⟨y5.lt,ab.ne_ y5 n.o.1 d_⟩)
  have yP:Hid (∀i (h:i<S.mem.length),wc.cell? ⟨P,i*3,none⟩=some (.int .i64 ((S.mem[i]'h).st:Int))/\wc.cell? ⟨P,i*3+1,none⟩=some (.string (S.mem[i]'h).top)/\wc.cell? ⟨P,i*3+2,none⟩=some (.string (S.mem[i]'h).log)):=Zz fun i h=>by
   have O:=Re S.mem i h;exact ⟨(Ho B.o.o.mems (i*3) o_).trans O.1,(Ho B.o.o.mems (i*3+1) o_).trans O.2.1,(Ho B.o.o.mems (i*3+2) o_).trans O.2.2⟩
  have p8:=B.o.p.c8;have gR:Hid (aH wc wc.heap.size 106 (.slice none 0 0) []):=Zz (aH.nil_ wc wc.heap.size 106);have sr:=Zz n.o.1;have jI:=Zz n.o.1.lt;obtain ⟨m,hm⟩:∃m,S.mem.length=m:=⟨_,rfl⟩;have HM:=Zz hm;rw[hm] at p8 cE;clear n hm
  go_upto_region 6 with fail
  clear p8
  go_loopw [6,50] (fun _ y2 wr=>∃(i:Nat) (u:Value) (h5:List Value),i<=m/\y2=.int .i64 i/\Hid (ab wr o 51 #[.bool true,.bool false,.int .i64 x,.int .i64 (dom.length:Nat),.int .i64 S.data,.int .i64 0,.int .i64 0,.bool false,u])/\Hid (aH wr wc.heap.size 106 u h5)/\Hid (h5.length=i)/\Hid (Kp (fun q=>q=o) wc wr)) (fun _ y2 _=>m-(intOf y2).toNat)
  case atStart=>exact ⟨0,_,[],o_,rfl,sr,gR,Zz rfl,uj⟩
  case round =>
   clear sr gR uj;obtain ⟨i,u,h5,hi,rfl,n,H8,Lq,h7⟩:=hrel;by_cases af:i<m
   ·have bL:(i:Int)<(m:Int):=o_
    have H2:i<S.mem.length:=by rw[HM.o];exact af
    obtain ⟨z0,z1,z2⟩:=yP.o i H2;have H6:∀a:Addr,a.block=P->wr.cell? a=wc.cell? a:=fun a ha=>x_Y (by rw[ha];exact h7.o.block P ul.o.1 ul.o.2);have k0:=(H6 ⟨P,i*3,none⟩ rfl).trans z0;have k1:=(H6 ⟨P,i*3+1,none⟩ rfl).trans z1;have k2:=(H6 ⟨P,i*3+2,none⟩ rfl).trans z2;generalize (S.mem[i]'H2).st=a at *;generalize (S.mem[i]'H2).top=x9 at *;generalize (S.mem[i]'H2).log=lg at *;have dc:=Zz (ab.new wr 108 #[.int .i64 a,.string x9,.string lg]);have z:=(Kp.refl ac wr).alloc (.cells #[.int .i64 a,.string x9,.string lg] 108);have h3:=Zz (n.o.kp z fun h=>h);have H0:=Zz (H8.o.kp z fun _ _ h=>h);have y6:=Zz (h7.o.trans (z.mono fun _ _ h=>h.elim));clear z0 z1 z2 H6 z n H8 h7
    go_upto_region 8 with fail
    clear k0 k1 k2;generalize wr.alloc (.cells #[.int .i64 a,.string x9,.string lg] 108)=H1 at *;generalize wr.heap.size=D at *;have d0:=dc.o.c0;have n8:=h3.o.c8;have y4:wc.heap.size<=H1.heap.size:=y6.o.size;have x7:=Lq.o
    go_upto_region 9 with (at_builtin;refine Bp (w0:=H1) wc.heap.size rfl (.tmp 55) (.tmp 58) 49 106 (.int .i64 0) 8 rfl underlying49 infoST rfl d_ u h5 (.int .i64 a) rfl rfl rfl H0.o ((Below.refl _ _).mono y4) y4 o_ ?_;intro v1 h4 x6 hB hg bI;obtain ⟨H7,x3,rfl⟩:∃A c,v1=.slice A (i+1) c:=(by obtain ⟨A,c,e⟩:=x6.shape;exact ⟨A,c,by rw[e,cd,A_,x7]⟩);have p7:h4.cell? ⟨o,8,none⟩=some u:=(h3.o.grown hg (fun e=>vR H0.o h3.o d_ e)).cell 8;have f7:=(h3.o.grown hg (fun e=>vR H0.o h3.o d_ e)).frozen 8;have x2:=Zz x6;have y7:=Zz hg;clear x6 hg bI hB)
    have x0:Kp (fun q=>some q=u.ownBlock) H1 h4:=Kp.of_grown y7.o fun _ h=>h;have H9:=h3.o.kp x0 (vR H0.o h3.o d_);have x5:=(Kp.refl (fun q=>q=o) h4).setCell ⟨o,8,none⟩ (.slice H7 (i+1) x3) (.inl rfl);have Q:=Zz (H9.set_ 8 (.slice H7 (i+1) x3));have kI:=Zz (x2.o.kp x5 (nI x2.o H9 d_));have fm:=Zz ((y6.o.then x0 fun q hq h=>by have:=(iZ H0.o h.symm).1;omega).trans x5);have OR:Hid ((h5++[(.int .i64 a:Value)]).length=i+1):=Zz (by rw[cd,A_,x7]);clear x0 H9 x5 d0 n8 p7 f7 x2 y7 x7;generalize h4.setCell ⟨o,8,none⟩ (.slice H7 (i+1) x3)=bY at *;go_wp2;go_roundw
    case rel=>exact ⟨i+1,_,_,o_,by go_num,Q,kI,OR,fm⟩
    case measure=>simp[intOf];omega
   obtain rfl:i=m:=o_;obtain ⟨y3,y9,rfl⟩:=lM H8.o;have HR:=Zz (B.o.r.kp h7.o fun e=>dN.o.1 e.symm);have g9:Hid (Kp ac w wr):=Zz (B.o.k.then h7.o fun q hq e=>by have e:q=o:=e;have:=dN.o.2.1;omega);have n0:=n.o.c0;have n1:=n.o.c1;have n2:=n.o.c2;have n3:=n.o.c3;have n4:=n.o.c4;have n5:=n.o.c5;have n6:=n.o.c6;have n7:=n.o.c7;have n8:=n.o.c8
   go_wp2_with (refine wpList_store_row rfl 51 (.tmp 2) (.tmp 62) rfl t _ rfl rfl 51 _ HR.o k_ rfl (by simp[Value.oneCell']) ?_)
   have hZ:=HR.o.setRow (cs':=#[.bool true,.bool false,.int .i64 x,.int .i64 (dom.length:Nat),.int .i64 S.data,.int .i64 0,.int .i64 0,.bool false,.slice y3 h5.length y9]);have hk:=(Kp.refl (fun q=>q=t) wr).setRow t #[.bool true,.bool false,.int .i64 x,.int .i64 (dom.length:Nat),.int .i64 S.data,.int .i64 0,.int .i64 0,.bool false,.slice y3 h5.length y9] (.inl rfl);refine bodyPost_ret (x_s rfl rfl hZ underlying51 rfl k_) rfl ?_;exact ⟨_,_,_,rfl,g9.o.then hk fun q hq e=>(by have e:q=t:=e;have:=h0.o;omega:False)⟩
end
def oY (b v g:Nat) (kept:Value):Array Value:=#[.pointer (some ⟨b,0,none⟩),.pointer (some ⟨v,0,none⟩),kept,.map (some g)]
section
def pi (h:ab w p 81 (oY b v g kept)) :
  Cl 10 #[.pointer (some ⟨p,0,none⟩)] w fun e w'=>e=.returned (.pointer (some ⟨v,0,none⟩))/\w'=w:=by
 have i:=h.c1;clear h;go_enter func10,ntmps10;go_wp2;go_ret;exact ⟨rfl,rfl⟩
def wQ (h:ab w p 81 (oY b v g kept)) :
  Cl 20 #[.pointer (some ⟨p,0,none⟩)] w fun e w'=>e=.returned (.pointer (some ⟨b,0,none⟩))/\w'=w:=by
 have i:=h.c0;clear h;go_enter func20,ntmps20;go_wp2;go_ret;exact ⟨rfl,rfl⟩
end
section
variable {G c:Nat} {st:Int} {A:Nat->Nat} {Φ:Nat->Nat->Prop} {F:Nat->Prop} {f:Nat->Option Value} 
def xS (h:ab w p 81 (oY b v g kept)) (j:g_ w b n σ G c st A Φ) (i:Nat) (l:i<n) :
  Cl 31 #[.pointer (some ⟨p,0,none⟩),.int .i64 i] w fun e w'=>e=.returned (.tuple #[.pointer (some ⟨A i,0,none⟩),.int .i64 0])/\w'=w:=by
 have m:=h.c0;have k:=Zz (w_c j i l);clear h j;go_enter func31,ntmps31;go_wp2_with fail;refine k.o.mono ?_;rintro e o ⟨rfl,rfl⟩;go_wp2;go_ret2;exact ⟨rfl,rfl⟩
def RQ (h:ab w p 81 (oY b v g kept)) (hb:Bk w b n σ F) (i:Nat) (k:i<n) (Y:i<=1000) (hM:aS KI w g f dom) (J:dom.length<1000) :
  Cl 9 #[.pointer (some ⟨p,0,none⟩),.int .i64 i] w fun e w'=>e=.returned (.int .i64 0)/\aS KI w' g (lu f i (.bool true)) (e8 dom i)/\∃j,Gr w F j/\Bk w' b n (dY σ i (σ i).fail) j/\Kp (fun q=>F q\/q=g) w w':=by
 have W:=Zz (hb.off h (by unfold ci;decide));have V:=Zz (hb.offMap hM);obtain ⟨G,c,st,A,Φ,m,hF⟩:=hb;have P:=Zz (xS h m i k);have z:=Zz hF;have S:=Zz (HP (m.dk i k));have y:=Zz m;have R:=Zz h;have Q:=Zz hM;have U:=Zz J;clear h m hF hM J;go_enter func9,ntmps9;go_wp2_with fail;refine P.o.mono ?_;rintro e r ⟨rfl,rfl⟩;go_wp2_with fail;refine S.o.mono ?_;rintro e w3 ⟨rfl,Φ',hg,M,hk⟩;have o:Kp F r w3:=hk.mono fun q _ l=>(z.o q).2 (g_.sub k q l)
 have d:∃j,Gr r F j/\Bk w3 b n (dY σ i (σ i).fail) j :=
  ⟨_,fun q l u=>(z.o q).2 (y.o.gr k hg q l u),⟨G,c,st,A,_,y.o.step k hg M hk,fun _=>Iff.rfl⟩⟩
 have x:=Q.o.kp o V.o;have O:=R.o.kp o W.o;have X:=O.c3;obtain ⟨s,E,N,t⟩:=x.put sY sa (by have:=U.o;simp only[maxLen];omega) (a:=i) (show i<=100000 by omega) (.bool true);replace E:(Instr.mapUpdate 35 (.map (some g)) (.int .i64 i) (.bool true)).run prog w3=.ok () s:=E
 have HR:Hid (aS KI s g (lu f i (.bool true)) (e8 dom i)/\∃j,Gr r F j/\Bk s b n (dY σ i (σ i).fail) j/\Kp (fun q=>F q\/q=g) r s):=Zz (by
  obtain ⟨j,T,I⟩:=d;refine ⟨N,j,T,I.kp t fun q l u=>?_,(o.mono fun _ _ h=>.inl h).trans (t.mono fun _ _ h=>.inr h)⟩;have e:q=g:=l;subst e
  exact I.offMap x u)
 clear hg M hk o d x O N t;go_wp2;go_ret;exact ⟨rfl,HR.o⟩
end
def Xe (w:W_) (n:Nat) (key:List UInt8) (u:10<=w.heap.size) (hn:1<=n/\n<=12) :
  Cl 26 #[.int .i64 n,.string (bs key)] w fun e w'=>∃p b an v g F,e=.returned (.pointer (some ⟨p,0,none⟩))/\ab w' p 81 (oY b v g (.slice none 0 0))/\ab w' v 88 (i3 b an key none none)/\ab w' an 180 #[.int .u64 0,.string (bs [])]/\aS KI w' g (fun _=>none) []/\Bk w' b n (fun _=>dk0) F/\(∀q,F q->w.heap.size<=q)/\w.heap.size<=p/\w.heap.size<=an/\w.heap.size<=v/\w.heap.size<=g/\Kp ac w w':=by
 have y:=Zz (Zt w n u hn);have x:=Zz UN;have a:=Zz Vy;have I:=@run_makeMap prog;clear u;go_enter func26,ntmps26;go_wp2_with fail;refine y.o.mono ?_;rintro e l ⟨b,F,rfl,hb,hF,s⟩;have c:=Zz hb;have z:=Zz hF;have o:=Zz s;clear hb hF s;go_wp2_with fail;refine (x.o l).mono ?_;rintro e i ⟨rfl,ha,r⟩;have d:=Zz ha;have m:=Zz r;clear ha r;go_wp2_with fail;refine (a.o i b l.heap.size key).mono ?_;rintro e w3 ⟨rfl,hv,k⟩;have j:=((Kp.refl ac w3).alloc (.map #[] 0)).alloc (.cells (oY b i.heap.size w3.heap.size (.slice none 0 0)) 81)
 have t:ab ((w3.alloc (.map #[] 0)).alloc (.cells (oY b i.heap.size w3.heap.size (.slice none 0 0)) 81)) (w3.heap.size+1) 81 (oY b i.heap.size w3.heap.size (.slice none 0 0)):=by
  have:=ab.new (w3.alloc (.map #[] 0)) 81 (oY b i.heap.size w3.heap.size (.slice none 0 0))
  rwa [World.size_alloc] at this
 have f:=o.o.size;have E:=m.o.size;have G:=k.size
 have HR:Hid (ab ((w3.alloc (.map #[] 0)).alloc (.cells (oY b i.heap.size w3.heap.size (.slice none 0 0)) 81)) (w3.heap.size+1) 81 (oY b i.heap.size w3.heap.size (.slice none 0 0))/\ab ((w3.alloc (.map #[] 0)).alloc (.cells (oY b i.heap.size w3.heap.size (.slice none 0 0)) 81)) i.heap.size 88 (i3 b l.heap.size key none none)/\ab ((w3.alloc (.map #[] 0)).alloc (.cells (oY b i.heap.size w3.heap.size (.slice none 0 0)) 81)) l.heap.size 180 #[.int .u64 0,.string (bs [])]/\aS KI ((w3.alloc (.map #[] 0)).alloc (.cells (oY b i.heap.size w3.heap.size (.slice none 0 0)) 81)) w3.heap.size (fun _=>none) []/\Bk ((w3.alloc (.map #[] 0)).alloc (.cells (oY b i.heap.size w3.heap.size (.slice none 0 0)) 81)) b n (fun _=>dk0) F/\(∀q,F q->w.heap.size<=q)/\w.heap.size<=w3.heap.size+1/\w.heap.size<=l.heap.size/\w.heap.size<=i.heap.size/\w.heap.size<=w3.heap.size/\Kp ac w ((w3.alloc (.map #[] 0)).alloc (.cells (oY b i.heap.size w3.heap.size (.slice none 0 0)) 81))):=Zz
  ⟨t,hv.kp j fun h=>h,(d.o.kp k fun h=>h).kp j fun h=>h,(aS.made w3).alloc _,((c.o.no m.o).no k).no j,z.o,o_,o_,o_,o_,((o.o.trans m.o).trans k).trans j⟩
 clear hv k j t f E G;go_wp2;go_ret;exact ⟨_,b,_,_,_,F,rfl,HR.o⟩
end Go.Proofs.YtdkheklakfbeeaaGreatDoor
section
open Go.Proofs.Tryz
namespace Go.Proofs
open Go.RowKit Go.Maps Go.Sort Go.Shelf
def Tryz.susp0 {H:Type} (p b nn:Nat) (h:DataW H) (R:Value->Option (DataW H × List MemPlace)) (w:World) (hown:w.ownsMap prog 3 R b nn h) (hmax:Maps.size h<=maxLen) (hbytes:Maps.size h*8<=140737488355328) (r:w.cell? ⟨p,3,none⟩=some (.map (some b))) :
  Calls prog 30 #[.pointer (some ⟨p,0,none⟩)] w fun e w'=>∃(v:Value) (g:List Int),e=.returned v/\g.Perm (intKeys h) /\
   w'.ownsRow w.heap.size 3 1 v g.length ((g.mergeSort (fun x y=>decide (x<=y))).map encZ)/\(v=.slice none 0 0↔g=[])/\Below w.heap.size w w':=by
 refine (callsIn_wide (n:=6)).1 ?_;have j:=hown.lt
 have hseq:SeqGives Fence.wide 2 prog 98 #[.pointer (some ⟨w.heap.size,0,none⟩)] encZ (fun g=>g.Perm (intKeys h)) (Maps.size h) (w.alloc (.cells #[.map (some b)] 35)) :=
  AnyZI.keys_gives (ρ:=Tryz.keysB_ren) { Tryz.keysB with } Fence.wide _ trivial rfl (by omega) w.heap.size b nn h _ (by simp) (by simp) (by
   obtain ⟨es,clock,hb,Ft,hs,hD⟩:=hown
   exact ⟨es,clock,(Below.heap_alloc _ _ b j).trans hb,Ft,hs,hD⟩)
 have l:∀i W,CallsIn Fence.wide 5 prog 57 #[.map i] W fun e w'=>e=.returned (.func (.func 98) #[] #[.pointer (some ⟨W.heap.size,0,none⟩)])/\w'=W.alloc (.cells #[.map i] 35):=fun i W=>AnyZI.keys_in Tryz.keysB Fence.wide 5 trivial rfl i W;have k:=AnyZI.sorted_in Tryz.sortedA Fence.wide 5 trivial trivial trivial trivial rfl (by omega) (Tryz.sortsA _) (enters_of func97 (by kernel_rfl) rfl) 98 #[.pointer (some ⟨w.heap.size,0,none⟩)] trivial (enters_of func98 (by kernel_rfl) rfl) _ _ hmax hbytes _ hseq;change CallsIn _ _ prog 56 _ _ _ at k;have o:Fence.wide.fn 57:=trivial;have q:Fence.wide.fn 56:=trivial;refine callsIn_of_wp func30 rfl trivial ?_ rfl;simp only[ntmps30,List.size_toArray,List.length_cons,List.length_nil,Nat.reduceAdd,Nat.reduceSub,Array.replicate_succ,Array.replicate_zero,List.push_toArray,List.append_toArray,List.nil_append,List.cons_append]
 gi_wp2_with (first
  | (gi_at_call 57;refine (l _ _).mono ?_;rintro e w' ⟨rfl,rfl⟩)
  | (gi_at_call 56;refine k.mono ?_;rintro e w' ⟨v,g,rfl,m,hrow,hnil,hb⟩))
 go_ret;exact ⟨v,g,rfl,m,ownsRow_base_a hrow (by simp),hnil,((Below.refl _ w).alloc (Nat.le_refl _) _).trans (hb.mono (by simp))⟩
end Go.Proofs
end
namespace Go.Proofs.YtdkheklakfbeeaaGreatDoor
open Go.RowKit Go.Proofs.Tryz
variable {B:Nat->B_}{S:cj}{b g n p v:Nat}{ch:Nat->Nat->B_}{dom:List Nat}{kept:Value}{key:List UInt8}{w:W_}{σ:Nat->ao}
section
variable {f:Nat->Option Value} 
def vI (h:ab w p 81 (oY b v g kept)) (hM:aS KI w g f dom) (hl:dom.length<=1000) :
  Cl 30 #[.pointer (some ⟨p,0,none⟩)] w fun e w'=>∃u,e=.returned u/\aH w' w.heap.size 3 u (zv (pV dom))/\Kp ac w w':=by
 obtain ⟨D,n,j,k⟩:=hM.keys;refine (Tryz.susp0 p g _ D HR w n (by rw[j];simp only[maxLen];omega) (by rw[j];omega) (h.cell 3)).mono ?_;rintro e w' ⟨u,l,rfl,hp,i,_,hb⟩;have hs:=NL dom l (hp.trans k)
 have m:l.length=(zv (pV dom)).length:=by rw[iF,w_6,(hp.trans k).length_eq,fW]
 refine ⟨u,rfl,?_,Kp.of_below hb ac⟩;rw[hs,List.map_map,m] at i;exact i
end
def JO (n k:Nat):tl (List.replicate n ByteArray.empty) k=ByteArray.empty:=by
 unfold tl;rw[be,List.getElem?_replicate];split<;>rfl
def z_ap (s:Nat) (x:Wr) (h:x∈EZ s):(∃q,q<s-1/\x.at'=101+q/\x.cell=dD s eD (q+1))\/∃t,t<s/\x.at'=120+t/\x.cell=bs []:=by
 unfold EZ uJ at h;rcases List.mem_append.1 h with h|h
 ·obtain ⟨q,e,rfl⟩:=List.mem_map.1 h
  exact .inl ⟨q,List.mem_range.1 e,rfl,rfl⟩
 obtain ⟨q,e,rfl⟩:=List.mem_map.1 h;exact .inr ⟨q,List.mem_range.1 e,rfl,rfl⟩
def TM:∀d∈[2,3,4],pp (List.replicate d (bs gy)) 32 d=gy/\qq (List.replicate d (bs gy)) 32 d=gy:=by decide +kernel
def EQ (d t:Nat):fi d (fun _=>bs gy) t=List.replicate d (bs gy):=by
 unfold fi;rw[List.map_const',zH]
def St {d:Nat} (n:2<=d) (o:d<=4) (t c:Nat) (p:c<d+2):tl (eg (fi d (fun _=>bs gy) t)) c=bs gy:=by
 have hs:MU (fi d (fun _=>bs gy) t) 32:=fun j k=>by
  rw[w_I] at k;rw[z6 _ _ _ _ k];rfl
 have hl:=w_I d (fun _=>bs gy) t;have g:=hs.enP o_ o_ o_;have i:=hs.enQ o_ o_ o_;rw[hl,EQ] at g i;obtain ⟨l,m⟩:=TM d (by simp;omega);unfold eg;rw[z_ac,hl];by_cases h:c<d
 ·rw[if_pos h,z6 _ _ _ _ h]
 rw[if_neg h,EQ,g,i,l,m];rcases (show c-d=0\/c-d=1 by omega) with e|e<;>rw[e]<;>rfl
def DP (d s n i:Nat):dT (g8 d s n) i=if i<n/\i<d+2 then 1 else 0:=by
 unfold dT g8 rX;rw[gq];by_cases h:i<n
 ·rw[pB h]
  by_cases e:i<d+2
  ·simp[h,e]
  simp[e]
 rw[pD (by rw[zH];omega)];simp[h]
def gQ.format {d s:Nat} (key:List UInt8) (J:2<=d) (M:d<=4) (hs:sl s) (hn:d+2<=n) (R:n<=12) :
  gQ n key (g8 d s n) (eY (fU d s n) 1 (bs (bh (g8 d s n))) n) (fun _=>eD) (fun _=>bs gy)/\zX (g8 d s n) (eY (fU d s n) 1 (bs (bh (g8 d s n))) n) (fun _=>none)/\(∀i,(eY (fU d s n) 1 (bs (bh (g8 d s n))) n i).dead=false)/\∀i,i<n->tl (eY (fU d s n) 1 (bs (bh (g8 d s n))) n i).now 0=bs []:=by
 have U:s<=4:=by rcases hs with rfl|rfl<;>decide
 have P:∀i,(eY (fU d s n) 1 (bs (bh (g8 d s n))) n i).dead=false:=fun i=>by rw[w_x];exact w_T d s n i
 have u:∀i,bad (g8 d s n) (eY (fU d s n) 1 (bs (bh (g8 d s n))) n) i=false->i<n/\i<d+2:=fun i hb=>by
  have g:=(c_.1 hb).1;rw[DP] at g;split at g
  ·rename_i h;exact h
  cases g
 generalize S:bs (bh (g8 d s n))=rc at *;have f:∀i,i<n->eY (fU d s n) 1 rc n i=((fU d s n i).write 1 rc).flush:=fun i m=>if_pos m;have G:∀i,i<n->i<d+2->fU d s n i=(dk0.wrs (EZ s)).flush:=fun i m y=>if_pos ⟨m,y⟩
 have E:∀i,(fU d s n i).now.length=140:=fun i=>by
  unfold fU;split
  ·rw[ao.flush_now,ao.wrs_len];rfl
  rfl
 have r:∀i,i<n->∀k,k≠1->tl (eY (fU d s n) 1 rc n i).now k=tl (fU d s n i).now k:=fun i m k hk=>by
  rw[f i m,ao.flush_now,ao.write_off _ _ _ _ (Ne.symm hk)]
 have N:∀i,i<n->∀k,k<100->tl (fU d s n i).now k=bs []:=fun i m k hk=>by
  unfold fU;split
  ·rw[ao.flush_now,ao.wrs_off]
   ·exact JO 140 k
   intro x p;rcases z_ap s x p with ⟨q,_,e,_⟩|⟨q,_,e,_⟩<;>omega
  exact JO 140 k
 have O:=M3 J M hs hn R;refine ⟨⟨O,x_Z d s n,fun i m=>?_,fun i hb=>?_,fun i hb q T I=>?_,fun i hb t z=>?_,fun j t=>?_,fun t z c Q hb=>?_,fun k _=>rfl,fun i m _=>?_⟩,fun i hb=>?_,P,fun i m=>?_⟩
 ·rw[f i m]
  refine ao.Whole.flush (by rw[ao.write_len];exact E i) fun y=>?_;rw[ao.write_dead,w_T] at y;cases y
 ·obtain ⟨g,o⟩:=u i hb
  have hm:i<(g8 d s n).mem.length:=by rw[show (g8 d s n).mem.length=n from x_Z d s n];exact g
  rw[AZ hm];show ((rX d s n)[i]'hm).top=_;simp[rX,o];rfl
 ·obtain ⟨g,o⟩:=u i hb
  have I:q<s:=I;rw[r i g _ o_,G i g o,ao.flush_now];refine ao.wrs_at (·=dD s eD q) _ _ _ rfl (by show 100+q<140;omega) (fun x p e=>?_) (.inr ⟨⟨101+(q-1),dD s eD (q-1+1)⟩,?_,by show 101+(q-1)=100+q;omega⟩)
  ·rcases z_ap s x p with ⟨a,_,b,v⟩|⟨a,_,b,_⟩
   ·rw[v,show a+1=q by omega]
   omega
  unfold EZ uJ;exact List.mem_append_left _ (List.mem_map.2 ⟨q-1,List.mem_range.2 o_,rfl⟩)
 ·obtain ⟨g,o⟩:=u i hb
  have z:t<s:=z;rw[r i g _ o_,G i g o,ao.flush_now];refine ao.wrs_at (·=eD t) _ _ _ rfl (by show 120+t<140;omega) (fun x p e=>?_) (.inr ⟨⟨120+t,bs []⟩,?_,rfl⟩)
  ·rcases z_ap s x p with ⟨a,_,b,v⟩|⟨a,_,b,v⟩
   ·omega
   exact v
  unfold EZ uJ;exact List.mem_append_right _ (List.mem_map.2 ⟨t,List.mem_range.2 z,rfl⟩)
 ·show (bs []:B_).size<=2032
  decide
 ·show lx key _ t (bs []) (tl (eg (fi d (fun _=>bs gy) t)) c).data.toList
  rw[St J M t c Q];exact ⟨rfl,.inl ⟨rfl,rfl⟩⟩
 ·show tl (eY (fU d s n) 1 rc n i).now 1=_
  rw[f i m,ao.flush_now,ao.write_on _ _ _ (w_T d s n i) (by rw[E];decide),S]
 ·obtain ⟨g,_⟩:=u i hb
  refine ⟨?_,fun l h=>by cases h⟩;show tl (eY (fU d s n) 1 rc n i).now 2=bs [];rw[r i g _ d_];exact N i g 2 d_
 rw[r i m _ d_];exact N i m 0 d_
section
variable {L:Nat->Option (List Wr)}
def DK (S:cj) (i:Nat):dT (eG S) i=dT S i:=by
 unfold dT eG;rw[gq];cases S.mem[i]?<;>rfl
def Sc (S:cj) (i:Nat):Gl (eG S) i=Gl S i:=by
 unfold Gl eG;rw[gq];cases S.mem[i]?<;>rfl
def tf (h:gQ n key S σ ch B) (p:zX S σ L) (i:Nat) (e:i<n):(e6 σ S L n i).now=(σ i).now/\(e6 σ S L n i).Whole:=by
 unfold e6;rw[if_pos e];unfold qR;by_cases hb:dT S i=1/\(σ i).dead=false
 ·rw[if_pos hb]
  obtain ⟨g,m⟩:=p i (c_.2 hb)
  cases hl:L i with
  | none=>exact ⟨rfl,h.dk i e⟩
  | some l =>
   rw[hl] at g;have o:((σ i).wrs l).now=(σ i).now:=ao.wrs_same l (σ i) (h.dk i e).len fun x k=>⟨(g.2.2.1 x k).2.1,m l hl x k⟩;refine ⟨by show ((σ i).wrs l).flush.now=_;rw[ao.flush_now];exact o,ao.Whole.flush (by rw[ao.wrs_len];exact (h.dk i e).len) fun j=>?_⟩;rw[ao.wrs_dead,hb.2] at j;cases j
 rw[if_neg hb];exact ⟨rfl,h.dk i e⟩
def gQ.opened (h:gQ n key S σ ch B) (o:zX S σ L) (z:S.count<1000) (a:S.epoch<1000) :
  gQ n key (eG S) (eY (e6 σ S L n) ((S.count+1) % 2) (bs (bh (eG S))) n) ch B/\(∀i,bad (eG S) (eY (e6 σ S L n) ((S.count+1) % 2) (bs (bh (eG S))) n) i=bad S σ i)/\∀i,i<n->(σ i).dead=false->∀k,k≠(S.count+1) % 2->tl (eY (e6 σ S L n) ((S.count+1) % 2) (bs (bh (eG S))) n i).now k=tl (σ i).now k:=by
 obtain ⟨rc,u⟩:∃rc,bs (bh (eG S))=rc:=⟨_,rfl⟩
 have g:∀i,bad (eG S) (eY (e6 σ S L n) ((S.count+1) % 2) (bs (bh (eG S))) n) i=bad S σ i:=fun i=>by
  unfold bad;rw[DK,w_x,w_A]
 have r:∀i,bad S σ i=false->i<n:=fun i hb=>(h.goodLt hb).1;rw[u] at g ⊢
 have l:∀i,i<n->∀k,k≠(S.count+1) % 2->tl (eY (e6 σ S L n) ((S.count+1) % 2) rc n i).now k=tl (σ i).now k:=fun i e k hk=>by
  unfold eY;rw[if_pos e,ao.flush_now,ao.write_off _ _ _ _ (Ne.symm hk),(tf h o i e).1]
 refine ⟨⟨AC h.ok z a,?_,fun i e=>?_,fun i hb=>?_,fun i hb q y m=>?_,fun i hb t p=>?_,h.csz,fun t p c x hb=>h.chk t p c x (by rw[g] at hb;exact hb),h.bsz,fun i e j=>?_⟩,g,fun i e _ k hk=>l i e k hk⟩
 ·show (S.mem.map AI).length=n
  rw[fW];exact h.len
 ·obtain ⟨b,v⟩:=tf h o i e
  unfold eY;rw[if_pos e];by_cases j:(e6 σ S L n i).dead=true
  ·rw[ao.write_of_dead j,ao.flush_of_dead j];exact v
  exact ao.Whole.flush (by rw[ao.write_len];exact v.len) fun s=>by rw[ao.write_dead] at s;exact absurd s j
 ·rw[g] at hb;rw[Sc];exact h.top i hb
 ·rw[g] at hb
  have m:q<S.slots:=m;rw[l i (r i hb) _ o_];exact h.tree i hb q y m
 ·rw[g] at hb
  rw[l i (r i hb) _ o_];exact h.cell i hb t p
 rw[w_x,w_A] at j;show tl (eY (e6 σ S L n) ((S.count+1) % 2) rc n i).now ((S.count+1) % 2)=_;unfold eY;rw[if_pos e,ao.flush_now,ao.write_on _ _ _ (by rw[w_A];exact j) (by rw[(tf h o i e).2.len];omega),u]
def zX.opened (h:gQ n key S σ ch B) (e:zX S σ fun _=>none) (g:S.count<1000) (j:S.epoch<1000):zX (eG S) (eY (e6 σ S (fun _=>none) n) ((S.count+1) % 2) (bs (bh (eG S))) n) fun _=>none:=fun i hb=>by
 obtain ⟨_,k,m⟩:=h.opened e g j;rw[k] at hb;refine ⟨?_,fun l h=>by cases h⟩;show tl _ 2=bs [];rw[m i (h.goodLt hb).1 (c_.1 hb).2 2 o_];exact (e i hb).1
end
end Go.Proofs.YtdkheklakfbeeaaGreatDoor
