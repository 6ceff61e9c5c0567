/- Part 22 of the proof. -/
import Derived.Test.YtdkheklakfbeeaaGreatDoorM21
set_option linter.all false
set_option maxRecDepth 100000
set_option maxHeartbeats 16000000
namespace Go.Proofs.YtdkheklakfbeeaaGreatDoor
open Go.RowKit Go.Proofs.Tryz
variable {B:Nat->B_}{D dom:List Nat}{F Ft Q X:Nat->Prop}{K:List (List (List B_))}{L:List (List B_)}{S S':cj}{T b5 now:List B_}{b base d gd gt n p q s v z:Nat}{ch:Nat->Nat->B_}{f:Nat->Option B_}{g:B_->Option B_}{key:List UInt8}{kv vl vn:Value}{pl:Bool}{w w' w'' w1:W_}{σ σ':Nat->ao}
def VP:(prog.info? 38).map (fun i=>(i.zero,i.size,i.bytes))=some (some (.slice none 0 0),1,24):=k_
def VQ:(prog.info? 39).map (fun i=>(i.zero,i.size,i.bytes))=some (some (.slice none 0 0),1,24):=k_
def aH.oneCell {e:Nat} {v:Value} {g:List Value} (h:aH w base e v g):v.oneCell'=true:=by
 obtain ⟨A,c,rfl⟩:=h.shape;rfl
def Ev (w:W_) (base:Nat) (v:Value) (L:List (List B_)):Prop :=
 ∃vs,vs.length=L.length/\aH w base 38 v vs/\∀j u,vs[j]?=some u->aH w base 9 u (sv (L.getD j []))
def Ev.kp {v:Value} {S:Nat->Prop} (h:Ev w base v L) (k:Kp S w w') (l:∀q,S q->q<base):Ev w' base v L:=by
 obtain ⟨vs,n,g,i⟩:=h;refine ⟨vs,n,g.kp k fun q e hs=>?_,fun j u m=>(i j u m).kp k fun q e hs=>?_⟩
 ·have:=(g.lt q e).1;have:=l q hs;omega
 have:=((i j u m).lt q e).1;have:=l q hs;omega
def Ev.no {v:Value} (h:Ev w base v L) (k:Kp ac w w'):Ev w' base v L:=h.kp k fun _ h=>h.elim
def Ev.add {v k u:Value} {vs:List Value} (g:vs.length=L.length) (m:aH w base 38 v vs) (n:∀j u,vs[j]?=some u->aH w base 9 u (sv (L.getD j []))) (q:aH w base 9 u (sv T)) (o:aH w' base 38 k (vs++[u])) (hg:w.grownBy w' v.ownBlock):Ev w' base k (L++[T]):=by
 have key:∀ {x:Value} {l:List Value},aH w base 9 x l->aH w' base 9 x l:=fun e=>e.keep hg (e.ne_ m d_);refine ⟨vs++[u],by simp[g],o,fun j x e=>?_⟩;by_cases p:j<vs.length
 ·rw[A3 p] at e
  have:=key (n j x e)
  rwa [be,A3 o_,<-be]
 rw[uS o_] at e
 have i:j-vs.length=0:=by
  rcases Nat.eq_zero_or_pos (j-vs.length) with h|h
  ·exact h
  rw[pD (by simp;omega)] at e;cases e
 rw[i] at e;simp at e;subst e;rw[be,uS o_,<-g,i];exact key q
def ye (σ:Nat->ao) (n:Nat):List (List B_):=(List.range n).map fun i=>(σ i).now
def j0 (σ:Nat->ao) (n:Nat):(ye σ n).length=n:=by simp[ye]
def Sr (σ:Nat->ao) (n:Nat):ye σ (n+1)=ye σ n++[(σ n).now]:=by simp[ye,List.range_succ]
structure sG (w:W_) (base:Nat) (kv:Value) (ks:List Value) (K:List (List (List B_))) (Q:Nat->Prop):Prop where
 len:ks.length=K.length
 own:aH w base 39 kv ks
 kq:∀q,kv.ownBlock=some q->Q q
 qb:∀q,Q q->base<=q/\q<w.heap.size
 el:∀j u,ks[j]?=some u->∃vs,vs.length=(K.getD j []).length/\aH w base 38 u vs/\(∀q,u.ownBlock=some q->Q q)/\∀i x,vs[i]?=some x->aH w base 9 x (sv ((K.getD j []).getD i []))/\∀q,x.ownBlock=some q->Q q
def ic (w:W_) (base:Nat) (kv:Value) (K:List (List (List B_))) (Q:Nat->Prop):Prop:=∃e,sG w base kv e K Q
def sG.kp {o:List Value} {S:Nat->Prop} (h:sG w base kv o K Q) (k:Kp S w w') (l:∀q,S q->¬Q q):sG w' base kv o K Q:=by
 refine ⟨h.len,h.own.kp k fun q e hs=>l q hs (h.kq q e),h.kq,fun q e=>⟨(h.qb q e).1,ea (h.qb q e).2 k.size⟩,fun j u s=>?_⟩;obtain ⟨vs,p,r,n,g⟩:=h.el j u s;exact ⟨vs,p,r.kp k fun q e hs=>l q hs (n q e),n,fun i x m=>⟨(g i x m).1.kp k fun q e hs=>l q hs ((g i x m).2 q e),(g i x m).2⟩⟩
def ic.kp {S:Nat->Prop} (h:ic w base kv K Q) (k:Kp S w w') (e:∀q,S q->¬Q q):ic w' base kv K Q:=h.elim fun g h=>⟨g,h.kp k e⟩
def ic.no (h:ic w base kv K Q) (k:Kp ac w w'):ic w' base kv K Q:=h.kp k fun _ h=>h.elim
def ic.nil_ (w:W_) (base:Nat):ic w base (.slice none 0 0) [] fun _=>False :=
 ⟨[],rfl,aH.nil_ _ _ _,fun q h=>(by cases h),fun q h=>False.elim h,fun j u h=>(by cases h)⟩
def sG.add {p:Nat} {n u:Value} {l:List Value} (h:sG w base kv l K Q) (hb:base<=p) (J:Ev w p u L) (v:aH w' base 39 n (l++[u])) (hg:w.grownBy w' kv.ownBlock) (I:n.ownBlock=kv.ownBlock\/∃b,n.ownBlock=some b/\p<=b) :
  ∃r,ic w' base n (K++[L]) r/\∀q,r q->Q q\/p<=q:=by
 obtain ⟨vs,u1,u2,u3⟩:=J;have P:=h.len;have G:=(Kp.of_grown hg (S:=fun q=>some q=kv.ownBlock) fun _ h=>h).size;have s:∀ {c:Nat} {x:Value} {o:List Value},aH w c 38 x o->aH w' c 38 x o:=fun k=>k.keep hg (k.ne_ h.own d_);have a:∀ {c:Nat} {x:Value} {o:List Value},aH w c 9 x o->aH w' c 9 x o:=fun k=>k.keep hg (k.ne_ h.own d_);refine ⟨fun q=>Q q\/n.ownBlock=some q\/u.ownBlock=some q\/∃(i:Nat) (x:Value),vs[i]?=some x/\x.ownBlock=some q,⟨l++[u],by rw[cd,cd,h.len];rfl,v,fun q g=>.inr (.inl g),fun q g=>?_,fun j x k=>?_⟩,fun q g=>?_⟩
 ·rcases g with g|g|g|⟨i,x,k,g⟩
  ·exact ⟨(h.qb q g).1,ea (h.qb q g).2 G⟩
  ·exact v.lt q g
  ·have:=u2.lt q g
   omega
  have:=(u3 i x k).lt q g;omega
 ·by_cases z:j<l.length
  ·rw[A3 z] at k
   obtain ⟨N,d,f,E,t⟩:=h.el j x k
   have e:(K++[L]).getD j []=K.getD j []:=by rw[be,A3 (by rw[<-h.len];exact z),<-be]
   rw[e];exact ⟨N,d,s f,fun q g=>.inl (E q g),fun i y m=>⟨a (t i y m).1,fun q g=>.inl ((t i y m).2 q g)⟩⟩
  rw[uS o_] at k
  have M:j=l.length:=by
   rcases Nat.eq_zero_or_pos (j-l.length) with h|h
   ·omega
   rw[pD (by simp;omega)] at k;cases k
  subst M;rw[Nat.sub_self] at k;injection k with k;subst k
  have e:(K++[L]).getD l.length []=L:=by rw[be,uS o_,<-h.len,Nat.sub_self];rfl
  rw[e];exact ⟨vs,u1,(s u2).more hb,fun q g=>.inr (.inr (.inl g)),fun i y m=>⟨(a (u3 i y m)).more hb,fun q g=>.inr (.inr (.inr ⟨i,y,m,g⟩))⟩⟩
 rcases g with g|g|g|⟨i,x,k,g⟩
 ·exact .inl g
 ·rcases I with ha|⟨b,ha,O⟩
  ·exact .inl (h.kq q (by rw[<-ha];exact g))
  rw[ha] at g;injection g with g;exact .inr o_
 ·exact .inr (u2.lt q g).1
 exact .inr ((u3 i x k).lt q g).1
section
variable {g:Nat} 
def Q8 (h:ab w p 81 (oY b v g kv)) (hb:Bk w b n σ F) (x3:∀i,i<n->(σ i).dead=false) (hK:ic w base kv K Q) (hl:K.length<8) (H9:base<=w.heap.size) (h5:¬Q p) :
  Cl 16 #[.pointer (some ⟨p,0,none⟩)] w fun e w'=>e=.returned (.tuple #[.int .i64 (K.length:Nat),.int .i64 0])/\∃x9 l,ab w' p 81 (oY b v g x9)/\ic w' base x9 (K++[ye σ n]) l/\(∀q,l q->Q q\/w.heap.size<=q)/\Kp (fun q=>q=p\/kv.ownBlock=some q) w w':=by
 obtain ⟨ks,R⟩:=hK
 have cE:n<=12:=by obtain ⟨G,c,st,A,Φ,T,hF⟩:=hb;exact T.n12
 have y2:Hid (∀W,Kp ac w W->∀i,i<n->∃A,Cl 45 #[.pointer (some ⟨b,0,none⟩),.int .i64 i] W (fun e w'=>e=.returned (.pointer (some ⟨A,0,none⟩))/\w'=W)/\Cl 46 #[.pointer (some ⟨A,0,none⟩)] W (fun e w'=>∃v,e=.returned v/\aH w' W.heap.size 9 v (sv (σ i).now)/\Kp ac W w')):=Zz fun W k i U=>by
  obtain ⟨G,c,st,A,Φ,T,hF⟩:=hb.no k;exact ⟨A i,w_c T i U,xb (T.dk i U) (x3 i U)⟩
 have yV:=Zz (x_m hb);have H4:=Zz h;have D:=Zz R
 obtain ⟨d,I,rfl⟩:∃A c,kv=.slice A K.length c:=by
  obtain ⟨A,c,e⟩:=R.own.shape;exact ⟨A,c,by rw[e,R.len]⟩
 have h0:=h.c0;have h3:=h.c2;have zt:¬((K.length:Int)=8):=o_;have x4:=Zz H9;have x1:=Zz (Kp.refl ac w);have H7:Hid (∃vs,vs.length=(ye σ 0).length/\aH w w.heap.size 38 (.slice none 0 0) vs/\∀j u,vs[j]?=some u->aH w w.heap.size 9 u (sv ((ye σ 0).getD j []))):=Zz ⟨[],rfl,aH.nil_ _ _ _,fun j u h=>(by cases h)⟩;clear h hb x3 R H9;go_enter func16,ntmps16;go_wp2_with fail;refine yV.o.mono ?_;rintro e w1 ⟨rfl,rfl⟩
 go_upto_region 7 with fail
 clear h0 h3
 go_loopw [4,21] (fun s4 em wr=>∃i:Nat,i<=n/\em=.int .i64 i/\Hid (Ev wr w1.heap.size s4 (ye σ i))/\Hid (Kp ac w1 wr)) (fun _ em _=>(n-intOf em).toNat)
 case atStart=>exact ⟨0,o_,rfl,H7,x1⟩
 case round =>
  clear H7 x1;obtain ⟨i,U,rfl,H2,r⟩:=hrel;obtain ⟨vs,Z,h6,H1⟩:=H2.o;rw[j0] at Z
  obtain ⟨h9,x2,rfl⟩:∃A c,u4=.slice A i c:=by
   obtain ⟨A,c,e⟩:=h6.shape;exact ⟨A,c,by rw[e,Z]⟩
  have Y:=Zz Z;have J:=Zz h6;have M:=Zz H1;have H:=r.o.size;clear Z h6 H1 H2;have a:=Zz (H4.o.kp r.o fun h=>h);by_cases y4:i<n
  ·have bL:(i:Int)<(n:Int):=o_
   obtain ⟨A,x6,H0⟩:=y2.o wr r.o i y4;have x8:=Zz x6;have H3:=Zz H0;have h0:=a.o.c0;clear x6 H0;go_wp2_with fail;refine x8.o.mono ?_;rintro e w2 ⟨rfl,rfl⟩;go_wp2_with fail;refine H3.o.mono ?_;rintro e w3 ⟨u,rfl,B,P⟩
   obtain ⟨y1,mu,y8,rfl⟩:∃A m c,u=.slice A m c:=by
    obtain ⟨A,c,e⟩:=B.shape;exact ⟨A,_,c,e⟩
   have L:=Zz (r.o.trans P);have y0:=Zz (B.more (cL r.o.size (bS _)));have X:=Zz (J.o.kp P fun _ _ h=>h);have H5:Hid (∀j u,vs[j]?=some u->aH w3 w1.heap.size 9 u (sv ((ye σ i).getD j []))):=Zz fun j u hu=>(M.o j u hu).kp P fun _ _ h=>h;have h8:=L.o.size;clear B P x8 H3 J M a h0
   go_upto_region 10 with (at_builtin;refine Bp (w0:=w3) w1.heap.size rfl (.tmp 24) (.tmp 32) 39 38 (.slice none 0 0) 24 rfl underlying39 VP rfl d_ _ _ (.slice y1 mu y8) rfl rfl rfl X.o ((Below.refl _ _).mono h8) h8 (by have:=Y.o;omega) ?_;intro h7 z y h4 x O;have E:=Zz y;have t:=Zz x;clear y h4 x O)
   have C:Hid (Ev z w1.heap.size h7 (ye σ (i+1))):=Zz (by
    rw[Sr]
    exact Ev.add (by rw[j0];exact Y.o) X.o H5.o y0.o E.o t.o)
   have N:=Kp.of_grown t.o (S:=fun q=>some q=(Value.slice h9 i x2).ownBlock) fun _ h=>h;have y3:=Zz (L.o.then N fun q x5 h=>by have:=(X.o.lt q h.symm).1;omega);clear N t E X H5 y0 L r H h8;go_wp2;go_roundw
   case rel=>exact ⟨i+1,o_,by go_num,C,y3⟩
   case measure=>simp[intOf];omega
  obtain rfl:i=n:=o_;have f:=Zz (D.o.kp r.o fun _ h=>h.elim);have H8:base<=wr.heap.size:=cL x4.o H;have H6:=hH f.o.own a.o d_;have qe:=Zz H6;have y9:=f.o.len;have h3:=a.o.c2;clear H6
  go_upto_region 12 with (at_builtin;refine Bp (w0:=wr) base rfl (.tmp 39) (.tmp 41) 79 39 (.slice none 0 0) 24 rfl underlying79 VQ rfl d_ _ _ (.slice h9 i x2) rfl rfl rfl f.o.own ((Below.refl _ _).mono H8) H8 o_ ?_;intro h7 z y h4 x O;obtain ⟨o,s,rfl⟩:∃A c,h7=.slice A (K.length+1) c:=(by obtain ⟨A,c,e⟩:=y.shape;exact ⟨A,c,by rw[e,cd,y9];rfl⟩);have E:=Zz y;have t:=Zz x;have x7:=Zz O;have V:=Zz (a.o.kp (Kp.of_grown x (S:=fun q=>some q=(Value.slice d K.length I).ownBlock) fun _ h=>h) fun e=>qe.o e.symm);have y7:=V.o.c2;have f29:=V.o.frozen 2;clear y h4 x O)
  have y6:Hid (∃l,ab (z.setCell ⟨p,2,none⟩ (.slice o (K.length+1) s)) p 81 (oY b v g (.slice o (K.length+1) s))/\ic (z.setCell ⟨p,2,none⟩ (.slice o (K.length+1) s)) base (.slice o (K.length+1) s) (K++[ye σ i]) l/\(∀q,l q->Q q\/w1.heap.size<=q)/\Kp (fun q=>q=p\/(Value.slice d K.length I).ownBlock=some q) w1 (z.setCell ⟨p,2,none⟩ (.slice o (K.length+1) s))):=Zz (by
   have N:=Kp.of_grown t.o (S:=fun q=>q=p\/(Value.slice d K.length I).ownBlock=some q) fun _ h=>.inr h.symm
   have y5:(Value.slice o (K.length+1) s).ownBlock=(Value.slice d K.length I).ownBlock\/∃b,(Value.slice o (K.length+1) s).ownBlock=some b/\w1.heap.size<=b:=by
    rcases x7.o with h|⟨b,h,hb⟩
    ·exact .inl h
    exact .inr ⟨b,h,cL H hb⟩
   obtain ⟨l,h1,h2⟩:=sG.add f.o x4.o ⟨vs,by rw[j0];exact Y.o,J.o,M.o⟩ E.o t.o y5;have hpw:p<w1.heap.size:=H4.o.lt;have x0:=(Kp.refl (fun q=>q=p) z).setCell ⟨p,2,none⟩ (.slice o (K.length+1) s) (.inl rfl);refine ⟨l,V.o.set_ 2 _,h1.kp x0 fun q e x5=>?_,h2,((r.o.mono (S:=fun q=>q=p\/(Value.slice d K.length I).ownBlock=some q) fun _ _ h=>h.elim).trans N).trans (x0.mono fun q _ e=>.inl e)⟩;have e:q=p:=e;subst e;rcases h2 _ x5 with h|h
   ·exact h5 h
   omega)
  clear E t x7 V f Y J M a h3;go_wp2;go_ret2;obtain ⟨l,z1,z2,z3,z4⟩:=y6.o;exact ⟨rfl,_,l,z1,z2,z3,z4⟩
end
def K9 {σ:ao} (h:Dk w d σ F) :
  Cl 48 #[.pointer (some ⟨d,0,none⟩)] w fun e w'=>e=.returned (.bool σ.dead)/\w'=w:=by
 obtain ⟨la,r,s,t,g,i,j,k,l,m,n,o,p⟩:=h.ex;have q:=g.c3;clear h g i j k l m n o p;go_enter func48,ntmps48;go_wp2;go_ret;exact ⟨rfl,rfl⟩
section
variable {g:Nat} {f:Nat->Option Value} 
def RS (h:ab w p 81 (oY b v g kv)) (hb:Bk w b n σ F) (i:Nat) (r:i<n) (y4:i<=1000) (L:(σ i).dead=false) (hM:aS KI w g f dom) (h4:dom.length<1000)
  (H7:ic w base kv K Q) (Z:∀q,F q->¬Q q) (k:Nat) (hk:k<K.length) (x6:K.length<=8) (H8:(K.getD k []).length=n) (T:List B_) (h3:(K.getD k []).getD i []=T) (x1:T.length=140) (V:∀j,j<140->(tl T j).size<=2048) :
  Cl 22 #[.pointer (some ⟨p,0,none⟩),.int .i64 i,.int .i64 k] w fun e w'=>e=.returned (.int .i64 0)/\aS KI w' g (lu f i (.bool true)) (e8 dom i)/\∃l,Gr w F l/\Bk w' b n (dY σ i ⟨false,T,T,0⟩) l/\Kp (fun q=>F q\/q=g) w w':=by
 have x3:=Zz (hb.off h (by unfold ci;decide));have x2:=Zz (hb.offMap hM)
 have x9:n<=12:=by obtain ⟨G,c,st,A,Φ,o,hF⟩:=hb;exact o.n12
 obtain ⟨G,c,st,A,Φ,o,hF⟩:=hb;obtain ⟨P,y⟩:=H7;have H6:=y.len;obtain ⟨gk,y1,rfl,_⟩:=y.own.form o_;have d:P[k]?=some (P[k]'o_):=cr o_;generalize P[k]'o_=u at d;obtain ⟨vs,B,J,H2,C⟩:=y.el k u d;rw[H8] at B;obtain ⟨gu,H4,rfl,_⟩:=J.form o_;have z:vs[i]?=some (vs[i]'o_):=cr o_;generalize vs[i]'o_=x at z;obtain ⟨t,D⟩:=C i x z;rw[h3] at t
 have N:w.cell? ⟨gk,k,none⟩=some (.slice (some ⟨gu,0,none⟩) vs.length H4):=by rw[y.own.cell k o_];exact d
 have H5:w.cell? ⟨gu,i,none⟩=some x:=by rw[J.cell i o_];exact z
 rw[B] at N;have h8:=Zz (xS h o i r);have Y:=Zz hF;have H1:=Zz (Cm (o.dk i r) L T x1 V x fun W kk=>(t.kp kk fun q s hs=>Z q ((hF q).2 (g_.sub r q hs)) (D q s)).reads);have U:=Zz (K9 (o.dk i r));rw[L] at U;have X:=Zz o;have H0:=Zz h;have h9:=Zz hM;have H9:=Zz h4;have H3:=h.c2;rw[H6] at H3;have x5:(k:Int)<(K.length:Int):=o_;have y0:decide ((K.length:Int)<=(k:Int))=false:=h_ o_;have x7:(i:Int)<(n:Int):=o_;have y3:¬((k:Int)<0):=o_;have x0:x.oneCell'=true:=t.oneCell
 obtain ⟨x4,y5,y2,rfl⟩:∃A m c,x=.slice A m c:=by
  obtain ⟨A,c,e⟩:=t.shape;exact ⟨A,_,c,e⟩
 clear h o hF hM h4 y J H2 C t D d z Z h3 V x0;go_enter func22,ntmps22;go_wp2_with fail;refine h8.o.mono ?_;rintro e y6 ⟨rfl,rfl⟩;go_wp2_with fail;refine U.o.mono ?_;rintro e w3 ⟨rfl,rfl⟩;go_wp2_with fail;refine H1.o.mono ?_;rintro e S ⟨rfl,Φ',hg,h5,hk⟩;have E:Kp F w3 S:=hk.mono fun q _ s=>(Y.o q).2 (g_.sub r q s)
 have H:∃l,Gr w3 F l/\Bk S b n (dY σ i ⟨false,T,T,0⟩) l :=
  ⟨_,fun q s O=>(Y.o q).2 (X.o.gr r hg q s O),⟨G,c,st,A,_,X.o.step r hg h5 hk,fun _=>Iff.rfl⟩⟩
 have R:=h9.o.kp E x2.o;have h7:=H0.o.kp E x3.o;have x8:=h7.c3;obtain ⟨I,h0,h6,M⟩:=R.put sY sa (by have:=H9.o;simp only[maxLen];omega) (a:=i) (show i<=100000 by omega) (.bool true);replace h0:(Instr.mapUpdate 35 (.map (some g)) (.int .i64 i) (.bool true)).run prog S=.ok () I:=h0
 have HR:Hid (aS KI I g (lu f i (.bool true)) (e8 dom i)/\∃l,Gr w3 F l/\Bk I b n (dY σ i ⟨false,T,T,0⟩) l/\Kp (fun q=>F q\/q=g) w3 I):=Zz (by
  obtain ⟨l,h1,h2⟩:=H;refine ⟨h6,l,h1,h2.kp M fun q s O=>?_,(E.mono fun _ _ h=>.inl h).trans (M.mono fun _ _ h=>.inr h)⟩;have e:q=g:=s;subst e
  exact h2.offMap R O)
 clear hg h5 hk E H R h7 h6 M;go_wp2;go_ret;exact ⟨rfl,HR.o⟩
end
def b_.cells {v:Value} (h:b_ w v (sv T)):∃A c,v=.slice A T.length c/\∀i,i<T.length->∃b o,A=some ⟨b,o,none⟩/\w.cell? ⟨b,o+i,none⟩=some (.string (tl T i)):=by
 obtain ⟨A,c,e,_,_,g⟩:=h;rw[cN] at e g;refine ⟨A,c,e,fun i j=>?_⟩;obtain ⟨b,o,k,l⟩:=g o_;exact ⟨b,o,k,by rw[l i j,iQ _ _ j]⟩
section
variable {va vb:Value} 
def tM (ha:b_ w va (sv T)) (hb:b_ w vb (sv T)) (hl:T.length<=100000) :
  Cl 25 #[va,vb] w fun e w'=>e=.returned (.bool true)/\Kp ac w w':=by
 have u:Hid (∀W,Kp ac w W->b_ W va (sv T)):=Zz fun W k=>ha.below k.below0;have v:Hid (∀W,Kp ac w W->b_ W vb (sv T)):=Zz fun W k=>hb.below k.below0;have z:=Zz (Kp.refl ac w);obtain ⟨I,R,rfl,_⟩:=ha.cells;obtain ⟨J,S,rfl,_⟩:=hb.cells;obtain ⟨n,hn⟩:∃n,T.length=n:=⟨_,rfl⟩;have x:=Zz hn;rw[hn] at u v hl ⊢;clear ha hb hn;go_enter func25,ntmps25
 go_upto_region 4 with fail
 go_loopw [13] (fun t wr=>∃i:Nat,i<=n/\t=.int .i64 i/\Hid (Kp ac w wr)) (fun t _=>(n-intOf t).toNat)
 case atStart=>exact ⟨0,o_,rfl,z⟩
 case round =>
  clear z;obtain ⟨i,U,rfl,g⟩:=hrel;by_cases y:i<n
  ·have O:(i:Int)<(n:Int):=o_
   obtain ⟨E,P,h,a⟩:=(u.o wr.drew g.o.drew).cells;obtain ⟨M,V,j,c⟩:=a i (by rw[x.o];exact y);injection h with h m l;obtain ⟨G,Q,o,b⟩:=(v.o wr.drew g.o.drew).cells;obtain ⟨N,X,p,d⟩:=b i (by rw[x.o];exact y);injection o with o r q;subst h o j p;clear m r l q;have f:=Zz g.o.drew;clear a b g;generalize tl T i=s at *
   go_upto_region 6 with fail
   refine fs ?_;generalize wr.drew=Y at *;refine fp 0 ?_;refine fp 1 ?_;refine fp 2 ?_;refine cw 3 c ?_;refine fp 4 ?_;refine fp 5 ?_;refine fp 6 ?_;refine cw 7 d ?_;refine fp 8 ?_;refine fe ?_;clear c d;go_wp2;go_roundw
   case rel=>exact ⟨i+1,o_,by go_num,f⟩
   case measure=>simp[intOf];omega
  obtain rfl:i=n:=o_;go_wp2;go_ret;exact ⟨rfl,g.o⟩
def Od {m:Nat} {cs:Array Value} {Z d0:Int} (hz:ab w z 43 cs) (b:cs[0]?=some (.pointer (some ⟨p,0,none⟩))) (V:T.length=m) (hm:0<m) (H1:m<=1000)
  (hv:∀W,Kp ac w W->Cl 10 #[.pointer (some ⟨p,0,none⟩)] W fun e w'=>e=.returned (.pointer (some ⟨v,0,none⟩))/\w'=W)
  (hs:∀W,Kp ac w W->Cl 14 #[.pointer (some ⟨v,0,none⟩)] W fun e w'=>∃(A:Option Addr) (k c:Nat),e=.returned (.agg #[.bool true,.bool false,.int .i64 m,.int .i64 Z,.int .i64 d0,.int .i64 0,.int .i64 0,.bool false,.slice A k c])/\Kp ac W w')
  (X:∀W,Kp ac w W->∀i,i<m->Cl 11 #[.pointer (some ⟨v,0,none⟩),.int .i64 i] W fun e w'=>e=.returned (.tuple #[.string (tl T i),.int .i64 0])/\Kp ac W w') :
  Cl 24 #[.pointer (some ⟨z,0,none⟩)] w fun e w'=>∃u,e=.returned (.tuple #[u,.bool true])/\aH w' w.heap.size 9 u (sv T)/\Kp ac w w':=by
 have F:=Zz hz;have C:=Zz b;have G:=Zz hv;have D:=Zz hs;have HR:=Zz X;have l:=Zz V;have y:w.cell? ⟨z,0,none⟩=some (.pointer (some ⟨p,0,none⟩)):=(hz.cell 0).trans b;have U:Hid (aH w w.heap.size 9 (.slice none 0 0) (sv (T.take 0))):=Zz (aH.nil_ _ _ _);clear hz b hv hs X V;go_enter func24,ntmps24;go_wp2_with fail;refine (G.o w (Kp.refl _ _)).mono ?_;rintro e w1 ⟨rfl,rfl⟩;go_wp2_with fail;refine (D.o w1 (Kp.refl _ _)).mono ?_;rintro e H2 ⟨A,k,c,rfl,n⟩;have H:=fun W=>kV W (m:Int) Z d0 A k c;have N:=Zz n;have Y:=Zz (U.o.kp n fun _ _ h=>h);clear n U y
 go_upto_region 3 with fail
 go_loopw [4,15] (fun h3 d wr=>∃i:Nat,i<=m/\d=.int .i64 i/\Hid (aH wr w1.heap.size 9 h3 (sv (T.take i)))/\Hid (Kp ac w1 wr)) (fun _ d _=>(m-intOf d).toNat)
 case atStart=>exact ⟨0,o_,rfl,Y,N⟩
 case round =>
  clear Y N H;obtain ⟨i,h9,rfl,j,g⟩:=hrel
  have a:(T.take i).length=i:=by rw[gC,l.o];omega
  obtain ⟨E,R,rfl⟩:∃A c,u4=.slice A i c:=by
   obtain ⟨A,c,e⟩:=j.o.shape;exact ⟨A,c,by rw[e,cN,a]⟩
  have B:=Zz a;clear a;by_cases M:i<m
  ·have h7:(i:Int)<(m:Int):=o_
   have y:wr.cell? ⟨z,0,none⟩=some (.pointer (some ⟨p,0,none⟩)):=((F.o.kp g.o fun h=>h).cell 0).trans C.o;have L:Hid (sv (T.take i)++[.string (tl T i)]=sv (T.take (i+1))):=Zz (v_U _ i (by rw[l.o];exact M));have I:=Zz (HR.o wr g.o i M);generalize tl T i=s at *;go_wp2_with fail;refine (G.o wr g.o).mono ?_;rintro e w3 ⟨rfl,rfl⟩;go_wp2_with fail;refine I.o.mono ?_;rintro e h5 ⟨rfl,r⟩;have t:=Zz (g.o.trans r);have f:=Zz (j.o.kp r fun _ _ h=>h);have o:=t.o.size;clear r g j I y
   go_upto_region 9 with (at_builtin;refine Bp (w0:=h5) w1.heap.size rfl (.tmp 30) (.tmp 32) 38 9 (.string ⟨#[]⟩) 16 rfl underlying38 C4 rfl d_ _ _ (.string s) rfl rfl rfl f.o ((Below.refl _ _).mono o) o (by rw[cN,B.o];omega) ?_;intro h4 H3 x h1 O h0;obtain ⟨h6,h8,rfl⟩:∃A c,h4=.slice A (i+1) c:=(by obtain ⟨A,c,e⟩:=x.shape;exact ⟨A,c,by rw[e,cd,cN,B.o];rfl⟩);have Q:=Zz x;have P:=Zz O;clear x h1 O h0)
   have J:=Kp.of_grown P.o (S:=fun q=>some q=(Value.slice E i R).ownBlock) fun _ h=>h;have K:=Zz (t.o.then J fun q H0 h=>by have:=(f.o.lt q h.symm).1;omega);rw[L.o] at Q;clear J P f t o;go_wp2;go_roundw
   case rel=>exact ⟨i+1,o_,by go_num,Q,K⟩
   case measure=>simp[intOf];omega
  obtain rfl:i=m:=o_;have h2:Hid (aH wr w1.heap.size 9 (.slice E i R) (sv T)):=Zz (by have:=j.o;rwa [kx (Nat.le_of_eq l.o)] at this);have hp:(0:Int)<(i:Int):=o_;clear j;go_wp2;go_ret2;exact ⟨_,rfl,h2.o,g.o⟩
end
def Ja:Array Value:=#[.int .u64 0,.int .u64 0,.int .i64 0,.int .i64 0,.int .i64 0,.int .i64 0,.bool false,.slice none 0 0,.slice none 0 0]
section
variable {an:Nat} 
def Ke (M:a_ w) (h:Bk w b n σ F) (h1:10<=w.heap.size) (f:Nat) (z:List UInt8) (ha:ab w an 180 #[.int .u64 f,.string (bs z)])
  (J:∀i,i<n->(σ i).dead=false) (N:∀i,i<n->∀a,a<2->∃c,tl (σ i).now a=bs c/\c.length<=2048/\dC c≠z) :
  Cl 87 #[.agg (aT b an key)] w fun e w'=>e=.returned (.tuple #[.agg Ja,.int .i64 24])/\Kp ac w w':=by
 have j:=Zz ((ab.new w 113 (aT b an key)).alloc (.cells #[.int .u64 0,.int .u64 0,.int .i64 0,.int .i64 0,.int .i64 0,.int .i64 0,.bool false,.slice none 0 0,.slice none 0 0] 60));have u:=Zz (((Kp.refl ac w).alloc (.cells (aT b an key) 113)).alloc (.cells #[.int .u64 0,.int .u64 0,.int .i64 0,.int .i64 0,.int .i64 0,.int .i64 0,.bool false,.slice none 0 0,.slice none 0 0] 60));have o:=Zz (ab.new (w.alloc (.cells (aT b an key) 113)) 60 #[.int .u64 0,.int .u64 0,.int .i64 0,.int .i64 0,.int .i64 0,.int .i64 0,.bool false,.slice none 0 0,.slice none 0 0]);rw[World.size_alloc] at o;have R:=Zz (fun W (k:Kp ac w W)=>w_9 W an f _ (ha.kp k fun h=>h));have D:=Zz (fun W (k:Kp ac w W)=>x_m (h.no k));have L:=Zz (fun W (k:Kp ac w W) i at' (O:i<n) (C:at'<140)=>x_n (h.no k) i at' O C);have h5:=Zz (fun W (k:Kp ac w W) l (hl:l.length<=90000000)=>v_w W (M.no k) (by have:=k.size;omega) l hl);have h2:=Zz N;have K:=Zz J
 have H1:n<=12:=by obtain ⟨G,c,st,A,Φ,h0,_⟩:=h;exact h0.n12
 clear M h h1 ha J N;change Cl 87 #[.agg #[.pointer (some ⟨b,0,none⟩),.pointer (some ⟨an,0,none⟩),.string (bs key)]] w _;go_enter func87,ntmps87
 go_upto_region 1 with fail
 change Code.wp _ _ _ _ ((w.alloc (.cells (aT b an key) 113)).alloc (.cells #[.int .u64 0,.int .u64 0,.int .i64 0,.int .i64 0,.int .i64 0,.int .i64 0,.bool false,.slice none 0 0,.slice none 0 0] 60));generalize (w.alloc (.cells (aT b an key) 113)).alloc (.cells #[.int .u64 0,.int .u64 0,.int .i64 0,.int .i64 0,.int .i64 0,.int .i64 0,.bool false,.slice none 0 0,.slice none 0 0] 60)=w1 at *;obtain ⟨G,hG⟩:∃G,w.heap.size=G:=⟨_,rfl⟩;rw[hG] at j o ⊢;have H:=Zz hG;clear hG
 go_step3
 have m:=j.o.c0;have m1:=j.o.c1;go_wp2_with fail;refine (R.o _ u.o).mono ?_;rintro e s ⟨rfl,p⟩;have v:=Zz (j.o.kp p fun h=>h);have h3:=Zz (o.o.kp p fun h=>h);have r:=Zz (u.o.trans p);clear p m m1 j o u R;have m:=v.o.c0;have m1:=v.o.c1;go_wp2
 go_step3
 go_wp2_with fail;refine (D.o _ r.o).mono ?_;rintro e s ⟨rfl,rfl⟩;clear m m1;have g:=Zz (Kp.refl ac s)
 go_upto_region 3 with fail
 go_loopw [6,7,8,9,10,11,21] (fun _ _ _ _ _ _ em wr=>∃i:Nat,i<=n/\em=.int .i64 i/\Hid (Kp ac s wr)) (fun _ _ _ _ _ _ em _=>n-(intOf em).toNat)
 case atStart=>exact ⟨0,o_,rfl,g⟩
 case round =>
  clear g;obtain ⟨i,O,rfl,g⟩:=hrel;by_cases t:i<n
  ·have H0:(i:Int)<(n:Int):=o_
   obtain ⟨H4,rfl⟩:∃x,x=wr:=⟨wr,rfl⟩
   go_upto_region 6 with fail
   go_loopw [7,8,9,10,11,24] (fun _ _ _ _ _ d wr=>∃a:Nat,a<=2/\d=.int .i64 a/\Hid (Kp ac s wr)) (fun _ _ _ _ _ d _=>2-(intOf d).toNat)
   case atStart=>exact ⟨0,o_,rfl,g⟩
   case round =>
    clear g;obtain ⟨a,ha,rfl,g⟩:=hrel;by_cases U:a<2
    ·have y:=Zz (v.o.kp g.o fun h=>h)
     have h7:(a:Int)<2:=o_;have m:=y.o.c0;have m1:=y.o.c1;have HR:=Zz (L.o wr (r.o.trans g.o) i a t o_);rw[K.o i t] at HR;simp only[Bool.false_eq_true,if_false] at HR;obtain ⟨I,S,h4,T⟩:=h2.o i t a U;rw[S] at HR;have V:=Zz (h5.o wr (r.o.trans g.o) I o_);have X:¬bs (dC I)=bs z:=fun e=>T (X0.1 e);obtain ⟨h8,h9⟩:=Eb X;clear S h4 T;go_wp2_with fail;refine HR.o.mono ?_;rintro e w3 ⟨rfl,rfl⟩;go_wp2_with fail;refine V.o.mono ?_;rintro e H3 ⟨rfl,E⟩;have B:=Zz (g.o.trans E);clear E m m1 y g;go_wp2;go_roundw
     case rel=>exact ⟨a+1,o_,by go_num,B⟩
     case measure=>simp[intOf];omega
    obtain rfl:a=2:=o_;go_wp2;go_roundw
    case rel=>exact ⟨i+1,o_,by go_num,g⟩
    case measure=>simp[intOf];omega
  obtain rfl:i=n:=o_;have Q:=Zz (h3.o.kp g.o fun h=>h);have P:(prog.info? 60).map (·.size)=some 9:=k_
  have Y:Ja.all (·.oneCell')=true:=by simp[Ja,Value.oneCell']
  go_wp2_with (refine wpList_store_row rfl 60 (.tmp 2) (.tmp 66) rfl (G+1) Ja rfl rfl 60 _ Q.o P rfl Y ?_)
  have h6:=Q.o.setRow (cs':=Ja);have Z:Kp (fun q=>q=G+1) wr (wr.setRow (G+1) Ja):=(Kp.refl _ wr).setRow (G+1) _ (.inl rfl)
  try rw[Exit.noGoto_ret]
  refine bodyPost_ret (x_X rfl rfl h6 underlying60 rfl P) rfl ?_;exact ⟨rfl,(r.o.trans g.o).then Z fun q H2 e=>(by have:=H.o;have e:q=G+1:=e;omega:False)⟩
def JF (y:a_ w) (h:Bk w b n σ F) (M:10<=w.heap.size) (hk:key.length=32) (l:Nat) (O:0<l) (t:List UInt8) (ha:ab w an 180 #[.int .u64 l,.string (bs t)])
  (x:∀i,i<n->(σ i).dead=false) (z:∀i,i<n->∀a,a<2->∃c,tl (σ i).now a=bs c/\c.length<=2048/\dC c≠t) :
  Cl 50 #[.pointer (some ⟨b,0,none⟩),.pointer (some ⟨an,0,none⟩),.string (bs key)] w fun e w'=>e=.returned (.tuple #[.pointer none,.int .i64 24])/\Kp ac w w':=by
 have f:=Zz (fun W (k:Kp ac w W)=>ls (h.no k) an hk);have d:=Zz (fun W (k:Kp ac w W)=>w_9 W an _ _ (ha.kp k fun h=>h));have E:=Zz (fun W (kk:Kp ac w W)=>Ke (key:=key) (y.no kk) (h.no kk) (by have:=kk.size;omega) l t (ha.kp kk fun h=>h) x z)
 have Q:((l:Int)==0)=false:=by rw[pN];omega
 have g:=Zz (ab.new w 113 (aT b an key));have m:=Zz ((Kp.refl ac w).alloc (.cells (aT b an key) 113));clear y h M ha x z;go_enter func50,ntmps50
 go_upto_region 2 with fail
 change Code.wp _ _ _ _ (w.alloc (.cells (aT b an key) 113));generalize w.alloc (.cells (aT b an key) 113)=w1 at *;obtain ⟨G,hG⟩:∃G,w.heap.size=G:=⟨_,rfl⟩;rw[hG] at g ⊢;have P:=Zz hG;clear hG;have s:=g.o.c0;have m1:=g.o.c1;have m2:=g.o.c2;go_wp2_with fail;refine (f.o _ m.o).mono ?_;rintro e R ⟨rfl,o⟩;have u:=Zz (g.o.kp o fun h=>h);have p:=Zz (m.o.trans o);clear o s m1 m2 g m f;go_wp2_with fail;refine (d.o _ p.o).mono ?_;rintro e w3 ⟨rfl,r⟩;have j:=Zz (u.o.kp r fun h=>h);have q:=Zz (p.o.trans r);clear r u p d;have s:=j.o.c0;have m1:=j.o.c1;have m2:=j.o.c2;go_wp2_with fail;refine (E.o _ q.o).mono ?_;rintro e N ⟨rfl,v⟩;have J:=Zz (q.o.trans v);clear v s m1 m2 j q E;unfold Ja
 go_upto_region 9 with fail
 have I:=Zz (J.o.alloc (.cells #[.int .u64 0,.int .u64 0,.int .i64 0,.int .i64 0,.int .i64 0,.int .i64 0,.bool false,.slice none 0 0,.slice none 0 0] 60));generalize N.alloc (.cells #[.int .u64 0,.int .u64 0,.int .i64 0,.int .i64 0,.int .i64 0,.int .i64 0,.bool false,.slice none 0 0,.slice none 0 0] 60)=S at *;go_wp2;go_ret2;exact ⟨rfl,I.o⟩
def BF {m:Option Nat} (h:ab w v 88 (i3 b an key none m))
  (o:∀W,Kp ac w W->Cl 50 #[.pointer (some ⟨b,0,none⟩),.pointer (some ⟨an,0,none⟩),.string (bs key)] W fun e w'=>e=.returned (.tuple #[.pointer none,.int .i64 24])/\Kp ac W w') :
  Cl 23 #[.pointer (some ⟨v,0,none⟩)] w fun e w'=>e=.returned (.int .i64 24)/\Kp ac w w':=by
 have s:=h.c3;have g:=Zz h.drew;have q:=Zz (Kp.refl ac w).drew;have p:=Zz (o w.drew (Kp.refl ac w).drew);clear h o;go_enter func23,ntmps23
 go_upto_region 5 with fail
 clear s;refine fs ?_;generalize w.drew=w1 at *;have j:=g.o.c0;have k:=g.o.c1;have l:=g.o.c2;refine fp 0 ?_;refine fp 1 ?_;refine fp 2 ?_;refine cw 3 j ?_;refine fp 4 ?_;refine fp 5 ?_;refine fp 6 ?_;refine cw 7 k ?_;refine fp 8 ?_;refine fp 9 ?_;refine fp 10 ?_;refine cw 11 l ?_;refine fd 12 fun K t n=>?_;go_simp;refine p.o.mono ?_;rintro e u ⟨rfl,i⟩;refine n _ _ (oW (oW (oW oN))) ?_;clear n K j k l;refine fp 13 ?_;refine fp 14 ?_;refine fp 15 ?_;refine fp 16 ?_;refine fp 17 ?_;refine fe ?_;have r:=Zz (q.o.trans i);clear i;go_wp2;go_ret;exact ⟨rfl,r.o⟩
end
def iI (σ:ao):Prop:=∀k,(tl σ.now k).size<=2048
def QS {L:List B_} {i:Nat} {s:B_} (h:∀k,(tl L k).size<=2048) (hs:s.size<=2048) (k:Nat):(tl (L.set i s) k).size<=2048:=by
 by_cases e:i<L.length
 ·rw[yW _ _ _ _ e]
  split
  ·exact hs
  exact h k
 rw[List.set_eq_of_length_le o_];exact h k
def iI.write {σ:ao} (h:iI σ) (i:Nat) {s:B_} (hs:s.size<=2048):iI (σ.write i s):=by
 unfold ao.write;split
 ·exact h
 exact QS h hs
def iI.flush {σ:ao} (h:iI σ):iI σ.flush:=by
 unfold iI;rw[ao.flush_now];exact h
def iI.wrs (l:List Wr):∀ {σ:ao},iI σ->(∀x∈l,x.cell.size<=2048)->iI (σ.wrs l):=by
 induction l with
 | nil=>intro σ h _;exact h
 | cons x l i =>
  intro σ h e;exact i (h.write x.at' (e x List.mem_cons_self)) fun y g=>e y (List.mem_cons_of_mem _ g)
def iI.pub (h:∀i,iI (σ i)) (c:Nat) {t:B_} (e:t.size<=2048) (k i:Nat):iI (eY σ c t k i):=by
 unfold eY;split
 ·exact ((h i).write c e).flush
 exact h i
def iI.lg (h:∀i,iI (σ i)) (dom:List Nat) {T:Nat->List Wr} (e:∀j∈dom,∀x∈T j,x.cell.size<=2048) (k i:Nat):iI (gE σ dom T k i):=by
 unfold gE;split
 ·rename_i g
  exact (iI.wrs _ (h i) (e i g.2)).flush
 exact h i
def iI.dk0:iI dk0:=fun k=>by
 show (tl (List.replicate 140 ByteArray.empty) k).size<=2048;rw[JO];decide
section
variable {l:List fu} {N:Nat->Nat} {CC:Nat->List B_}
def Jb (h:gQ n key S σ ch B) (hl:e_ S key N CC S.slots l) {t0:Nat} (s:t0<S.slots) (t:0<N t0) (r:a7 (dZ S σ n ch l)) (hz:∀i,iI (σ i)) (i:Nat):iI (l1 S σ n ch l i):=by
 have o:=hl.hlc h.ok s t
 have q:∀j∈cZ (e7 S) σ n,∀x∈wM S.slots ch l j,x.ok:=fun j e=>by
  unfold cZ at e;obtain ⟨_,m⟩:=List.mem_filter.1 e;simp only[Bool.and_eq_true,beq_iff_eq,Bool.not_eq_true'] at m;have p:dT S j=1:=m.1;have hb:bad S σ j=false:=c_.2 ⟨p,m.2⟩;obtain ⟨_,_,hm⟩:=h.goodLt hb;obtain ⟨_,_,v⟩:=o j hm (by rw[<-SH hm];exact p);exact Kl h.ok.sl _ _ (h.csz j) v
 have u:(bs (bh (dZ S σ n ch l))).size<=2048:=by rw[cG];have:=Xg r;omega
 unfold l1;refine iI.lg (fun i=>?_) _ (fun j e x g=>cL (q j e x g).2.2 d_) n i;unfold JQ;refine iI.pub (fun i=>?_) _ u n i;unfold Fy;refine iI.lg hz _ (fun j e x g=>?_) n i;unfold fD at g;obtain ⟨k,hk,rfl⟩:=List.mem_map.1 g;exact wK _ (q j e) k (List.mem_range.1 hk)
end
def W2 {a:Nat} (ha:a<=1000) (hb:b<=1000) (h:bQ a=bQ b):a=b:=by
 have e:∀x,x<=1000->(bQ x).getD 6 0=b8 (x / 256)/\(bQ x).getD 7 0=b8 x:=fun x m=>by
  have j:x / 4294967296=0:=o_;have k:x % 4294967296=x:=o_;unfold bQ;rw[j,k];exact ⟨rfl,rfl⟩
 have g:=(e a ha).1.symm.trans ((congrArg (fun l=>l.getD 6 0) h).trans (e b hb).1);have i:=(e a ha).2.symm.trans ((congrArg (fun l=>l.getD 7 0) h).trans (e b hb).2);have g:=congrArg UInt8.toNat g;have i:=congrArg UInt8.toNat i;rw[Iu,Iu] at g i;omega
def Kt (g:a7 S) (i:a7 S') (h:bh S=bh S'):S.count=S'.count:=by
 have e:=congrArg (List.take 8) h;rw[Ay,Ay,List.take_append_of_le_length (by rw[ec];decide),List.take_append_of_le_length (by rw[ec];decide),kx (by rw[ec];decide),kx (by rw[ec];decide)] at e;exact W2 g.c i.c e
def RcA (σ:Nat->ao) (n c a:Nat) (R:cj):Prop:=a7 R/\R.count<=c/\(a≠c % 2->R.count<c)/\R.mem.length=n/\0<R.count/\R.epoch<=2/\∀i,i<n->tl (σ i).now a=bs (bh R)
def RcI (σ:Nat->ao) (n c:Nat):Prop:=∃R:Nat->cj,∀a,a<2->RcA σ n c a (R a)
def Fo (l:List UInt8):((⟨#[2]⟩:B_)++bs l).data.toList=2::l:=by
 rw[ByteArray.data_append,Array.toList_append];rfl
def sum_rec (l:List UInt8):kZ ((⟨#[2]⟩:B_)++bs l)=bs (dC l):=by
 unfold kZ dC;rw[Fo]
def Z_ (i:a7 S) (j:a7 S') (k:S'.count<S.count) (hg:g (kZ ((⟨#[2]⟩:B_)++bs (bh S)))=some ((⟨#[2]⟩:B_)++bs (bh S))) (h:g (kZ ((⟨#[2]⟩:B_)++bs (bh S')))=some ((⟨#[2]⟩:B_)++bs (bh S'))):dC (bh S')≠dC (bh S):=fun e=>by
 rw[sum_rec] at hg h;rw[e,hg] at h;injection h with h;have:=congrArg (fun x:B_=>x.data.toList) h;simp only[Fo] at this;injection this with _ this;have:=Kt i j this;omega
section
structure Vo (n d s:Nat) (S:cj) (σ:Nat->ao) (ch:Nat->Nat->B_) (B:Nat->B_):Prop where
 vk:Vk n d s S σ ch B []
 al:∀i,(σ i).dead=false
 rc:RcI σ n S.count
 sz:∀i,iI (σ i)
 lg:∃L,zX S σ L
 ep:S.epoch=2
def Vo.begin (l:2<=d) (m:d<=4) (hs:sl s):Vo (d+2) d s (qa d s (d+2)) (MX d s (d+2)) (fun _=>eD) (fun _=>bs gy):=by
 obtain ⟨j,b,r,f⟩:=wO (n:=d+2) dX l m hs (bS _) o_;obtain ⟨g,u,p,c⟩:=gQ.format (s:=s) (n:=d+2) dX l m hs (bS _) o_;obtain ⟨_,_,z⟩:=g.opened u (show 1<1000 by decide) (show 1<1000 by decide)
 have k:∀i,iI (fU d s (d+2) i):=fun i=>by
  unfold fU;split
  ·exact (iI.wrs _ iI.dk0 fun x v=>cL (wH hs x v).2.2 d_).flush
  exact iI.dk0
 have o:(bs (bh (g8 d s (d+2)))).size<=2048:=by rw[cG];have:=Xg g.ok;omega
 have y:(bs (bh (eG (g8 d s (d+2))))).size<=2048:=by rw[cG];have:=Xg j.ok;unfold qa at this;omega
 refine ⟨Vk.begin l m hs,r,⟨fun a=>if a=0 then qa d s (d+2) else g8 d s (d+2),fun a ha=>?_⟩,fun i=>?_,⟨_,b⟩,rfl⟩
 ·rcases (by omega:a=0\/a=1) with rfl|rfl
  ·show RcA _ _ _ 0 (if (0:Nat)=0 then qa d s (d+2) else g8 d s (d+2))
   rw[if_pos rfl];refine ⟨j.ok,bS _,fun e=>absurd (show 0=(1+1) % 2 by decide) e,j.len,by show 0<2;decide,by show 2<=2;decide,fun i h=>?_⟩;have q:=j.rc i h (r i)
   have t:(qa d s (d+2)).count % 2=0:=by show (1+1) % 2=0;decide
   rw[t] at q;exact q
  show RcA _ _ _ 1 (if (1:Nat)=0 then qa d s (d+2) else g8 d s (d+2));rw[if_neg d_];refine ⟨g.ok,by show 1<=2;decide,fun _=>by show 1<2;decide,g.len,by show 0<1;decide,by show 1<=2;decide,fun i h=>?_⟩;exact (z i h (p i) 1 (by show 1≠(1+1) % 2;decide)).trans (g.rc i h (p i))
 unfold MX;refine iI.pub (fun i=>?_) _ y _ i;unfold e6;split
 ·unfold qR
  split
  ·exact iI.pub k 1 o _ i
  exact iI.pub k 1 o _ i
 exact iI.pub k 1 o _ i
def Vo.synced (h:Vo n d s S σ ch B) (v:∀k y,f k=some y->y.size=32) {l:List fu} (hl:e_ S dX (fun t=>cS (go S.data f t) S.data) (fun t=>i1 S.data f (eg (fi S.data B t)) t) S.slots l) {t0:Nat} (q:t0<S.slots) (r:0<cS (go S.data f t0) S.data) (z:S.count<800) :
  Vo n d s (dZ S σ n ch l) (l1 S σ n ch l) (fun j=>dp (ch j) (lC l j)) (fun k=>(f k).getD (B k)):=by
 obtain ⟨o,b,c,I⟩:=h.vk.ok.synced o_ v hl q r
 have u:∀i,(l1 S σ n ch l i).dead=false:=fun i=>by rw[v_7];exact h.al i
 have g:(dZ S σ n ch l).count=S.count+1:=rfl
 have x:0<S.count:=by
  obtain ⟨R,hR⟩:=h.rc;obtain ⟨_,E,_,_,G,_⟩:=hR 0 d_;omega
 refine ⟨h.vk.synced v hl q r z,u,⟨fun a=>if a=S.count % 2 then S else dZ S σ n ch l,fun a ha=>?_⟩,fun i=>Jb h.vk.ok hl q r o.ok h.sz i,⟨_,b⟩,(show S.epoch=2 from h.ep)⟩;by_cases e:a=S.count % 2
 ·show RcA _ _ _ a (if a=S.count % 2 then S else dZ S σ n ch l)
  rw[if_pos e];subst e;refine ⟨h.vk.ok.ok,by rw[g];omega,fun _=>by rw[g];omega,h.vk.ok.len,x,by rw[h.ep];decide,fun i m=>(c i m (h.al i)).trans (h.vk.ok.rc i m (h.al i))⟩
 show RcA _ _ _ a (if a=S.count % 2 then S else dZ S σ n ch l);rw[if_neg e];refine ⟨o.ok,bS _,fun p=>?_,o.len,by rw[g];omega,(show S.epoch<=2 by rw[h.ep];decide),fun i m=>?_⟩
 ·rw[g] at p;omega
 have:=o.rc i m (u i);rw[g] at this;have p:a=(S.count+1) % 2:=o_;rw[p];exact this
end
structure To (w w':W_) (X:Nat->Prop) (z p b v n q gt:Nat) (S:cj) (σ:Nat->ao) (f:Nat->Option B_) (dom:List Nat) (vn vl kv:Value) (now b5:List B_) (K:List (List (List B_))) (g:B_->Option B_) (gd:Nat) (pl:Bool) (Q Ft:Nat->Prop):Prop where
 hz:ab w' z 43 (vP p vn vl (.slice none 0 0) gt pl)
 hn:aH w' 0 9 vn (sv now)
 hl:aH w' 0 9 vl (sv b5)
 hm:Mc w' p b v n q dX S σ f dom [] kv Ft
 hg:∃dm,aS KS w' gt (N6 g) dm/\dm.length<=gd
 hk:ic w' w.heap.size kv K Q
 k:Kp ac w w'
 F:∀x,Ft x->w.heap.size<=x/\x≠z/\x≠gt/\vn.ownBlock≠some x/\vl.ownBlock≠some x/\¬Q x/\¬X x
 zlo:w.heap.size<=z/\¬X z/\¬Q z
 glo:w.heap.size<=gt/\¬X gt/\¬Q gt/\z≠gt
 vlo:∀x,vn.ownBlock=some x->w.heap.size<=x/\¬X x/\¬Q x/\vl.ownBlock≠some x/\x≠gt
 llo:∀x,vl.ownBlock=some x->w.heap.size<=x/\¬X x/\¬Q x/\x≠gt
 qx:∀x,Q x->¬X x
 xlt:∀x,X x->x<w'.heap.size
section
def To.no (h:To w w' X z p b v n q gt S σ f dom vn vl kv now b5 K g gd pl Q Ft) (k:Kp ac w' w''):To w w'' X z p b v n q gt S σ f dom vn vl kv now b5 K g gd pl Q Ft:=by
 obtain ⟨dm,e,i⟩:=h.hg;exact ⟨h.hz.kp k fun h=>h,h.hn.kp k fun _ _ h=>h,h.hl.kp k fun _ _ h=>h,h.hm.no k,⟨dm,e.no k,i⟩,h.hk.no k,h.k.trans k,h.F,h.zlo,h.glo,h.vlo,h.llo,h.qx,fun x j=>ea (h.xlt x j) k.size⟩
def To.own (h:To w w' X z p b v n q gt S σ f dom vn vl kv now b5 K g gd pl Q Ft) {T:Nat->Prop} (k:Kp T w' w'') (i:∀x,T x->X x/\w.heap.size<=x):To w w'' X z p b v n q gt S σ f dom vn vl kv now b5 K g gd pl Q Ft:=by
 obtain ⟨dm,l,m⟩:=h.hg;exact ⟨h.hz.kp k fun e=>h.zlo.2.1 (i _ e).1,h.hn.kp k fun x j e=>(h.vlo x j).2.1 (i _ e).1,h.hl.kp k fun x j e=>(h.llo x j).2.1 (i _ e).1,h.hm.kp k fun x e o=>(h.F x o).2.2.2.2.2.2 (i _ e).1,⟨dm,l.kp k fun e=>h.glo.2.1 (i _ e).1,m⟩,h.hk.kp k fun x e r=>h.qx x r (i x e).1,h.k.then k fun x j e=>(by have:=(i x e).2;omega:False),h.F,h.zlo,h.glo,h.vlo,h.llo,h.qx,fun x j=>ea (h.xlt x j) k.size⟩
def To.add (h:To w w' X z p b v n q gt S σ f dom vn vl kv now b5 K g gd pl Q Ft) {g2:Nat} (hg:w'.heap.size<=g2) (y:g2<w''.heap.size) (k:Kp ac w' w''):To w w'' (fun x=>X x\/x=g2) z p b v n q gt S σ f dom vn vl kv now b5 K g gd pl Q Ft:=by
 have j:=h.no k
 have c:∀x,Q x->x<w'.heap.size:=by obtain ⟨d,hk⟩:=h.hk;exact fun x i=>(hk.qb x i).2
 have E:gt<w'.heap.size:=by obtain ⟨dm,a,_⟩:=h.hg;exact a.lt
 refine ⟨j.hz,j.hn,j.hl,j.hm,j.hg,j.hk,j.k,fun x i=>?_,⟨h.zlo.1,fun e=>?_,h.zlo.2.2⟩,⟨h.glo.1,fun e=>?_,h.glo.2.2⟩,fun x i=>?_,fun x i=>?_,fun x i e=>?_,fun x i=>?_⟩
 ·obtain ⟨l,m,o,r,s,t,u⟩:=h.F x i
  refine ⟨l,m,o,r,s,t,fun e=>?_⟩;rcases e with e|rfl
  ·exact u e
  have:=(h.hm.lt i).2;omega
 ·rcases e with e|e
  ·exact h.zlo.2.1 e
  have:=h.hz.lt;omega
 ·rcases e with e|e
  ·exact h.glo.2.1 e
  omega
 ·obtain ⟨l,m,o⟩:=h.vlo x i
  refine ⟨l,fun e=>?_,o⟩;rcases e with e|rfl
  ·exact m e
  have:=(h.hn.lt x i).2;omega
 ·obtain ⟨l,m,o⟩:=h.llo x i
  refine ⟨l,fun e=>?_,o⟩;rcases e with e|rfl
  ·exact m e
  have:=(h.hl.lt x i).2;omega
 ·rcases e with e|rfl
  ·exact h.qx x i e
  have:=c x i;omega
 rcases i with i|rfl
 ·exact j.xlt x i
 exact y
def To.less (h:To w w' X z p b v n q gt S σ f dom vn vl kv now b5 K g gd pl Q Ft) {Y:Nat->Prop} (j:∀x,Y x->X x):To w w' Y z p b v n q gt S σ f dom vn vl kv now b5 K g gd pl Q Ft :=
 ⟨h.hz,h.hn,h.hl,h.hm,h.hg,h.hk,h.k,fun x i=>by obtain ⟨k,l,m,o,r,s,t⟩:=h.F x i;exact ⟨k,l,m,o,r,s,fun e=>t (j x e)⟩,⟨h.zlo.1,fun e=>h.zlo.2.1 (j _ e),h.zlo.2.2⟩,⟨h.glo.1,fun e=>h.glo.2.1 (j _ e),h.glo.2.2⟩,fun x i=>⟨(h.vlo x i).1,fun e=>(h.vlo x i).2.1 (j _ e),(h.vlo x i).2.2⟩,fun x i=>⟨(h.llo x i).1,fun e=>(h.llo x i).2.1 (j _ e),(h.llo x i).2.2⟩,fun x i e=>h.qx x i (j x e),fun x i=>h.xlt x (j x i)⟩
def To.yF (h:To w w' X z p b v n q gt S σ f dom vn vl kv now b5 K g gd pl Q Ft) (k:Kp Ft w' w''):Kp (Yx w X) w' w'':=k.mono fun x _ e=>⟨(h.F x e).1,(h.F x e).2.2.2.2.2.2⟩
def To.step (h:To w w' X z p b v n q gt S σ f dom vn vl kv now b5 K g gd pl Q Ft) {t:Nat} {r:Nat->Option B_} {o:List Nat} {Ft':Nat->Prop} (hg:Gr w' Ft Ft') (hm:Mc w'' p b v n t dX S' σ' r o [] kv Ft') (k:Kp Ft w' w'') :
  To w w'' X z p b v n t gt S' σ' r o vn vl kv now b5 K g gd pl Q Ft':=by
 have u:∀x,Q x->x<w'.heap.size:=by obtain ⟨y,hk⟩:=h.hk;exact fun x j=>(hk.qb x j).2
 obtain ⟨dm,m,s⟩:=h.hg;have a:=m.lt;refine ⟨h.hz.kp k fun i=>(h.F _ i).2.1 rfl,h.hn.kp k fun x j i=>(h.F x i).2.2.2.1 j,h.hl.kp k fun x j i=>(h.F x i).2.2.2.2.1 j,hm,⟨dm,m.kp k fun i=>(h.F _ i).2.2.1 rfl,s⟩,h.hk.kp k fun x i=>(h.F x i).2.2.2.2.2.1,h.k.then k fun x j i=>(by have:=(h.F x i).1;omega:False),fun x j=>?_,h.zlo,h.glo,h.vlo,h.llo,h.qx,fun x j=>ea (h.xlt x j) k.size⟩;by_cases e:x<w'.heap.size
 ·exact h.F x (hg x e j)
 have m:=h.k.size;have s:=h.hz.lt;exact ⟨o_,o_,o_,fun l=>by have:=(h.hn.lt x l).2;omega,fun l=>by have:=(h.hl.lt x l).2;omega,fun l=>by have:=u x l;omega,fun l=>by have:=h.xlt x l;omega⟩
end
section
def YZ (h:To w w' X z p b v n q gt S σ f dom vn vl kv now b5 K g gd pl Q Ft) (G:a_ w) (l:Vk n d s S σ ch B []) (I:Wp (s*d) B f dom now) (J:dom.length<1000) (m a c t u:Int) (k:UInt8) (cell:B_) :
  Cl 7 #[.pointer (some ⟨z,0,none⟩),.agg (BK m a c t k cell u)] w' fun e w''=>e=.returned (.tuple #[])/\To w w'' X z p b v n q gt S σ (xn f (Aj a (s*d)) (Gj k c)) (e8 dom (Aj a (s*d))) vn vl kv (now.set (Aj a (s*d)) (Gj k c)) b5 K g gd pl Q Ft/\Kp (Yx w X) w' w'':=by
 have e:S.slots*S.data=s*d:=by rw[l.es,l.ed]
 have r:=Kh (G.no h.k) l.ok.ok h.hz h.hn (I.len.trans e.symm) h.hm (fun i=>(h.F _ i).2.1 rfl) (fun x j i=>(h.F x i).2.2.2.1 j) J m a c t u k cell;rw[e] at r;refine r.mono ?_;rintro e w'' ⟨rfl,hz,hn,hm,hk⟩;obtain ⟨dm,y,E⟩:=h.hg;refine ⟨rfl,⟨hz,hn,h.hl.kp hk fun x j i=>?_,hm,⟨dm,y.kp hk fun i=>?_,E⟩,h.hk.kp hk fun x i o=>?_,h.k.then hk fun x j i=>?_,h.F,h.zlo,h.glo,h.vlo,h.llo,h.qx,fun x j=>ea (h.xlt x j) hk.size⟩,hk.mono fun x _ i=>?_⟩
 ·rcases i with i|i
  ·exact (h.F x i).2.2.2.2.1 j
  exact (h.vlo x i).2.2.2.1 j
 ·rcases i with i|i
  ·exact (h.F _ i).2.2.1 rfl
  exact (h.vlo _ i).2.2.2.2 rfl
 ·rcases i with i|i
  ·exact (h.F x i).2.2.2.2.2.1 o
  exact (h.vlo x i).2.2.1 o
 ·rcases i with i|i
  ·have:=(h.F x i).1;omega
  have:=(h.vlo x i).1;omega
 rcases i with i|i
 ·exact ⟨(h.F x i).1,(h.F x i).2.2.2.2.2.2⟩
 exact ⟨(h.vlo x i).1,(h.vlo x i).2.1⟩
def to_sync (h:To w w' X z p b v n q gt S σ f dom vn vl kv now b5 K g gd pl Q Ft) (h9:a_ w) (H7:10<=w.heap.size) (O:Vo n d s S σ ch B) (H6:S.count<100) (C:q<=50000) (r:Wp (s*d) B f dom now) :
  Cl 8 #[.pointer (some ⟨z,0,none⟩)] w' fun e w''=>e=.returned (.int .i64 0)/\∃o S' σ' u B' G Ft',To w w'' X z p b v n o gt S' σ' (fun _=>none) [] vn G kv now now K g gd pl Q Ft'/\Vo n d s S' σ' u B'/\Wp (s*d) B' (fun _=>none) [] now/\o<=q+100/\(S'.count=S.count+1\/S'=S/\σ'=σ)/\Kp (Yx w X) w' w'':=by
 have m:=O.vk
 have hm:0<s*d:=by
  have:=m.ok.ok.d2;rw[m.ed] at this
  have:2<=s:=by rw[<-m.es];rcases m.ok.ok.sl with h|h<;>omega
  exact Nat.mul_pos o_ o_
 have H1:s*d<=1000:=by
  have A:=m.ok.ok.d8;rw[m.ed] at A
  have h2:s<=4:=by rw[<-m.es];rcases m.ok.ok.sl with h|h<;>omega
  exact cL (Nat.mul_le_mul h2 A) d_
 have L:∀W,Kp ac w' W->Cl 12 #[.pointer (some ⟨v,0,none⟩)] W fun e w''=>e=.returned (.int .i64 0)/\∃Ft',Gr W Ft Ft'/\Kp Ft W w''/\∃o S' σ' u B',To w w'' X z p b v n o gt S' σ' (fun _=>none) [] vn vl kv now b5 K g gd pl Q Ft'/\Vo n d s S' σ' u B'/\Wp (s*d) B' (fun _=>none) [] now/\o<=q+100/\(S'.count=S.count+1\/S'=S/\σ'=σ):=fun W k=>by
  have h:=h.no k
  cases dom with
  | nil =>
   have t:=r.none_;subst t;refine (Yr h.hm).mono ?_;rintro e w'' ⟨rfl,rfl⟩
   exact ⟨rfl,Ft,fun _ _ h=>h,Kp.refl _ _,q,S,σ,ch,B,h,O,r,o_,.inr ⟨rfl,rfl⟩⟩
  | cons a H8 =>
   have h8:=r.dm a List.mem_cons_self;have H5:=(r.is a).2 List.mem_cons_self
   have H3:0<d:=by have:=m.ok.ok.d2;rw[m.ed] at this;omega
   have D:a / d<S.slots:=by rw[m.es];exact Nat.div_lt_of_lt_mul (by rw[Nat.mul_comm];exact h8)
   have F:0<cS (go S.data f (a / d)) S.data:=by
    rw[m.ed];refine Vx (c:=a % d) ?_ (gx _ H3);unfold go;rw[Nat.mul_comm,Nat.div_add_mod];exact H5
   have N:i7 S σ=0:=by rw[m.lost];rfl
   refine (LD (h9.no h.k) (by have:=h.k.size;omega) rfl m.ok h.hm r.fz (fun k hk=>by rw[m.es,m.ed];exact r.dm k hk) o_ o_ D F (.inl N)).mono ?_;rintro e w'' ⟨rfl,_,h6⟩;obtain ⟨l,o,Ft',T,⟨_,U⟩,hg,H4,H⟩:=h6 N;have hl:=T.hl m.ok.ok;exact ⟨by rw[N],Ft',hg,H,o,_,_,_,_,h.step hg H4 H,O.synced r.fz T D F o_,r.synced,o_,.inl rfl⟩
 refine (Qs (R:=fun w'' Ft'=>∃o S' σ' u B',To w w'' X z p b v n o gt S' σ' (fun _=>none) [] vn vl kv now b5 K g gd pl Q Ft'/\Vo n d s S' σ' u B'/\Wp (s*d) B' (fun _=>none) [] now/\o<=q+100/\(S'.count=S.count+1\/S'=S/\σ'=σ)) h.hz h.hn ⟨by rw[r.len];exact hm,by rw[r.len];exact H1⟩ h.hm (fun t=>(h.F _ t).2.1 rfl) (fun x i t=>(h.F x t).2.2.2.1 i) L).mono ?_;rintro e w'' ⟨rfl,Ft',G,W,hg,⟨o,S',σ',u,B',j,H2,h3,U,h7⟩,E,h0,h1,y,hk⟩
 have H0:∀x,Q x->x<W.heap.size:=by obtain ⟨H9,hk⟩:=j.hk;exact fun x i=>(hk.qb x i).2
 have P:∀x,G.ownBlock=some x->W.heap.size<=x:=fun x i=>(y.lt x i).1;have x0:=j.k.size;obtain ⟨dm,Z,g2⟩:=j.hg;have x1:=Z.lt;refine ⟨rfl,o,S',σ',u,B',G,Ft',⟨h0,h1,y.more (Nat.zero_le _),j.hm.kp E fun x i t=>(j.F x t).2.1 i,⟨dm,Z.kp E fun e=>j.glo.2.2.2 e.symm,g2⟩,j.hk.kp E fun x e C=>?_,j.k.then E fun x i e=>(by have e:x=z:=e;have:=j.zlo.1;omega:False),fun x i=>?_,j.zlo,j.glo,fun x i=>?_,fun x i=>?_,j.qx,fun x i=>ea (j.xlt x i) E.size⟩,H2,h3,U,h7,hk.mono fun x _ i=>?_⟩
 ·have e:x=z:=e
  subst e;exact j.zlo.2.2 C
 ·obtain ⟨I,J,M,V,Y,h4,h5⟩:=j.F x i
  exact ⟨I,J,M,V,fun e=>by have:=P x e;have:=(j.hm.lt i).2;omega,h4,h5⟩
 ·obtain ⟨I,J,M,V,Y⟩:=j.vlo x i
  exact ⟨I,J,M,fun e=>by have:=P x e;have:=(j.hn.lt x i).2;omega,Y⟩
 ·have:=P x i
  exact ⟨o_,fun e=>by have:=j.xlt x e;omega,fun e=>by have:=H0 x e;omega,o_⟩
 rcases i with i|rfl
 ·exact ⟨(h.F x i).1,(h.F x i).2.2.2.2.2.2⟩
 exact ⟨h.zlo.1,h.zlo.2.1⟩
def to_look (h:To w w' X z p b v n q gt S σ f dom vn vl kv now b5 K g gd pl Q Ft) (c:a_ w) (P:10<=w.heap.size) (o:Vo n d s S σ ch B) (T:gd<=100000) :
  Cl 15 #[.pointer (some ⟨z,0,none⟩)] w' fun e w''=>e=.returned (.tuple #[])/\∃ok l,To w w'' X z p b v n q gt S σ f dom vn vl kv now b5 K l (gd+1+n*141) (ok && pl) Q Ft/\Pd ok g l (p_ σ n)/\Kp (Yx w X) w' w'':=by
 obtain ⟨dm,a,g2⟩:=h.hg;obtain ⟨an,gm,st,U,O,vs,vm,F,m,hF⟩:=h.hm;have M:¬Ft gt:=fun e=>(h.F _ e).2.2.1 rfl;refine (wR (R:=fun ok W=>WS W gt g ok (dm.length+1+n*141) (p_ σ n)/\Kp (·=gt) w' W) h.hz m.hp h.glo.2.2.2 fun W k=>?_).mono ?_
 ·refine (Em (c.no (h.k.trans k)) (by have:=h.k.size;have:=k.size;omega) (m.hb.no k) (fun i _=>o.al i) (fun i _ k _=>o.sz i k) (a.no k) (by have:=h.glo.1;omega) o_).mono ?_
  rintro e w'' ⟨ok,rfl,G,hk⟩;exact ⟨ok,rfl,⟨G,(k.mono fun _ _ h=>h.elim).trans hk⟩,hk⟩
 rintro e w'' ⟨rfl,ok,W,⟨⟨l,y,m1,m2,I⟩,N⟩,J,u,hk⟩
 have E:∀x,(x=gt\/x=z)->¬Ft x:=fun x j r=>by
  rcases j with rfl|rfl
  ·exact M r
  exact (h.F _ r).2.1 rfl
 refine ⟨rfl,ok,l,⟨u,h.hn.kp hk fun x j e=>?_,h.hl.kp hk fun x j e=>?_,h.hm.kp hk E,⟨y,m1.kp J fun e=>h.glo.2.2.2 e.symm,o_⟩,h.hk.kp hk fun x e t=>?_,h.k.then hk fun x j e=>?_,h.F,h.zlo,h.glo,h.vlo,h.llo,h.qx,fun x j=>ea (h.xlt x j) hk.size⟩,I,hk.mono fun x _ e=>?_⟩
 ·rcases e with rfl|rfl
  ·exact (h.vlo _ j).2.2.2.2 rfl
  obtain ⟨cs,hb⟩:=Sz h.hn j;exact ab.ne_ hb h.hz d_ rfl
 ·rcases e with rfl|rfl
  ·exact (h.llo _ j).2.2.2 rfl
  obtain ⟨cs,hb⟩:=Sz h.hl j;exact ab.ne_ hb h.hz d_ rfl
 ·rcases e with rfl|rfl
  ·exact h.glo.2.2.1 t
  exact h.zlo.2.2 t
 ·rcases e with rfl|rfl
  ·have:=h.glo.1;omega
  have:=h.zlo.1;omega
 rcases e with rfl|rfl
 ·exact ⟨h.glo.1,h.glo.2.1⟩
 exact ⟨h.zlo.1,h.zlo.2.1⟩
def to_save (h:To w w' X z p b v n q gt S σ f dom vn vl kv now b5 K g gd pl Q Ft) (h4:Vo n d s S σ ch B) (h3:K.length<8) :
  Cl 16 #[.pointer (some ⟨p,0,none⟩)] w' fun e w''=>e=.returned (.tuple #[.int .i64 (K.length:Nat),.int .i64 0])/\∃R N,To w w'' X z p b v n q gt S σ f dom vn vl R now b5 (K++[ye σ n]) g gd pl N Ft/\Kp (Yx w X) w' w'':=by
 obtain ⟨dm,A,g2⟩:=h.hg;have h8:=A.lt;obtain ⟨h7,C⟩:=h.hk;obtain ⟨an,gm,st,H,D,vs,vm,F,l,hF⟩:=h.hm;have U:Ft p:=(hF p).2 (.inr (.inl rfl));refine (Q8 l.hp l.hb (fun i _=>h4.al i) h.hk h3 h.k.size (h.F p U).2.2.2.2.2.1).mono ?_;rintro e w'' ⟨rfl,R,N,h9,H0,V,m⟩;have M:∀x,kv.ownBlock=some x->Q x:=C.kq
 have y:∀x,(x=p\/kv.ownBlock=some x)->Ft x\/Q x:=fun x j=>by
  rcases j with rfl|j
  ·exact .inl U
  exact .inr (M x j)
 have J:∀ {g2 t2:Nat} {Z:Array Value},ab w' g2 t2 Z->t2≠81->Ft g2->¬(g2=p\/kv.ownBlock=some g2):=fun P h1 r e=>by
  rcases e with e|e
  ·exact ab.ne_ P l.hp h1 e
  exact (h.F _ r).2.2.2.2.2.1 (M _ e)
 have Y:∀ {base e size k:Nat} {u:Value} {H1:List Value},w'.ownsRow base e size u k H1->e≠81->(∀q,u.ownBlock=some q->Ft q)->∀q,u.ownBlock=some q->¬(q=p\/kv.ownBlock=some q):=fun h5 h6 r q t=>by
  obtain ⟨Z,P⟩:=fj h5 t;exact J P h6 (r q t)
 have T:∀ {x:Nat},Ft x->x≠p->¬(x=p\/kv.ownBlock=some x):=fun r j e=>by
  rcases e with e|e
  ·exact j e
  exact (h.F _ r).2.2.2.2.2.1 (M _ e)
 have o:∀ {x:Nat},mcF F p v an st H D gm vs vm x->Ft x:=fun j=>(hF _).2 j;have h2:=m.size
 have a:∀x,x<w'.heap.size->N x->Q x:=fun x j t=>by
  rcases V x t with h|h
  ·exact h
  omega
 have W:∀x,Q x->w.heap.size<=x:=fun x j=>(C.qb x j).1;have H2:=h.k.size;refine ⟨rfl,R,N,⟨h.hz.kp m fun e=>?_,h.hn.kp m fun x j e=>?_,h.hl.kp m fun x j e=>?_,⟨an,gm,st,H,D,vs,vm,F,⟨h9,l.hv.kp m (J l.hv d_ (o (.inr (.inr (.inl rfl))))),l.hs.kp m (J l.hs d_ (o (.inr (.inr (.inr (.inr (.inl rfl))))))),l.hsp.kp m (J l.hsp d_ (o (.inr (.inr (.inr (.inr (.inr (.inl rfl)))))))),l.hR.kp m (Y l.hR.seats d_ fun q t=>o (.inr (.inr (.inr (.inr (.inr (.inr (.inr (.inr (.inl t)))))))))) (Y l.hR.mems d_ fun q t=>o (.inr (.inr (.inr (.inr (.inr (.inr (.inr (.inr (.inr t)))))))))),l.hb.kp m (fun x e r=>?_),l.ha.kp m (J l.ha d_ (o (.inr (.inr (.inr (.inl rfl)))))),l.hM.kp m (T (o (.inr (.inr (.inr (.inr (.inr (.inr (.inl rfl)))))))) (l.hM.ne_blk l.hp)),l.hD.kp m (T (o (.inr (.inr (.inr (.inr (.inr (.inr (.inr (.inl rfl))))))))) (l.hD.ne_blk l.hp)),l.ne,l.lo⟩,hF⟩,⟨dm,A.kp m fun e=>?_,g2⟩,H0,h.k.then m fun x j e=>?_,fun x j=>?_,⟨h.zlo.1,h.zlo.2.1,fun e=>h.zlo.2.2 (a _ h.hz.lt e)⟩,⟨h.glo.1,h.glo.2.1,fun e=>h.glo.2.2.1 (a _ h8 e),h.glo.2.2.2⟩,fun x j=>?_,fun x j=>?_,fun x j e=>?_,fun x j=>ea (h.xlt x j) h2⟩,m.mono fun x _ e=>?_⟩
 ·rcases y _ e with e|e
  ·exact (h.F _ e).2.1 rfl
  exact h.zlo.2.2 e
 ·rcases y _ e with e|e
  ·exact (h.F _ e).2.2.2.1 j
  exact (h.vlo x j).2.2.1 e
 ·rcases y _ e with e|e
  ·exact (h.F _ e).2.2.2.2.1 j
  exact (h.llo x j).2.2.1 e
 ·rcases e with rfl|e
  ·exact l.hb.off l.hp (by unfold ci;decide) r
  exact (h.F _ (o (.inl r))).2.2.2.2.2.1 (M _ e)
 ·rcases y _ e with e|e
  ·exact (h.F _ e).2.2.1 rfl
  exact h.glo.2.2.1 e
 ·rcases y _ e with e|e
  ·have:=(h.F _ e).1;omega
  have:=W x e;omega
 ·obtain ⟨c,E,G,I,O,L,h0⟩:=h.F x j
  exact ⟨c,E,G,I,O,fun e=>L (a x (h.hm.lt j).2 e),h0⟩
 ·obtain ⟨c,E,G,I,O⟩:=h.vlo x j
  exact ⟨c,E,fun e=>G (a x (h.hn.lt x j).2 e),I,O⟩
 ·obtain ⟨c,E,G,I⟩:=h.llo x j
  exact ⟨c,E,fun e=>G (a x (h.hl.lt x j).2 e),I⟩
 ·rcases V x j with j|j
  ·exact h.qx x j e
  have:=h.xlt x e;omega
 rcases y _ e with e|e
 ·exact ⟨(h.F _ e).1,(h.F _ e).2.2.2.2.2.2⟩
 exact ⟨W x e,h.qx x e⟩
end
section
variable {c:Nat} {ad:List UInt8} 
def mu_back (h:Mu w p b v n c key ad σ D kv Ft) (E:ic w base kv K Q) (z:∀q,Ft q->¬Q q) (i:Nat) (J:i<n) (P:i<=1000) (d:(σ i).dead=false) (I:D.length<1000)
  (k:Nat) (hk:k<K.length) (a:K.length<=8) (O:(K.getD k []).length=n) (T:List B_) (G:(K.getD k []).getD i []=T) (R:T.length=140) (y:∀j,j<140->(tl T j).size<=2048) :
  Cl 22 #[.pointer (some ⟨p,0,none⟩),.int .i64 i,.int .i64 k] w fun e w'=>e=.returned (.int .i64 0)/\∃Ft',Gr w Ft Ft'/\Mu w' p b v n c key ad (dY σ i ⟨false,T,T,0⟩) (e8 D i) kv Ft'/\Kp Ft w w':=by
 obtain ⟨an,g,F,l,hF⟩:=h;refine (RS l.hp l.hb i J P d l.hD I E (fun q o=>z q ((hF q).2 (.inl o))) k hk a O T G R y).mono ?_;rintro e w' ⟨rfl,hm,t,hg,hb,r⟩;rw[M0] at hm
 have s:∀ {g2 t2:Nat} {f:Array Value},ab w g2 t2 f->¬ci t2->¬(F g2\/g2=g):=fun u M o=>by
  rcases o with o|e
  ·exact l.hb.off u M o
  exact l.hD.ne_blk u e.symm
 refine ⟨rfl,muF t p v an g,fun x N m=>?_,⟨an,g,t,⟨l.hp.kp r (s l.hp (by unfold ci;decide)),l.hv.kp r (s l.hv (by unfold ci;decide)),hb,l.ha.kp r (s l.ha (by unfold ci;decide)),hm,l.lo⟩,fun x=>Iff.rfl⟩,r.mono fun q _ e=>(hF q).2 (by
  rcases e with e|e
  ·exact .inl e
  exact .inr (.inr (.inr (.inr e))))⟩
 rcases m with m|m
 ·exact (hF x).2 (.inl (hg x N m))
 exact (hF x).2 (.inr m)
end
structure Tm (w w':W_) (X:Nat->Prop) (z p b v n gt:Nat) (S:cj) (σ:Nat->ao) (D:List Nat) (vn vl kv:Value) (b5:List B_) (K:List (List (List B_))) (g:B_->Option B_) (gd:Nat) (pl:Bool) (Q Ft:Nat->Prop):Prop where
 hz:ab w' z 43 (vP p vn vl (.slice none 0 0) gt pl)
 hl:aH w' 0 9 vl (sv b5)
 hm:Mu w' p b v n S.count dX (dC (bh S)) σ D kv Ft
 hg:∃dm,aS KS w' gt (N6 g) dm/\dm.length<=gd
 hk:ic w' w.heap.size kv K Q
 k:Kp ac w w'
 F:∀x,Ft x->w.heap.size<=x/\x≠z/\x≠gt/\vl.ownBlock≠some x/\¬Q x/\¬X x
 zlo:w.heap.size<=z/\¬X z/\¬Q z
 glo:w.heap.size<=gt/\¬X gt/\¬Q gt/\z≠gt
 llo:∀x,vl.ownBlock=some x->w.heap.size<=x/\¬X x/\¬Q x/\x≠gt
 xlt:∀x,X x->x<w'.heap.size
section
def Tm.no (h:Tm w w' X z p b v n gt S σ D vn vl kv b5 K g gd pl Q Ft) (k:Kp ac w' w''):Tm w w'' X z p b v n gt S σ D vn vl kv b5 K g gd pl Q Ft:=by
 obtain ⟨dm,e,i⟩:=h.hg;exact ⟨h.hz.kp k fun h=>h,h.hl.kp k fun _ _ h=>h,h.hm.no k,⟨dm,e.no k,i⟩,h.hk.no k,h.k.trans k,h.F,h.zlo,h.glo,h.llo,fun x j=>ea (h.xlt x j) k.size⟩
def Tm.step (h:Tm w w' X z p b v n gt S σ D vn vl kv b5 K g gd pl Q Ft) {o:List Nat} {Ft':Nat->Prop} (hg:Gr w' Ft Ft') (hm:Mu w'' p b v n S.count dX (dC (bh S)) σ' o kv Ft') (k:Kp Ft w' w'') :
  Tm w w'' X z p b v n gt S σ' o vn vl kv b5 K g gd pl Q Ft':=by
 have r:∀x,Q x->x<w'.heap.size:=by obtain ⟨s,hk⟩:=h.hk;exact fun x j=>(hk.qb x j).2
 obtain ⟨dm,m,q⟩:=h.hg;have t:=m.lt;refine ⟨h.hz.kp k fun i=>(h.F _ i).2.1 rfl,h.hl.kp k fun x j i=>(h.F x i).2.2.2.1 j,hm,⟨dm,m.kp k fun i=>(h.F _ i).2.2.1 rfl,q⟩,h.hk.kp k fun x i=>(h.F x i).2.2.2.2.1,h.k.then k fun x j i=>(by have:=(h.F x i).1;omega:False),fun x j=>?_,h.zlo,h.glo,h.llo,fun x j=>ea (h.xlt x j) k.size⟩;by_cases e:x<w'.heap.size
 ·exact h.F x (hg x e j)
 have m:=h.k.size;have q:=h.hz.lt;exact ⟨o_,o_,o_,fun l=>by have:=(h.hl.lt x l).2;omega,fun l=>by have:=r x l;omega,fun l=>by have:=h.xlt x l;omega⟩
def Tm.yF (h:Tm w w' X z p b v n gt S σ D vn vl kv b5 K g gd pl Q Ft) (k:Kp Ft w' w''):Kp (Yx w X) w' w'':=k.mono fun x _ e=>⟨(h.F x e).1,(h.F x e).2.2.2.2.2⟩
def G_ (h:To w w' X z p b v n q gt S σ f dom vn vl kv now b5 K g gd pl Q Ft) :
  Cl 19 #[.pointer (some ⟨v,0,none⟩)] w' fun e w''=>e=.returned (.int .i64 0)/\∃Ft',Tm w w'' X z p b v n gt S σ [] vn vl kv b5 K g gd pl Q Ft'/\Kp (Yx w X) w' w'':=by
 refine (JC h.hm).mono ?_;rintro e w'' ⟨rfl,Ft',hg,hm,k⟩
 have c:∀x,Q x->x<w'.heap.size:=by obtain ⟨E,hk⟩:=h.hk;exact fun x j=>(hk.qb x j).2
 obtain ⟨dm,m,o⟩:=h.hg;have G:=m.lt;refine ⟨rfl,Ft',⟨h.hz.kp k fun i=>(h.F _ i).2.1 rfl,h.hl.kp k fun x j i=>(h.F x i).2.2.2.2.1 j,hm,⟨dm,m.kp k fun i=>(h.F _ i).2.2.1 rfl,o⟩,h.hk.kp k fun x i=>(h.F x i).2.2.2.2.2.1,h.k.then k fun x j i=>(by have:=(h.F x i).1;omega:False),fun x j=>?_,h.zlo,h.glo,h.llo,fun x j=>ea (h.xlt x j) k.size⟩,h.yF k⟩;by_cases e:x<w'.heap.size
 ·obtain ⟨r,s,t,d,u,y,a⟩:=h.F x (hg x e j)
  exact ⟨r,s,t,u,y,a⟩
 have m:=h.k.size;have o:=h.hz.lt;exact ⟨o_,o_,o_,fun l=>by have:=(h.hl.lt x l).2;omega,fun l=>by have:=c x l;omega,fun l=>by have:=h.xlt x l;omega⟩
def tm_back (h:Tm w w' X z p b v n gt S σ D vn vl kv b5 K g gd pl Q Ft) (i:Nat) (t:i<n) (y:i<=1000) (o:(σ i).dead=false) (s:D.length<1000)
  (k:Nat) (hk:k<K.length) (m:K.length<=8) (x:(K.getD k []).length=n) (T:List B_) (r:(K.getD k []).getD i []=T) (a:T.length=140) (l:∀j,j<140->(tl T j).size<=2048) :
  Cl 22 #[.pointer (some ⟨p,0,none⟩),.int .i64 i,.int .i64 k] w' fun e w''=>e=.returned (.int .i64 0)/\∃Ft',Tm w w'' X z p b v n gt S (dY σ i ⟨false,T,T,0⟩) (e8 D i) vn vl kv b5 K g gd pl Q Ft'/\Kp (Yx w X) w' w'':=by
 refine (mu_back h.hm h.hk (fun q u=>(h.F q u).2.2.2.2.1) i t y o s k hk m x T r a l).mono ?_;rintro e w'' ⟨rfl,Ft',hg,hm,kk⟩;exact ⟨rfl,Ft',h.step hg hm kk,h.yF kk⟩
def tm_look (h:Tm w w' X z p b v n gt S σ D vn vl kv b5 K g gd pl Q Ft) (y:a_ w) (I:10<=w.heap.size) (t:∀i,i<n->(σ i).dead=false) (hz:∀i,i<n->∀k,k<140->(tl (σ i).now k).size<=2048) (J:gd<=100000) :
  Cl 15 #[.pointer (some ⟨z,0,none⟩)] w' fun e w''=>e=.returned (.tuple #[])/\∃ok l,Tm w w'' X z p b v n gt S σ D vn vl kv b5 K l (gd+1+n*141) (ok && pl) Q Ft/\Pd ok g l (p_ σ n)/\Kp (Yx w X) w' w'':=by
 obtain ⟨dm,u,g2⟩:=h.hg;obtain ⟨an,gm,F,m,hF⟩:=h.hm;have E:¬Ft gt:=fun e=>(h.F _ e).2.2.1 rfl;refine (wR (R:=fun ok W=>WS W gt g ok (dm.length+1+n*141) (p_ σ n)/\Kp (·=gt) w' W) h.hz m.hp h.glo.2.2.2 fun W k=>?_).mono ?_
 ·refine (Em (y.no (h.k.trans k)) (by have:=h.k.size;have:=k.size;omega) (m.hb.no k) t hz (u.no k) (by have:=h.glo.1;omega) o_).mono ?_
  rintro e w'' ⟨ok,rfl,c,hk⟩;exact ⟨ok,rfl,⟨c,(k.mono fun _ _ h=>h.elim).trans hk⟩,hk⟩
 rintro e w'' ⟨rfl,ok,W,⟨⟨l,s,m1,m2,d⟩,G⟩,f,r,hk⟩
 have a:∀x,(x=gt\/x=z)->¬Ft x:=fun x j o=>by
  rcases j with rfl|rfl
  ·exact E o
  exact (h.F _ o).2.1 rfl
 refine ⟨rfl,ok,l,⟨r,h.hl.kp hk fun x j e=>?_,h.hm.kp hk a,⟨s,m1.kp f fun e=>h.glo.2.2.2 e.symm,o_⟩,h.hk.kp hk fun x e q=>?_,h.k.then hk fun x j e=>?_,h.F,h.zlo,h.glo,h.llo,fun x j=>ea (h.xlt x j) hk.size⟩,d,hk.mono fun x _ e=>?_⟩
 ·rcases e with rfl|rfl
  ·exact (h.llo _ j).2.2.2 rfl
  obtain ⟨cs,hb⟩:=Sz h.hl j;exact ab.ne_ hb h.hz d_ rfl
 ·rcases e with rfl|rfl
  ·exact h.glo.2.2.1 q
  exact h.zlo.2.2 q
 ·rcases e with rfl|rfl
  ·have:=h.glo.1;omega
  have:=h.zlo.1;omega
 rcases e with rfl|rfl
 ·exact ⟨h.glo.1,h.glo.2.1⟩
 exact ⟨h.zlo.1,h.zlo.2.1⟩
def Nl (h:Tm w w' X z p b v n gt S σ D vn vl kv b5 K g gd pl Q Ft) (m:a_ w) (r:10<=w.heap.size) (o:0<S.count) (l:∀i,i<n->(σ i).dead=false) (q:∀i,i<n->∀a,a<2->∃c,tl (σ i).now a=bs c/\c.length<=2048/\dC c≠dC (bh S)) :
  Cl 23 #[.pointer (some ⟨v,0,none⟩)] w' fun e w''=>e=.returned (.int .i64 24)/\Kp ac w' w'':=by
 obtain ⟨an,gm,F,j,hF⟩:=h.hm;exact BF j.hv fun W k=>JF (m.no (h.k.trans k)) (j.hb.no k) (by have:=h.k.size;have:=k.size;omega) rfl S.count o _ (j.ha.kp k fun h=>h) l q
end
section
def Vk.opened (h:Vo n d s S σ ch B) (l:S.count<800) {L:Nat->Option (List Wr)} (g:zX S σ L):Vk n d s (eG S) (eY (e6 σ S L n) ((S.count+1) % 2) (bs (bh (eG S))) n) ch B []:=by
 have m:=h.ep;obtain ⟨j,k,_⟩:=h.vk.ok.opened g o_ o_;exact ⟨j,h.vk.ed,h.vk.es,fun i e=>(k i).trans (h.vk.bd i e),by show S.count+1<900;omega,List.nodup_nil,fun i e=>by cases e⟩
def EF (h:Tm w w' X z p b v n gt S σ D vn vl kv b5 K g gd pl Q Ft) (u:a_ w) (U:10<=w.heap.size) (m:Vo n d s S σ ch B) (hn:0<n) (G:0<S.count) (N:S.count<800)
  (P:∀i,i<n->∃l:List UInt8,tl (σ i).now 0=bs l/\l.length<=2048/\(S.count % 2=1->dC l≠dC (bh S))) :
  Cl 23 #[.pointer (some ⟨v,0,none⟩)] w' fun e w''=>e=.returned (.int .i64 0)/\ab w'' z 43 (vP p vn vl (.slice none 0 0) gt pl)/\aH w'' 0 9 vl (sv b5) /\
   (∀W,Kp ac w'' W->Cl 10 #[.pointer (some ⟨p,0,none⟩)] W fun e w'=>e=.returned (.pointer (some ⟨v,0,none⟩))/\w'=W) /\
   (∀W,Kp ac w'' W->Cl 14 #[.pointer (some ⟨v,0,none⟩)] W fun e w'=>∃(A:Option Addr) (k c:Nat),e=.returned (.agg #[.bool true,.bool false,.int .i64 (s*d:Nat),.int .i64 (0:Nat),.int .i64 d,.int .i64 0,.int .i64 0,.bool false,.slice A k c])/\Kp ac W w') /\
   (∀W,Kp ac w'' W->∀k,k<s*d->Cl 11 #[.pointer (some ⟨v,0,none⟩),.int .i64 k] W fun e w'=>e=.returned (.tuple #[.string (B k),.int .i64 0])/\Kp ac W w')/\Kp (Yx w X) w' w'':=by
 obtain ⟨L,a⟩:=m.lg;have T:=m.ep;refine (ue (u.no h.k) (by have:=h.k.size;omega) rfl m.vk.ok a G o_ o_ h.hm ⟨0,hn,m.al 0⟩ (fun O i y _=>?_)).mono ?_
 ·obtain ⟨l,I,J,M⟩:=P i y
  exact ⟨l,I,J,.inr (M O)⟩
 rintro e w'' ⟨rfl,Ft',hg,hm,k⟩;have j:=Vk.opened m N a;have V:=h.k.size;have q:Kp ac w w'':=h.k.then k fun x r o=>(by have:=(h.F x o).1;omega:False)
 have f:(eG S).slots*(eG S).data=s*d:=by rw[j.es,j.ed]
 refine ⟨rfl,h.hz.kp k fun o=>(h.F _ o).2.1 rfl,h.hl.kp k fun x r o=>(h.F x o).2.2.2.1 r,fun W kk=>Lg (hm.no kk),fun W kk=>?_,fun W kk i y=>?_,h.yF k⟩
 ·refine (wW (u.no (q.trans kk)) (by have:=(q.trans kk).size;omega) j.ok.ok (hm.no kk)).mono ?_
  rintro e w3 ⟨A,R,c,rfl,t⟩;refine ⟨A,R,c,?_,t⟩;rw[f,j.ed];rfl
 refine (LM (u.no (q.trans kk)) (by have:=(q.trans kk).size;omega) rfl j.ok (hm.no kk) i (by rw[f];exact y)).mono ?_;rintro e w3 ⟨rfl,t⟩;refine ⟨?_,t⟩;have E:∀x:Prop,¬(x/\2<([]:List Nat).length):=fun x r=>absurd r.2 d_;show Ending.returned (.tuple #[.string (rdB (eG S) _ B i),.int .i64 (rdE (eG S) _ i)])=_;unfold rdB rdE;rw[j.count_,if_neg (E _),if_neg (E _)]
end
def SvA (n d s:Nat) (S:cj) (σ:Nat->ao) (τ:Nat->ao) (c:Nat) (g:B_->Option B_) (pl:Bool):Prop :=
 (∃S' e B',Vo n d s S' τ e B'/\S'.count=c)/\c<=S.count/\(c=S.count->∀i,(τ i).now=(σ i).now)/\(pl=true->∀x,p_ τ n x->g (kZ x)=some x)
structure Sv (n d s:Nat) (S:cj) (σ:Nat->ao) (T:List (Nat->ao)) (cs:List Nat) (g:B_->Option B_) (pl:Bool):Prop where
 len:T.length=cs.length
 at':∀j (h:j<T.length),SvA n d s S σ (T[j]'h) (cs.getD j 0) g pl
def Sv.nil (n d s:Nat) (S:cj) (σ:Nat->ao) (g:B_->Option B_) (pl:Bool):Sv n d s S σ [] [] g pl:=⟨rfl,fun j h=>by cases h⟩
section
variable {T:List (Nat->ao)} {cs:List Nat} {g':B_->Option B_} {ok:Bool} {P:B_->Prop} 
def Sv.synced (h:Sv n d s S σ T cs g pl) (i:S'.count=S.count+1\/S'=S/\σ'=σ):Sv n d s S' σ' T cs g pl:=by
 rcases i with i|⟨rfl,rfl⟩
 ·refine ⟨h.len,fun j m=>?_⟩
  obtain ⟨k,o,_,l⟩:=h.at' j m;exact ⟨k,o_,fun e=>o_,l⟩
 exact h
def Sv.look (h:Sv n d s S σ T cs g pl) (hl:Pd ok g g' P):Sv n d s S σ T cs g' (ok && pl):=by
 refine ⟨h.len,fun j o=>?_⟩;obtain ⟨i,k,l,m⟩:=h.at' j o;refine ⟨i,k,l,fun e x p=>?_⟩;simp only[Bool.and_eq_true] at e;exact (hl e.1).1 _ _ (m e.2 x p)
def Sv.save (h:Sv n d s S σ T cs g pl) (o:Vo n d s S σ ch B) (p:pl=true->∀x,p_ σ n x->g (kZ x)=some x):Sv n d s S σ (T++[σ]) (cs++[S.count]) g pl:=by
 have hl:=h.len;refine ⟨by rw[cd,cd,hl];rfl,fun j l=>?_⟩;by_cases e:j<T.length
 ·have i:(T++[σ])[j]'l=T[j]'e:=List.getElem_append_left e
  have k:(cs++[S.count]).getD j 0=cs.getD j 0:=by rw[be,A3 o_,<-be]
  rw[i,k];exact h.at' j e
 rw[cd] at l
 have m:j=T.length:=by simp at l;omega
 subst m;have i:(T++[σ])[T.length]'s_=σ:=s_
 have k:(cs++[S.count]).getD T.length 0=S.count:=by rw[hl];simp[be]
 rw[i,k];exact ⟨⟨S,ch,B,o,rfl⟩,bS _,fun _ _=>rfl,p⟩
end
def FS (T:List (Nat->ao)) (n:Nat):List (List (List B_)):=T.map fun τ=>ye τ n
def xP (T:List (Nat->ao)) (n:Nat):(FS T n).length=T.length:=by simp[FS]
def Q9 (T:List (Nat->ao)) (σ:Nat->ao) (n:Nat):FS (T++[σ]) n=FS T n++[ye σ n]:=by simp[FS]
def TN (T:List (Nat->ao)) (n k:Nat) (h:k<T.length):(FS T n).getD k []=ye (T[k]'h) n:=by
 unfold FS;rw[be,gq,cr h];rfl
def Vn (σ:Nat->ao) (n i:Nat) (h:i<n):(ye σ n).getD i []=(σ i).now:=by
 unfold ye;rw[be,gq,pB h];rfl
def SE (cs:List Nat):List Value:=cs.map fun c:Nat=>Value.int .u64 c
def v_I (cs:List Nat):(SE cs).length=cs.length:=by simp[SE]
def Q7 (cs:List Nat) (c:Nat):SE (cs++[c])=SE cs++[.int .u64 c]:=by simp[SE]
def cvL_at (cs:List Nat) (j:Nat) (h:j<cs.length):(SE cs)[j]?=some (.int .u64 (cs.getD j 0:Nat)):=by
 unfold SE;rw[gq,be,cr h];rfl
section
variable {X':Nat->Prop} 
def To.reX (h:To w w' X z p b v n q gt S σ f dom vn vl kv now b5 K g gd pl Q Ft) {T:Nat->Prop} (k:Kp T w' w'') (d:∀x,T x->X x/\w.heap.size<=x) (r:∀x,X' x->X x\/w'.heap.size<=x/\x<w''.heap.size):To w w'' X' z p b v n q gt S σ f dom vn vl kv now b5 K g gd pl Q Ft:=by
 have j:=h.own k d
 have c:∀x,Q x->x<w'.heap.size:=by obtain ⟨G,hk⟩:=h.hk;exact fun x i=>(hk.qb x i).2
 have E:gt<w'.heap.size:=by obtain ⟨dm,a,_⟩:=h.hg;exact a.lt
 have key:∀x,x<w'.heap.size->¬X x->¬X' x:=fun x i hn e=>by
  rcases r x e with e|e
  ·exact hn e
  omega
 refine ⟨j.hz,j.hn,j.hl,j.hm,j.hg,j.hk,j.k,fun x i=>?_,⟨h.zlo.1,key _ h.hz.lt h.zlo.2.1,h.zlo.2.2⟩,⟨h.glo.1,key _ E h.glo.2.1,h.glo.2.2⟩,fun x i=>?_,fun x i=>?_,fun x i=>key x (c x i) (h.qx x i),fun x i=>?_⟩
 ·obtain ⟨l,m,o,s,t,u,y⟩:=h.F x i
  exact ⟨l,m,o,s,t,u,key x (h.hm.lt i).2 y⟩
 ·obtain ⟨l,m,o⟩:=h.vlo x i
  exact ⟨l,key x (h.hn.lt x i).2 m,o⟩
 ·obtain ⟨l,m,o⟩:=h.llo x i
  exact ⟨l,key x (h.hl.lt x i).2 m,o⟩
 rcases r x i with e|e
 ·exact ea (h.xlt x e) k.size
 exact e.2
def UZ (f:a_ w1) (E:10<=w1.heap.size) (hk:Kp ac w w1) (q:∀x,X x->x<w1.heap.size) (a:2<=d) (c:d<=4) (hs:sl s) :
  Cl 5 #[.int .i64 d,.int .i64 s,.int .i64 0] w1 fun e w'=>∃z p b v gt vn vl Ft,e=.returned (.tuple #[.pointer (some ⟨z,0,none⟩),.bool true])/\To w w' X z p b v (d+2) 0 gt (qa d s (d+2)) (MX d s (d+2)) (fun _=>none) [] vn vl (.slice none 0 0) (List.replicate (s*d) (bs gy)) (List.replicate (s*d) (bs gy)) [] (fun _=>none) 0 true (fun _=>False) Ft/\Kp ac w1 w':=by
 refine (xl f E d s 0 a c hs d_).mono ?_;rintro e w' ⟨z,p,b,v,gt,vn,vl,Ft,rfl,hz,⟨j,k⟩,m,hm,hF,n,G,⟨I,M,r,y⟩,l⟩;have hs:=hk.size;have t:z≠gt:=fun e=>m.ne_blk hz e.symm
 have o:∀ {base e:Nat} {u:Value} {J:List Value},aH w' base e u J->∀x,u.ownBlock=some x->x≠gt:=fun h x g e=>by
  obtain ⟨cs,hb⟩:=Sz h g;exact m.ne_blk hb e.symm
 have i:∀x,w1.heap.size<=x->¬X x:=fun x g e=>by have:=q x e;omega
 exact ⟨z,p,b,v,gt,vn,vl,Ft,rfl,⟨hz,j.more (Nat.zero_le _),k.more (Nat.zero_le _),hm,⟨[],m,bS _⟩,ic.nil_ _ _,hk.trans l,fun x g=>⟨by have:=hF x g;omega,fun e=>I (by rw[<-e];exact g),fun e=>M (by rw[<-e];exact g),fun e=>(n x e).1 g,fun e=>G x e g,fun h=>h,i x (hF x g)⟩,⟨o_,i z r,fun h=>h⟩,⟨o_,i gt y,fun h=>h,t⟩,fun x g=>⟨by have:=(j.lt x g).1;omega,i x (j.lt x g).1,fun h=>h,(n x g).2,o j x g⟩,fun x g=>⟨by have:=(k.lt x g).1;omega,i x (k.lt x g).1,fun h=>h,o k x g⟩,fun x g=>g.elim,fun x g=>ea (q x g) l.size⟩,l⟩
def CZ (h:To w w' X z p b v n q gt S σ f dom vn vl kv now b5 K g gd pl Q Ft) (m:a7 S):∃st,(∀W,Kp ac w' W->Cl 17 #[.pointer (some ⟨v,0,none⟩)] W fun e w'=>e=.returned (.pointer (some ⟨st,0,none⟩))/\w'=W) /\
  ∀W,Kp ac w' W->Cl 18 #[.pointer (some ⟨st,0,none⟩)] W fun e w'=>∃i j,e=.returned (.agg (dK S i j))/\Kp ac W w':=by
 obtain ⟨an,gm,st,r,o,vs,vm,F,l,hF⟩:=h.hm;refine ⟨st,fun W k=>IB (l.hv.kp k fun h=>h),fun W k=>?_⟩;refine (z_ao (l.hs.kp k fun h=>h) ((l.hR.no k).reads) m).mono ?_;rintro e s ⟨i,j,rfl,_,hk⟩;exact ⟨i,j,rfl,hk⟩
end
end Go.Proofs.YtdkheklakfbeeaaGreatDoor
