/- Part 20 of the proof. -/
import Derived.Test.YtdkheklakfbeeaaGreatDoorM19
set_option linter.all false
set_option maxRecDepth 100000
set_option maxHeartbeats 16000000
namespace Go.Proofs.YtdkheklakfbeeaaGreatDoor
open Go.RowKit Go.Proofs.Tryz
variable {B:Nat->B_}{D dom:List Nat}{F Ft:Nat->Prop}{S:cj}{b n p q v x:Nat}{ch:Nat->Nat->B_}{f:Nat->Option B_}{kept:Value}{key:List UInt8}{w:W_}{σ:Nat->ao}
def suF (D:List Nat):Nat->Option Value:=fun i=>if i∈D then some (.bool true) else none
def M0 (D:List Nat) (i:Nat):lu (suF D) i (.bool true)=suF (e8 D i):=by
 funext x;unfold lu suF;by_cases e:x=i
 ·subst e;rw[if_pos rfl,if_pos ((MF D x x).2 (.inr rfl))]
 rw[if_neg e];by_cases h:x∈D
 ·rw[if_pos h,if_pos ((MF D i x).2 (.inl h))]
 rw[if_neg h,if_neg fun g=>((MF D i x).1 g).elim h e]
def suF_nil:suF []=fun _=>none:=by funext x;simp[suF]
def xn (f:Nat->Option B_) (k:Nat) (y:B_):Nat->Option B_:=fun x=>if x=k then some y else f x
def updO_tx (f:Nat->Option B_) (k:Nat) (y:B_):lu (dg f) k (.string y)=dg (xn f k y):=by
 funext x;unfold lu dg xn;by_cases e:x=k
 ·rw[if_pos e,if_pos e];rfl
 rw[if_neg e,if_neg e]
structure Mc0 (w:W_) (p b v an g st sp gw n q:Nat) (key:List UInt8) (S:cj) (vs vm:Value) (σ:Nat->ao) (F:Nat->Prop) (f:Nat->Option B_) (dom D:List Nat) (kept:Value):Prop where
 hp:ab w p 81 (oY b v g kept)
 hv:ab w v 88 (i3 b an key (some ⟨st,0,none⟩) (some gw))
 hs:ab w st 116 (gU b an key S vs vm sp)
 hsp:ab w sp 226 #[.int .u64 S.epoch,.int .u64 q]
 hR:bg w 10 S vs vm
 hb:Bk w b n σ F
 ha:ab w an 180 #[.int .u64 S.count,.string (bs (dC (bh S)))]
 hM:aS KI w gw (dg f) dom
 hD:aS KI w g (suF D) D
 ne:g≠gw
 lo:10<=p/\10<=v/\10<=st/\10<=sp/\10<=an/\10<=gw/\10<=g
def mcF (F:Nat->Prop) (p v an st h e g:Nat) (vs vm:Value):Nat->Prop:=fun x=>F x\/x=p\/x=v\/x=an\/x=st\/x=h\/x=e\/x=g\/vs.ownBlock=some x\/vm.ownBlock=some x
def Mc (w:W_) (p b v n q:Nat) (key:List UInt8) (S:cj) (σ:Nat->ao) (f:Nat->Option B_) (dom D:List Nat) (kept:Value) (Ft:Nat->Prop):Prop :=
 ∃an g st h e vs vm F,Mc0 w p b v an g st h e n q key S vs vm σ F f dom D kept/\∀x,Ft x↔mcF F p v an st h e g vs vm x
section
variable {w':W_} {an g st sp gw:Nat} {vs vm:Value} {T:Nat->Prop} 
def Mc0.lt (h:Mc0 w p b v an g st sp gw n q key S vs vm σ F f dom D kept) (e:mcF F p v an st sp gw g vs vm x):10<=x/\x<w.heap.size:=by
 obtain ⟨i,j,k,l,m,o,r⟩:=h.lo;rcases e with e|rfl|rfl|rfl|rfl|rfl|rfl|rfl|e|e
 ·exact h.hb.lt e
 ·exact ⟨i,h.hp.lt⟩
 ·exact ⟨j,h.hv.lt⟩
 ·exact ⟨m,h.ha.lt⟩
 ·exact ⟨k,h.hs.lt⟩
 ·exact ⟨l,h.hsp.lt⟩
 ·exact ⟨o,h.hM.lt⟩
 ·exact ⟨r,h.hD.lt⟩
 ·exact iZ h.hR.seats e
 exact iZ h.hR.mems e
def Mc.lt (h:Mc w p b v n q key S σ f dom D kept Ft) (i:Ft x):10<=x/\x<w.heap.size:=by
 obtain ⟨an,g,st,sp,gw,vs,vm,F,e,hF⟩:=h;exact e.lt ((hF x).1 i)
def Mc.kp (h:Mc w p b v n q key S σ f dom D kept Ft) (k:Kp T w w') (l:∀x,T x->¬Ft x):Mc w' p b v n q key S σ f dom D kept Ft:=by
 obtain ⟨an,g,st,sp,gw,vs,vm,F,e,hF⟩:=h;have hn:∀x,mcF F p v an st sp gw g vs vm x->¬T x:=fun x o j=>l x j ((hF x).2 o);refine ⟨an,g,st,sp,gw,vs,vm,F,⟨e.hp.kp k (hn _ (.inr (.inl rfl))),e.hv.kp k (hn _ (.inr (.inr (.inl rfl)))),e.hs.kp k (hn _ (.inr (.inr (.inr (.inr (.inl rfl)))))),e.hsp.kp k (hn _ (.inr (.inr (.inr (.inr (.inr (.inl rfl))))))),e.hR.kp k (fun q i=>hn _ (.inr (.inr (.inr (.inr (.inr (.inr (.inr (.inr (.inl i)))))))))) (fun q i=>hn _ (.inr (.inr (.inr (.inr (.inr (.inr (.inr (.inr (.inr i)))))))))),e.hb.kp k (fun q j m=>hn _ (.inl m) j),e.ha.kp k (hn _ (.inr (.inr (.inr (.inl rfl))))),e.hM.kp k (hn _ (.inr (.inr (.inr (.inr (.inr (.inr (.inl rfl)))))))),e.hD.kp k (hn _ (.inr (.inr (.inr (.inr (.inr (.inr (.inr (.inl rfl))))))))),e.ne,e.lo⟩,hF⟩
def Mc.no (h:Mc w p b v n q key S σ f dom D kept Ft) (k:Kp ac w w'):Mc w' p b v n q key S σ f dom D kept Ft:=h.kp k fun _ h=>h.elim
def Lg (h:Mc w p b v n q key S σ f dom D kept Ft):Cl 10 #[.pointer (some ⟨p,0,none⟩)] w fun e w'=>e=.returned (.pointer (some ⟨v,0,none⟩))/\w'=w:=by
 obtain ⟨an,g,st,sp,gw,vs,vm,F,i,hF⟩:=h;exact pi i.hp
def FQ (t:a_ w) (h:Mc w p b v n q key S σ f dom D kept Ft) (o:a7 S) (y:dom.length<1000) (k:Nat) (hk:k<S.slots*S.data) (x:B_) (d:x.size=32) :
  Cl 28 #[.pointer (some ⟨v,0,none⟩),.int .i64 k,.string x] w fun e w'=>e=.returned (.int .i64 0)/\Mc w' p b v n q key S σ (xn f k x) (e8 dom k) D kept Ft/\Kp Ft w w':=by
 obtain ⟨an,g,st,sp,gw,vs,vm,F,i,hF⟩:=h;refine (Km t i.hv i.hs i.hM y ⟨o.d2,by have:=o.d8;omega,o.sl⟩ k hk x d).mono ?_;rintro e w' ⟨rfl,hm,j⟩;rw[updO_tx] at hm;have l:∀ {g2 t2:Nat} {s:Array Value},ab w g2 t2 s->¬g2=gw:=fun m e=>i.hM.ne_blk m e.symm
 have r:∀ {base e size k:Nat} {u:Value} {E:List Value},w.ownsRow base e size u k E->∀q,u.ownBlock=some q->¬q=gw:=fun a q c e=>by
  obtain ⟨s,m⟩:=fj a c;exact l m e
 exact ⟨rfl,⟨an,g,st,sp,gw,vs,vm,F,⟨i.hp.kp j (l i.hp),i.hv.kp j (l i.hv),i.hs.kp j (l i.hs),i.hsp.kp j (l i.hsp),i.hR.kp j (r i.hR.seats) (r i.hR.mems),i.hb.kp j (fun q e z=>by
  have e:q=gw:=e;subst e
  exact i.hb.offMap i.hM z),i.ha.kp j (l i.ha),hm,i.hD.kp j i.ne,i.ne,i.lo⟩,hF⟩,j.mono fun q _ e=>(hF q).2 (.inr (.inr (.inr (.inr (.inr (.inr (.inl e)))))))⟩
def Nz (h:Mc w p b v n q key S σ f dom D kept Ft) (i:Nat) (d:i<n) (I:i<=1000) (c:D.length<1000) :
  Cl 9 #[.pointer (some ⟨p,0,none⟩),.int .i64 i] w fun e w'=>e=.returned (.int .i64 0)/\∃Ft',Gr w Ft Ft'/\Mc w' p b v n q key S (dY σ i (σ i).fail) f dom (e8 D i) kept Ft'/\Kp Ft w w':=by
 obtain ⟨an,g,st,sp,gw,vs,vm,F,j,hF⟩:=h;refine (RQ j.hp j.hb i d I j.hD c).mono ?_;rintro e w' ⟨rfl,hm,y,hg,hb,m⟩;rw[M0] at hm
 have o:∀ {g2 t2:Nat} {a:Array Value},ab w g2 t2 a->¬ci t2->¬(F g2\/g2=g):=fun s t l=>by
  rcases l with l|e
  ·exact j.hb.off s t l
  exact j.hD.ne_blk s e.symm
 have z:∀ {base e size k:Nat} {u:Value} {J:List Value},w.ownsRow base e size u k J->¬ci e->∀q,u.ownBlock=some q->¬(F q\/q=g):=fun E t q l=>by
  obtain ⟨a,s⟩:=fj E l;exact o s t
 refine ⟨rfl,mcF y p v an st sp gw g vs vm,fun x G r=>?_,⟨an,g,st,sp,gw,vs,vm,y,⟨j.hp.kp m (o j.hp (by unfold ci;decide)),j.hv.kp m (o j.hv (by unfold ci;decide)),j.hs.kp m (o j.hs (by unfold ci;decide)),j.hsp.kp m (o j.hsp (by unfold ci;decide)),j.hR.kp m (z j.hR.seats (by unfold ci;decide)) (z j.hR.mems (by unfold ci;decide)),hb,j.ha.kp m (o j.ha (by unfold ci;decide)),j.hM.kp m (fun l=>by
  rcases l with l|e
  ·exact j.hb.offMap j.hM l
  ·exact j.ne e.symm),hm,j.ne,j.lo⟩,fun x=>Iff.rfl⟩,m.mono fun q _ e=>(hF q).2 (by
  rcases e with e|e
  ·exact .inl e
  exact .inr (.inr (.inr (.inr (.inr (.inr (.inr (.inl e))))))))⟩
 rcases r with r|r
 ·exact (hF x).2 (.inl (hg x G r))
 exact (hF x).2 (.inr r)
def LM (m:a_ w) (t:10<=w.heap.size) (hk:key.length=32) (j:gQ n key S σ ch B) (h:Mc w p b v n q key S σ f dom D kept Ft) (k:Nat) (o:k<S.slots*S.data) :
  Cl 11 #[.pointer (some ⟨v,0,none⟩),.int .i64 k] w fun e w'=>e=.returned (.tuple #[.string ((f k).getD (rdB S σ B k)),.int .i64 (if (f k).isSome=true then 0 else rdE S σ k)])/\Kp ac w w':=by
 obtain ⟨an,g,st,sp,gw,vs,vm,F,i,hF⟩:=h;refine R7 m i.hv i.hs i.hR.reads j.ok i.hM ⟨j.ok.d2,by have:=j.ok.d8;omega,j.ok.sl⟩ k o _ _ (fun z hz=>?_) (fun r W u l s=>?_)
 ·rw[hz];exact ⟨rfl,rfl⟩
 rw[r];exact one_vol (m.no l) (i.hb.no l) (by have:=l.size;omega) hk j o u s
def wW (j:a_ w) (m:10<=w.heap.size) (l:a7 S) (h:Mc w p b v n q key S σ f dom D kept Ft) :
  Cl 14 #[.pointer (some ⟨v,0,none⟩)] w fun e w'=>∃(A:Option Addr) (k c:Nat),e=.returned (.agg #[.bool true,.bool false,.int .i64 (S.slots*S.data:Nat),.int .i64 (dom.length:Nat),.int .i64 S.data,.int .i64 0,.int .i64 0,.bool false,.slice A k c])/\Kp ac w w':=by
 obtain ⟨an,g,st,sp,gw,vs,vm,F,i,hF⟩:=h;exact Cg j m i.hv i.hs i.hR.reads l i.hM
def Yr (h:Mc w p b v n q key S σ f [] D kept Ft) :
  Cl 12 #[.pointer (some ⟨v,0,none⟩)] w fun e w'=>e=.returned (.int .i64 0)/\w'=w:=by
 obtain ⟨an,g,st,sp,gw,vs,vm,F,i,hF⟩:=h;exact Gs i.hv i.hs i.hM
def LD (W:a_ w) (d:10<=w.heap.size) (hk:key.length=32) (X:gQ n key S σ ch B) (h:Mc w p b v n q key S σ f dom D kept Ft) (h4:∀k y,f k=some y->y.size=32) (C:∀k∈dom,k<S.slots*S.data) (j:q<=90000) (Y:S.count<1000)
  {t0:Nat} (H:t0<S.slots) (K:0<cS (go S.data f t0) S.data) (L:i7 S σ=0\/0<cS (go S.data f 0) S.data/\cS (go S.data f 0) S.data<S.data) :
  Cl 12 #[.pointer (some ⟨v,0,none⟩)] w fun e w'=>e=.returned (.int .i64 (i7 S σ))/\(i7 S σ≠0->Kp ac w w')/\(i7 S σ=0->∃(l:List fu) (o:Nat) (Ft':Nat->Prop),e_ S key (fun t=>cS (go S.data f t) S.data) (fun t=>i1 S.data f (eg (fi S.data B t)) t) S.slots l/\(l=FZ S key (fun t=>cS (go S.data f t) S.data) (fun t=>eg (i1 S.data f (eg (fi S.data B t)) t)) q S.slots/\o=q+l.length)/\Gr w Ft Ft' /\
   Mc w' p b v n o key (dZ S σ n ch l) (l1 S σ n ch l) (fun _=>none) [] D kept Ft'/\Kp Ft w w'):=by
 obtain ⟨an,g,st,sp,gw,vs,vm,F,i,hF⟩:=h;obtain ⟨h8,h0,h1,h2,h3,h9,H0⟩:=i.lo;refine (RE W d i.hv i.hb i.hs i.hsp i.hR X hk i.ha i.hM h4 C h0 h1 h2 h3 j Y H K L).mono ?_;rintro e w' ⟨rfl,Q,O⟩;refine ⟨rfl,Q,fun h=>?_⟩;obtain ⟨l,o,a,c,z,E,J,I,u,h6,h5,R,h7,M,G,r⟩:=O h
 have N:∀ {g2 t2:Nat} {P:Array Value},ab w g2 t2 P->¬ci t2->t2≠180->t2≠116->t2≠226->¬SyF F an st sp gw g2:=fun m Z T U V j=>by
  rcases j with j|rfl|rfl|rfl|rfl
  ·exact i.hb.off m Z j
  ·exact ab.ne_ m i.ha T rfl
  ·exact ab.ne_ m i.hs U rfl
  ·exact ab.ne_ m i.hsp V rfl
  exact i.hM.ne_blk m rfl
 refine ⟨l,o,mcF z p v an st sp gw g a c,E,G,fun x A s=>?_,⟨an,g,st,sp,gw,a,c,z,⟨i.hp.kp r (N i.hp (by unfold ci;decide) d_ d_ d_),J,I,M,u.more d,R,h6,h7,i.hD.kp r (fun j=>by
  rcases j with j|e|e|e|e
  ·exact i.hb.offMap i.hD j
  ·exact i.hD.ne_blk i.ha e
  ·exact i.hD.ne_blk i.hs e
  ·exact i.hD.ne_blk i.hsp e
  ·exact i.ne e),i.ne,i.lo⟩,fun x=>Iff.rfl⟩,r.mono fun x _ j=>(hF x).2 (by
  rcases j with e|e|e|e|e
  ·exact .inl e
  ·exact .inr (.inr (.inr (.inl e)))
  ·exact .inr (.inr (.inr (.inr (.inl e))))
  ·exact .inr (.inr (.inr (.inr (.inr (.inl e)))))
  exact .inr (.inr (.inr (.inr (.inr (.inr (.inl e)))))))⟩
 rcases s with s|e|e|e|e|e|e|e|e|e
 ·exact (hF x).2 (.inl (h5 x A s))
 ·exact (hF x).2 (.inr (.inl e))
 ·exact (hF x).2 (.inr (.inr (.inl e)))
 ·exact (hF x).2 (.inr (.inr (.inr (.inl e))))
 ·exact (hF x).2 (.inr (.inr (.inr (.inr (.inl e)))))
 ·exact (hF x).2 (.inr (.inr (.inr (.inr (.inr (.inl e))))))
 ·exact (hF x).2 (.inr (.inr (.inr (.inr (.inr (.inr (.inl e)))))))
 ·exact (hF x).2 (.inr (.inr (.inr (.inr (.inr (.inr (.inr (.inl e))))))))
 ·have:=(iZ u.seats e).1
  omega
 have:=(iZ u.mems e).1;omega
end
def infoB4:(prog.info? 4).map (fun i=>(i.zero,i.size,i.bytes))=some (some (.bool false),1,1):=k_
def infoBR:(prog.info? 128).map (fun i=>(i.zero,i.size,i.bytes))=some (some (.slice none 0 0),1,24):=k_
def ow (cs:Array Value) (n:Nat):Prop:=cs.size=n/\∀j,j<n->∃A k c,cs[j]?=some (.slice A k c)
def ow.set {cs:Array Value} {i:Nat} (h:ow cs n) (A:Option Addr) (k c:Nat):ow (cs.setIfInBounds i (.slice A k c)) n:=by
 refine ⟨by rw[Array.size_setIfInBounds];exact h.1,fun j g=>?_⟩;rw[Array.getElem?_setIfInBounds];split
 ·split
  ·exact ⟨A,k,c,rfl⟩
  rename_i l e;exact absurd (by rw[h.1];omega) e
 exact h.2 j g
section
variable {an g gw st:Nat} 
def HJ (h:ab w p 81 (oY b v g kept)) (hb:Bk w b n σ F) (cE:n<=12) (x2:∀i,i<n->(σ i).wait=0) (hv:ab w v 88 (i3 b an key (some ⟨st,0,none⟩) (some gw))) :
  Cl 29 #[.pointer (some ⟨p,0,none⟩),.int .u64 0] w fun e w'=>e=.returned (.int .i64 0)/\∃J,Gr w F J/\Bk w' b n (I0 σ n) J/\ab w' v 88 (i3 b an key none none)/\Kp (fun q=>F q\/q=v) w w':=by
 have y8:=Zz (x_m hb);have Y:=h.c0;have y6:=run_make_row' 127 128 (.slice none 0 0) 24 underlying127 infoBR rfl .i64 .i64 n o_ o_ w;have C:=Zz (ab.new w 128 (madeCells #[.slice none 0 0] n));have H8:=Zz ((Kp.refl ac w).alloc (.cells (madeCells #[.slice none 0 0] n) 128))
 have h5:Hid (ow (madeCells #[.slice none 0 0] n) n/\∀j,j<n->(madeCells #[.slice none 0 0] n)[j]?=some (.slice none 0 0)):=Zz (by
  have hl:(madeCells #[Value.slice none 0 0] n).toList=List.replicate n (.slice none 0 0):=toList_madeCells_one _ _
  have hg:∀j,j<n->(madeCells #[Value.slice none 0 0] n)[j]?=some (.slice none 0 0):=fun j E=>by
   rw[<-Array.getElem?_toList,hl,List.getElem?_replicate,if_pos E]
  exact ⟨⟨by rw[<-Array.length_toList,hl,Aa],fun j E=>⟨none,0,0,hg j E⟩⟩,hg⟩)
 have H1:=Zz hb;have H3:=Zz hv;have U:=Zz h;have kY:=Zz x2;clear h hb x2 hv;go_enter func29,ntmps29;go_wp2_with fail;refine y8.o.mono ?_;rintro e y ⟨rfl,rfl⟩
 go_upto_region 5 with fail
 clear y6 Y;generalize y.alloc (.cells (madeCells #[.slice none 0 0] n) 128)=w3 at *;generalize madeCells #[.slice none 0 0] n=x9 at *;obtain ⟨G,hG⟩:∃G,y.heap.size=G:=⟨_,rfl⟩;rw[hG] at C ⊢;have T:=Zz hG;clear hG
 go_loopw [6,7,18,21] (fun _ _ h4 _ wr=>∃(i:Nat) (cs:Array Value),i<=n/\h4=.int .i64 i/\Hid (ab wr G 128 cs)/\Hid (ow cs n/\∀j,i<=j->j<n->cs[j]?=some (.slice none 0 0))/\Hid (Kp ac y wr)) (fun _ _ h4 _ _=>n-(intOf h4).toNat)
 case atStart=>exact ⟨0,x9,o_,rfl,C,Zz ⟨h5.o.1,fun j _=>h5.o.2 j⟩,H8⟩
 case round =>
  clear C H8 h5;obtain ⟨i,cs,hi,rfl,s,l,m⟩:=hrel;by_cases H7:i<n
  ·have bL:(i:Int)<(n:Int):=o_
   obtain ⟨x8,h2⟩:∃x8:W_,x8=wr:=⟨_,rfl⟩;have x5:Hid (aH wr G 4 (.slice none 0 0) []):=Zz (aH.nil_ wr G 4);have h7:Hid (ow cs n/\cs[i]?=some (.slice none 0 0)/\∀j,i+1<=j->j<n->cs[j]?=some (.slice none 0 0)):=Zz ⟨l.o.1,l.o.2 i (bS _) H7,fun j Q D=>l.o.2 j o_ D⟩;have x4:Hid (([]:List Value).length=0):=Zz rfl;clear l h2
   go_upto_region 8 with fail
   go_loopw [7,21] (fun _ em wr=>∃(k:Nat) (u:Value) (cs:Array Value) (I:List Value),k<=64/\em=.int .i64 k/\Hid (ab wr G 128 cs)/\Hid (ow cs n/\cs[i]?=some u/\∀j,i+1<=j->j<n->cs[j]?=some (.slice none 0 0))/\Hid (aH wr G 4 u I)/\Hid (I.length=k)/\Hid (Kp ac y wr)) (fun _ em _=>64-(intOf em).toNat)
   case atStart=>exact ⟨0,_,cs,[],o_,rfl,s,h7,x5,x4,m⟩
   case round =>
    clear s h7 x5 x4 m;obtain ⟨k,u,a,I,hk,rfl,s,l,H2,H4,m⟩:=hrel;by_cases UD:k<64
    ·have kN:(k:Int)<64:=o_
     have y0:=(s.o.cell i).trans l.o.2.1;have SP:bits .and .u64 (0:Int) (1:Int)=0:=d_
     have DC:IntKind.i64.wrap ((i:Int)*5)=(i:Int)*5:=by rw[eM];omega
     have hW2:IntKind.i64.wrap ((i:Int)*5+(k:Int))=(i:Int)*5+(k:Int):=by rw[eM];omega
     obtain ⟨r,hr⟩:∃r:Nat,((i:Int)*5+(k:Int)).tmod 64=(r:Int)/\r<64:=⟨(i*5+k) % 64,by rw[show (i:Int)*5+(k:Int)=((i*5+k:Nat):Int) by omega];rfl,gx _ d_⟩;obtain ⟨nl,kP⟩:=hr
     have ri:∀W:W_,(Op.shift .shr .u64 0 .i64 (r:Int)).run prog W=.ok (.int .u64 0) W:=fun W=>by
      unfold Op.shift;rw[if_neg o_];simp
     have h6:=Zz s.o.drew;have h9:Hid (aH wr.drew G 4 u I):=H2;have x7:=Zz m.o.drew;have R:=H4.o;have qi:G<wr.drew.heap.size:=s.o.lt;clear s H2 m y0
     go_upto_region 10 with fail
     refine fs ?_;generalize wr.drew=t at *;have O:t.cell? ⟨G,i,none⟩=some u:=(h6.o.cell i).trans l.o.2.1;refine fp 0 ?_;refine fp 1 ?_;refine fp 2 ?_;refine fp 3 ?_;refine fp 4 ?_;refine cw 5 O ?_;refine fp 6 ?_;refine fp 7 ?_;refine fp 8 ?_;refine fp 9 ?_;refine fp 10 ?_;refine fp 11 ?_;refine fp 12 ?_;refine fp 13 ?_;refine fp 14 ?_;refine fd 15 fun K y3 f=>?_;go_simp;have z:=(Kp.refl ac t).alloc (.cells #[.bool false] 4);have P:=Zz (h6.o.kp z fun h=>h);have N:=Zz (h9.o.kp z fun _ _ h=>h);have x0:=Zz (x7.o.trans z);have x3:Hid (b_ (t.alloc (.cells #[.bool false] 4)) (.slice (some ⟨t.heap.size,0,none⟩) 1 1) [.bool false]):=Zz (S8 t #[.bool false] 4 (by simp[maxLen]))
     have H:G<(t.alloc (.cells #[.bool false] 4)).heap.size:=by have:=z.size;omega
     refine f _ _ (oK ((P.o.cell i).trans l.o.2.1) oN) ?_;clear f K O z h6 h9 x7 qi;generalize t.alloc (.cells #[.bool false] 4)=w7 at *;refine Dj 16 rfl rfl k_ ?_;refine x_2 rfl underlying128 infoB4 rfl d_ rfl rfl (fun u x6=>by simp at x6;subst x6;rfl) N.o x3.o (by show 0<1;decide) o_ (by rw[R];show (k+1)*1<=140737488355328;omega) ?_;intro v1 S h0 hg;have V:Kp (fun q=>some q=u.ownBlock) w7 S:=Kp.of_grown hg fun _ h=>h;have d:=Zz (P.o.kp V fun h=>hH N.o P.o d_ h.symm);have H9:=Zz (x0.o.then V fun q h1 h=>(by have:=(N.o.lt q h.symm).1;have:=T.o;omega:False));refine ⟨oW oN,?_⟩;obtain ⟨x,o,rfl⟩:∃A c,v1=.slice A (k+1) c:=(by obtain ⟨A,c,e⟩:=h0.shape;exact ⟨A,c,by rw[e,cd,A_,R]⟩);have h3:=Zz h0;clear h0 hg V P N x0 x3 H;have O:S.cell? ⟨G,i,none⟩=some u:=(d.o.cell i).trans l.o.2.1;have f1:=d.o.frozen i;refine fp 17 ?_;refine fd 18 fun K y3 f=>?_;go_simp;refine f _ _ (oW oN) ?_;clear f K;refine fe ?_;have B:=(Kp.refl (fun q=>q=G) S).setCell ⟨G,i,none⟩ (.slice x (k+1) o) (.inl rfl);have yV:=Zz (d.o.set_ i (.slice x (k+1) o));have kI:=Zz (h3.o.kp B fun q h1 e=>hH h3.o d.o d_ (h1.trans (congrArg some e)));have y9:=Zz (H9.o.then B fun q h1 e=>(by have e:q=G:=e;have:=T.o;omega:False))
     have ky:Hid (ow (a.setIfInBounds i (.slice x (k+1) o)) n/\(a.setIfInBounds i (.slice x (k+1) o))[i]?=some (.slice x (k+1) o)/\∀j,i+1<=j->j<n->(a.setIfInBounds i (.slice x (k+1) o))[j]?=some (.slice none 0 0)):=Zz (by
      refine ⟨l.o.1.set _ _ _,?_,fun j Q D=>?_⟩
      ·rw[Array.getElem?_setIfInBounds,if_pos rfl,if_pos (by rw[l.o.1.1];exact H7)]
      rw[Array.getElem?_setIfInBounds,if_neg o_]
      exact l.o.2.2 j Q D)
     have nJ:Hid ((I++[(.bool false:Value)]).length=k+1):=Zz (by rw[cd,A_,R]);clear B O f1 d h3 H9 R H4 l;generalize S.setCell ⟨G,i,none⟩ (.slice x (k+1) o)=w9 at *;generalize a.setIfInBounds i (.slice x (k+1) o)=y1 at *;go_wp2;go_roundw
     case rel=>exact ⟨k+1,_,y1,_,o_,by go_num,yV,ky,kI,nJ,y9⟩
     case measure=>simp[intOf];omega
    obtain rfl:k=64:=o_;go_wp2;go_roundw
    case rel=>exact ⟨i+1,a,o_,by go_num,s,Zz ⟨l.o.1,l.o.2.2⟩,m⟩
    case measure=>simp[intOf];omega
  obtain rfl:i=n:=o_;have Y:wr.cell? ⟨p,0,none⟩=some (.pointer (some ⟨b,0,none⟩)):=(U.o.kp m.o fun h=>h).cell 0;have Z:=Zz (H1.o.no m.o)
  have mN:Hid (RowsB wr (.slice (some ⟨G,0,none⟩) i i) i):=Zz ⟨G,0,i,rfl,bS _,fun j E=>by
   obtain ⟨A,k,c,Q⟩:=l.o.1.2 j E
   exact ⟨A,k,c,by rw[jm];exact (s.o.cell j).trans Q⟩⟩
  have xY:Hid (¬F G):=Zz fun L=>by have:=(H1.o.lt L).2;have:=T.o;omega
  go_wp2_with fail;refine (He Z.o kY.o _ mN.o (fun rb ro c e=>by injection e with e;injection e with e;injection e with e;subst e;exact xY.o)).mono ?_;rintro e w5 ⟨rfl,J,h8,x1,M⟩;have H5:=Zz ((H3.o.kp m.o fun h=>h).kp M fun h=>Z.o.off (H3.o.kp m.o fun h=>h) (by unfold ci;decide) h);have lk:=Zz ((U.o.kp m.o fun h=>h).kp M fun h=>Z.o.off (U.o.kp m.o fun h=>h) (by unfold ci;decide) h);have pR:=Zz h8;have H6:=Zz x1;have y5:Hid (Kp F y w5):=Zz ((m.o.mono fun _ _ h=>h.elim).trans M);clear h8 x1 M Y;have o:=lk.o.c1;go_wp2_with fail;refine (oE H5.o).mono ?_;rintro e t ⟨rfl,H0,X⟩;have y2:=Zz H0
  have y7:=Zz (H6.o.kp X fun q e L=>by
   have e:q=v:=e;subst e
   exact H6.o.off H5.o (by unfold ci;decide) L)
  have y4:Hid (Kp (fun q=>F q\/q=v) y t):=Zz ((y5.o.mono fun _ _ h=>.inl h).then X fun q _ e=>.inr e);clear H0 X o;go_wp2;go_ret;exact ⟨rfl,J,(Gr.refl _ F).then pR.o m.o.size,y7.o,y2.o,y4.o⟩
end
def Bk.congr {σ':Nat->ao} (h:Bk w b n σ F) (k:∀j,j<n->σ j=σ' j):Bk w b n σ' F:=by
 obtain ⟨G,c,st,A,Φ,e,hF⟩:=h;exact ⟨G,c,st,A,Φ,⟨e.blk,e.row,fun i g=>by rw[<-k i g];exact e.dk i g,e.sep,e.b10,e.bG,e.off,e.n1,e.n12⟩,hF⟩
structure Mu0 (w:W_) (p b v an g n c:Nat) (key ad:List UInt8) (σ:Nat->ao) (F:Nat->Prop) (D:List Nat) (kept:Value):Prop where
 hp:ab w p 81 (oY b v g kept)
 hv:ab w v 88 (i3 b an key none none)
 hb:Bk w b n σ F
 ha:ab w an 180 #[.int .u64 c,.string (bs ad)]
 hD:aS KI w g (suF D) D
 lo:10<=p/\10<=v/\10<=an/\10<=g
def muF (F:Nat->Prop) (p v an g:Nat):Nat->Prop:=fun x=>F x\/x=p\/x=v\/x=an\/x=g
def Mu (w:W_) (p b v n c:Nat) (key e:List UInt8) (σ:Nat->ao) (D:List Nat) (kept:Value) (Ft:Nat->Prop):Prop :=
 ∃an g F,Mu0 w p b v an g n c key e σ F D kept/\∀x,Ft x↔muF F p v an g x
def C1 (σ:Nat->ao):∀n,(∃i,i<n/\(σ i).dead=false)->∃k,k<n/\(∀i,i<k->(σ i).dead=true)/\(σ k).dead=false:=by
 intro n
 induction n with
 | zero=>rintro ⟨i,o,_⟩;omega
 | succ n q =>
  rintro ⟨i,o,e⟩;by_cases h:∃i,i<n/\(σ i).dead=false
  ·obtain ⟨k,hk,l,m⟩:=q h
   exact ⟨k,o_,l,m⟩
  obtain rfl:i=n:=by
   refine Nat.le_antisymm o_ (Nat.le_of_not_lt fun g=>h ⟨i,g,e⟩)
  refine ⟨i,o_,fun j p=>?_,e⟩
  cases hb:(σ j).dead with
  | true=>rfl
  | false=>exact absurd ⟨j,p,hb⟩ h
section
variable {w':W_} {c:Nat} {ad:List UInt8} {T:Nat->Prop} 
def Mu.lt (h:Mu w p b v n c key ad σ D kept Ft) (i:Ft x):10<=x/\x<w.heap.size:=by
 obtain ⟨an,g,F,e,hF⟩:=h;obtain ⟨j,k,l,m⟩:=e.lo;rcases (hF x).1 i with i|rfl|rfl|rfl|rfl
 ·exact e.hb.lt i
 ·exact ⟨j,e.hp.lt⟩
 ·exact ⟨k,e.hv.lt⟩
 ·exact ⟨l,e.ha.lt⟩
 exact ⟨m,e.hD.lt⟩
def Mu.kp (h:Mu w p b v n c key ad σ D kept Ft) (k:Kp T w w') (j:∀x,T x->¬Ft x):Mu w' p b v n c key ad σ D kept Ft:=by
 obtain ⟨an,g,F,e,hF⟩:=h;have hn:∀x,muF F p v an g x->¬T x:=fun x m i=>j x i ((hF x).2 m);exact ⟨an,g,F,⟨e.hp.kp k (hn _ (.inr (.inl rfl))),e.hv.kp k (hn _ (.inr (.inr (.inl rfl)))),e.hb.kp k (fun q i l=>hn _ (.inl l) i),e.ha.kp k (hn _ (.inr (.inr (.inr (.inl rfl))))),e.hD.kp k (hn _ (.inr (.inr (.inr (.inr rfl))))),e.lo⟩,hF⟩
def Mu.no (h:Mu w p b v n c key ad σ D kept Ft) (k:Kp ac w w'):Mu w' p b v n c key ad σ D kept Ft:=h.kp k fun _ h=>h.elim
def v_4 (h:Mu w p b v n c key ad σ D kept Ft):Cl 10 #[.pointer (some ⟨p,0,none⟩)] w fun e w'=>e=.returned (.pointer (some ⟨v,0,none⟩))/\w'=w:=by
 obtain ⟨an,g,F,i,hF⟩:=h;exact pi i.hp
def mu_bank (h:Mu w p b v n c key ad σ D kept Ft):Cl 20 #[.pointer (some ⟨p,0,none⟩)] w fun e w'=>e=.returned (.pointer (some ⟨b,0,none⟩))/\w'=w:=by
 obtain ⟨an,g,F,i,hF⟩:=h;exact wQ i.hp
def mu_new (w:W_) (n:Nat) (key:List UInt8) (m:10<=w.heap.size) (hn:1<=n/\n<=12) :
  Cl 26 #[.int .i64 n,.string (bs key)] w fun e w'=>∃p b v Ft,e=.returned (.pointer (some ⟨p,0,none⟩))/\Mu w' p b v n 0 key [] (fun _=>dk0) [] (.slice none 0 0) Ft/\(∀q,Ft q->w.heap.size<=q)/\Kp ac w w':=by
 refine (Xe w n key m hn).mono ?_;rintro e w' ⟨p,b,an,v,g,F,rfl,hp,hv,ha,hm,hb,hF,i,j,k,l,hk⟩;refine ⟨p,b,v,muF F p v an g,rfl,⟨an,g,F,⟨hp,hv,hb,ha,by rw[suF_nil];exact hm,o_⟩,fun x=>Iff.rfl⟩,fun q h=>?_,hk⟩;rcases h with h|rfl|rfl|rfl|rfl
 ·exact hF q h
 ·exact i
 ·exact k
 ·exact j
 exact l
def O8 (f:a_ w) (I:10<=w.heap.size) (hk:key.length=32) (h:Mu w p b v n 0 key [] (fun _=>dk0) D kept Ft) (d s:Nat) (a:2<=d) (c:d<=4) (hs:sl s) (hn:d+2<=n) :
  Cl 27 #[.pointer (some ⟨v,0,none⟩),.int .i64 d,.int .i64 s] w fun e w'=>e=.returned (.int .i64 0)/\∃Ft',Gr w Ft Ft'/\Mu w' p b v n 1 key (dC (bh (g8 d s n))) (eY (fU d s n) 1 (bs (bh (g8 d s n))) n) D kept Ft'/\Kp Ft w w':=by
 obtain ⟨an,g,F,i,hF⟩:=h;refine FI i.hv d s fun W k=>?_;refine (JJ (f.no k) (i.hb.no k) (by have:=k.size;omega) (i.ha.kp k fun h=>h) hk d s a c hs hn).mono ?_;rintro e w' ⟨rfl,ha,o,hg,hb,u⟩;have m:Kp (fun q=>F q\/q=an) w w':=(k.mono fun _ _ h=>h.elim).trans u
 have r:∀ {g2 t2:Nat} {y:Array Value},ab w g2 t2 y->¬ci t2->t2≠180->¬(F g2\/g2=an):=fun t E z j=>by
  rcases j with j|rfl
  ·exact i.hb.off t E j
  exact ab.ne_ t i.ha z rfl
 refine ⟨rfl,muF o p v an g,fun x G l=>?_,⟨an,g,o,⟨i.hp.kp m (r i.hp (by unfold ci;decide) d_),i.hv.kp m (r i.hv (by unfold ci;decide) d_),hb,ha,i.hD.kp m (fun j=>by
  rcases j with j|e
  ·exact i.hb.offMap i.hD j
  ·exact i.hD.ne_blk i.ha e),i.lo⟩,fun x=>Iff.rfl⟩,m.mono fun q _ e=>(hF q).2 (by
  rcases e with e|e
  ·exact .inl e
  exact .inr (.inr (.inr (.inl e))))⟩
 rcases l with l|l
 ·exact (hF x).2 (.inl (hg x (ea G k.size) l))
 exact (hF x).2 (.inr l)
def ue (H2:a_ w) (H6:10<=w.heap.size) (hk:key.length=32) {L:Nat->Option (List Wr)} (M:gQ n key S σ ch B) (h1:zX S σ L) (h5:0<S.count) (h7:S.count<1000) (H7:S.epoch<1000) (h:Mu w p b v n S.count key (dC (bh S)) σ D kept Ft) (h8:∃i,i<n/\(σ i).dead=false)
  (h0:S.count % 2=1->∀i,i<n->(σ i).dead=false->∃m:List UInt8,tl (σ i).now 0=bs m/\m.length<=2048/\(m=[]\/dC m≠dC (bh S))) :
  Cl 23 #[.pointer (some ⟨v,0,none⟩)] w fun e w'=>e=.returned (.int .i64 0)/\∃Ft',Gr w Ft Ft'/\Mc w' p b v n 0 key (eG S) (eY (e6 σ S L n) ((S.count+1) % 2) (bs (bh (eG S))) n) (fun _=>none) [] D kept Ft'/\Kp Ft w w':=by
 obtain ⟨an,g,F,l,hF⟩:=h;obtain ⟨x1,x2,x3,x4⟩:=l.lo;obtain ⟨k,X,h9,T⟩:=C1 σ n h8
 have U:∀ {g2 t2:Nat} {J:Array Value},ab w g2 t2 J->¬ci t2->t2≠180->¬(F g2\/g2=an):=fun d H5 a r=>by
  rcases r with r|rfl
  ·exact l.hb.off d H5 r
  exact ab.ne_ d l.ha a rfl
 refine (Kf (R:=fun st o=>∃s vs vm y,w.heap.size<=st/\w.heap.size<=s/\ab o st 116 (gU b an key (eG S) vs vm s)/\ab o s 226 #[.int .u64 (S.epoch+1:Nat),.int .u64 0]/\bg o w.heap.size (eG S) vs vm /\
   ab o an 180 #[.int .u64 (S.count+1:Nat),.string (bs (dC (bh (eG S))))]/\Gr w F y/\Bk o b n (eY (e6 σ S L n) ((S.count+1) % 2) (bs (bh (eG S))) n) y/\ab o p 81 (oY b v g kept)/\ab o v 88 (i3 b an key none none)/\aS KI o g (suF D) D/\Kp (fun q=>F q\/q=an) w o) l.hv fun W f=>?_).mono ?_
 ·have H0:∀j (h:j<S.mem.length),(S.mem[j]'h).st=1->(σ j).dead=false->M8 (σ j) (S.mem[j]'h).log (L j):=fun j N a H3=>by
   have:=(h1 j (c_.2 ⟨by rw[SH N];exact a,H3⟩)).1
   rwa [NM N] at this
  obtain ⟨m,H1⟩:∃m:List UInt8,S.count % 2=1->tl (σ k).now 0=bs m/\m.length<=2048/\(m=[]\/dC m≠dC (bh S)):=by
   by_cases K:S.count % 2=1
   ·obtain ⟨m,h⟩:=h0 K k X T
    exact ⟨m,fun _=>h⟩
   exact ⟨[],fun h=>absurd h K⟩
  refine (RJ (L:=L) (H2.no f) (l.hb.no f) (by have:=f.size;omega) hk S M.ok M.len h5 h7 H7 (l.ha.kp f fun h=>h) k (S.count % 2) X h9 T (gx _ d_) (M.rc k X T) m H1 H0 (fun j N=>by rw[(M.dk j N).wait];exact Nat.zero_le _)).mono ?_;rintro e w' ⟨st,s,vs,vm,rfl,h4,hsp,I,O,z,ha,y,hg,hb,h6⟩;have G:Kp (fun q=>F q\/q=an) w w':=(f.mono fun _ _ h=>h.elim).trans h6;have hz:=f.size
  refine ⟨st,rfl,l.hv.kp G (U l.hv (by unfold ci;decide) d_),s,vs,vm,y,o_,o_,I,O,z.more hz,ha,fun x H c=>hg x o_ c,hb,l.hp.kp G (U l.hp (by unfold ci;decide) d_),l.hv.kp G (U l.hv (by unfold ci;decide) d_),l.hD.kp G (fun r=>by
   rcases r with r|e
   ·exact l.hb.offMap l.hD r
   exact l.hD.ne_blk l.ha e),G⟩
 rintro e w' ⟨rfl,st,C,W,⟨s,vs,vm,y,h4,hsp,I,O,z,ha,hg,hb,Z,P,Q,Y⟩,h2,H9,V,t⟩;have E:∀ {g2 t2:Nat} {J:Array Value},ab W g2 t2 J->t2≠88->¬g2=v:=fun d a=>ab.ne_ d P a
 have A:∀ {base e size k:Nat} {u:Value} {H8:List Value},W.ownsRow base e size u k H8->e≠88->∀q,u.ownBlock=some q->¬q=v:=fun H4 a q r=>by
  obtain ⟨J,d⟩:=fj H4 r;exact E d a
 have h3:=z.kp t (A z.seats d_) (A z.mems d_);have x0:=Y.size;have hglt:=Q.lt
 refine ⟨rfl,mcF y p v an st s C g vs vm,fun x H c=>?_,⟨an,g,st,s,C,vs,vm,y,⟨Z.kp t (E Z d_),h2,I.kp t (E I d_),O.kp t (E O d_),h3.more H6,hb.kp t (fun q e c=>by
  have e:q=v:=e;subst e
  exact hb.off P (by unfold ci;decide) c),ha.kp t (E ha d_),V,Q.kp t (fun e=>Q.ne_blk P e),o_,o_⟩,fun x=>Iff.rfl⟩,((Y.mono (S:=fun q=>F q\/q=an\/q=v) fun q _ e=>e.elim .inl fun e=>.inr (.inl e)).then t fun q _ e=>.inr (.inr e)).mono fun q _ e=>?_⟩
 ·rcases c with c|e|e|e|e|e|e|e|e|e
  ·exact (hF x).2 (.inl (hg x H c))
  ·exact (hF x).2 (.inr (.inl e))
  ·exact (hF x).2 (.inr (.inr (.inl e)))
  ·exact (hF x).2 (.inr (.inr (.inr (.inl e))))
  ·omega
  ·omega
  ·omega
  ·exact (hF x).2 (.inr (.inr (.inr (.inr e))))
  ·have:=(iZ z.seats e).1
   omega
  have:=(iZ z.mems e).1;omega
 rcases e with e|e|e
 ·exact (hF q).2 (.inl e)
 ·exact (hF q).2 (.inr (.inr (.inr (.inl e))))
 exact (hF q).2 (.inr (.inr (.inl e)))
def EJ (o:gQ n key S σ ch B) (h:Mc w p b v n q key S σ f dom D kept Ft) :
  Cl 29 #[.pointer (some ⟨p,0,none⟩),.int .u64 0] w fun e w'=>e=.returned (.int .i64 0)/\∃Ft',Gr w Ft Ft'/\Mu w' p b v n S.count key (dC (bh S)) σ D kept Ft'/\Kp Ft w w':=by
 obtain ⟨an,g,st,T,O,vs,vm,F,k,hF⟩:=h;obtain ⟨I,J,P,Q,M,R,N⟩:=k.lo;refine (HJ k.hp k.hb (by have:=o.len;have:=o.ok.n12;omega) (fun i c=>(o.dk i c).wait) k.hv).mono ?_;rintro e w' ⟨rfl,s,hg,hb,hv,m⟩
 have G:∀j,j<n->I0 σ n j=σ j:=fun j y=>by
  unfold I0;rw[if_pos y];exact (o.dk j y).crash
 have t:∀ {g2 t2:Nat} {z:Array Value},ab w g2 t2 z->¬ci t2->t2≠88->¬(F g2\/g2=v):=fun u d a l=>by
  rcases l with l|rfl
  ·exact k.hb.off u d l
  exact ab.ne_ u k.hv a rfl
 refine ⟨rfl,muF s p v an g,fun x E r=>?_,⟨an,g,s,⟨k.hp.kp m (t k.hp (by unfold ci;decide) d_),hv,hb.congr G,k.ha.kp m (t k.ha (by unfold ci;decide) d_),k.hD.kp m (fun l=>by
  rcases l with l|e
  ·exact k.hb.offMap k.hD l
  ·exact k.hD.ne_blk k.hv e),I,J,M,N⟩,fun x=>Iff.rfl⟩,m.mono fun q _ e=>(hF q).2 (by
  rcases e with e|e
  ·exact .inl e
  exact .inr (.inr (.inl e)))⟩
 rcases r with r|e|e|e|e
 ·exact (hF x).2 (.inl (hg x E r))
 ·exact (hF x).2 (.inr (.inl e))
 ·exact (hF x).2 (.inr (.inr (.inl e)))
 ·exact (hF x).2 (.inr (.inr (.inr (.inl e))))
 exact (hF x).2 (.inr (.inr (.inr (.inr (.inr (.inr (.inr (.inl e))))))))
def JC (h:Mc w p b v n q key S σ f dom D kept Ft) :
  Cl 19 #[.pointer (some ⟨v,0,none⟩)] w fun e w'=>e=.returned (.int .i64 0)/\∃Ft',Gr w Ft Ft'/\Mu w' p b v n S.count key (dC (bh S)) σ D kept Ft'/\Kp Ft w w':=by
 obtain ⟨an,g,st,G,z,vs,vm,F,i,hF⟩:=h;obtain ⟨s,t,c,d,u,E,y⟩:=i.lo;refine (oE i.hv).mono ?_;rintro e w' ⟨rfl,hv,j⟩;have l:∀ {g2 t2:Nat} {o:Array Value},ab w g2 t2 o->t2≠88->¬g2=v:=fun m r=>ab.ne_ m i.hv r
 refine ⟨rfl,muF F p v an g,fun x a k=>?_,⟨an,g,F,⟨i.hp.kp j (l i.hp d_),hv,i.hb.kp j (fun q e k=>by
  have e:q=v:=e;subst e
  exact i.hb.off i.hv (by unfold ci;decide) k),i.ha.kp j (l i.ha d_),i.hD.kp j (fun e=>i.hD.ne_blk i.hv e),s,t,u,y⟩,fun x=>Iff.rfl⟩,j.mono fun q _ e=>(hF q).2 (.inr (.inr (.inl e)))⟩
 rcases k with k|e|e|e|e
 ·exact (hF x).2 (.inl k)
 ·exact (hF x).2 (.inr (.inl e))
 ·exact (hF x).2 (.inr (.inr (.inl e)))
 ·exact (hF x).2 (.inr (.inr (.inr (.inl e))))
 exact (hF x).2 (.inr (.inr (.inr (.inr (.inr (.inr (.inr (.inl e))))))))
def Fw (h:Mc w p b v n q key S σ f dom D kept Ft) (hl:D.length<=1000) :
  Cl 30 #[.pointer (some ⟨p,0,none⟩)] w fun e w'=>(∃A c,e=.returned (.slice A D.length c))/\Kp ac w w':=by
 obtain ⟨an,g,st,l,k,vs,vm,F,i,hF⟩:=h;refine (vI i.hp i.hD hl).mono ?_;rintro e w' ⟨u,rfl,j,hk⟩;obtain ⟨A,c,rfl⟩:=lM j;rw[iF,w_6];exact ⟨⟨A,c,rfl⟩,hk⟩
end
def kV (W:W_) (m x d:Int) (A:Option Addr) (k c:Nat):(Instr.field 51 (.agg #[.bool true,.bool false,.int .i64 m,.int .i64 x,.int .i64 d,.int .i64 0,.int .i64 0,.bool false,.slice A k c]) 2).run prog W=.ok (.int .i64 m) W:=k_
def BK (e a c t:Int) (g:UInt8) (cell:B_) (h:Int):Array Value:=#[.int .i64 e,.int .i64 a,.int .i64 c,.int .i64 t,.int .u8 g.toNat,.string cell,.int .u64 h]
def jt (c:Int):UInt8:=UInt8.ofNat (c % 256).toNat
def TX (c:Int):((jt c).toNat:Int)=IntKind.u8.wrap c:=by
 rw[IntKind.wrap_u8];unfold jt;have e:=Int.emod_nonneg c (show (256:Int)≠0 by decide);have g:=Int.emod_lt_of_pos c (show (0:Int)<256 by decide);rw[UInt8.toNat_ofNat_of_lt' (show (c % 256).toNat<256 by omega)];omega
def Gj (e:UInt8) (c:Int):B_:=bs ([e,jt c]++List.replicate 30 0)
def xE (e:UInt8) (c:Int):(Gj e c).size=32:=rfl
section
variable {dd a c t kp:Int} {dt:UInt8} {cell:B_}
def Sd (w:W_) (dd a c t kp:Int) (dt:UInt8) (cell:B_) :
  Cl 13 #[.agg (BK dd a c t dt cell kp)] w fun e w'=>e=.returned (.string (Gj dt c))/\Kp ac w w':=by
 have k:=Zz (ab.new w 31 (BK dd a c t dt cell kp)).drew;have m:=Zz ((Kp.refl ac w).alloc (.cells (BK dd a c t dt cell kp) 31)).drew;have l:Hid (bs [dt,jt c]++bs (List.replicate 30 0)=Gj dt c):=Zz (uQ _ _);have d:=(TX c).symm;have hz:(⟨#[0,0,0,0,0,0,0,0,0,0,0,0,0,0,0,0,0,0,0,0,0,0,0,0,0,0,0,0,0,0,0,0]⟩:B_).extract 2 32=bs (List.replicate 30 0):=d_
 have s:¬((9223372036854775807:Nat)<(bs [dt,jt c]).size+(bs (List.replicate 30 0)).size):=by show ¬(9223372036854775807<2+30);decide
 generalize Gj dt c=R at *;generalize bs (List.replicate 30 0)=Z at *;have j:Hid (∀W P,b_ W (.slice (some ⟨P,0,none⟩) 2 2) (bv [dt,jt c])->(convert 105 9 (.slice (some ⟨P,0,none⟩) 2 2)).run prog W=.ok (.string (bs [dt,jt c])) W):=Zz fun W P h=>Ak W h;obtain ⟨X,r⟩:∃X,bs [dt,jt c]=X:=⟨_,rfl⟩;rw[r] at j l s;clear r;change Cl 13 #[.agg #[.int .i64 dd,.int .i64 a,.int .i64 c,.int .i64 t,.int .u8 dt.toNat,.string cell,.int .u64 kp]] w _;go_enter func13,ntmps13
 go_upto_region 1 with fail
 change Code.wp _ _ _ _ (w.alloc (.cells (BK dd a c t dt cell kp) 31));generalize w.alloc (.cells (BK dd a c t dt cell kp) 31)=z at *;generalize w.heap.size=G at *;refine fs ?_;generalize z.drew=g at *;have q:=k.o.c4;have p:=k.o.c2;refine fp 0 ?_;refine cw 1 q ?_;refine fp 2 ?_;refine cw 3 p ?_;refine fp 4 ?_;refine fp 7 ?_;refine fd 5 fun K b i=>?_;go_simp;have n:=(Kp.refl ac g).alloc (.cells #[.int .u8 dt.toNat,.int .u8 ((jt c).toNat:Int)] 5);have v:=Zz (m.o.trans n);have u:Hid (b_ (g.alloc (.cells #[.int .u8 dt.toNat,.int .u8 ((jt c).toNat:Int)] 5)) (.slice (some ⟨g.heap.size,0,none⟩) 2 2) (bv [dt,jt c])):=Zz (Ab g #[.int .u8 dt.toNat,.int .u8 ((jt c).toNat:Int)] 5 (by simp[maxLen]));refine i _ _ (oW (oW oN)) ?_;clear i K q p n m k;generalize g.alloc (.cells #[.int .u8 dt.toNat,.int .u8 ((jt c).toNat:Int)] 5)=w3 at *;generalize g.heap.size=P at *;have o:=u.o;have y:=(fun W h=>j.o W P h) _ o;refine w_h 6 (fun W=>b_ W (.slice (some ⟨P,0,none⟩) 2 2) (bv [dt,jt c])) rfl rfl k_ k_ o (fun K i=>?_);go_simp;refine i _ (fun W x=>by have f:=(fun W h=>j.o W P h) _ x;go_simp) ?_;clear i K y;refine fp 8 ?_;refine fp 9 ?_;refine fe ?_;go_wp2;go_ret;exact ⟨by rw[<-l.o];rfl,v.o⟩
end
def Z8:prog.underlying 9=some .string:=k_
def kd9:Maps.Keyed prog 9:=Maps.string_keyed Z8
noncomputable def KS:KM prog 9 B_ where
 kk s:=.string s.data.toList
 kv s:=.string s
 ok s:=s.size<=maxLen
 key s h:=WideMaps.keyOf_string_mk Z8 h
 inj a b _ _ h:=by
  injection h with h
  have e:a.data.toList=b.data.toList:=h;exact ByteArray.ext (Array.toList_inj.1 e)
def dX:List UInt8:=[48,49,50,51,52,53,54,55,56,57,97,98,99,100,101,102,48,49,50,51,52,53,54,55,56,57,97,98,99,100,101,102]
def vP (p:Nat) (i h vm:Value) (e:Nat) (g:Bool):Array Value:=#[.pointer (some ⟨p,0,none⟩),i,h,vm,.map (some e),.bool g]
def qa (d s n:Nat):cj:=eG (g8 d s n)
def MX (d s n:Nat):Nat->ao:=eY (e6 (eY (fU d s n) 1 (bs (bh (g8 d s n))) n) (g8 d s n) (fun _=>none) n) (((g8 d s n).count+1) % 2) (bs (bh (eG (g8 d s n)))) n
def wO {d s:Nat} (key:List UInt8) (j:2<=d) (k:d<=4) (hs:sl s) (hn:d+2<=n) (o:n<=12) :
  gQ n key (qa d s n) (MX d s n) (fun _=>eD) (fun _=>bs gy)/\zX (qa d s n) (MX d s n) (fun _=>none)/\(∀i,(MX d s n i).dead=false)/\(∀i,i<d+2->bad (qa d s n) (MX d s n) i=false):=by
 obtain ⟨e,g,l,r⟩:=gQ.format (s:=s) (n:=n) key j k hs hn o;obtain ⟨p,t,u⟩:=e.opened g (show 1<1000 by decide) (show 1<1000 by decide);have q:=zX.opened e g (show 1<1000 by decide) (show 1<1000 by decide)
 have h:∀i,(MX d s n i).dead=false:=fun i=>by unfold MX;rw[w_x,w_A];exact l i
 refine ⟨p,q,h,fun i m=>?_⟩;refine c_.2 ⟨?_,h i⟩;unfold qa;rw[DK,DP,if_pos ⟨o_,m⟩]
section
def xl (hL:a_ w) (hw:10<=w.heap.size) (d s T:Nat) (h2:2<=d) (h4:d<=4) (hs:sl s) (hsp:T<=4) :
  Cl 5 #[.int .i64 d,.int .i64 s,.int .i64 T] w fun e w'=>∃z p b v H7 vn x0 Ft,e=.returned (.tuple #[.pointer (some ⟨z,0,none⟩),.bool true])/\ab w' z 43 (vP p vn x0 (.slice none 0 0) H7 true) /\
   (aH w' w.heap.size 9 vn (sv (List.replicate (s*d) (bs gy)))/\aH w' w.heap.size 9 x0 (sv (List.replicate (s*d) (bs gy))))/\aS KS w' H7 (fun _=>none) []/\Mc w' p b v (d+2+T) 0 dX (qa d s (d+2+T)) (MX d s (d+2+T)) (fun _=>none) [] [] (.slice none 0 0) Ft /\
   (∀q,Ft q->w.heap.size<=q)/\(∀q,vn.ownBlock=some q->¬Ft q/\x0.ownBlock≠some q)/\(∀q,x0.ownBlock=some q->¬Ft q)/\(¬Ft z/\¬Ft H7/\w.heap.size<=z/\w.heap.size<=H7)/\Kp ac w w':=by
 obtain ⟨n,hn⟩:∃n,d+2+T=n:=⟨_,rfl⟩;obtain ⟨m,hm⟩:∃m,s*d=m:=⟨_,rfl⟩
 have kA:s<=4:=by rcases hs with h|h<;>omega
 have Fq:m<=16:=by rw[<-hm];exact Nat.mul_le_mul kA h4
 rw[hn,hm];obtain ⟨f1,f2,f3,f4⟩:=gQ.format (s:=s) (n:=n) dX h2 h4 hs o_ o_;have eS:=Zz (mu_new w n dX hw o_);have vJ:=Zz (fun W (l:a_ W) (h1:10<=W.heap.size) p b v Ft h=>ue (w:=W) (p:=p) (b:=b) (v:=v) (D:=[]) (kept:=.slice none 0 0) (Ft:=Ft) l h1 (key:=dX) rfl f1 f2 (show 0<1 by decide) (show 1<1000 by decide) (show 1<1000 by decide) h ⟨0,o_,f3 0⟩ (fun _ i hi _=>⟨[],f4 i hi,d_,.inl rfl⟩));have Vb:=Zz (fun W (l:a_ W) (h1:10<=W.heap.size) p b v Ft h=>O8 (w:=W) (p:=p) (b:=b) (v:=v) (D:=[]) (kept:=.slice none 0 0) (Ft:=Ft) l h1 (key:=dX) rfl h d s h2 h4 hs (by omega:d+2<=n));have il:Hid (a7 (qa d s n)):=Zz (wO dX h2 h4 hs (show d+2<=n by omega) o_).1.ok;have H0:=Zz (fun W (l:a_ W) (h1:10<=W.heap.size) p b v Ft h=>wW (w:=W) (p:=p) (b:=b) (v:=v) (n:=n) (q:=0) (key:=dX) (S:=qa d s n) (σ:=MX d s n) (f:=fun _=>none) (dom:=[]) (D:=[]) (kept:=.slice none 0 0) (Ft:=Ft) l h1 il.o h);change Hid (∀W,_->_->∀p b v Ft,_->Calls _ _ _ W fun e w'=>e=.returned (.int .i64 0)/\∃Ft',Gr W Ft Ft'/\Mc w' p b v n 0 dX (qa d s n) (MX d s n) (fun _=>none) [] [] (.slice none 0 0) Ft'/\Kp Ft W w') at vJ;change Hid (∀W,_->_->∀p b v Ft,_->Calls _ _ _ W fun e w'=>∃(A:Option Addr) (k c:Nat),e=.returned (.agg #[.bool true,.bool false,.int .i64 (s*d:Nat),.int .i64 0,.int .i64 d,.int .i64 0,.int .i64 0,.bool false,.slice A k c])/\Kp ac W w') at H0;rw[hm] at H0;have x2:=Zz hL;have nB:=@run_makeMap prog
 have aV:IntKind.i64.wrap ((d:Int)+2)=((d+2:Nat):Int):=by rw[eM];omega
 have fH:IntKind.i64.wrap (((d+2:Nat):Int)+(T:Int))=(n:Int):=by rw[eM];omega
 have xh:IntKind.i64.wrap ((d:Int)*(s:Int))=(m:Int):=by
  rw[show (d:Int)*(s:Int)=(m:Int) by rw[<-hm,Int.natCast_mul,Int.mul_comm],eM];omega
 have zf:(d:Int)+2+(T:Int)=(n:Int):=o_;have eB:(⟨#[48,49,50,51,52,53,54,55,56,57,97,98,99,100,101,102,48,49,50,51,52,53,54,55,56,57,97,98,99,100,101,102]⟩:B_)=bs dX:=rfl;have YK:(⟨#[0,0,0,0,0,0,0,0,0,0,0,0,0,0,0,0,0,0,0,0,0,0,0,0,0,0,0,0,0,0,0,0]⟩:B_)=bs gy:=rfl;clear hL f1 f2 f3 f4 hs;go_enter func5,ntmps5;go_wp2_with fail;refine eS.o.mono ?_;rintro e x ⟨p,b,v,Ft,rfl,x5,Vc,P⟩;have aw:=(Kp.refl ac x).alloc (.map #[] 0);have y0:=aw.alloc (.cells (vP p (.slice none 0 0) (.slice none 0 0) (.slice none 0 0) x.heap.size true) 43);have j:=Zz (ab.new (x.alloc (.map #[] 0)) 43 (vP p (.slice none 0 0) (.slice none 0 0) (.slice none 0 0) x.heap.size true)).drew;have x3:=Zz (((aS.made (M:=KS) x).alloc (.cells (vP p (.slice none 0 0) (.slice none 0 0) (.slice none 0 0) x.heap.size true) 43)).no (Kp.refl ac _).drew);have x6:=Zz (x5.no y0.drew);have L:=Zz (P.trans y0.drew);have kz:=Zz (x2.o.no L.o);have X:=Zz (fun q r=>And.intro (Vc q r) (x5.lt r).2);have K0:w.heap.size<=x.heap.size:=P.size
 have gZ:10<=((x.alloc (.map #[] 0)).alloc (.cells (vP p (.slice none 0 0) (.slice none 0 0) (.slice none 0 0) x.heap.size true) 43)).drew.heap.size:=by have:=L.o.size;omega
 rw[World.size_alloc] at j;clear x5 Vc P aw y0 eS
 go_upto_region 2 with fail
 change Code.wp _ _ _ _ ((x.alloc (.map #[] 0)).alloc (.cells (vP p (.slice none 0 0) (.slice none 0 0) (.slice none 0 0) x.heap.size true) 43));generalize (x.alloc (.map #[] 0)).alloc (.cells (vP p (.slice none 0 0) (.slice none 0 0) (.slice none 0 0) x.heap.size true) 43)=w4 at *;obtain ⟨g,hg⟩:∃g,x.heap.size=g:=⟨_,rfl⟩;rw[hg] at j x3 K0 X ⊢;clear hg;refine fs ?_;generalize w4.drew=w5 at *;have a:=j.o.c0;refine fp 0 ?_;refine fp 1 ?_;refine fp 2 ?_;refine cw 3 a ?_;refine fp 5 ?_;refine fp 6 ?_;refine fp 8 ?_;refine fp 9 ?_;refine fp 10 ?_;refine cw 11 a ?_;refine fd 4 fun K x7 G=>?_;go_simp;refine (v_4 x6.o).mono ?_;rintro e w6 ⟨rfl,E⟩;have E:=E.symm;subst E;refine G _ _ (oK a (oK a oN)) ?_;clear G K;refine fd 7 fun K x7 G=>?_;go_simp;refine (Vb.o _ kz.o gZ p b v Ft x6.o).mono ?_;rintro e w7 ⟨rfl,Vd,br,iS,H4⟩;have F:=Zz (j.o.kp H4 fun o=>by have:=(X.o _ o).2;omega);have Db:=Zz (x3.o.kp H4 fun o=>by have:=(X.o _ o).2;omega);have H:Hid (Kp ac w w7):=Zz (L.o.then H4 fun q r o=>(by have:=(X.o _ o).1;omega:False))
 have h7:Hid (∀q,Vd q->w.heap.size<=q/\q≠g/\q≠g+1):=Zz fun q r=>by
  by_cases H2:q<w5.heap.size
  ·have:=X.o q (br q H2 r)
   omega
  have:=j.o.lt;have:=L.o.size;omega
 have y4:=Zz iS;have gX:=Zz (x2.o.no H.o)
 have Ve:10<=w7.heap.size:=by have:=H.o.size;omega
 refine G _ _ (oK (F.o.cell 0) (oK (F.o.cell 0) oN)) ?_;clear G K br iS H4 a j x3 x6 L kz X gZ;have a:=F.o.c0;refine fd 12 fun K x7 G=>?_;go_simp;refine (v_4 y4.o).mono ?_;rintro e w6 ⟨rfl,E⟩;have E:=E.symm;subst E;refine G _ _ (oK a (oK a oN)) ?_;clear G K;refine fd 13 fun K x7 G=>?_;go_simp;refine (vJ.o _ gX.o Ve p b v Vd y4.o).mono ?_;rintro e w8 ⟨rfl,h8,bC,lU,P⟩;have h6:=Zz (F.o.kp P fun o=>by have:=h7.o _ o;omega);have xX:=Zz (Db.o.kp P fun o=>by have:=h7.o _ o;omega);have H3:Hid (Kp ac w w8):=Zz (H.o.then P fun q r o=>(by have:=h7.o _ o;omega:False))
 have H8:Hid (∀q,h8 q->w.heap.size<=q/\q≠g/\q≠g+1):=Zz fun q r=>by
  by_cases H2:q<w7.heap.size
  ·exact h7.o q (bC q H2 r)
  have:=F.o.lt;have:=H.o.size;omega
 have H6:=Zz lU;have lV:=Zz (x2.o.no H3.o)
 have y9:10<=w8.heap.size:=by have:=H3.o.size;omega
 refine G _ _ (oK (h6.o.cell 0) (oK (h6.o.cell 0) oN)) ?_;clear G K bC lU P a F Db y4 H gX h7 Ve;refine fp 14 ?_;refine fp 15 ?_;refine fe ?_;have a:=h6.o.c0;go_wp2_with fail;refine (Lg H6.o).mono ?_;rintro e t ⟨rfl,E⟩;have E:=E.symm;subst E;go_wp2_with fail;refine (H0.o _ lV.o y9 p b v h8 H6.o).mono ?_;rintro e t ⟨As,ks,cs,rfl,h0⟩;have x4:=Zz (h6.o.kp h0 fun h=>h);have m8:=Zz (xX.o.no h0);have x9:=Zz (H3.o.trans h0);have y6:=Zz (H6.o.no h0);have kD:Hid (∀q,h8 q->q<t.heap.size):=Zz fun q r=>(y6.o.lt r).2;have gR:Hid (aH t t.heap.size 9 (.slice none 0 0) (sv (List.replicate 0 (bs gy)))):=Zz (aH.nil_ t t.heap.size 9);have bJ:Hid (Kp (fun q=>q=g+1) t t):=Zz (Kp.refl _ _);have FB:=fun W=>kV W (m:Int) 0 (d:Int) As ks cs;clear h0 a h6 xX H3 H6 lV H0 vJ Vb
 go_upto_region 5 with fail
 go_loopw [42] (fun x1 wr=>∃(i:Nat) (u:Value),i<=m/\x1=.int .i64 i/\Hid (ab wr (g+1) 43 (vP p u (.slice none 0 0) (.slice none 0 0) g true))/\Hid (aH wr t.heap.size 9 u (sv (List.replicate i (bs gy))))/\Hid (Kp (fun q=>q=g+1) t wr)) (fun x1 _=>m-(intOf x1).toNat)
 case atStart=>exact ⟨0,_,o_,rfl,x4,gR,bJ⟩
 case round =>
  clear gR bJ;obtain ⟨i,u,hi,rfl,j,J,Y⟩:=hrel;by_cases H2:i<m
  ·have bL:(i:Int)<(m:Int):=o_
   have H5:=j.o.c1;have H1:t.heap.size<=wr.heap.size:=Y.o.size;have kM:Hid (sv (List.replicate i (bs gy))++[.string (bs gy)]=sv (List.replicate (i+1) (bs gy))):=Zz (by rw[List.replicate_succ',x_q];rfl)
   have B:(sv (List.replicate i (bs gy))).length=i:=by rw[cN,Aa]
   generalize y8:bs gy=ZB at *;have C:=J.o;generalize h9:sv (List.replicate i ZB)=x8 at *;clear h9 y8
   go_upto_region 7 with (at_builtin;refine Bp (w0:=wr) t.heap.size rfl (.tmp 48) (.tmp 49) 38 9 (.string ⟨#[]⟩) 16 rfl underlying38 C4 rfl d_ u x8 (.string ZB) rfl rfl rfl C ((Below.refl _ _).mono H1) H1 o_ ?_;intro v1 y U y7 hg y1;obtain ⟨I,O,rfl⟩:∃A c,v1=.slice A (i+1) c:=(by obtain ⟨A,c,e⟩:=U.shape;exact ⟨A,c,by rw[e,cd,A_,B]⟩);have p7:y.cell? ⟨g+1,1,none⟩=some u:=(j.o.grown hg (fun e=>vR C j.o d_ e)).cell 1;have f7:=(j.o.grown hg (fun e=>vR C j.o d_ e)).frozen 1;have Z:=Zz U;have h3:=Zz hg;clear U hg y1 y7)
   have N:Kp (fun q=>some q=u.ownBlock) wr y:=Kp.of_grown h3.o fun _ h=>h;have R:=j.o.kp N (vR C j.o d_);have Q:=(Kp.refl (fun q=>q=g+1) y).setCell ⟨g+1,1,none⟩ (.slice I (i+1) O) (.inl rfl);have vG:=Zz (R.set_ 1 (.slice I (i+1) O));have V:=Z.o.kp Q (nI Z.o R d_);rw[kM.o] at V;have h5:=Zz V;have y5:=Zz ((Y.o.then N fun q r h=>by have:=(C.lt q h.symm).1;omega).trans Q);clear N R Q V H5 p7 f7 Z h3 J Y j C B kM;generalize y.setCell ⟨g+1,1,none⟩ (.slice I (i+1) O)=fN at *;go_wp2;go_roundw
   case rel=>exact ⟨i+1,_,o_,by go_num,vG,h5,y5⟩
   case measure=>simp[intOf];omega
  obtain rfl:i=m:=o_;have H5:=j.o.c1;have H1:t.heap.size<=wr.heap.size:=Y.o.size;obtain ⟨Au,cu,rfl⟩:=lM J.o;have wS:Hid (aH wr wr.heap.size 9 (.slice none 0 0) ([]:List Value)):=Zz (aH.nil_ wr wr.heap.size 9)
  have B:(sv (List.replicate i (bs gy))).length=i:=by rw[cN,Aa]
  have y2:=J.o.reads;have cf:=qV (List.replicate i (bs gy));rw[B] at J y2 H5 j;generalize h9:sv (List.replicate i (bs gy))=x8 at *;have fG:=Zz h9;clear h9
  go_upto_region 9 with (at_builtin;refine LK (w0:=wr) wr.heap.size rfl (.const (.slice none 0 0)) (.tmp 58) 38 9 (.string ⟨#[]⟩) 16 rfl underlying38 C4 rfl d_ _ _ _ x8 rfl rfl y2 cf wS.o (Below.refl _ _) (bS _) (by rw[B];simp;omega) ?_;intro v1 y U y7 hg y1;obtain ⟨I,O,rfl⟩:∃A c,v1=.slice A i c:=(by obtain ⟨A,c,e⟩:=U.shape;exact ⟨A,c,by rw[e,List.nil_append,B]⟩);have p7:y.cell? ⟨g+1,2,none⟩=some (.slice none 0 0):=(j.o.grown hg (fun e=>by cases e)).cell 2;have f7:=(j.o.grown hg (fun e=>by cases e)).frozen 2;have Z:=Zz U;have h3:=Zz hg;clear U hg y1 y7)
  have N:Kp ac wr y:=Kp.of_grown h3.o fun _ h=>by cases h
  have R:=j.o.kp N fun h=>h;have Q:=(Kp.refl (fun q=>q=g+1) y).setCell ⟨g+1,2,none⟩ (.slice I i O) (.inl rfl);have vG:=Zz (R.set_ 2 (.slice I i O));have V:=Z.o.kp Q (nI Z.o R d_);have uM:=(J.o.kp N fun _ _ h=>h).kp Q (nI (J.o.kp N fun _ _ h=>h) R d_);rw[List.nil_append] at V;have h5:=Zz V;have ra:=Zz uM;have H9:Kp (fun q=>q=g+1) t (y.setCell ⟨g+1,2,none⟩ (.slice I i O)):=(Y.o.trans (N.mono fun _ _ h=>h.elim)).trans Q;have yC:=Zz (y6.o.kp H9 fun q e o=>by have e:q=g+1:=e;have:=H8.o q o;omega);have QY:=Zz (m8.o.kp H9 fun e=>by have e:g=g+1:=e;omega);have y3:Hid (w.heap.size<=g):=Zz o_;have y5:Hid (Kp ac w (y.setCell ⟨g+1,2,none⟩ (.slice I i O))):=Zz (x9.o.then H9 fun q r e=>(by have e:q=g+1:=e;have:=y3.o;omega:False));have mF:Hid (w.heap.size<=t.heap.size/\t.heap.size<=wr.heap.size):=Zz ⟨x9.o.size,H1⟩;have rE:=Zz (fun q (r:(Value.slice Au i cu).ownBlock=some q)=>J.o.lt q r);have hiw:IntKind.i64.wrap ((d:Int)*(s:Int))=(i:Int):=xh;clear N R Q V uM H9 H5 p7 f7 h3 J Y j y2 cf wS y6 m8 x9;generalize y.setCell ⟨g+1,2,none⟩ (.slice I i O)=fN at *;go_wp2;go_ret2;refine ⟨g+1,p,b,v,g,_,_,h8,rfl,vG.o,⟨by rw[fG.o];exact ra.o.more mF.o.1,by rw[fG.o];exact h5.o.more (by have:=mF.o;omega)⟩,QY.o,yC.o,fun q r=>(H8.o q r).1,fun q r=>⟨fun o=>by have:=kD.o q o;have:=(rE.o q r).1;omega,fun e=>by have:=(h5.o.lt q e).1;have:=(rE.o q r).2;omega⟩,fun q r o=>by have:=kD.o q o;have:=(h5.o.lt q r).1;have:=mF.o;omega,⟨fun o=>by have:=H8.o _ o;omega,fun o=>by have:=H8.o _ o;omega,by have:=y3.o;omega,y3.o⟩,y5.o⟩
end
def Aj (a:Int) (m:Nat):Nat:=a.toNat % m
section
variable {z gt:Nat} {vn vl vm:Value} {pl:Bool} {now:List B_}
def Kh (y4:a_ w) (A:a7 S) (hz:ab w z 43 (vP p vn vl vm gt pl)) (hn:aH w 0 9 vn (sv now)) (h5:now.length=S.slots*S.data) (h:Mc w p b v n q key S σ f dom D kept Ft) (uF:¬Ft z) (x6:∀q,vn.ownBlock=some q->¬Ft q) (y5:dom.length<1000) (l a c t r:Int) (i:UInt8) (cell:B_) :
  Cl 7 #[.pointer (some ⟨z,0,none⟩),.agg (BK l a c t i cell r)] w fun e w'=>e=.returned (.tuple #[])/\ab w' z 43 (vP p vn vl vm gt pl)/\aH w' 0 9 vn (sv (now.set (Aj a (S.slots*S.data)) (Gj i c))) /\
   Mc w' p b v n q key S σ (xn f (Aj a (S.slots*S.data)) (Gj i c)) (e8 dom (Aj a (S.slots*S.data))) D kept Ft/\Kp (fun q=>Ft q\/vn.ownBlock=some q) w w':=by
 have H8:0<S.slots*S.data:=by
  have h1:=A.d2
  have h2:2<=S.slots:=by rcases A.sl with h|h<;>omega
  exact Nat.mul_pos o_ o_
 have iS:S.slots*S.data<=1000:=by
  have h1:=A.d8
  have h2:S.slots<=4:=by rcases A.sl with h|h<;>omega
  exact cL (Nat.mul_le_mul h2 h1) d_
 have H:Aj a (S.slots*S.data)<S.slots*S.data:=gx _ H8;have H5:max (0:Int) a=((a.toNat:Nat):Int):=o_;have h4:=Zz (fun W (k:Kp ac w W)=>FQ (y4.no k) (h.no k) A y5 (Aj a (S.slots*S.data)) H (Gj i c) (xE i c));have H9:((a.toNat:Nat):Int).tmod ((S.slots*S.data:Nat):Int)=((Aj a (S.slots*S.data):Nat):Int):=rfl;have y3:=Zz (fun W=>Sd W l a c t r i cell);have V:=(Kp.refl ac w).alloc (.cells (BK l a c t i cell r) 31);have L:=Zz (ab.new w 31 (BK l a c t i cell r));have T:=Zz (hz.kp V fun h=>h);have Q:=Zz (hn.kp V fun _ _ h=>h);have x5:=Zz (h.no V);have x4:=Zz V;have y2:Hid (∀q,Ft q->q<w.heap.size):=Zz fun q H6=>(h.lt H6).2;have QZ:=Zz uF;have y8:=Zz x6;have x8:Hid (BK l a c t i cell r=#[.int .i64 l,.int .i64 a,.int .i64 c,.int .i64 t,.int .u8 i.toNat,.string cell,.int .u64 r]):=Zz rfl;obtain ⟨o,H2,rfl,Q0,Q2,ug⟩:=Q.o.form (by rw[cN,h5];exact H8);rw[cN,h5] at Q T ⊢;have x0:=Zz h5;obtain ⟨m,hm⟩:∃m,S.slots*S.data=m:=⟨_,rfl⟩;rw[hm] at H8 iS H H9 h4 Q T x0 ⊢;obtain ⟨k,hk⟩:∃k,Aj a m=k:=⟨_,rfl⟩;rw[hk] at H H9 h4 ⊢;have D4:¬((m:Int)=0):=o_
 have hmzb:((m:Int)==0)=false:=by rw[pN];exact D4
 have hkmI:(k:Int)<(m:Int):=o_;clear y4 hz hn h uF x6 V hm hk y5 h5;obtain ⟨x,y6⟩:∃x:Nat,a.toNat=x:=⟨_,rfl⟩;rw[y6] at H5 H9;clear y6;generalize Gj i c=R at *;change Cl 7 #[.pointer (some ⟨z,0,none⟩),.agg #[.int .i64 l,.int .i64 a,.int .i64 c,.int .i64 t,.int .u8 i.toNat,.string cell,.int .u64 r]] w _;go_enter func7,ntmps7
 go_upto_region 1 with fail
 change Code.wp _ _ _ _ (w.alloc (.cells (BK l a c t i cell r) 31));generalize w.alloc (.cells (BK l a c t i cell r) 31)=x1 at *;obtain ⟨G,hG⟩:∃G,w.heap.size=G:=⟨_,rfl⟩;rw[hG] at L y2 ⊢;have cq:=Zz hG;clear hG;have h9:=T.o.c1;have y:=L.o.c1
 go_upto_region 3 with fail
 clear h9 y;have g:=Zz L.o.drew;have E:=Zz T.o.drew;have U:Hid (aH x1.drew 0 9 (.slice (some ⟨o,0,none⟩) m H2) (sv now)):=Q;have B:=Zz (x5.o.no (Kp.refl ac x1).drew);have C:=Zz x4.o.drew;clear L T Q x5 x4;refine fs ?_;generalize x1.drew=w2 at *;have x2:=E.o.c0;have I:=g.o.c0;have y:=g.o.c1;have J:=g.o.c2;have M:=g.o.c3;have N:=g.o.c4;have O:=g.o.c5;have P:=g.o.c6;refine fp 0 ?_;refine fp 1 ?_;refine fp 2 ?_;refine cw 3 x2 ?_;refine fp 5 ?_;refine fq 6 (fun W=>W.cell? ⟨G,0,none⟩=some (.int .i64 l)/\W.cell? ⟨G,1,none⟩=some (.int .i64 a)/\W.cell? ⟨G,2,none⟩=some (.int .i64 c)/\W.cell? ⟨G,3,none⟩=some (.int .i64 t)/\W.cell? ⟨G,4,none⟩=some (.int .u8 i.toNat)/\W.cell? ⟨G,5,none⟩=some (.string cell)/\W.cell? ⟨G,6,none⟩=some (.int .u64 r)) ⟨I,y,J,M,N,O,P⟩ ?_;refine fd 4 fun K h0 j=>?_;go_simp;refine (Lg B.o).mono ?_;rintro e w3 ⟨rfl,H3⟩;have H3:=H3.symm;subst H3;refine j _ _ (oK ⟨I,y,J,M,N,O,P⟩ (oK x2 oN)) ?_;clear j K;refine fd 7 fun K h0 j=>?_;go_simp;have d:=y3.o w2;rw[x8.o] at d;refine d.mono ?_;rintro e w3 ⟨rfl,Z⟩;have s:=Zz (g.o.kp Z fun h=>h);have H7:=Zz (E.o.kp Z fun h=>h);have y7:=Zz (U.o.kp Z fun _ _ h=>h);have H1:=Zz (C.o.trans Z);refine j _ _ (oK ⟨s.o.cell 0,s.o.cell 1,s.o.cell 2,s.o.cell 3,s.o.cell 4,s.o.cell 5,s.o.cell 6⟩ (oK (H7.o.cell 0) oN)) ?_;clear j K d Z x2 I y J M N O P g E U B C;refine fd 8 fun K h0 j=>?_;go_simp;refine (h4.o w3 H1.o).mono ?_;rintro e h7 ⟨rfl,x9,X⟩;have u:=Zz (s.o.kp X fun H4=>by have:=y2.o _ H4;omega);have H0:=Zz (H7.o.kp X QZ.o);have x7:=Zz (y7.o.kp X fun q H6=>y8.o q H6);have y9:=Zz x9;have y1:Hid (Kp Ft w h7):=Zz ((H1.o.mono fun _ _ h=>h.elim).trans X);refine j _ _ (oK ⟨u.o.cell 0,u.o.cell 1,u.o.cell 2,u.o.cell 3,u.o.cell 4,u.o.cell 5,u.o.cell 6⟩ (oK (H0.o.cell 0) oN)) ?_;clear j K x9 X s H7 y7 H1 h4;refine fp 9 ?_;refine fe ?_;have g:=Zz u.o.drew;have E:=Zz H0.o.drew;have U:Hid (aH h7.drew 0 9 (.slice (some ⟨o,0,none⟩) m H2) (sv now)):=x7;have B:=Zz (y9.o.no (Kp.refl ac h7).drew);have C:=Zz y1.o.drew;clear u H0 x7 y9 y1
 go_upto_region 4 with fail
 refine fs ?_;generalize h7.drew=w5 at *;have h9:=E.o.c1;have I:=g.o.c0;have y:=g.o.c1;have J:=g.o.c2;have M:=g.o.c3;have N:=g.o.c4;have O:=g.o.c5;have P:=g.o.c6;refine fp 0 ?_;refine fp 1 ?_;refine fp 2 ?_;refine cw 3 h9 ?_;refine fp 4 ?_;refine fq 5 (fun W=>W.cell? ⟨G,0,none⟩=some (.int .i64 l)/\W.cell? ⟨G,1,none⟩=some (.int .i64 a)/\W.cell? ⟨G,2,none⟩=some (.int .i64 c)/\W.cell? ⟨G,3,none⟩=some (.int .i64 t)/\W.cell? ⟨G,4,none⟩=some (.int .u8 i.toNat)/\W.cell? ⟨G,5,none⟩=some (.string cell)/\W.cell? ⟨G,6,none⟩=some (.int .u64 r)) ⟨I,y,J,M,N,O,P⟩ ?_;refine fd 6 fun K h0 j=>?_;go_simp;have d:=y3.o w5;rw[x8.o] at d;refine d.mono ?_;rintro e h8 ⟨rfl,Y⟩;have h6:=Zz (E.o.kp Y fun h=>h);have F:=Zz (U.o.kp Y fun _ _ h=>h);have x3:=Zz (B.o.no Y);have y0:Hid (Kp Ft w h8):=Zz (C.o.trans (Y.mono fun _ _ h=>h.elim));refine j _ _ (oW (oK (h6.o.cell 1) oN)) ?_;clear j K d Y h9 I y J M N O P g E U B C;have cH:=Ra F.o x0.o k H;have uH:=F.o.frozen k;refine fp 7 ?_;refine fd 8 fun K h0 j=>?_;go_simp;refine j _ _ (oW (oW oN)) ?_;clear j K;refine fe ?_;have h3:=(Kp.refl (fun q=>q=o) h8).setCell ⟨o,k,none⟩ (.string R) (.inl rfl);have lJ:=Zz (v_Q F.o x0.o k R)
 have vG:=Zz (h6.o.kp h3 fun e=>by
  obtain ⟨dj,aq⟩:=Sz F.o (q:=o) rfl
  exact ab.ne_ h6.o aq d_ e)
 have yC:=Zz (x3.o.kp h3 fun q e H4=>y8.o o rfl (by have e:q=o:=e;rw[<-e];exact H4));have fm:Hid (Kp (fun q=>Ft q\/(Value.slice (some ⟨o,0,none⟩) m H2).ownBlock=some q) w (h8.setCell ⟨o,k,none⟩ (.string R))):=Zz ((y0.o.mono fun _ _ h=>.inl h).then h3 fun q _ e=>.inr (by have e:q=o:=e;rw[e];rfl));clear h3 cH uH h6 F x3 y0;generalize h8.setCell ⟨o,k,none⟩ (.string R)=w7 at *;go_wp2;refine bodyPost_end (results_none rfl _ _ _) rfl ?_;exact ⟨rfl,vG.o,lJ.o,yC.o,fm.o⟩
def Qs {R:W_->(Nat->Prop)->Prop} (hz:ab w z 43 (vP p vn vl vm gt pl)) (hn:aH w 0 9 vn (sv now)) (a:0<now.length/\now.length<=1000) (h:Mc w p b v n q key S σ f dom D kept Ft) (Z:¬Ft z) (I:∀q,vn.ownBlock=some q->¬Ft q)
  (U:∀W,Kp ac w W->Cl 12 #[.pointer (some ⟨v,0,none⟩)] W fun e w'=>e=.returned (.int .i64 0)/\∃Ft',Gr W Ft Ft'/\Kp Ft W w'/\R w' Ft') :
  Cl 8 #[.pointer (some ⟨z,0,none⟩)] w fun e w'=>e=.returned (.int .i64 0)/\∃Ft' Q W,Gr w Ft Ft'/\R W Ft'/\Kp (fun q=>q=z) W w'/\ab w' z 43 (vP p vn Q vm gt pl)/\aH w' 0 9 vn (sv now)/\aH w' W.heap.size 9 Q (sv now)/\Kp (fun q=>Ft q\/q=z) w w':=by
 have H:=Zz (Lg h);have F:=Zz (U w (Kp.refl _ _));have H5:=hz.c0;have u:=Zz hz;have o:=Zz hn;have K:=Zz Z;have h9:=Zz I;clear hz hn h Z I U;obtain ⟨h4,h2,rfl,H8,H9,x2⟩:=o.o.form (by rw[cN];exact a.1);rw[cN] at o u ⊢;obtain ⟨m,hm⟩:∃m,now.length=m:=⟨_,rfl⟩;have H1:=Zz hm;rw[hm] at o u a ⊢;clear hm;go_enter func8,ntmps8;go_wp2_with fail;refine H.o.mono ?_;rintro e x3 ⟨rfl,x⟩;have x:=x.symm;subst x;go_wp2_with fail;refine F.o.mono ?_;rintro e w3 ⟨rfl,Ft',P,r,V⟩;have C:=Zz P;have h0:=Zz r;have HR:=Zz V;have l:=Zz (u.o.kp r K.o);have d:=Zz (o.o.kp r fun q h6=>h9.o q h6);clear P r V H5;have H6:=l.o.c1;have H7:=l.o.c2;have H4:Hid (aH w3 w3.heap.size 9 (.slice none 0 0) ([]:List Value)):=Zz (aH.nil_ w3 w3.heap.size 9)
 have X:(sv now).length=m:=by rw[cN];exact H1.o
 have J:b_ w3 (.slice (some ⟨h4,0,none⟩) m h2) (sv now):=d.o.reads;have M:=qV now;have x1:=a.2;generalize G:sv now=L at *;have O:=Zz G;clear G
 go_upto_region 7 with (at_builtin;refine LK (w0:=w3) w3.heap.size rfl (.const (.slice none 0 0)) (.tmp 17) 38 9 (.string ⟨#[]⟩) 16 rfl underlying38 C4 rfl d_ _ _ _ L rfl rfl J M H4.o (Below.refl _ _) (bS _) (by rw[X];simp;omega) ?_;intro H2 g y h5 hg h1;obtain ⟨i,k,rfl⟩:∃A c,H2=.slice A m c:=(by obtain ⟨A,c,e⟩:=y.shape;exact ⟨A,c,by rw[e,List.nil_append,X]⟩);have h8:g.cell? ⟨z,2,none⟩=some vl:=(l.o.grown hg (fun e=>by cases e)).cell 2;have f7:=(l.o.grown hg (fun e=>by cases e)).frozen 2;have N:=Zz y;have T:=Zz hg;clear y hg h1 h5)
 have j:Kp ac w3 g:=Kp.of_grown T.o fun _ h=>by cases h
 have t:=l.o.kp j fun h=>h;have s:=(Kp.refl (fun q=>q=z) g).setCell ⟨z,2,none⟩ (.slice i m k) (.inl rfl);have H3:=Zz (t.set_ 2 (.slice i m k));have E:=N.o.kp s (nI N.o t d_);have B:=(d.o.kp j fun _ _ h=>h).kp s (nI (d.o.kp j fun _ _ h=>h) t d_);rw[List.nil_append] at E;have h7:=Zz E;have H0:=Zz B;have Y:Hid (Kp (fun q=>q=z) w3 (g.setCell ⟨z,2,none⟩ (.slice i m k))):=Zz ((j.mono fun _ _ h=>h.elim).trans s);have h3:Hid (Kp (fun q=>Ft q\/q=z) w (g.setCell ⟨z,2,none⟩ (.slice i m k))):=Zz ((h0.o.mono fun _ _ h=>.inl h).then Y.o fun q _ e=>.inr e);clear j t s E B H6 H7 h8 f7 T J M;generalize g.setCell ⟨z,2,none⟩ (.slice i m k)=x0 at *;go_wp2;go_ret;exact ⟨rfl,Ft',_,w3,C.o,HR.o,Y.o,H3.o,by rw[O.o];exact H0.o,by rw[O.o];exact h7.o,h3.o⟩
end
def lvZ:List B_:=[bs gy,bs dX]
def lvC:List B_:=[bs gy,bs dX,bs (pp lvZ 32 2),bs (qq lvZ 32 2)]
def LA:List fu:=pC (qa 2 2 5) dX 1 lvC 0 4
def lvQ:List UInt8:=[96,98,100,102,104,106,108,110,112,114,194,196,198,200,202,204,96,98,100,102,104,106,108,110,112,114,194,196,198,200,202,204]
def YE:List UInt8:=[0,0,0,0,0,0,0,2,0,0,0,3,170,153,212,227,199,145,50,211,209,48,102,191,203,85,167,150,45,204,195,115,136,8,172,233,18,113,53,133,110,187,235,152,12,81,163,111,204,200,126,152,34,228,206,175,47,130,96,205]
def YL:List UInt8:=[0,0,0,0,0,0,0,2,0,0,0,0,40,222,159,50,37,220,200,164,91,21,14,47,238,35,108,62,131,236,219,244,172,174,223,64,180,176,244,229,14,74,53,209,118,252,81,186,9,90,166,1,132,36,38,50,130,151,46,104]
def YM:List UInt8:=[0,0,0,0,0,0,0,2,0,0,0,1,206,8,212,20,166,95,51,119,235,110,194,88,112,154,196,151,174,46,169,187,128,241,178,42,145,140,221,230,140,68,11,240,40,20,92,223,189,248,16,238,109,215,175,237,139,139,184,217]
def ZN:List UInt8:=[0,0,0,0,0,0,0,2,0,0,0,2,48,30,227,251,207,162,155,175,92,113,41,207,170,198,33,254,181,126,202,72,236,120,158,66,39,238,22,165,96,16,147,178,117,78,244,40,8,107,68,171,168,46,171,103,53,36,65,145]
def lvT0:List UInt8:=[217,107,231,113,12,238,243,44,191,33,109,156,83,199,135,16,7,164,181,56,6,253,142,75,8,179,110,165,98,10,138,168]
def lvT1:List UInt8:=[22,0,162,201,184,41,29,52,136,221,16,111,132,190,104,248,127,167,173,206,28,110,127,82,12,80,73,137,47,137,254,232]
def lvT2:List UInt8:=[20,52,118,96,239,147,245,34,116,55,120,54,152,124,184,86,154,55,29,76,0,24,81,91,117,174,255,127,76,212,255,153]
def lvT3:List UInt8:=[30,226,86,70,194,145,153,134,231,102,112,197,132,19,54,134,96,200,189,235,193,249,222,178,9,143,148,116,36,3,60,111]
def lvD0:List UInt8:=[26,81,83,201,196,240,153,193,9,242,162,171,114,114,67,143,3,161,29,88,152,125,71,60,209,26,34,196,18,61,246,100]
def lvD1:List UInt8:=[133,60,209,198,168,53,147,234,214,118,81,214,172,169,63,51,79,25,200,87,30,47,202,108,89,142,59,181,182,186,203,216]
def lvD2:List UInt8:=[26,91,6,237,44,242,2,195,42,138,196,206,218,6,76,54,169,111,95,61,221,9,88,203,138,165,18,46,165,102,193,12]
def lvD3:List UInt8:=[160,20,102,115,213,157,165,48,176,28,140,225,229,29,227,230,226,125,165,211,78,226,92,37,106,210,223,21,223,179,182,205]
def AM:List UInt8:=[254,67,214,106,250,74,154,92,79,156,157,168,159,79,251,82,99,92,143,52,46,127,251,115,29,104,227,108,89,130,7,42]
def nk:List UInt8:=[92,207,141,12,255,213,33,79,195,235,13,154,13,26,31,241,33,28,52,9,12,210,61,146,112,99,104,158,182,44,216,135]
def lvR0:List UInt8:=[183,65,239,233,216,32,19,128,10,40,216,92,113,227,106,166,127,255,210,231,201,155,92,181,74,216,209,147,186,99,177,73]
def lvR1:List UInt8:=[223,20,216,152,52,53,94,174,210,26,209,171,227,128,119,239,68,160,37,46,163,66,165,228,8,78,49,25,89,232,160,54]
set_option maxRecDepth 1000000
def lv_pp:pp lvZ 32 2=dX:=by decide +kernel
def lv_qq:qq lvZ 32 2=lvQ:=by decide +kernel
def lv_c1:lO 2 0++pL dX (lO 2 0) (pQ 1 1) gy=YL:=by decide +kernel
def lv_c2:lO 2 1++pL dX (lO 2 1) (pQ 2 1) dX=YM:=by decide +kernel
def lv_c3:lO 2 2++pL dX (lO 2 2) (pQ 3 1) dX=ZN:=by decide +kernel
def lv_c0:lO 2 3++pL dX (lO 2 3) (pQ 0 1) lvQ=YE:=by decide +kernel
def lvL_is:LA=[⟨1,1,bs YL⟩,⟨2,1,bs YM⟩,⟨3,1,bs ZN⟩,⟨0,1,bs YE⟩]:=by
 have e:LA=[⟨1,1,bs (lO 2 0++pL dX (lO 2 0) (pQ 1 1) gy)⟩,⟨2,1,bs (lO 2 1++pL dX (lO 2 1) (pQ 2 1) dX)⟩,⟨3,1,bs (lO 2 2++pL dX (lO 2 2) (pQ 3 1) (pp lvZ 32 2))⟩,⟨0,1,bs (lO 2 3++pL dX (lO 2 3) (pQ 0 1) (qq lvZ 32 2))⟩]:=rfl;rw[e,lv_pp,lv_qq,lv_c0,lv_c1,lv_c2,lv_c3]
def lv_t0:e9 2 (dp eD [⟨1,bs YE⟩])=bs lvT0:=by decide +kernel
def lv_d0:iD (bm (gj 2 eD [⟨1,bs YE⟩]))=bs lvD0:=by decide +kernel
def lv_t1:e9 2 (dp eD [⟨1,bs YL⟩])=bs lvT1:=by decide +kernel
def lv_d1:iD (bm (gj 2 eD [⟨1,bs YL⟩]))=bs lvD1:=by decide +kernel
def lv_t2:e9 2 (dp eD [⟨1,bs YM⟩])=bs lvT2:=by decide +kernel
def lv_d2:iD (bm (gj 2 eD [⟨1,bs YM⟩]))=bs lvD2:=by decide +kernel
def lv_t3:e9 2 (dp eD [⟨1,bs ZN⟩])=bs lvT3:=by decide +kernel
def lv_d3:iD (bm (gj 2 eD [⟨1,bs ZN⟩]))=bs lvD3:=by decide +kernel
def lv_tt:e9 2 eD=bs AM:=by decide +kernel
def lv_nn:fb=bs nk:=by decide +kernel
def lvS_is:dZ (qa 2 2 5) (fun _=>dk0) 5 (fun _=>eD) LA=⟨3,2,2,2,[⟨1,bs lvT0,bs lvD0⟩,⟨1,bs lvT1,bs lvD1⟩,⟨1,bs lvT2,bs lvD2⟩,⟨1,bs lvT3,bs lvD3⟩,⟨0,uL,bs nk⟩]⟩:=by
 rw[lvL_is];have e:∀g h i j:B_,dZ (qa 2 2 5) (fun _=>dk0) 5 (fun _=>eD) [⟨1,1,h⟩,⟨2,1,i⟩,⟨3,1,j⟩,⟨0,1,g⟩]=⟨3,2,2,2,[⟨1,e9 2 (dp eD [⟨1,g⟩]),iD (bm (gj 2 eD [⟨1,g⟩]))⟩,⟨1,e9 2 (dp eD [⟨1,h⟩]),iD (bm (gj 2 eD [⟨1,h⟩]))⟩,⟨1,e9 2 (dp eD [⟨1,i⟩]),iD (bm (gj 2 eD [⟨1,i⟩]))⟩,⟨1,e9 2 (dp eD [⟨1,j⟩]),iD (bm (gj 2 eD [⟨1,j⟩]))⟩,⟨0,uL,fb⟩]⟩:=fun g h i j=>rfl;rw[e,lv_t0,lv_t1,lv_t2,lv_t3,lv_d0,lv_d1,lv_d2,lv_d3,lv_nn]
def TU:qa 2 2 5=⟨2,2,2,2,[⟨1,bs AM,bs nk⟩,⟨1,bs AM,bs nk⟩,⟨1,bs AM,bs nk⟩,⟨1,bs AM,bs nk⟩,⟨0,uL,bs nk⟩]⟩:=by
 have e:qa 2 2 5=⟨2,2,2,2,[⟨1,e9 2 eD,fb⟩,⟨1,e9 2 eD,fb⟩,⟨1,e9 2 eD,fb⟩,⟨1,e9 2 eD,fb⟩,⟨0,uL,fb⟩]⟩:=rfl;rw[e,lv_tt,lv_nn]
def lv_r1:dC (bh ⟨3,2,2,2,[⟨1,bs lvT0,bs lvD0⟩,⟨1,bs lvT1,bs lvD1⟩,⟨1,bs lvT2,bs lvD2⟩,⟨1,bs lvT3,bs lvD3⟩,⟨0,uL,bs nk⟩]⟩)=lvR1:=by decide +kernel
def lv_r0:dC (bh ⟨2,2,2,2,[⟨1,bs AM,bs nk⟩,⟨1,bs AM,bs nk⟩,⟨1,bs AM,bs nk⟩,⟨1,bs AM,bs nk⟩,⟨0,uL,bs nk⟩]⟩)=lvR0:=by decide +kernel
def Sf:dC (bh (qa 2 2 5))≠dC (bh (dZ (qa 2 2 5) (fun _=>dk0) 5 (fun _=>eD) LA)):=by
 rw[lvS_is,TU,lv_r0,lv_r1];decide
def MQ (d:Nat) (f:Nat->Option B_) (B:Nat->B_) (t:Nat):i1 d f (eg (fi d B t)) t=fi d (fun k=>(f k).getD (B k)) t:=by
 refine List.map_congr_left fun c e=>?_;have e:=List.mem_range.1 e;unfold Ga;rw[An B t c e]
def C7 {p:Nat->Bool} (h:cS p n=0):∀i,i<n->p i=false:=by
 induction n with
 | zero=>intro i g;omega
 | succ n j =>
  rw[v_L] at h;intro i g
  cases hp:p n with
  | true=>rw[hp,if_pos rfl] at h;omega
  | false =>
   by_cases e:i=n
   ·subst e;exact hp
   exact j o_ i o_
section
variable {l:List fu}
def gQ.synced (h:gQ n key S σ ch B) (p:S.count<1000) (v:∀k y,f k=some y->y.size=32) (hl:e_ S key (fun t=>cS (go S.data f t) S.data) (fun t=>i1 S.data f (eg (fi S.data B t)) t) S.slots l) {t0:Nat} (s:t0<S.slots) (u:0<cS (go S.data f t0) S.data) :
  gQ n key (dZ S σ n ch l) (l1 S σ n ch l) (fun j=>dp (ch j) (lC l j)) (fun k=>(f k).getD (B k))/\zX (dZ S σ n ch l) (l1 S σ n ch l) (fun j=>some (wM S.slots ch l j))/\(∀i,i<n->(σ i).dead=false->tl (l1 S σ n ch l i).now (S.count % 2)=tl (σ i).now (S.count % 2))/\∀i,i<n->bad (dZ S σ n ch l) (l1 S σ n ch l) i=bad S σ i:=by
 obtain ⟨x,z,a⟩:=h.commit p l _ _ hl (fun k=>(f k).getD (B k)) (fun k hk=>by
  show ((f k).getD (B k)).size=32
  cases g:f k with
  | none=>exact h.bsz k hk
  | some y=>exact v k y g) (fun t r _=>MQ _ _ _ _) (fun t r o c m=>by
  have:=C7 o c m
  have e:f (t*S.data+c)=none:=by
   cases g:f (t*S.data+c) with
   | none=>rfl
   | some y=>simp[go,g] at this
  show _=(f (t*S.data+c)).getD _
  rw[e];rfl) s u
 exact ⟨x,z,a,fun i q=>LG S σ n ch l i q⟩
def WO (S:cj) (σ σ':Nat->ao) (n:Nat) (ch:Nat->Nat->B_) (l:List fu) (h:∀i,(σ i).dead=(σ' i).dead):dZ S σ n ch l=dZ S σ' n ch l:=by
 unfold dZ f_ cZ R8;simp only[h]
end
def FJ (S:cj) (σ:Nat->ao) (i j:Nat):bad S (dY σ i (σ i).fail) j=(bad S σ j || decide (j=i)):=by
 unfold bad;by_cases e:j=i
 ·subst e
  rw[P_];show (_ || true)=_;simp
 rw[Vu _ _ e];simp[e]
end Go.Proofs.YtdkheklakfbeeaaGreatDoor
