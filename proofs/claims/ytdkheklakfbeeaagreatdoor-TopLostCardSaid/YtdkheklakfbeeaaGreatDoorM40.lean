/- Part 40 of the proof. -/
import Derived.Test.YtdkheklakfbeeaaGreatDoorM39
set_option linter.all false
set_option maxRecDepth 100000
set_option maxHeartbeats 16000000
namespace Go.Proofs.YtdkheklakfbeeaaGreatDoor
open Go.RowKit Go.Proofs.Tryz
def suF (D:List Nat):Nat->Option Value:=fun i=>if i∈D then some (.bool true) else none
theorem suF_put (D:List Nat) (i:Nat):y_Q (suF D) i (.bool true)=suF (z_J D i):=by
 funext x;unfold y_Q suF;by_cases e:x=i
 ·subst e;rw[if_pos rfl,if_pos ((z_9 D x x).2 (.inr rfl))]
 ·rw[if_neg e]
  by_cases h:x∈D
  ·rw[if_pos h,if_pos ((z_9 D i x).2 (.inl h))]
  ·rw[if_neg h,if_neg fun h2=>((z_9 D i x).1 h2).elim h e]
theorem suF_nil:suF []=fun _=>none:=by funext x;simp[suF]
def y_9 (f:Nat->Option ByteArray) (k:Nat) (y:ByteArray):Nat->Option ByteArray:=fun x=>if x=k then some y else f x
theorem updO_tx (f:Nat->Option ByteArray) (k:Nat) (y:ByteArray):y_Q (txM f) k (.string y)=txM (y_9 f k y):=by
 funext x;unfold y_Q txM y_9;by_cases e:x=k
 ·rw[if_pos e,if_pos e];rfl
 ·rw[if_neg e,if_neg e]
structure Mc0 (w:World) (p b v an g st sp gw n q:Nat) (key:List UInt8) (S:Sup) (vs vm:Value) (σ:Nat->DkS) (F:Nat->Prop) (f:Nat->Option ByteArray) (dom D:List Nat) (kept:Value):Prop where
 hp:Blk w p 81 (mcC b v g kept)
 hv:Blk w v 88 (vlC b an key (some ⟨st,0,none⟩) (some gw))
 hs:Blk w st 116 (stC b an key S vs vm sp)
 hsp:Blk w sp 226 #[.int .u64 S.epoch,.int .u64 q]
 hR:SupO w 10 S vs vm
 hb:Bk w b n σ F
 ha:Blk w an 180 #[.int .u64 S.count,.string (bs (z_Z (z_t S)))]
 hM:MapA KI w gw (txM f) dom
 hD:MapA KI w g (suF D) D
 ne:g≠gw
 lo:10<=p/\10<=v/\10<=st/\10<=sp/\10<=an/\10<=gw/\10<=g
def mcF (F:Nat->Prop) (p v an st sp gw g:Nat) (vs vm:Value):Nat->Prop:=fun x=>F x\/x=p\/x=v\/x=an\/x=st\/x=sp\/x=gw\/x=g\/vs.ownBlock=some x\/vm.ownBlock=some x
def Mc (w:World) (p b v n q:Nat) (key:List UInt8) (S:Sup) (σ:Nat->DkS) (f:Nat->Option ByteArray) (dom D:List Nat) (kept:Value) (Ft:Nat->Prop):Prop :=
 ∃an g st sp gw vs vm F,Mc0 w p b v an g st sp gw n q key S vs vm σ F f dom D kept/\∀x,Ft x↔mcF F p v an st sp gw g vs vm x
section
variable {w w':World} {p b v an g st sp gw n q:Nat} {key:List UInt8} {S:Sup} {vs vm kept:Value} {σ:Nat->DkS} {F Ft T:Nat->Prop} {f:Nat->Option ByteArray} {dom D:List Nat}
theorem Mc0.lt (h:Mc0 w p b v an g st sp gw n q key S vs vm σ F f dom D kept) {x:Nat} (hx:mcF F p v an st sp gw g vs vm x):10<=x/\x<w.heap.size:=by
 obtain ⟨l1,l2,l3,l4,l5,l6,l7⟩:=h.lo;rcases hx with hx|rfl|rfl|rfl|rfl|rfl|rfl|rfl|hx|hx
 ·exact h.hb.lt hx
 ·exact ⟨l1,h.hp.lt⟩
 ·exact ⟨l2,h.hv.lt⟩
 ·exact ⟨l5,h.ha.lt⟩
 ·exact ⟨l3,h.hs.lt⟩
 ·exact ⟨l4,h.hsp.lt⟩
 ·exact ⟨l6,h.hM.lt⟩
 ·exact ⟨l7,h.hD.lt⟩
 ·exact z_u h.hR.seats hx
 ·exact z_u h.hR.mems hx
theorem Mc.lt (h:Mc w p b v n q key S σ f dom D kept Ft) {x:Nat} (hx:Ft x):10<=x/\x<w.heap.size:=by
 obtain ⟨an,g,st,sp,gw,vs,vm,F,h0,hF⟩:=h;exact h0.lt ((hF x).1 hx)
theorem Mc.kp (h:Mc w p b v n q key S σ f dom D kept Ft) (k:Kp T w w') (hT:∀x,T x->¬Ft x):Mc w' p b v n q key S σ f dom D kept Ft:=by
 obtain ⟨an,g,st,sp,gw,vs,vm,F,h0,hF⟩:=h;have hn:∀x,mcF F p v an st sp gw g vs vm x->¬T x:=fun x hx ht=>hT x ht ((hF x).2 hx);refine ⟨an,g,st,sp,gw,vs,vm,F,⟨h0.hp.kp k (hn _ (.inr (.inl rfl))),h0.hv.kp k (hn _ (.inr (.inr (.inl rfl)))),h0.hs.kp k (hn _ (.inr (.inr (.inr (.inr (.inl rfl)))))),h0.hsp.kp k (hn _ (.inr (.inr (.inr (.inr (.inr (.inl rfl))))))),h0.hR.kp k (fun q hq=>hn _ (.inr (.inr (.inr (.inr (.inr (.inr (.inr (.inr (.inl hq)))))))))) (fun q hq=>hn _ (.inr (.inr (.inr (.inr (.inr (.inr (.inr (.inr (.inr hq)))))))))),h0.hb.kp k (fun q ht hf=>hn _ (.inl hf) ht),h0.ha.kp k (hn _ (.inr (.inr (.inr (.inl rfl))))),h0.hM.kp k (hn _ (.inr (.inr (.inr (.inr (.inr (.inr (.inl rfl)))))))),h0.hD.kp k (hn _ (.inr (.inr (.inr (.inr (.inr (.inr (.inr (.inl rfl))))))))),h0.ne,h0.lo⟩,hF⟩
theorem Mc.no (h:Mc w p b v n q key S σ f dom D kept Ft) (k:Kp NoB w w'):Mc w' p b v n q key S σ f dom D kept Ft:=h.kp k fun _ h=>h.elim
theorem y_Z (h:Mc w p b v n q key S σ f dom D kept Ft):Cl 10 #[.pointer (some ⟨p,0,none⟩)] w fun e w'=>e=.returned (.pointer (some ⟨v,0,none⟩))/\w'=w:=by
 obtain ⟨an,g,st,sp,gw,vs,vm,F,h0,hF⟩:=h;exact mvolume_any h0.hp
theorem mc_write (hL:Lay w) (h:Mc w p b v n q key S σ f dom D kept Ft) (hS:SupOk S) (hd:dom.length<1000) (k:Nat) (hk:k<S.slots*S.data) (x:ByteArray) (hx:x.size=32) :
  Cl 28 #[.pointer (some ⟨v,0,none⟩),.int .i64 k,.string x] w fun e w'=>e=.returned (.int .i64 0)/\Mc w' p b v n q key S σ (y_9 f k x) (z_J dom k) D kept Ft/\Kp Ft w w':=by
 obtain ⟨an,g,st,sp,gw,vs,vm,F,h0,hF⟩:=h;refine (vwrite_any hL h0.hv h0.hs h0.hM hd ⟨hS.d2,by have:=hS.d8;omega,hS.sl⟩ k hk x hx).mono ?_;rintro e w' ⟨rfl,hm,a8⟩;rw[updO_tx] at hm;have aZ:∀ {g2 t2:Nat} {dq:Array Value},Blk w g2 t2 dq->¬g2=gw:=fun am e=>h0.hM.ne_blk am e.symm
 have ae:∀ {base e size k:Nat} {u:Value} {xs:List Value},w.ownsRow base e size u k xs->∀q,u.ownBlock=some q->¬q=gw:=fun ho q hq e=>by
  obtain ⟨dq,am⟩:=z_i ho hq;exact aZ am e
 exact ⟨rfl,⟨an,g,st,sp,gw,vs,vm,F,⟨h0.hp.kp a8 (aZ h0.hp),h0.hv.kp a8 (aZ h0.hv),h0.hs.kp a8 (aZ h0.hs),h0.hsp.kp a8 (aZ h0.hsp),h0.hR.kp a8 (ae h0.hR.seats) (ae h0.hR.mems),h0.hb.kp a8 (fun q e hf=>by
  have e:q=gw:=e;subst e
  exact h0.hb.offMap h0.hM hf),h0.ha.kp a8 (aZ h0.ha),hm,h0.hD.kp a8 h0.ne,h0.ne,h0.lo⟩,hF⟩,a8.mono fun q _ e=>(hF q).2 (.inr (.inr (.inr (.inr (.inr (.inr (.inl e)))))))⟩
theorem mc_kill (h:Mc w p b v n q key S σ f dom D kept Ft) (i:Nat) (hi:i<n) (sD:i<=1000) (hd:D.length<1000) :
  Cl 9 #[.pointer (some ⟨p,0,none⟩),.int .i64 i] w fun e w'=>e=.returned (.int .i64 0)/\∃Ft',Gr w Ft Ft'/\Mc w' p b v n q key S (z_A σ i (σ i).fail) f dom (z_J D i) kept Ft'/\Kp Ft w w':=by
 obtain ⟨an,g,st,sp,gw,vs,vm,F,h0,hF⟩:=h;refine (mkill_any h0.hp h0.hb i hi sD h0.hD hd).mono ?_;rintro e w' ⟨rfl,hm,F',hg,hb,a8⟩;rw[suF_put] at hm
 have aZ:∀ {g2 t2:Nat} {dq:Array Value},Blk w g2 t2 dq->¬tyB t2->¬(F g2\/g2=g):=fun am ht hq=>by
  rcases hq with hq|e
  ·exact h0.hb.off am ht hq
  ·exact h0.hD.ne_blk am e.symm
 have ae:∀ {base e size k:Nat} {u:Value} {xs:List Value},w.ownsRow base e size u k xs->¬tyB e->∀q,u.ownBlock=some q->¬(F q\/q=g):=fun ho ht q hq=>by
  obtain ⟨dq,am⟩:=z_i ho hq;exact aZ am ht
 refine ⟨rfl,mcF F' p v an st sp gw g vs vm,fun x hx hf=>?_,⟨an,g,st,sp,gw,vs,vm,F',⟨h0.hp.kp a8 (aZ h0.hp (by unfold tyB;decide)),h0.hv.kp a8 (aZ h0.hv (by unfold tyB;decide)),h0.hs.kp a8 (aZ h0.hs (by unfold tyB;decide)),h0.hsp.kp a8 (aZ h0.hsp (by unfold tyB;decide)),h0.hR.kp a8 (ae h0.hR.seats (by unfold tyB;decide)) (ae h0.hR.mems (by unfold tyB;decide)),hb,h0.ha.kp a8 (aZ h0.ha (by unfold tyB;decide)),h0.hM.kp a8 (fun hq=>by
  rcases hq with hq|e
  ·exact h0.hb.offMap h0.hM hq
  ·exact h0.ne e.symm),hm,h0.ne,h0.lo⟩,fun x=>Iff.rfl⟩,a8.mono fun q _ e=>(hF q).2 (by
  rcases e with e|e
  ·exact .inl e
  ·exact .inr (.inr (.inr (.inr (.inr (.inr (.inr (.inl e))))))))⟩
 rcases hf with hf|hf
 ·exact (hF x).2 (.inl (hg x hx hf))
 ·exact (hF x).2 (.inr hf)
theorem mc_read (hL:Lay w) (hw:10<=w.heap.size) (hk:key.length=32) {ch:Nat->Nat->ByteArray} {B:Nat->ByteArray} (hV:VOk n key S σ ch B) (h:Mc w p b v n q key S σ f dom D kept Ft) (k:Nat) (rW:k<S.slots*S.data) :
  Cl 11 #[.pointer (some ⟨v,0,none⟩),.int .i64 k] w fun e w'=>e=.returned (.tuple #[.string ((f k).getD (rdB S σ B k)),.int .i64 (if (f k).isSome=true then 0 else rdE S σ k)])/\Kp NoB w w':=by
 obtain ⟨an,g,st,sp,gw,vs,vm,F,h0,hF⟩:=h;refine vread_any hL h0.hv h0.hs h0.hR.reads hV.ok h0.hM ⟨hV.ok.d2,by have:=hV.ok.d8;omega,hV.ok.sl⟩ k rW _ _ (fun z hz=>?_) (fun hf W u k' hu=>?_)
 ·rw[hz];exact ⟨rfl,rfl⟩
 ·rw[hf]
  exact one_vol (hL.no k') (h0.hb.no k') (by have:=k'.size;omega) hk hV rW u hu
theorem mc_status (hL:Lay w) (hw:10<=w.heap.size) (hS:SupOk S) (h:Mc w p b v n q key S σ f dom D kept Ft) :
  Cl 14 #[.pointer (some ⟨v,0,none⟩)] w fun e w'=>∃(A:Option Addr) (k c:Nat),e=.returned (.agg #[.bool true,.bool false,.int .i64 (S.slots*S.data:Nat),.int .i64 (dom.length:Nat),.int .i64 S.data,.int .i64 0,.int .i64 0,.bool false,.slice A k c])/\Kp NoB w w':=by
 obtain ⟨an,g,st,sp,gw,vs,vm,F,h0,hF⟩:=h;exact vstatus_any hL hw h0.hv h0.hs h0.hR.reads hS h0.hM
theorem mc_sync0 (h:Mc w p b v n q key S σ f [] D kept Ft) :
  Cl 12 #[.pointer (some ⟨v,0,none⟩)] w fun e w'=>e=.returned (.int .i64 0)/\w'=w:=by
 obtain ⟨an,g,st,sp,gw,vs,vm,F,h0,hF⟩:=h;exact vsync_none h0.hv h0.hs h0.hM
theorem mc_sync (hL:Lay w) (hw:10<=w.heap.size) (hk:key.length=32) {ch:Nat->Nat->ByteArray} {B:Nat->ByteArray} (hV:VOk n key S σ ch B) (h:Mc w p b v n q key S σ f dom D kept Ft) (nK:∀k y,f k=some y->y.size=32) (iE:∀k∈dom,k<S.slots*S.data) (hq:q<=90000) (hc:S.count<1000)
  {t0:Nat} (jO:t0<S.slots) (ja:0<cnt (wtP S.data f t0) S.data) (em:z_5 S σ=0\/0<cnt (wtP S.data f 0) S.data/\cnt (wtP S.data f 0) S.data<S.data) :
  Cl 12 #[.pointer (some ⟨v,0,none⟩)] w fun e w'=>e=.returned (.int .i64 (z_5 S σ))/\(z_5 S σ≠0->Kp NoB w w')/\(z_5 S σ=0->∃(l:List Cgd) (q':Nat) (Ft':Nat->Prop),SynR S key (fun t=>cnt (wtP S.data f t) S.data) (fun t=>y_s S.data f (z_z (stp S.data B t)) t) S.slots l/\(l=x_Z S key (fun t=>cnt (wtP S.data f t) S.data) (fun t=>z_z (y_s S.data f (z_z (stp S.data B t)) t)) q S.slots/\q'=q+l.length)/\Gr w Ft Ft' /\
   Mc w' p b v n q' key (cmS S σ n ch l) (y_U S σ n ch l) (fun _=>none) [] D kept Ft'/\Kp Ft w w'):=by
 obtain ⟨an,g,st,sp,gw,vs,vm,F,h0,hF⟩:=h;obtain ⟨l1,l2,l3,l4,l5,l6,l7⟩:=h0.lo;refine (vsync_any hL hw h0.hv h0.hb h0.hs h0.hsp h0.hR hV hk h0.ha h0.hM nK iE l2 l3 l4 l5 hq hc jO ja em).mono ?_;rintro e w' ⟨rfl,fA,bI⟩;refine ⟨rfl,fA,fun h=>?_⟩;obtain ⟨l,q',bU,ct,F',uF,PH,Bs,g7,uJ,Ae,fm,sy,PI,JL,a8⟩:=bI h
 have aZ:∀ {g2 t2:Nat} {dq:Array Value},Blk w g2 t2 dq->¬tyB t2->t2≠180->t2≠116->t2≠226->¬SyF F an st sp gw g2:=fun am ht h1 h2 h3 hq=>by
  rcases hq with hq|rfl|rfl|rfl|rfl
  ·exact h0.hb.off am ht hq
  ·exact Blk.ne_ am h0.ha h1 rfl
  ·exact Blk.ne_ am h0.hs h2 rfl
  ·exact Blk.ne_ am h0.hsp h3 rfl
  ·exact h0.hM.ne_blk am rfl
 refine ⟨l,q',mcF F' p v an st sp gw g bU ct,uF,JL,fun x hx hf=>?_,⟨an,g,st,sp,gw,bU,ct,F',⟨h0.hp.kp a8 (aZ h0.hp (by unfold tyB;decide) (by decide) (by decide) (by decide)),PH,Bs,PI,g7.more hw,fm,uJ,sy,h0.hD.kp a8 (fun hq=>by
  rcases hq with hq|e|e|e|e
  ·exact h0.hb.offMap h0.hD hq
  ·exact h0.hD.ne_blk h0.ha e
  ·exact h0.hD.ne_blk h0.hs e
  ·exact h0.hD.ne_blk h0.hsp e
  ·exact h0.ne e),h0.ne,h0.lo⟩,fun x=>Iff.rfl⟩,a8.mono fun x _ hq=>(hF x).2 (by
  rcases hq with e|e|e|e|e
  ·exact .inl e
  ·exact .inr (.inr (.inr (.inl e)))
  ·exact .inr (.inr (.inr (.inr (.inl e))))
  ·exact .inr (.inr (.inr (.inr (.inr (.inl e)))))
  ·exact .inr (.inr (.inr (.inr (.inr (.inr (.inl e)))))))⟩
 rcases hf with hf|e|e|e|e|e|e|e|e|e
 ·exact (hF x).2 (.inl (Ae x hx hf))
 ·exact (hF x).2 (.inr (.inl e))
 ·exact (hF x).2 (.inr (.inr (.inl e)))
 ·exact (hF x).2 (.inr (.inr (.inr (.inl e))))
 ·exact (hF x).2 (.inr (.inr (.inr (.inr (.inl e)))))
 ·exact (hF x).2 (.inr (.inr (.inr (.inr (.inr (.inl e))))))
 ·exact (hF x).2 (.inr (.inr (.inr (.inr (.inr (.inr (.inl e)))))))
 ·exact (hF x).2 (.inr (.inr (.inr (.inr (.inr (.inr (.inr (.inl e))))))))
 ·have:=(z_u g7.seats e).1
  omega
 ·have:=(z_u g7.mems e).1
  omega
end
theorem infoB4:(prog.info? 4).map (fun i=>(i.zero,i.size,i.bytes))=some (some (.bool false),1,1):=by kernel_rfl
theorem infoBR:(prog.info? 128).map (fun i=>(i.zero,i.size,i.bytes))=some (some (.slice none 0 0),1,24):=by kernel_rfl
def RowsC (cs:Array Value) (n:Nat):Prop:=cs.size=n/\∀j,j<n->∃A k c,cs[j]?=some (.slice A k c)
theorem RowsC.set {cs:Array Value} {n i:Nat} (h:RowsC cs n) (A:Option Addr) (k c:Nat):RowsC (cs.setIfInBounds i (.slice A k c)) n:=by
 refine ⟨by rw[Array.size_setIfInBounds];exact h.1,fun j hj=>?_⟩;rw[Array.getElem?_setIfInBounds];split
 ·split
  ·exact ⟨A,k,c,rfl⟩
  ·rename_i h1 h2;exact absurd (by rw[h.1];omega) h2
 ·exact h.2 j hj
section
variable {w:World} {p b an v g gw st n:Nat} {key:List UInt8} {kept:Value} {σ:Nat->DkS} {F:Nat->Prop}
theorem mcrash_any (h:Blk w p 81 (mcC b v g kept)) (hb:Bk w b n σ F) (dy:n<=12) (dX:∀i,i<n->(σ i).wait=0) (hv:Blk w v 88 (vlC b an key (some ⟨st,0,none⟩) (some gw))) :
  Cl 29 #[.pointer (some ⟨p,0,none⟩),.int .u64 0] w fun e w'=>e=.returned (.int .i64 0)/\∃F',Gr w F F'/\Bk w' b n (y_6 σ n) F'/\Blk w' v 88 (vlC b an key none none)/\Kp (fun q=>F q\/q=v) w w':=by
 have b6:=Zz (v_J hb);have c0:=h.c0;have bK:=run_make_row' 127 128 (.slice none 0 0) 24 underlying127 infoBR rfl .i64 .i64 n (by omega) (by omega) w;have fj:=Zz (Blk.new w 128 (madeCells #[.slice none 0 0] n));have bZ:=Zz ((Kp.refl NoB w).alloc (.cells (madeCells #[.slice none 0 0] n) 128))
 have kJ:Hid (RowsC (madeCells #[.slice none 0 0] n) n/\∀j,j<n->(madeCells #[.slice none 0 0] n)[j]?=some (.slice none 0 0)):=Zz (by
  have hl:(madeCells #[Value.slice none 0 0] n).toList=List.replicate n (.slice none 0 0):=toList_madeCells_one _ _
  have hg:∀j,j<n->(madeCells #[Value.slice none 0 0] n)[j]?=some (.slice none 0 0):=fun j hj=>by
   rw[<-Array.getElem?_toList,hl,List.getElem?_replicate,if_pos hj]
  exact ⟨⟨by rw[<-Array.length_toList,hl,q_w],fun j hj=>⟨none,0,0,hg j hj⟩⟩,hg⟩)
 have HB:=Zz hb;have HV:=Zz hv;have HM:=Zz h;have jN:=Zz dX;clear h hb dX hv;go_enter func29,ntmps29;go_wp2_with fail;refine b6.o.mono ?_;rintro e w2 ⟨rfl,rfl⟩
 go_upto_region 5 with fail
 clear bK c0;generalize w2.alloc (.cells (madeCells #[.slice none 0 0] n) 128)=w3 at *;generalize madeCells #[.slice none 0 0] n=C0 at *;obtain ⟨G,hG⟩:∃G,w2.heap.size=G:=⟨_,rfl⟩;rw[hG] at fj ⊢;have HG:=Zz hG;clear hG
 go_loopw [6,7,18,21] (fun _ _ s18 _ wr=>∃(i:Nat) (cs:Array Value),i<=n/\s18=.int .i64 i/\Hid (Blk wr G 128 cs)/\Hid (RowsC cs n/\∀j,i<=j->j<n->cs[j]?=some (.slice none 0 0))/\Hid (Kp NoB w2 wr)) (fun _ _ s18 _ _=>n-(intOf s18).toNat)
 case atStart=>exact ⟨0,C0,by omega,rfl,fj,Zz ⟨kJ.o.1,fun j _=>kJ.o.2 j⟩,bZ⟩
 case round =>
  clear fj bZ kJ;obtain ⟨i,cs,hi,rfl,aI,HC,HK⟩:=hrel;by_cases af:i<n
  ·have bV:(i:Int)<(n:Int):=by omega
   obtain ⟨wo,Z5⟩:∃wo:World,wo=wr:=⟨_,rfl⟩;have kL:Hid (Own wr G 4 (.slice none 0 0) []):=Zz (Own.nil_ wr G 4);have zp:Hid (RowsC cs n/\cs[i]?=some (.slice none 0 0)/\∀j,i+1<=j->j<n->cs[j]?=some (.slice none 0 0)):=Zz ⟨HC.o.1,HC.o.2 i (q_e _) af,fun j h1 h2=>HC.o.2 j (by omega) h2⟩;have iK:Hid (([]:List Value).length=0):=Zz rfl;clear HC Z5
   go_upto_region 8 with fail
   go_loopw [7,21] (fun _ s21 wr=>∃(k:Nat) (u:Value) (cs:Array Value) (xs:List Value),k<=64/\s21=.int .i64 k/\Hid (Blk wr G 128 cs)/\Hid (RowsC cs n/\cs[i]?=some u/\∀j,i+1<=j->j<n->cs[j]?=some (.slice none 0 0))/\Hid (Own wr G 4 u xs)/\Hid (xs.length=k)/\Hid (Kp NoB w2 wr)) (fun _ s21 _=>64-(intOf s21).toNat)
   case atStart=>exact ⟨0,_,cs,[],by omega,rfl,aI,zp,kL,iK,HK⟩
   case round =>
    clear aI zp kL iK HK;obtain ⟨k,u,dq,xs,hk,rfl,aI,HC,HO,HX,HK⟩:=hrel;by_cases Tx:k<64
    ·have ra:(k:Int)<64:=by omega
     have Dw:=(aI.o.cell i).trans HC.o.2.1
     have Ru:bits .and .u64 (0:Int) (1:Int)=0:=by decide
     have BQ:IntKind.i64.wrap ((i:Int)*5)=(i:Int)*5:=by rw[q_r];omega
     have hW2:IntKind.i64.wrap ((i:Int)*5+(k:Int))=(i:Int)*5+(k:Int):=by rw[q_r];omega
     obtain ⟨r,hr⟩:∃r:Nat,((i:Int)*5+(k:Int)).tmod 64=(r:Int)/\r<64:=⟨(i*5+k) % 64,by rw[show (i:Int)*5+(k:Int)=((i*5+k:Nat):Int) by omega];rfl,q_z _ (by decide)⟩;obtain ⟨nf,kV⟩:=hr
     have se:∀W:World,(Op.shift .shr .u64 0 .i64 (r:Int)).run prog W=.ok (.int .u64 0) W:=fun W=>by
      unfold Op.shift;rw[if_neg (by omega)];simp
     have lQ:=Zz aI.o.drew;have DK:Hid (Own wr.drew G 4 u xs):=HO;have fZ:=Zz HK.o.drew;have ii:=HX.o;have om:G<wr.drew.heap.size:=aI.o.lt;clear aI HO HK Dw
     go_upto_region 10 with fail
     refine fs ?_;generalize wr.drew=w6 at *;have g1:w6.cell? ⟨G,i,none⟩=some u:=(lQ.o.cell i).trans HC.o.2.1;refine fp 0 ?_;refine fp 1 ?_;refine fp 2 ?_;refine fp 3 ?_;refine fp 4 ?_;refine f_c 5 g1 ?_;refine fp 6 ?_;refine fp 7 ?_;refine fp 8 ?_;refine fp 9 ?_;refine fp 10 ?_;refine fp 11 ?_;refine fp 12 ?_;refine fp 13 ?_;refine fp 14 ?_;refine fd 15 fun K Qx hK=>?_;go_simp;have aE:=(Kp.refl NoB w6).alloc (.cells #[.bool false] 4);have gp:=Zz (lQ.o.kp aE fun h=>h);have cy:=Zz (DK.o.kp aE fun _ _ h=>h);have dK:=Zz (fZ.o.trans aE);have eQ:Hid (z_g (w6.alloc (.cells #[.bool false] 4)) (.slice (some ⟨w6.heap.size,0,none⟩) 1 1) [.bool false]):=Zz (blit2 w6 #[.bool false] 4 (by simp[maxLen]))
     have Z6:G<(w6.alloc (.cells #[.bool false] 4)).heap.size:=by have:=aE.size;omega
     refine hK _ _ (oK ((gp.o.cell i).trans HC.o.2.1) oN) ?_;clear hK K g1 aE lQ DK fZ om;generalize w6.alloc (.cells #[.bool false] 4)=w7 at *;refine y_L 16 rfl rfl (by kernel_rfl) ?_;refine x_S rfl underlying128 infoB4 rfl (by decide) rfl rfl (fun u hu=>by simp at hu;subst hu;rfl) cy.o eQ.o (by show 0<1;decide) (by omega) (by rw[ii];show (k+1)*1<=140737488355328;omega) ?_;intro v1 w8 ho hg;have aC:Kp (fun q=>some q=u.ownBlock) w7 w8:=Kp.of_grown hg fun _ h=>h;have ef:=Zz (gp.o.kp aC fun h=>z_s cy.o gp.o (by decide) h.symm);have bq:=Zz (dK.o.then aC fun q hq h=>(by have:=(cy.o.lt q h.symm).1;have:=HG.o;omega:False));refine ⟨oW oN,?_⟩;obtain ⟨A1,c1,rfl⟩:∃A c,v1=.slice A (k+1) c:=(by obtain ⟨A,c,e⟩:=ho.shape;exact ⟨A,c,by rw[e,q_b,q_x,ii]⟩);have ia:=Zz ho;clear ho hg aC gp cy dK eQ Z6;have g1:w8.cell? ⟨G,i,none⟩=some u:=(ef.o.cell i).trans HC.o.2.1;have f1:=ef.o.frozen i;refine fp 17 ?_;refine fd 18 fun K Qx hK=>?_;go_simp;refine hK _ _ (oW oN) ?_;clear hK K;refine fe ?_;have dS:=(Kp.refl (fun q=>q=G) w8).setCell ⟨G,i,none⟩ (.slice A1 (k+1) c1) (.inl rfl);have Z7:=Zz (ef.o.set_ i (.slice A1 (k+1) c1));have jD:=Zz (ia.o.kp dS fun q hq e=>z_s ia.o ef.o (by decide) (hq.trans (congrArg some e)));have eY:=Zz (bq.o.then dS fun q hq e=>(by have e:q=G:=e;have:=HG.o;omega:False))
     have jv:Hid (RowsC (dq.setIfInBounds i (.slice A1 (k+1) c1)) n/\(dq.setIfInBounds i (.slice A1 (k+1) c1))[i]?=some (.slice A1 (k+1) c1)/\∀j,i+1<=j->j<n->(dq.setIfInBounds i (.slice A1 (k+1) c1))[j]?=some (.slice none 0 0)):=Zz (by
      refine ⟨HC.o.1.set _ _ _,?_,fun j h1 h2=>?_⟩
      ·rw[Array.getElem?_setIfInBounds,if_pos rfl,if_pos (by rw[HC.o.1.1];exact af)]
      ·rw[Array.getElem?_setIfInBounds,if_neg (by omega)]
       exact HC.o.2.2 j h1 h2)
     have ms:Hid ((xs++[(.bool false:Value)]).length=k+1):=Zz (by rw[q_b,q_x,ii]);clear dS g1 f1 ef ia bq ii HX HC;generalize w8.setCell ⟨G,i,none⟩ (.slice A1 (k+1) c1)=w9 at *;generalize dq.setIfInBounds i (.slice A1 (k+1) c1)=Ha at *;go_wp2;go_roundw
     case rel=>exact ⟨k+1,_,Ha,_,by omega,by go_num,Z7,jv,jD,ms,eY⟩
     case measure=>simp[intOf];omega
    ·obtain rfl:k=64:=by omega
     go_wp2;go_roundw
     case rel=>exact ⟨i+1,dq,by omega,by go_num,aI,Zz ⟨HC.o.1,HC.o.2.2⟩,HK⟩
     case measure=>simp[intOf];omega
  ·obtain rfl:i=n:=by omega
   have c0:wr.cell? ⟨p,0,none⟩=some (.pointer (some ⟨b,0,none⟩)):=(HM.o.kp HK.o fun h=>h).cell 0;have dF:=Zz (HB.o.no HK.o)
   have lA:Hid (RowsB wr (.slice (some ⟨G,0,none⟩) i i) i):=Zz ⟨G,0,i,rfl,q_e _,fun j hj=>by
    obtain ⟨A,k,c,h1⟩:=HC.o.1.2 j hj
    exact ⟨A,k,c,by rw[q_D];exact (aI.o.cell j).trans h1⟩⟩
   have BK:Hid (¬F G):=Zz fun hf=>by have:=(HB.o.lt hf).2;have:=HG.o;omega
   go_wp2_with fail;refine (bcrash_any dF.o jN.o _ lA.o (fun rb ro c e=>by injection e with e;injection e with e;injection e with e;subst e;exact BK.o)).mono ?_;rintro e w5 ⟨rfl,F',CY,ey,aG⟩;have Hk:=Zz ((HV.o.kp HK.o fun h=>h).kp aG fun h=>dF.o.off (HV.o.kp HK.o fun h=>h) (by unfold tyB;decide) h);have mD:=Zz ((HM.o.kp HK.o fun h=>h).kp aG fun h=>dF.o.off (HM.o.kp HK.o fun h=>h) (by unfold tyB;decide) h);have nS:=Zz CY;have aY:=Zz ey;have ax:Hid (Kp F w2 w5):=Zz ((HK.o.mono fun _ _ h=>h.elim).trans aG);clear CY ey aG c0;have c1:=mD.o.c1;go_wp2_with fail;refine (unmount_any Hk.o).mono ?_;rintro e w6 ⟨rfl,Fh,ap⟩;have Pz:=Zz Fh
   have bk:=Zz (aY.o.kp ap fun q e hf=>by
    have e:q=v:=e;subst e
    exact aY.o.off Hk.o (by unfold tyB;decide) hf)
   have aB:Hid (Kp (fun q=>F q\/q=v) w2 w6):=Zz ((ax.o.mono fun _ _ h=>.inl h).then ap fun q _ e=>.inr e);clear Fh ap c1;go_wp2;go_ret;exact ⟨rfl,F',(Gr.refl _ F).then nS.o HK.o.size,bk.o,Pz.o,aB.o⟩
end
theorem Bk.congr {w:World} {b n:Nat} {σ σ':Nat->DkS} {F:Nat->Prop} (h:Bk w b n σ F) (he:∀j,j<n->σ j=σ' j):Bk w b n σ' F:=by
 obtain ⟨G,c,st,A,Φ,h0,hF⟩:=h;exact ⟨G,c,st,A,Φ,⟨h0.blk,h0.row,fun i hi=>by rw[<-he i hi];exact h0.dk i hi,h0.sep,h0.b10,h0.bG,h0.off,h0.n1,h0.n12⟩,hF⟩
structure Mu0 (w:World) (p b v an g n c:Nat) (key ad:List UInt8) (σ:Nat->DkS) (F:Nat->Prop) (D:List Nat) (kept:Value):Prop where
 hp:Blk w p 81 (mcC b v g kept)
 hv:Blk w v 88 (vlC b an key none none)
 hb:Bk w b n σ F
 ha:Blk w an 180 #[.int .u64 c,.string (bs ad)]
 hD:MapA KI w g (suF D) D
 lo:10<=p/\10<=v/\10<=an/\10<=g
def muF (F:Nat->Prop) (p v an g:Nat):Nat->Prop:=fun x=>F x\/x=p\/x=v\/x=an\/x=g
def Mu (w:World) (p b v n c:Nat) (key ad:List UInt8) (σ:Nat->DkS) (D:List Nat) (kept:Value) (Ft:Nat->Prop):Prop :=
 ∃an g F,Mu0 w p b v an g n c key ad σ F D kept/\∀x,Ft x↔muF F p v an g x
theorem first_alive (σ:Nat->DkS):∀n,(∃i,i<n/\(σ i).dead=false)->∃k,k<n/\(∀i,i<k->(σ i).dead=true)/\(σ k).dead=false:=by
 intro n
 induction n with
 | zero=>rintro ⟨i,hi,_⟩;omega
 | succ n ih =>
  rintro ⟨i,hi,hd⟩;by_cases h:∃i,i<n/\(σ i).dead=false
  ·obtain ⟨k,hk,h1,h2⟩:=ih h
   exact ⟨k,by omega,h1,h2⟩
  ·obtain rfl:i=n:=by
    refine Nat.le_antisymm (by omega) (Nat.le_of_not_lt fun af=>h ⟨i,af,hd⟩)
   refine ⟨i,by omega,fun j hj=>?_,hd⟩
   cases hb:(σ j).dead with
   | true=>rfl
   | false=>exact absurd ⟨j,hj,hb⟩ h
section
variable {w w':World} {p b v n c q:Nat} {key ad:List UInt8} {S:Sup} {kept:Value} {σ:Nat->DkS} {F Ft T:Nat->Prop} {f:Nat->Option ByteArray} {dom D:List Nat}
theorem Mu.lt (h:Mu w p b v n c key ad σ D kept Ft) {x:Nat} (hx:Ft x):10<=x/\x<w.heap.size:=by
 obtain ⟨an,g,F,h0,hF⟩:=h;obtain ⟨l1,l2,l3,l4⟩:=h0.lo;rcases (hF x).1 hx with hx|rfl|rfl|rfl|rfl
 ·exact h0.hb.lt hx
 ·exact ⟨l1,h0.hp.lt⟩
 ·exact ⟨l2,h0.hv.lt⟩
 ·exact ⟨l3,h0.ha.lt⟩
 ·exact ⟨l4,h0.hD.lt⟩
theorem Mu.kp (h:Mu w p b v n c key ad σ D kept Ft) (k:Kp T w w') (hT:∀x,T x->¬Ft x):Mu w' p b v n c key ad σ D kept Ft:=by
 obtain ⟨an,g,F,h0,hF⟩:=h;have hn:∀x,muF F p v an g x->¬T x:=fun x hx ht=>hT x ht ((hF x).2 hx);exact ⟨an,g,F,⟨h0.hp.kp k (hn _ (.inr (.inl rfl))),h0.hv.kp k (hn _ (.inr (.inr (.inl rfl)))),h0.hb.kp k (fun q ht hf=>hn _ (.inl hf) ht),h0.ha.kp k (hn _ (.inr (.inr (.inr (.inl rfl))))),h0.hD.kp k (hn _ (.inr (.inr (.inr (.inr rfl))))),h0.lo⟩,hF⟩
theorem Mu.no (h:Mu w p b v n c key ad σ D kept Ft) (k:Kp NoB w w'):Mu w' p b v n c key ad σ D kept Ft:=h.kp k fun _ h=>h.elim
theorem mu_volume (h:Mu w p b v n c key ad σ D kept Ft):Cl 10 #[.pointer (some ⟨p,0,none⟩)] w fun e w'=>e=.returned (.pointer (some ⟨v,0,none⟩))/\w'=w:=by
 obtain ⟨an,g,F,h0,hF⟩:=h;exact mvolume_any h0.hp
theorem mu_new (w:World) (n:Nat) (key:List UInt8) (hw:10<=w.heap.size) (hn:1<=n/\n<=12) :
  Cl 26 #[.int .i64 n,.string (bs key)] w fun e w'=>∃p b v Ft,e=.returned (.pointer (some ⟨p,0,none⟩))/\Mu w' p b v n 0 key [] (fun _=>dk0) [] (.slice none 0 0) Ft/\(∀q,Ft q->w.heap.size<=q)/\Kp NoB w w':=by
 refine (mnew_any w n key hw hn).mono ?_;rintro e w' ⟨p,b,an,v,g,F,rfl,hp,hv,ha,hm,hb,hF,h1,h2,h3,h4,hk⟩;refine ⟨p,b,v,muF F p v an g,rfl,⟨an,g,F,⟨hp,hv,hb,ha,by rw[suF_nil];exact hm,by omega⟩,fun x=>Iff.rfl⟩,fun q hq=>?_,hk⟩;rcases hq with hq|rfl|rfl|rfl|rfl
 ·exact hF q hq
 ·exact h1
 ·exact h3
 ·exact h2
 ·exact h4
theorem mu_format (hL:Lay w) (hw:10<=w.heap.size) (hk:key.length=32) (h:Mu w p b v n 0 key [] (fun _=>dk0) D kept Ft) (d s:Nat) (h2:2<=d) (h4:d<=4) (hs:sl s) (hn:d+2<=n) :
  Cl 27 #[.pointer (some ⟨v,0,none⟩),.int .i64 d,.int .i64 s] w fun e w'=>e=.returned (.int .i64 0)/\∃Ft',Gr w Ft Ft'/\Mu w' p b v n 1 key (z_Z (z_t (y_g d s n))) (z_R (z_V d s n) 1 (bs (z_t (y_g d s n))) n) D kept Ft'/\Kp Ft w w':=by
 obtain ⟨an,g,F,h0,hF⟩:=h;refine vformat_any h0.hv d s fun W k=>?_;refine (format_any (hL.no k) (h0.hb.no k) (by have:=k.size;omega) (h0.ha.kp k fun h=>h) hk d s h2 h4 hs hn).mono ?_;rintro e w' ⟨rfl,ha,F',hg,hb,a8⟩;have lS:Kp (fun q=>F q\/q=an) w w':=(k.mono fun _ _ h=>h.elim).trans a8
 have aZ:∀ {g2 t2:Nat} {dq:Array Value},Blk w g2 t2 dq->¬tyB t2->t2≠180->¬(F g2\/g2=an):=fun am ht h1 hq=>by
  rcases hq with hq|rfl
  ·exact h0.hb.off am ht hq
  ·exact Blk.ne_ am h0.ha h1 rfl
 refine ⟨rfl,muF F' p v an g,fun x hx hf=>?_,⟨an,g,F',⟨h0.hp.kp lS (aZ h0.hp (by unfold tyB;decide) (by decide)),h0.hv.kp lS (aZ h0.hv (by unfold tyB;decide) (by decide)),hb,ha,h0.hD.kp lS (fun hq=>by
  rcases hq with hq|e
  ·exact h0.hb.offMap h0.hD hq
  ·exact h0.hD.ne_blk h0.ha e),h0.lo⟩,fun x=>Iff.rfl⟩,lS.mono fun q _ e=>(hF q).2 (by
  rcases e with e|e
  ·exact .inl e
  ·exact .inr (.inr (.inr (.inl e))))⟩
 rcases hf with hf|hf
 ·exact (hF x).2 (.inl (hg x (q_f hx k.size) hf))
 ·exact (hF x).2 (.inr hf)
theorem mu_mount (hL:Lay w) (hw:10<=w.heap.size) (hk:key.length=32) {ch:Nat->Nat->ByteArray} {B:Nat->ByteArray} {L:Nat->Option (List Wr)} (hV:VOk n key S σ ch B) (Z8:LOk S σ L) (aK:0<S.count) (bf:S.count<1000) (kD:S.epoch<1000) (h:Mu w p b v n S.count key (z_Z (z_t S)) σ D kept Ft) (jb:∃i,i<n/\(σ i).dead=false)
  (JB:S.count % 2=1->∀i,i<n->(σ i).dead=false->∃c0:List UInt8,tl (σ i).now 0=bs c0/\c0.length<=2048/\(c0=[]\/z_Z c0≠z_Z (z_t S))) :
  Cl 23 #[.pointer (some ⟨v,0,none⟩)] w fun e w'=>e=.returned (.int .i64 0)/\∃Ft',Gr w Ft Ft'/\Mc w' p b v n 0 key (z_S S) (z_R (z_2 σ S L n) ((S.count+1) % 2) (bs (z_t (z_S S))) n) (fun _=>none) [] D kept Ft'/\Kp Ft w w':=by
 obtain ⟨an,g,F,h0,hF⟩:=h;obtain ⟨l1,l2,l3,l4⟩:=h0.lo;obtain ⟨k,ra,bY,aE⟩:=first_alive σ n jb
 have aZ:∀ {g2 t2:Nat} {dq:Array Value},Blk w g2 t2 dq->¬tyB t2->t2≠180->¬(F g2\/g2=an):=fun am ht h1 hq=>by
  rcases hq with hq|rfl
  ·exact h0.hb.off am ht hq
  ·exact Blk.ne_ am h0.ha h1 rfl
 refine (vmount_any (R:=fun st W'=>∃sp vs vm F',w.heap.size<=st/\w.heap.size<=sp/\Blk W' st 116 (stC b an key (z_S S) vs vm sp)/\Blk W' sp 226 #[.int .u64 (S.epoch+1:Nat),.int .u64 0]/\SupO W' w.heap.size (z_S S) vs vm /\
   Blk W' an 180 #[.int .u64 (S.count+1:Nat),.string (bs (z_Z (z_t (z_S S))))]/\Gr w F F'/\Bk W' b n (z_R (z_2 σ S L n) ((S.count+1) % 2) (bs (z_t (z_S S))) n) F'/\Blk W' p 81 (mcC b v g kept)/\Blk W' v 88 (vlC b an key none none)/\MapA KI W' g (suF D) D/\Kp (fun q=>F q\/q=an) w W') h0.hv fun W kW=>?_).mono ?_
 ·have mO:∀j (h:j<S.mem.length),(S.mem[j]'h).st=1->(σ j).dead=false->LogOk (σ j) (S.mem[j]'h).log (L j):=fun j hj h1 hd=>by
   have:=(Z8 j (bad_no.2 ⟨by rw[x_6 hj];exact h1,hd⟩)).1
   rwa [logA_at hj] at this
  obtain ⟨c0,gy⟩:∃c0:List UInt8,S.count % 2=1->tl (σ k).now 0=bs c0/\c0.length<=2048/\(c0=[]\/z_Z c0≠z_Z (z_t S)):=by
   by_cases iP:S.count % 2=1
   ·obtain ⟨c0,h⟩:=JB iP k ra aE
    exact ⟨c0,fun _=>h⟩
   ·exact ⟨[],fun h=>absurd h iP⟩
  refine (copen_any (L:=L) (hL.no kW) (h0.hb.no kW) (by have:=kW.size;omega) hk S hV.ok hV.len aK bf kD (h0.ha.kp kW fun h=>h) k (S.count % 2) ra bY aE (q_z _ (by decide)) (hV.rc k ra aE) c0 gy mO (fun j hj=>by rw[(hV.dk j hj).wait];exact Nat.zero_le _)).mono ?_;rintro e w' ⟨st,sp,vs,vm,rfl,aH,hsp,JM,uG,cP,ha,F',hg,hb,a8⟩;have lS:Kp (fun q=>F q\/q=an) w w':=(kW.mono fun _ _ h=>h.elim).trans a8;have hz:=kW.size
  refine ⟨st,rfl,h0.hv.kp lS (aZ h0.hv (by unfold tyB;decide) (by decide)),sp,vs,vm,F',by omega,by omega,JM,uG,cP.more hz,ha,fun x hx hf=>hg x (by omega) hf,hb,h0.hp.kp lS (aZ h0.hp (by unfold tyB;decide) (by decide)),h0.hv.kp lS (aZ h0.hv (by unfold tyB;decide) (by decide)),h0.hD.kp lS (fun hq=>by
   rcases hq with hq|e
   ·exact h0.hb.offMap h0.hD hq
   ·exact h0.hD.ne_blk h0.ha e),lS⟩
 ·rintro e w' ⟨rfl,st,gw,W,⟨sp,vs,vm,F',aH,hsp,JM,uG,cP,ha,hg,hb,T2,PJ,PK,T3⟩,PH,hgw,Z9,wZ⟩
  have aA:∀ {g2 t2:Nat} {dq:Array Value},Blk W g2 t2 dq->t2≠88->¬g2=v:=fun am h1=>Blk.ne_ am PJ h1
  have ae:∀ {base e size k:Nat} {u:Value} {xs:List Value},W.ownsRow base e size u k xs->e≠88->∀q,u.ownBlock=some q->¬q=v:=fun ho h1 q hq=>by
   obtain ⟨dq,am⟩:=z_i ho hq;exact aA am h1
  have PM:=cP.kp wZ (ae cP.seats (by decide)) (ae cP.mems (by decide));have aj:=T3.size;have hglt:=PK.lt
  refine ⟨rfl,mcF F' p v an st sp gw g vs vm,fun x hx hf=>?_,⟨an,g,st,sp,gw,vs,vm,F',⟨T2.kp wZ (aA T2 (by decide)),PH,JM.kp wZ (aA JM (by decide)),uG.kp wZ (aA uG (by decide)),PM.more hw,hb.kp wZ (fun q e hf=>by
   have e:q=v:=e;subst e
   exact hb.off PJ (by unfold tyB;decide) hf),ha.kp wZ (aA ha (by decide)),Z9,PK.kp wZ (fun e=>PK.ne_blk PJ e),by omega,by omega⟩,fun x=>Iff.rfl⟩,((T3.mono (S:=fun q=>F q\/q=an\/q=v) fun q _ e=>e.elim .inl fun e=>.inr (.inl e)).then wZ fun q _ e=>.inr (.inr e)).mono fun q _ e=>?_⟩
  ·rcases hf with hf|e|e|e|e|e|e|e|e|e
   ·exact (hF x).2 (.inl (hg x hx hf))
   ·exact (hF x).2 (.inr (.inl e))
   ·exact (hF x).2 (.inr (.inr (.inl e)))
   ·exact (hF x).2 (.inr (.inr (.inr (.inl e))))
   ·omega
   ·omega
   ·omega
   ·exact (hF x).2 (.inr (.inr (.inr (.inr e))))
   ·have:=(z_u cP.seats e).1
    omega
   ·have:=(z_u cP.mems e).1
    omega
  ·rcases e with e|e|e
   ·exact (hF q).2 (.inl e)
   ·exact (hF q).2 (.inr (.inr (.inr (.inl e))))
   ·exact (hF q).2 (.inr (.inr (.inl e)))
theorem mc_crash {ch:Nat->Nat->ByteArray} {B:Nat->ByteArray} (hV:VOk n key S σ ch B) (h:Mc w p b v n q key S σ f dom D kept Ft) :
  Cl 29 #[.pointer (some ⟨p,0,none⟩),.int .u64 0] w fun e w'=>e=.returned (.int .i64 0)/\∃Ft',Gr w Ft Ft'/\Mu w' p b v n S.count key (z_Z (z_t S)) σ D kept Ft'/\Kp Ft w w':=by
 obtain ⟨an,g,st,sp,gw,vs,vm,F,h0,hF⟩:=h;obtain ⟨l1,l2,l3,l4,l5,l6,l7⟩:=h0.lo;refine (mcrash_any h0.hp h0.hb (by have:=hV.len;have:=hV.ok.n12;omega) (fun i hi=>(hV.dk i hi).wait) h0.hv).mono ?_;rintro e w' ⟨rfl,F',hg,hb,hv,a8⟩
 have hσ:∀j,j<n->y_6 σ n j=σ j:=fun j hj=>by
  unfold y_6;rw[if_pos hj];exact (hV.dk j hj).crash
 have aZ:∀ {g2 t2:Nat} {dq:Array Value},Blk w g2 t2 dq->¬tyB t2->t2≠88->¬(F g2\/g2=v):=fun am ht h1 hq=>by
  rcases hq with hq|rfl
  ·exact h0.hb.off am ht hq
  ·exact Blk.ne_ am h0.hv h1 rfl
 refine ⟨rfl,muF F' p v an g,fun x hx hf=>?_,⟨an,g,F',⟨h0.hp.kp a8 (aZ h0.hp (by unfold tyB;decide) (by decide)),hv,hb.congr hσ,h0.ha.kp a8 (aZ h0.ha (by unfold tyB;decide) (by decide)),h0.hD.kp a8 (fun hq=>by
  rcases hq with hq|e
  ·exact h0.hb.offMap h0.hD hq
  ·exact h0.hD.ne_blk h0.hv e),l1,l2,l5,l7⟩,fun x=>Iff.rfl⟩,a8.mono fun q _ e=>(hF q).2 (by
  rcases e with e|e
  ·exact .inl e
  ·exact .inr (.inr (.inl e)))⟩
 rcases hf with hf|e|e|e|e
 ·exact (hF x).2 (.inl (hg x hx hf))
 ·exact (hF x).2 (.inr (.inl e))
 ·exact (hF x).2 (.inr (.inr (.inl e)))
 ·exact (hF x).2 (.inr (.inr (.inr (.inl e))))
 ·exact (hF x).2 (.inr (.inr (.inr (.inr (.inr (.inr (.inr (.inl e))))))))
theorem mc_suspects (h:Mc w p b v n q key S σ f dom D kept Ft) (hl:D.length<=1000) :
  Cl 30 #[.pointer (some ⟨p,0,none⟩)] w fun e w'=>(∃A c,e=.returned (.slice A D.length c))/\Kp NoB w w':=by
 obtain ⟨an,g,st,sp,gw,vs,vm,F,h0,hF⟩:=h;refine (msuspects_any h0.hp h0.hD hl).mono ?_;rintro e w' ⟨u,rfl,ho,hk⟩;obtain ⟨A,c,rfl⟩:=z_r ho;rw[z_w,w_P];exact ⟨⟨A,c,rfl⟩,hk⟩
end
theorem field_blocks (W:World) (m x d:Int) (A:Option Addr) (k c:Nat):(Instr.field 51 (.agg #[.bool true,.bool false,.int .i64 m,.int .i64 x,.int .i64 d,.int .i64 0,.int .i64 0,.bool false,.slice A k c]) 2).run prog W=.ok (.int .i64 m) W:=by kernel_rfl
theorem z_af (W:World) (m x d:Int) (A:Option Addr) (k c:Nat):(Instr.field 51 (.agg #[.bool true,.bool false,.int .i64 m,.int .i64 x,.int .i64 d,.int .i64 0,.int .i64 0,.bool false,.slice A k c]) 3).run prog W=.ok (.int .i64 x) W:=by kernel_rfl
def x_g (dd a c t:Int) (dt:UInt8) (cell:ByteArray) (kp:Int):Array Value:=#[.int .i64 dd,.int .i64 a,.int .i64 c,.int .i64 t,.int .u8 dt.toNat,.string cell,.int .u64 kp]
def lowB (c:Int):UInt8:=UInt8.ofNat (c % 256).toNat
theorem lowB_int (c:Int):((lowB c).toNat:Int)=IntKind.u8.wrap c:=by
 rw[IntKind.wrap_u8];unfold lowB;have h1:=Int.emod_nonneg c (show (256:Int)≠0 by decide);have h2:=Int.emod_lt_of_pos c (show (0:Int)<256 by decide);rw[UInt8.toNat_ofNat_of_lt' (show (c % 256).toNat<256 by omega)];omega
def x_Q (dt:UInt8) (c:Int):ByteArray:=bs ([dt,lowB c]++List.replicate 30 0)
theorem blkB_size (dt:UInt8) (c:Int):(x_Q dt c).size=32:=rfl
section
variable {w:World} {dd a c t kp:Int} {dt:UInt8} {cell:ByteArray}
theorem block_any (w:World) (dd a c t kp:Int) (dt:UInt8) (cell:ByteArray) :
  Cl 13 #[.agg (x_g dd a c t dt cell kp)] w fun e w'=>e=.returned (.string (x_Q dt c))/\Kp NoB w w':=by
 have HB:=Zz (Blk.new w 31 (x_g dd a c t dt cell kp)).drew;have HK:=Zz ((Kp.refl NoB w).alloc (.cells (x_g dd a c t dt cell kp) 31)).drew;have HE:Hid (bs [dt,lowB c]++bs (List.replicate 30 0)=x_Q dt c):=Zz (y_f _ _);have kN:=(lowB_int c).symm
 have hz:(⟨#[0,0,0,0,0,0,0,0,0,0,0,0,0,0,0,0,0,0,0,0,0,0,0,0,0,0,0,0,0,0,0,0]⟩:ByteArray).extract 2 32=bs (List.replicate 30 0):=by decide
 have aj:¬((9223372036854775807:Nat)<(bs [dt,lowB c]).size+(bs (List.replicate 30 0)).size):=by show ¬(9223372036854775807<2+30);decide
 generalize x_Q dt c=R at *;generalize bs (List.replicate 30 0)=Z at *;have B5:Hid (∀W P,z_g W (.slice (some ⟨P,0,none⟩) 2 2) (bv [dt,lowB c])->(convert 105 9 (.slice (some ⟨P,0,none⟩) 2 2)).run prog W=.ok (.string (bs [dt,lowB c])) W):=Zz fun W P h=>conv_rd W h;obtain ⟨X,hX⟩:∃X,bs [dt,lowB c]=X:=⟨_,rfl⟩;rw[hX] at B5 HE aj;clear hX;change Cl 13 #[.agg #[.int .i64 dd,.int .i64 a,.int .i64 c,.int .i64 t,.int .u8 dt.toNat,.string cell,.int .u64 kp]] w _;go_enter func13,ntmps13
 go_upto_region 1 with fail
 change Code.wp _ _ _ _ (w.alloc (.cells (x_g dd a c t dt cell kp) 31));generalize w.alloc (.cells (x_g dd a c t dt cell kp) 31)=w1 at *;generalize w.heap.size=G at *;refine fs ?_;generalize w1.drew=w2 at *;have c4:=HB.o.c4;have c2:=HB.o.c2;refine fp 0 ?_;refine f_c 1 c4 ?_;refine fp 2 ?_;refine f_c 3 c2 ?_;refine fp 4 ?_;refine fp 7 ?_;refine fd 5 fun K Qx hK=>?_;go_simp;have aE:=(Kp.refl NoB w2).alloc (.cells #[.int .u8 dt.toNat,.int .u8 ((lowB c).toNat:Int)] 5);have dK:=Zz (HK.o.trans aE);have dc:Hid (z_g (w2.alloc (.cells #[.int .u8 dt.toNat,.int .u8 ((lowB c).toNat:Int)] 5)) (.slice (some ⟨w2.heap.size,0,none⟩) 2 2) (bv [dt,lowB c])):=Zz (blit w2 #[.int .u8 dt.toNat,.int .u8 ((lowB c).toNat:Int)] 5 (by simp[maxLen]));refine hK _ _ (oW (oW oN)) ?_;clear hK K c4 c2 aE HK HB;generalize w2.alloc (.cells #[.int .u8 dt.toNat,.int .u8 ((lowB c).toNat:Int)] 5)=w3 at *;generalize w2.heap.size=P at *;have bH:=dc.o;have hq:=(fun W h=>B5.o W P h) _ bH;refine w_k 6 (fun W=>z_g W (.slice (some ⟨P,0,none⟩) 2 2) (bv [dt,lowB c])) rfl rfl (by kernel_rfl) (by kernel_rfl) bH (fun K hK=>?_);go_simp;refine hK _ (fun W hW=>by have jt:=(fun W h=>B5.o W P h) _ hW;go_simp) ?_;clear hK K hq;refine fp 8 ?_;refine fp 9 ?_;refine fe ?_;go_wp2;go_ret;exact ⟨by rw[<-HE.o];rfl,dK.o⟩
end
end Go.Proofs.YtdkheklakfbeeaaGreatDoor
