/- Part 28 of the proof. -/
import Derived.Test.YtdkheklakfbeeaaGreatDoorM27
set_option linter.all false
set_option maxRecDepth 100000
set_option maxHeartbeats 16000000
namespace Go.Proofs.YtdkheklakfbeeaaGreatDoor
open Go.RowKit Go.Proofs.Tryz
section
variable {w:World} {b n i s t:Nat} {key:List UInt8} {σ:Nat->DkS} {F:Nat->Prop}
theorem checked_any (hL:Lay w) (h:Bk w b n σ F) (hw:10<=w.heap.size) (hi:i<n) (hs:sl s) (hk:key.length=32) (v:Value) (l:List Wr) (hv:z_Q w v 2 l.length (wrC l)) (hl:l.length<=1000) (bI:∀x∈l,x.at'<s/\x.cell.size<=2032) :
  Cl 169 #[.agg (slC b i s key),v] w fun e w'=>e=.returned (.int .i64 0)/\Kp NoB w w':=by
 have HB:=Zz (Blk.new w 139 (slC b i s key));have HK:=Zz ((Kp.refl NoB w).alloc (.cells (slC b i s key) 139))
 have aN:10<=(w.alloc (.cells (slC b i s key) 139)).heap.size:=by have:=HK.o.size;omega
 have HG:=Zz (w_9 y_R (hL.no HK.o) (h.no HK.o) aN hi hs hk);have HM:=Zz (fun W (k:Kp NoB w W) t (ht:t<s)=>v_L (t:=t) y_R (hL.no k) (h.no k) (by have:=k.size;omega) hi hs hk ht);have HV:=Zz (fun W (k:Kp NoB w W)=>hv.no k);have rU:=Zz (wrC_at l);have iX:=Zz (fun i (h:i<l.length)=>bI (l[i]'h) (q_B h));obtain ⟨Av,cv,rfl,aK,bf,_,_⟩:=hv;obtain ⟨m,hm⟩:∃m,l.length=m:=⟨_,rfl⟩;rw[hm] at HV hl ⊢;have ej:=Zz hm;clear hL h aN bI hm aK bf;change Cl 169 #[.agg #[.pointer (some ⟨b,0,none⟩),.int .i64 i,.int .i64 s,.string (bs key)],.slice Av m cv] w _;go_enter func169,ntmps169
 go_upto_region 1 with fail
 change Code.wp _ _ _ _ (w.alloc (.cells (slC b i s key) 139));generalize aN:w.alloc (.cells (slC b i s key) 139)=w1 at *;clear aN;generalize w.heap.size=G at *;have c0:=HB.o.c0;have c1:=HB.o.c1;have c2:=HB.o.c2;have c3:=HB.o.c3;go_wp2_with fail;refine HG.o.mono ?_;rintro e w2 ⟨rfl,ag⟩;have ak:=Zz (HB.o.kp ag fun h=>h);have al:=Zz (HK.o.trans ag);clear ag c0 c1 c2 c3 HB HK HG
 go_upto_region 4 with fail
 go_loopw [6,7,13] (fun _ _ s13 wr=>∃j:Nat,j<=m/\s13=.int .i64 j/\Hid (Blk wr G 139 (slC b i s key))/\Hid (Kp NoB w wr)) (fun _ _ s13 _=>m-(intOf s13).toNat)
 case atStart=>exact ⟨0,by omega,rfl,ak,al⟩
 case round =>
  clear ak al;obtain ⟨j,hj,rfl,HB,HK⟩:=hrel;by_cases af:j<m
  ·have cF:j<l.length:=by rw[ej.o];exact af
   have bV:(j:Int)<(m:Int):=by omega
   obtain ⟨A,c,he,_,_,_,ae⟩:=HV.o wr HK.o;cases he;obtain ⟨pb,off,rfl,fT⟩:=ae (by omega);obtain ⟨q1,q2⟩:=rU.o j cF;have k0:=(fT (j*2) (by omega)).trans q1;have k1:=(fT (j*2+1) (by omega)).trans q2;rw[<-Nat.add_assoc] at k1;obtain ⟨z1,z2⟩:=iX.o j cF;generalize (l[j]'cF).at'=a at *;generalize (l[j]'cF).cell=x at *;have cN:=Zz (Blk.new wr 152 #[.int .i64 a,.string x]);have bn:=Zz (HK.o.alloc (.cells #[.int .i64 a,.string x] 152));have gI:=Zz (HB.o.alloc (.cells #[.int .i64 a,.string x] 152))
   have z2I:¬((2032:Int)<(x.size:Int)):=by omega
   clear ae fT q1 q2 HB HK
   go_upto_region 6 with fail
   clear k0 k1;generalize wr.alloc (.cells #[.int .i64 a,.string x] 152)=w5 at *;generalize wr.heap.size=D at *;have c0:=gI.o.c0;have c1:=gI.o.c1;have c2:=gI.o.c2;have c3:=gI.o.c3;have d0:=cN.o.c0;go_wp2_with fail;refine (HM.o _ bn.o a z1).mono ?_;rintro e w6 ⟨rfl,ap⟩;have v6:=Zz (gI.o.kp ap fun h=>h);have aB:=Zz (bn.o.trans ap);have bk:=Zz (cN.o.kp ap fun h=>h);clear ap c0 c1 c2 c3 d0 cN bn gI;have d1:=bk.o.c1;go_wp2;go_roundw
   case rel=>exact ⟨j+1,by omega,by go_num,v6,aB⟩
   case measure=>simp[intOf];omega
  ·obtain rfl:j=m:=by omega
   go_wp2;go_ret;exact ⟨rfl,HK.o⟩
end
def txM (m:Nat->Option ByteArray):Nat->Option Value:=fun k=>(m k).map Value.string
theorem y_7:prog.underlying 86=some (.map 3 9):=underlying86
theorem mapPairs:prog.underlying 264=some (.map 3 9):=underlying264
theorem txM_look {w:World} {B:Nat} {m:Nat->Option ByteArray} {dom:List Nat} (h:MapA KI w B (txM m) dom):LookS w (.map (some B)) m:=fun W hW k hk=>by
 have hh:=(h.no hW).look kd3 mapPairs (zero9 W) (a:=k) (show k<=100000 by omega)
 cases hm:m k with
 | none =>
  refine ⟨⟨#[]⟩,?_,fun y h=>by cases h⟩
  have e:txM m k=none:=by simp[txM,hm]
  have:=hh.2;rw[e] at this
  exact this
 | some y =>
  refine ⟨y,?_,fun z h=>by cases h;rfl⟩
  have e:txM m k=some (.string y):=by simp[txM,hm]
  have:=hh.2;rw[e] at this;exact this
def atD (E:Nat->ByteArray) (dom:List Nat):Nat->Option ByteArray:=fun k=>if k∈dom then some (E k) else none
theorem atD_put (E:Nat->ByteArray) (dom:List Nat) (a:Nat):y_Q (txM (atD E dom)) a (.string (E a))=txM (atD E (z_J dom a)):=by
 funext x;unfold y_Q txM atD;by_cases e:x=a
 ·subst e;simp[z_9]
 ·simp[z_9,e]
theorem atD_nil (E:Nat->ByteArray):txM (atD E [])=fun _=>none:=by funext x;simp[txM,atD]
def chW (ch:Nat->ByteArray) (l:List Wr):Nat->ByteArray:=l.foldl (fun c x=>y_I c x.at' x.cell) ch
def doP (s:Nat) (l:List Wr):List Nat:=l.foldl (fun d x=>(z_p s x.at').foldl z_J d) []
def doC (l:List Wr):List Nat:=l.foldl (fun d x=>z_J d x.at') []
theorem chW_take (ch:Nat->ByteArray) (l:List Wr) (j:Nat) (h:j<l.length):chW ch (l.take (j+1))=y_I (chW ch (l.take j)) (l[j]'h).at' (l[j]'h).cell:=by
 unfold chW;rw[q_h h,List.foldl_append];rfl
theorem doP_take (s:Nat) (l:List Wr) (j:Nat) (h:j<l.length):doP s (l.take (j+1))=(z_p s (l[j]'h).at').foldl z_J (doP s (l.take j)):=by
 unfold doP;rw[q_h h,List.foldl_append];rfl
theorem doC_take (l:List Wr) (j:Nat) (h:j<l.length):doC (l.take (j+1))=z_J (doC (l.take j)) (l[j]'h).at':=by
 unfold doC;rw[q_h h,List.foldl_append];rfl
theorem w_G (L:List Nat):∀(dom:List Nat) (x:Nat),x∈L.foldl z_J dom↔x∈dom\/x∈L:=by
 induction L with
 | nil=>intro dom x;simp
 | cons a L ih=>intro dom x;rw[List.foldl_cons,ih,z_9,List.mem_cons];exact ⟨fun h=>by rcases h with (h | h) | h<;>simp[h],fun h=>by rcases h with h | h | h<;>simp[h]⟩
def prW (s:Nat) (ch:Nat->ByteArray) (l:List Wr):List Wr :=
 ((srt (doP s l)).map fun q=>⟨100+q,prT s (chW ch l) q⟩)++(srt (doC l)).map fun t=>⟨120+t,chW ch l t⟩
def mixD (E E':Nat->ByteArray) (dom P:List Nat):Nat->Option ByteArray:=fun k=>if k∈P then some (E' k) else if k∈dom then some (E k) else none
theorem mixD_nil (E E':Nat->ByteArray) (dom:List Nat):mixD E E' dom []=atD E dom:=by funext x;simp[mixD,atD]
theorem mixD_put (E E':Nat->ByteArray) (dom P:List Nat) (a:Nat):y_Q (txM (mixD E E' dom P)) a (.string (E' a))=txM (mixD E E' dom (P++[a])):=by
 funext x;unfold y_Q txM mixD;by_cases e:x=a
 ·subst e;simp
 ·simp[e]
theorem mixD_all (E E':Nat->ByteArray) (dom P:List Nat) (h:∀k,k∈dom->k∉P->E k=E' k):mixD E E' dom P=atD E' (P.foldl z_J dom):=by
 funext x;unfold mixD atD;simp only[w_G];by_cases h1:x∈P
 ·simp[h1]
 ·by_cases h2:x∈dom
  ·simp[h1,h2,h x h2 h1]
  ·simp[h1,h2]
theorem x_O {α:Type} {l:List α} {i:Nat} {d:α} (h:i<l.length):l.getD i d=l[i]'h:=by rw[q_a,q_d h,Option.getD_some]
theorem tpT_zero (s t:Nat) (ch:Nat->ByteArray):tpT s t ch 0=z_L s ch:=by unfold tpT;rw[if_pos rfl]
theorem pathN_mem {s t q:Nat} (hs:sl s) (ht:t<s) (h:q∈z_p s t):1<=q/\q<s:=by
 unfold z_p at h;rcases hs with rfl|rfl
 ·simp at h;omega
 ·simp at h;omega
theorem addK_len (dom:List Nat) (a:Nat):(z_J dom a).length<=dom.length+1:=by
 unfold z_J;split
 ·omega
 ·simp
theorem v_2 (L:List Nat):∀dom:List Nat,(L.foldl z_J dom).length<=dom.length+L.length:=by
 induction L with
 | nil=>intro dom;simp
 | cons a L ih=>intro dom;rw[List.foldl_cons];have:=ih (z_J dom a);have:=addK_len dom a;simp;omega
theorem doP_len (s:Nat) (l:List Wr):(doP s l).length<=2*l.length:=by
 unfold doP
 suffices h:∀d:List Nat,(l.foldl (fun d x=>(z_p s x.at').foldl z_J d) d).length<=d.length+2*l.length by
  have:=h [];simpa using this
 induction l with
 | nil=>intro d;simp
 | cons x l ih =>
  intro d;rw[List.foldl_cons];have h1:=ih ((z_p s x.at').foldl z_J d);have h2:=v_2 (z_p s x.at') d
  have h3:(z_p s x.at').length<=2:=by rw[y_1];unfold dep;split<;>omega
  simp;omega
theorem doC_len (l:List Wr):(doC l).length<=l.length:=by
 unfold doC
 suffices h:∀d:List Nat,(l.foldl (fun d x=>z_J d x.at') d).length<=d.length+l.length by
  have:=h [];simpa using this
 induction l with
 | nil=>intro d;simp
 | cons x l ih=>intro d;rw[List.foldl_cons];have h1:=ih (z_J d x.at');have:=addK_len d x.at';simp;omega
theorem doP_lt {s:Nat} (hs:sl s) (l:List Wr) (h:∀x∈l,x.at'<s):∀q∈doP s l,1<=q/\q<s:=by
 unfold doP
 suffices hh:∀d:List Nat,(∀q∈d,1<=q/\q<s)->∀q∈l.foldl (fun d x=>(z_p s x.at').foldl z_J d) d,1<=q/\q<s from hh [] (by simp)
 induction l with
 | nil=>intro d hd;exact hd
 | cons x l ih =>
  intro d hd;rw[List.foldl_cons];refine ih (fun y hy=>h y (List.mem_cons_of_mem _ hy)) _ fun q hq=>?_;rcases (w_G _ _ _).1 hq with hq|hq
  ·exact hd q hq
  ·exact pathN_mem hs (h x (List.mem_cons_self ..)) hq
theorem doC_lt {s:Nat} (l:List Wr) (h:∀x∈l,x.at'<s):∀q∈doC l,q<s:=by
 unfold doC
 suffices hh:∀d:List Nat,(∀q∈d,q<s)->∀q∈l.foldl (fun d x=>z_J d x.at') d,q<s from hh [] (by simp)
 induction l with
 | nil=>intro d hd;exact hd
 | cons x l ih =>
  intro d hd;rw[List.foldl_cons];refine ih (fun y hy=>h y (List.mem_cons_of_mem _ hy)) _ fun q hq=>?_;rcases (z_9 _ _ _).1 hq with hq|rfl
  ·exact hd q hq
  ·exact h x (List.mem_cons_self ..)
theorem prT_offs {s:Nat} (hs:sl s) (ch:Nat->ByteArray) (l:List Wr) (h:∀x∈l,x.at'<s) (q:Nat) (h1:1<=q) (h2:q<s):∀j,j<=l.length->q∉doP s (l.take j)->prT s (chW ch (l.take j)) q=prT s ch q:=by
 intro j
 induction j with
 | zero=>intro _ _;rfl
 | succ j ih =>
  intro hj hq;have iQ:j<l.length:=hj;rw[doP_take s l j iQ,w_G] at hq;rw[chW_take ch l j iQ,prT_off hs (h _ (q_B iQ)) _ _ q h1 h2 fun h=>hq (.inr h)];exact ih (Nat.le_of_lt iQ) fun h=>hq (.inl h)
theorem take_mem {α:Type} {l:List α} {j:Nat} {P:α->Prop} (h:∀x∈l,P x):∀x∈l.take j,P x:=fun x hx=>h x (List.mem_of_mem_take hx)
section
variable {w:World} {b n i s:Nat} {key:List UInt8} {σ:Nat->DkS} {F:Nat->Prop}
theorem prep_over (hL:Lay w) (h:Bk w b n σ F) (hw:10<=w.heap.size) (hi:i<n) (hs:sl s) (hd:(σ i).dead=false) (ch:Nat->ByteArray) (l:List Wr) (hl:∀x∈l,x.at'<s) (wE:∀q,1<=q->q<s->tl (σ i).now (100+q)=prT s ch q) (j:Nat) (hj:j<=l.length) (t:Nat) (ht:t<s) (B1:Nat)
  (hM:MapA KI w B1 (txM (atD (prT s (chW ch (l.take j))) (doP s (l.take j)))) (doP s (l.take j))) :
  Cl 151 #[.agg (slC b i s key),.string (z_L s (chW ch (l.take j))),.int .i64 t,.map (some B1)] w fun e w'=>∃u le,e=.returned (.tuple #[u,.string le,.int .i64 0])/\z_g w' u (sv ((z_p s t).map (prT s (chW ch (l.take j)))))/\Kp NoB w w':=by
 generalize hC:chW ch (l.take j)=C at *;have key:=over_any (key:=key) y_R hL h hw hi hs ht (.map (some B1)) _ (txM_look hM) (prT s C) (tpT s t C) (fun k hk=>⟨fun y hy=>?_,fun hn=>⟨hd,?_⟩⟩) (way_ok hs ht C)
 rotate_left
 ·unfold atD at hy
  split at hy
  ·cases hy;rfl
  ·cases hy
 ·have hm:(z_p s t).getD k 0∈z_p s t:=by
   rw[x_O (by rw[y_1];exact hk)];exact q_B _
  obtain ⟨h1,h2⟩:=pathN_mem hs ht hm;rw[wE _ h1 h2,<-hC,prT_offs hs ch l hl _ h1 h2 j hj];intro bV;unfold atD at hn;rw[if_pos bV] at hn;cases hn
 rw[tpT_zero] at key;generalize z_L s C=tp at *;generalize tpT s t C=tq at *;generalize prT s C=E at *;refine key.mono ?_;rintro e w' ⟨u,rfl,h1,h2⟩;exact ⟨u,_,rfl,h1,h2⟩
theorem prep_put (hL:Lay w) (hw:10<=w.heap.size) (hs:sl s) (t:Nat) (ht:t<s) (ch:Nat->ByteArray) (c:ByteArray) (v:Value) (hv:z_g w v (sv ((z_p s t).map (prT s ch)))) :
  Cl 170 #[.int .i64 t,v,.string (z_h c)] w fun e w'=>∃u,e=.returned (.tuple #[u,.string (z_L s (y_I ch t c)),.int .i64 0])/\z_g w' u (sv ((z_p s t).map (prT s (y_I ch t c))))/\Kp NoB w w':=by
 have wF:tpT s t (y_I ch t c) (dep s)=z_h c:=by rw[tpT_last hs];simp[y_I]
 have hl:((z_p s t).map (prT s ch)).length=dep s:=by rw[q_i,y_1]
 have YN:∀i,i<dep s->tl ((z_p s t).map (prT s ch)) i=prT s ch ((z_p s t).getD i 0):=fun i hi=>tl_map _ _ _ (by rw[y_1];exact hi)
 have key:=tput_any w hL hw s t hs ht v _ hv hl (fun i=>prT s (y_I ch t c) ((z_p s t).getD i 0)) (tpT s t (y_I ch t c)) (by rw[wF,z_P]) (fun i hi=>by
  rw[YN i hi]
  exact ⟨w_H _ _ _,(put_ok hs ht ch c i hi).1,(put_ok hs ht ch c i hi).2⟩)
 rw[wF,tpT_zero] at key
 have e1:(List.range (dep s)).map (fun i=>prT s (y_I ch t c) ((z_p s t).getD i 0))=(z_p s t).map (prT s (y_I ch t c)):=by
  apply q_m (by simp[y_1]);intro i h1 h2
  have hi:i<(z_p s t).length:=by simpa using h2
  simp[q_a,hi]
 rw[e1] at key;generalize z_L s (y_I ch t c)=tp at *;generalize z_h c=le at *;generalize (z_p s t).map (prT s (y_I ch t c))=R at *;exact key
end
def lenS:Value->Nat
 | .slice _ n _=>n
 | _=>0
theorem sv_take_snoc (T:List ByteArray) (j:Nat) (h:j<T.length):sv (T.take j)++[.string (tl T j)]=sv (T.take (j+1)):=by
 rw[q_h h];unfold sv tl;rw[List.map_append,x_O h];rfl
section
variable {w:World} {b n an:Nat} {key:List UInt8} {σ:Nat->DkS} {F:Nat->Prop}
theorem mlog_dead (h:Bk w b n σ F) (an:Nat) (key:List UInt8) (i:Nat) (hi:i<n) (hd:(σ i).dead=true) (dg:ByteArray) :
  Cl 132 #[.agg (mdC b an key),.int .i64 i,.string dg] w fun e w'=>e=.returned (.tuple #[.slice none 0 0,.int .i64 20])/\Kp NoB w w':=by
 have HB:=Zz (Blk.new w 113 (mdC b an key));have HK:=Zz ((Kp.refl NoB w).alloc (.cells (mdC b an key) 113));have dc:=Zz (fun W (k:Kp NoB w W) at' (br:at'<140)=>x_L (h.no k) i at' hi br);rw[hd] at dc;simp only[if_true] at dc;clear h hd;change Cl 132 #[.agg #[.pointer (some ⟨b,0,none⟩),.pointer (some ⟨an,0,none⟩),.string (bs key)],.int .i64 i,.string dg] w _;go_enter func132,ntmps132
 go_upto_region 1 with fail
 change Code.wp _ _ _ _ (w.alloc (.cells (mdC b an key) 113));generalize w.alloc (.cells (mdC b an key) 113)=w1 at *;generalize w.heap.size=G at *
 go_upto_region 3 with fail
 go_loopw [8,9,10,11] (fun s8 s9 _ _ wr=>s8=.slice none 0 0/\s9=.int .i64 1/\wr=w1) (fun _ _ _ _ _=>0)
 case atStart=>exact ⟨rfl,rfl,rfl⟩
 case round =>
  obtain ⟨rfl,rfl,rfl⟩:=hrel;have m0:=HB.o.c0;go_wp2_with fail;refine (dc.o wr HK.o 2 (by decide)).mono ?_;rintro e w3 ⟨rfl,rfl⟩;go_wp2;go_ret2;exact ⟨rfl,HK.o⟩
theorem mlog_none (h:Bk w b n σ F) (an:Nat) (key:List UInt8) (i:Nat) (hi:i<n) (hd:(σ i).dead=false) (hc:tl (σ i).now 2=bs []) (dg:ByteArray) :
  Cl 132 #[.agg (mdC b an key),.int .i64 i,.string dg] w fun e w'=>e=.returned (.tuple #[.slice none 0 0,.int .i64 4])/\Kp NoB w w':=by
 have HB:=Zz (Blk.new w 113 (mdC b an key));have HK:=Zz ((Kp.refl NoB w).alloc (.cells (mdC b an key) 113))
 have dc:Hid (∀W,Kp NoB w W->Cl 130 #[.pointer (some ⟨b,0,none⟩),.int .i64 i,.int .i64 2] W fun e w'=>e=.returned (.tuple #[.string (bs []),.int .i64 0])/\w'=W):=Zz fun W k=>by
  have:=x_L (h.no k) i 2 hi (by decide);rw[hd,hc] at this;exact this
 have b6:Hid (∀W,Cl 128 #[.string (bs [])] W fun e w'=>e=.returned (.tuple #[.int .i64 0,.int .i64 4])/\Kp NoB W w'):=Zz fun W=>isize_any W [] (by decide);have kL:Hid (∀W:World,Own W W.heap.size 9 (.slice none 0 0) (sv [])):=Zz fun W=>Own.nil_ _ _ _;clear h hd hc;change Cl 132 #[.agg #[.pointer (some ⟨b,0,none⟩),.pointer (some ⟨an,0,none⟩),.string (bs key)],.int .i64 i,.string dg] w _;go_enter func132,ntmps132
 go_upto_region 1 with fail
 change Code.wp _ _ _ _ (w.alloc (.cells (mdC b an key) 113));generalize w.alloc (.cells (mdC b an key) 113)=w1 at *;generalize w.heap.size=G at *
 go_upto_region 3 with fail
 go_loopw [8,9,10,11] (fun s8 s9 _ _ wr=>s8=.slice none 0 0/\s9=.int .i64 1/\wr=w1) (fun _ _ _ _ _=>0)
 case atStart=>exact ⟨rfl,rfl,rfl⟩
 case round =>
  obtain ⟨rfl,rfl,rfl⟩:=hrel;have m0:=HB.o.c0;go_wp2_with fail;refine (dc.o wr HK.o).mono ?_;rintro e w3 ⟨rfl,rfl⟩;have gC:=Zz (kL.o w3)
  go_upto_region 8 with (at_builtin;refine x_d (w0:=w3) w3.heap.size rfl (.tmp 29) (.tmp 31) 38 9 (.string ⟨#[]⟩) 16 rfl underlying38 x_4 rfl (by decide) (.slice none 0 0) (sv []) (.string (bs [])) rfl rfl rfl gC.o (Below.refl _ _) (q_e _) (by decide) ?_;intro v1 w9 dL pN eR df;obtain ⟨A1,c1,rfl⟩:=dL.shape;have eE:=Zz eR;clear dL pN eR df)
  have aT:=Zz (HK.o.trans (Kp.of_grown eE.o (S:=NoB) fun q h=>by cases h));go_wp2_with fail;refine (b6.o w9).mono ?_;rintro e bO ⟨rfl,cd⟩;have cU:=Zz (aT.o.trans cd);clear cd m0;go_wp2;go_ret2;exact ⟨rfl,cU.o⟩
theorem mlog_ok (hL:Lay w) (h:Bk w b n σ F) (hw:10<=w.heap.size) (an:Nat) (key:List UInt8) (i:Nat) (hi:i<n) (hd:(σ i).dead=false) (l:List Wr) (hl:l.length<96) (bI:∀x∈l,x.ok) (hc:∀k,k<=l.length->tl (σ i).now (2+k)=tl (z_o l) k) :
  Cl 132 #[.agg (mdC b an key),.int .i64 i,.string (y_O (z_o l))] w fun e w'=>∃u,e=.returned (.tuple #[u,.int .i64 0])/\w'.ownsRow w.heap.size 240 2 u l.length (wrC l)/\Kp NoB w w':=by
 have HB:=Zz (Blk.new w 113 (mdC b an key));have HK:=Zz ((Kp.refl NoB w).alloc (.cells (mdC b an key) 113))
 have dc:Hid (∀W,Kp NoB w W->∀k,k<=l.length->Cl 130 #[.pointer (some ⟨b,0,none⟩),.int .i64 i,.int .i64 (2+k:Nat)] W fun e w'=>e=.returned (.tuple #[.string (tl (z_o l) k),.int .i64 0])/\w'=W):=Zz fun W kk k hk=>by
  have:=x_L (h.no kk) i (2+k) hi (by omega);rw[hd,hc k hk] at this;exact this
 have b6:Hid (∀W,Cl 128 #[.string (tl (z_o l) 0)] W fun e w'=>e=.returned (.tuple #[.int .i64 (l.length+1:Nat),.int .i64 0])/\Kp NoB W w'):=Zz fun W=>by
  have:=isize_any W (z_k l.length) (by rw[z_m];decide);rw[(siz_ok hl).1,(siz_ok hl).2] at this;exact this
 have wG:=Zz (fun W (k:Kp NoB w W) v (hv:z_g W v (sv (z_o l)))=>iget_any W (hL.no k) (by have:=k.size;omega) v l hv hl bI);have bj:=Zz (y_5 l);have kL:Hid (Own (w.alloc (.cells (mdC b an key) 113)) (w.alloc (.cells (mdC b an key) 113)).heap.size 9 (.slice none 0 0) (sv ((z_o l).take 0))):=Zz (Own.nil_ _ _ _);have dR:Hid (w.heap.size<=(w.alloc (.cells (mdC b an key) 113)).heap.size):=Zz (by simp);clear hL h hd hc bI hw;generalize Jf:y_O (z_o l)=dg at *;change Cl 132 #[.agg #[.pointer (some ⟨b,0,none⟩),.pointer (some ⟨an,0,none⟩),.string (bs key)],.int .i64 i,.string dg] w _;go_enter func132,ntmps132
 go_upto_region 1 with fail
 change Code.wp _ _ _ _ (w.alloc (.cells (mdC b an key) 113));generalize w.alloc (.cells (mdC b an key) 113)=w1 at *;obtain ⟨G,hG⟩:∃G,w.heap.size=G:=⟨_,rfl⟩;rw[hG] at HB dR ⊢;have cR:=Zz hG;clear hG;have aW:=Zz (Kp.refl NoB w1);obtain ⟨N,hN⟩:∃N,l.length+1=N:=⟨_,rfl⟩;rw[hN] at b6 bj;have HN:=Zz hN
 have YO:N<=96:=by omega
 have ja:0<N:=by omega
 clear hN
 go_upto_region 3 with fail
 go_loopw [8,9,10,11] (fun s8 s9 _ _ wr=>∃j:Nat,j<=N/\lenS s8=j/\s9=.int .i64 (if j=0 then 1 else (N:Int))/\Hid (Own wr w1.heap.size 9 s8 (sv ((z_o l).take j)))/\Hid (Kp NoB w1 wr)) (fun s8 _ _ _ _=>N-lenS s8)
 case atStart=>exact ⟨0,by omega,rfl,rfl,kL,aW⟩
 case round =>
  clear kL aW;obtain ⟨j,hj,aq,rfl,HO,bw⟩:=hrel
  have jP:((z_o l).take j).length=j:=by rw[q_l,bj.o];omega
  obtain ⟨A8,c8,rfl⟩:∃A c,u8=.slice A j c:=by
   obtain ⟨A,c,e⟩:=HO.o.shape;exact ⟨A,c,by rw[e,z_c,jP]⟩
  by_cases af:j<N
  ·have cF:j<(z_o l).length:=by rw[bj.o];exact af
   have hM:=HB.o.kp bw.o fun h=>h;have m0:=hM.c0;have HR:=Zz (dc.o wr (HK.o.trans bw.o) j (by have:=HN.o;omega));have aR:Hid (sv ((z_o l).take j)++[.string (tl (z_o l) j)]=sv ((z_o l).take (j+1))):=Zz (sv_take_snoc _ j cF);have aj:=bw.o.size;clear hM;by_cases Jh:j=0
   ·subst Jh
    have NM:=b6;generalize tl (z_o l) 0=ck at *;go_wp2_with fail;refine HR.o.mono ?_;rintro e w3 ⟨rfl,rfl⟩
    go_upto_region 8 with (at_builtin;refine x_d (w0:=w3) w1.heap.size rfl (.tmp 29) (.tmp 31) 38 9 (.string ⟨#[]⟩) 16 rfl underlying38 x_4 rfl (by decide) _ _ (.string ck) rfl rfl rfl HO.o ((Below.refl _ _).mono aj) aj (by rw[z_c,jP];omega) ?_;intro v1 w9 dL pN eR df;obtain ⟨A1,c1,rfl⟩:∃A c,v1=.slice A (0+1) c:=(by obtain ⟨A,c,e⟩:=dL.shape;exact ⟨A,c,by rw[e,q_b,z_c,jP];rfl⟩);have cT:=Zz dL;have eE:=Zz eR;clear dL pN eR df)
    have aC:=Kp.of_grown eE.o (S:=fun q=>some q=(Value.slice A8 (0) c8).ownBlock) fun _ h=>h;have aT:=Zz (bw.o.then aC fun q hq h=>by have:=(HO.o.lt q h.symm).1;omega);rw[aR.o] at cT;clear aC;go_wp2_with fail;refine (NM.o w9).mono ?_;rintro e bO ⟨rfl,cd⟩;have cU:=Zz (aT.o.trans cd);have fC:=Zz (cT.o.kp cd fun _ _ h=>h);clear cd m0;go_wp2;go_roundw
    case rel=>exact ⟨1,by omega,rfl,rfl,fC,cU⟩
    case measure=>simp[lenS];omega
   ·have YP:(j:Int)<(N:Int):=by omega
    have h2j:(2:Int)+(j:Int)=((2+j:Nat):Int):=by omega
    have NN:IntKind.i64.wrap ((2+j:Nat):Int)=((2+j:Nat):Int):=by rw[q_r];omega
    have YQ:¬(j+1=1):=by omega
    have SG:¬(((j+1:Nat):Int)=1):=by omega
    have SH:(((j+1:Nat):Int)==1)=false:=by rw[q_o];omega
    simp only[Jh,if_false];generalize tl (z_o l) j=ck at *;generalize 2+j=jj at *;go_wp2_with fail;refine HR.o.mono ?_;rintro e w3 ⟨rfl,rfl⟩
    go_upto_region 8 with (at_builtin;refine x_d (w0:=w3) w1.heap.size rfl (.tmp 29) (.tmp 31) 38 9 (.string ⟨#[]⟩) 16 rfl underlying38 x_4 rfl (by decide) _ _ (.string ck) rfl rfl rfl HO.o ((Below.refl _ _).mono aj) aj (by rw[z_c,jP];omega) ?_;intro v1 w9 dL pN eR df;obtain ⟨A1,c1,rfl⟩:∃A c,v1=.slice A (j+1) c:=(by obtain ⟨A,c,e⟩:=dL.shape;exact ⟨A,c,by rw[e,q_b,z_c,jP];rfl⟩);have cT:=Zz dL;have eE:=Zz eR;clear dL pN eR df)
    have aC:=Kp.of_grown eE.o (S:=fun q=>some q=(Value.slice A8 (j) c8).ownBlock) fun _ h=>h;have aT:=Zz (bw.o.then aC fun q hq h=>by have:=(HO.o.lt q h.symm).1;omega);rw[aR.o] at cT;clear aC;go_wp2;go_roundw
    case rel=>exact ⟨j+1,by omega,rfl,rfl,cT,aT⟩
    case measure=>simp[lenS];omega
  ·obtain rfl:j=N:=by omega
   have Jh:¬j=0:=by omega
   simp only[Jh,if_false]
   have bH:z_g wr (.slice A8 j c8) (sv (z_o l)):=by
    have:=HO.o.reads
    rwa [q_t (Nat.le_of_eq bj.o)] at this
   have HX:=Zz (wG.o wr (HK.o.trans bw.o) _ bH);clear bH;go_wp2_with fail;refine HX.o.mono ?_;rintro e fa ⟨u,rfl,hu,bX⟩;have HU:=Zz (w_r hu (HK.o.trans bw.o).size);have cW:=Zz ((HK.o.trans bw.o).trans bX);clear hu bX;go_wp2;go_ret2;exact ⟨_,rfl,HU.o,cW.o⟩
end
def LogOk (σ:DkS) (lg:ByteArray):Option (List Wr)->Prop
 | none=>tl σ.now 2=bs []
 | some l=>l.length<96/\0<l.length/\(∀x∈l,x.ok)/\(∀k,k<=l.length->tl σ.now (2+k)=tl (z_o l) k)/\lg=y_O (z_o l)
def w_b (σ:DkS) (st:Nat) (L:Option (List Wr)):DkS:=if st=1/\σ.dead=false then (match L with|some l=>(σ.wrs l).flush|none=>σ) else σ
def stA (S:Sup) (i:Nat):Nat:=(S.mem[i]?.map Mem.st).getD 0
theorem x_6 {S:Sup} {i:Nat} (h:i<S.mem.length):stA S i=(S.mem[i]'h).st:=by simp[stA,h]
def z_2 (σ:Nat->DkS) (S:Sup) (L:Nat->Option (List Wr)) (k:Nat):Nat->DkS:=fun j=>if j<k then w_b (σ j) (stA S j) (L j) else σ j
section
variable (σ:Nat->DkS) (S:Sup) (L:Nat->Option (List Wr))
theorem repD_zero:z_2 σ S L 0=σ:=by funext j;simp[z_2]
theorem v_m (k:Nat):z_2 σ S L k k=σ k:=by simp[z_2]
theorem repD_succ (k:Nat):z_A (z_2 σ S L k) k (w_b (σ k) (stA S k) (L k))=z_2 σ S L (k+1):=by
 funext j;unfold z_A z_2;by_cases e:j=k
 ·subst e;simp
 ·have:(j<k+1)=(j<k):=by rw[eq_iff_iff];omega
  simp only[e,if_false,this]
theorem repD_same (k:Nat) (h:w_b (σ k) (stA S k) (L k)=σ k):z_2 σ S L (k+1)=z_2 σ S L k:=by
 funext j;unfold z_2;by_cases e:j=k
 ·subst e;simp[h]
 ·have:(j<k+1)=(j<k):=by rw[eq_iff_iff];omega
  simp only[this]
end
section
variable {w:World} {b n an:Nat} {key:List UInt8} {σ:Nat->DkS} {F:Nat->Prop}
theorem replay_any (hL:Lay w) (h:Bk w b n σ F) (hw:10<=w.heap.size) (an:Nat) (hk:key.length=32) (S:Sup) (vs vm:Value) (hS:SupOk S) (gi:S.mem.length=n) (hR:SupO w 10 S vs vm) (L:Nat->Option (List Wr)) (mO:∀j (h:j<S.mem.length),(S.mem[j]'h).st=1->(σ j).dead=false->LogOk (σ j) (S.mem[j]'h).log (L j)) (fy:∀j,j<n->(σ j).wait<=500) :
  Cl 88 #[.agg (mdC b an key),.agg (z_N S vs vm)] w fun e w'=>e=.returned (.int .i64 0)/\∃F',Gr w F F'/\Bk w' b n (z_2 σ S L n) F'/\Kp F w w':=by
 have HB:=Zz ((Blk.new w 113 (mdC b an key)).alloc (.cells (z_N S vs vm) 60));have HK:=Zz (((Kp.refl NoB w).alloc (.cells (mdC b an key) 113)).alloc (.cells (z_N S vs vm) 60));have HC:=Zz (Blk.new (w.alloc (.cells (mdC b an key) 113)) 60 (z_N S vs vm));rw[World.size_alloc] at HC;have jH:=Zz (fun W m (hm:m.st<=2)=>works_any W m hm);have oG:=Zz (fun W σ' F' (hb:Bk W b n σ' F') i (hi:i<n) (hd:(σ' i).dead=true) dg=>mlog_dead hb an key i hi hd dg);have jr:=Zz (fun W σ' F' (hb:Bk W b n σ' F') i (hi:i<n) (hd:(σ' i).dead=false) (hc:tl (σ' i).now 2=bs []) dg=>mlog_none hb an key i hi hd hc dg);have ya:=Zz (fun W σ' F' (hb:Bk W b n σ' F') (hL:Lay W) (bE:10<=W.heap.size) i (hi:i<n) (hd:(σ' i).dead=false) l hl bI hc=>mlog_ok hL hb bE an key i hi hd l hl bI hc);have fx:=Zz (fun W i=>w_j W b an i S.slots key);have ph:=Zz (fun W σ' F' (hb:Bk W b n σ' F') (hL:Lay W) (bE:10<=W.heap.size) i (hi:i<n) v l (hv:∀W',Kp F' W W'->z_Q W' v 2 l.length (wrC l)) (hl:l.length<=1000) (bI:∀x∈l,x.ok) (fy:(σ' i).wait<=500) (hd:(σ' i).dead=false)=>v_U y_R hL hb bE hi hS.sl hk v l hv hl bI (by omega) hd);have gB:=Zz (fun W (k:Kp F w W)=>(hR.kp k (h.offRow hR.seats (by unfold tyB;decide)) (h.offRow hR.mems (by unfold tyB;decide))));have eS:=Zz (h.no HK.o);have bj:=Zz (hL.no HK.o);have fG:=Zz (fun q (hq:F q)=>h.lt hq);have Fl:=Zz mO;have kG:=Zz fy;have aR:=Zz (fun i h=>hS.st2 i h);have NO:=Zz (fun i h=>x_p S.mem i h);have ow:Hid (¬F w.heap.size/\¬F (w.heap.size+1)):=Zz ⟨h.offNew (q_e _),h.offNew (by omega)⟩;have fM:=Zz hw
 have dy:n<=12:=by rw[<-gi];exact hS.n12
 have NP:=Zz (fun i (h:i<S.mem.length)=>x_6 h);obtain ⟨As,cs,Am,cm,cQ,cq⟩:=hR.reads.shape
 have zr:0<S.mem.length:=by have:=hS.n1;omega
 obtain ⟨rb,off,mE,_⟩:=hR.reads.memAt (Kp.refl _ _) cq zr;subst mE;have ir:=Zz (hR.no HK.o);have NQ:Hid (∀W,SupO W 10 S vs vm->∃rY gz,some (⟨rb,off,none⟩:Addr)=some ⟨rY,gz,none⟩/\∀i (h:i<S.mem.length),W.cell? ⟨rY,gz+i*3,none⟩=some (.int .i64 ((S.mem[i]'h).st:Int))/\W.cell? ⟨rY,gz+i*3+1,none⟩=some (.string (S.mem[i]'h).top)/\W.cell? ⟨rY,gz+i*3+2,none⟩=some (.string (S.mem[i]'h).log)):=Zz fun W cP=>cP.reads.memAt (Kp.refl _ _) cq zr;have q9:=Zz gi;have Fm:Hid (∀W,Kp F (w.alloc (.cells (mdC b an key) 113) |>.alloc (.cells (z_N S vs vm) 60)) W->SupO W 10 S vs vm):=Zz fun W k=>ir.o.kp k (eS.o.offRow ir.o.seats (by unfold tyB;decide)) (eS.o.offRow ir.o.mems (by unfold tyB;decide));rw[gi] at cq;subst cQ cq;clear hL h hw hS hR mO fy ir gB NO;have Fn:z_N S (.slice As (S.data+2) cs) (.slice (some ⟨rb,off,none⟩) n cm)=#[.int .u64 S.count,.int .u64 S.epoch,.int .i64 S.data,.int .i64 S.slots,.int .i64 0,.int .i64 0,.bool false,.slice As (S.data+2) cs,.slice (some ⟨rb,off,none⟩) n cm]:=rfl;rw[Fn] at HB HC HK eS bj Fm ⊢;rw[gi] at zr;clear gi Fn;change Cl 88 #[.agg #[.pointer (some ⟨b,0,none⟩),.pointer (some ⟨an,0,none⟩),.string (bs key)],_] w _;go_enter func88,ntmps88
 go_upto_region 1 with fail
 change Code.wp _ _ _ _ ((w.alloc (.cells (mdC b an key) 113)).alloc (.cells #[.int .u64 S.count,.int .u64 S.epoch,.int .i64 S.data,.int .i64 S.slots,.int .i64 0,.int .i64 0,.bool false,.slice As (S.data+2) cs,.slice (some ⟨rb,off,none⟩) n cm] 60));generalize (w.alloc (.cells (mdC b an key) 113)).alloc (.cells #[.int .u64 S.count,.int .u64 S.epoch,.int .i64 S.data,.int .i64 S.slots,.int .i64 0,.int .i64 0,.bool false,.slice As (S.data+2) cs,.slice (some ⟨rb,off,none⟩) n cm] 60)=w1 at *;obtain ⟨G,hG⟩:∃G,w.heap.size=G:=⟨_,rfl⟩;rw[hG] at HB HC ow ⊢;have cR:=Zz hG;clear hG;have c8:=HC.o.c8;have iK:Hid (∃F',Gr w1 F F'/\Bk w1 b n (z_2 σ S L 0) F'):=Zz ⟨F,Gr.refl _ _,by rw[repD_zero];exact eS.o⟩;have bZ:=Zz (Kp.refl F w1)
 go_upto_region 2 with fail
 clear c8
 go_loopw [5,6,7,8,12] (fun _ _ _ _ s12 wr=>∃i:Nat,i<=n/\s12=.int .i64 i/\Hid (∃F',Gr w1 F F'/\Bk wr b n (z_2 σ S L i) F')/\Hid (Kp F w1 wr)) (fun _ _ _ _ s12 _=>n-(intOf s12).toNat)
 case atStart=>exact ⟨0,by omega,rfl,iK,bZ⟩
 case round =>
  clear iK bZ;obtain ⟨i,hi,rfl,HX,bw⟩:=hrel;obtain ⟨F1,bu,ay⟩:=HX.o;have cC:=Zz bu;have bh:=Zz ay;have dF:=Zz (HB.o.kp bw.o ow.o.1);have ox:=Zz (HC.o.kp bw.o ow.o.2);have kP:=Zz (bj.o.kp bw.o fun g hg hf=>by have:=(fG.o g hf).1;omega);have oB:Hid (10<=wr.heap.size):=Zz (by have:=fM.o;have:=HK.o.size;have:=bw.o.size;omega);clear bu ay HX;by_cases af:i<n
  ·have bV:(i:Int)<(n:Int):=by omega
   have bt:i<S.mem.length:=by rw[q9.o];exact af
   obtain ⟨rY,gz,he,aa⟩:=NQ.o wr (Fm.o wr bw.o);cases he;obtain ⟨k0,k1,k2⟩:=aa i bt;have aH:=aR.o i bt;have zt:=Zz (Fl.o i bt);have tQ:=Zz (NP.o i bt);have NR:=Zz (kG.o i af);have zu:=Zz (fun W=>jH.o W (S.mem[i]'bt) aH);clear aa;obtain ⟨⟨st,tp,lg⟩,hx⟩:∃x,S.mem[i]'bt=x:=⟨_,rfl⟩;rw[hx] at k0 k1 k2 aH zt tQ zu
   dsimp only at k0 k1 k2 aH zt tQ zu
   clear hx;have eF:=Zz (Blk.new wr 108 #[.int .i64 st,.string tp,.string lg]);have bn:=Zz ((Kp.refl NoB wr).alloc (.cells #[.int .i64 st,.string tp,.string lg] 108));have rP:¬F1 wr.heap.size:=bh.o.offNew (q_e _);have eu:=Zz rP;clear rP
   go_upto_region 4 with fail
   clear k0 k1 k2;generalize wr.alloc (.cells #[.int .i64 st,.string tp,.string lg] 108)=w2 at *;obtain ⟨D,hD⟩:∃D,wr.heap.size=D:=⟨_,rfl⟩;rw[hD] at eF eu ⊢;clear hD;have d0:=eF.o.c0;have d1:=eF.o.c1;have d2:=eF.o.c2;go_wp2_with fail;refine (zu.o w2).mono ?_;rintro e w3 ⟨rfl,au⟩;have ar:=Zz (bn.o.trans au);have sO:=Zz (eF.o.kp au fun h=>h);clear au d0 d1 d2 bn eF;by_cases im:st=1
   ·subst im
    have Ji:=Zz (dF.o.kp ar.o fun h=>h);have m0:=Ji.o.c0;have m1:=Ji.o.c1;have m2:=Ji.o.c2;have d2:=sO.o.c2
    cases hd:(σ i).dead with
    | true =>
     have db:(z_2 σ S L i i).dead=true:=by rw[v_m];exact hd
     have pj:w_b (σ i) (stA S i) (L i)=σ i:=by unfold w_b;rw[if_neg];rintro ⟨_,h⟩;rw[hd] at h;cases h
     have lX:=Zz pj;have HX:=Zz (oG.o w3 _ F1 (bh.o.no ar.o) i af db lg);clear db pj;go_wp2_with fail;refine HX.o.mono ?_;rintro e w4 ⟨rfl,aw⟩;have az:=Zz (ar.o.trans aw);clear aw m0 m1 m2 d2;have qU:Hid (∃F',Gr w1 F F'/\Bk w4 b n (z_2 σ S L (i+1)) F'):=Zz ⟨F1,cC.o,by rw[repD_same σ S L i lX.o];exact bh.o.no az.o⟩;have aT:=Zz (bw.o.then az.o fun _ _ h=>h.elim);clear bw bh cC;go_wp2;go_roundw
     case rel=>exact ⟨i+1,by omega,by go_num,qU,aT⟩
     case measure=>simp[intOf];omega
    | false =>
     have db:(z_2 σ S L i i).dead=false:=by rw[v_m];exact hd
     have kN:=zt.o rfl hd
     cases zw:L i with
     | none =>
      rw[zw] at kN
      have pj:w_b (σ i) (stA S i) (L i)=σ i:=by unfold w_b;rw[zw];split<;>rfl
      have lX:=Zz pj;have HX:=Zz (jr.o w3 _ F1 (bh.o.no ar.o) i af db (by rw[v_m];exact kN) lg);clear db pj kN;go_wp2_with fail;refine HX.o.mono ?_;rintro e w4 ⟨rfl,aw⟩;have az:=Zz (ar.o.trans aw);clear aw m0 m1 m2 d2;have qU:Hid (∃F',Gr w1 F F'/\Bk w4 b n (z_2 σ S L (i+1)) F'):=Zz ⟨F1,cC.o,by rw[repD_same σ S L i lX.o];exact bh.o.no az.o⟩;have aT:=Zz (bw.o.then az.o fun _ _ h=>h.elim);clear bw bh cC;go_wp2;go_roundw
      case rel=>exact ⟨i+1,by omega,by go_num,qU,aT⟩
      case measure=>simp[intOf];omega
     | some l =>
      rw[zw] at kN;obtain ⟨l1,l2,l3,l4,l5⟩:=kN
      have pj:w_b (σ i) (stA S i) (L i)=((σ i).wrs l).flush:=by unfold w_b;rw[zw,if_pos ⟨tQ.o,hd⟩]
      have lX:=Zz pj;have HX:=Zz (ya.o w3 _ F1 (bh.o.no ar.o) (kP.o.no ar.o) (by have:=ar.o.size;have:=oB.o;omega) i af db l l1 l3 (by rw[v_m];exact l4));have Fo:=Zz (fun W hb hL bE v hv=>ph.o W (z_2 σ S L i) F1 hb hL bE i af v l hv (by omega) l3 (by rw[v_m];exact NR.o) db);rw[<-l5] at HX;have lv:=Zz l2;have kz:=l1;clear db pj l1 l3 l4 l5;obtain ⟨len,aq⟩:∃len,l.length=len:=⟨_,rfl⟩;rw[aq] at HX Fo l2 kz
      have LJ:(0:Int)<(len:Int):=by omega
      have fu:=Zz aq;clear aq;go_wp2_with fail;refine HX.o.mono ?_;rintro e w4 ⟨u,rfl,hu,aw⟩;have HU:=Zz hu;have az:=Zz (ar.o.trans aw);have SI:=Zz ((ox.o.kp az.o fun h=>h));have Jj:=Zz ((dF.o.kp az.o fun h=>h));obtain ⟨Au,cu,rfl⟩:=z_r hu;clear hu aw m0 m1 m2 d2 Ji;have m0:=Jj.o.c0;have m1:=Jj.o.c1;have m2:=Jj.o.c2;have e3:=SI.o.c3;go_wp2_with fail;refine (fx.o w4 i).mono ?_;rintro e w5 ⟨rfl,aG⟩;have ax:=Zz (az.o.trans aG);have BH:=Zz (z_e HU.o aG fun _ _ h=>h);have aY:=Zz (bh.o.no ax.o);clear aG m0 m1 m2 e3 Jj SI HU;go_wp2_with fail;refine (Fo.o w5 aY.o (kP.o.no ax.o) (by have:=ax.o.size;have:=oB.o;omega) _ (fun W' hk=>y_x (z_e BH.o hk (aY.o.offRow BH.o (by unfold tyB;decide))))).mono ?_;rintro e w6 ⟨rfl,F2,bJ,am,ag⟩;rw[v_m,<-lX.o,repD_succ] at am;have qU:Hid (∃F',Gr w1 F F'/\Bk w6 b n (z_2 σ S L (i+1)) F'):=Zz ⟨F2,cC.o.then bJ (q_g bw.o.size ax.o.size),am⟩;have aT:=Zz ((bw.o.then ax.o fun _ _ h=>h.elim).then ag fun q hq hf=>cC.o q hq hf);clear bJ am ag bw bh cC BH aY;go_wp2;go_roundw
      case rel=>exact ⟨i+1,by omega,by go_num,qU,aT⟩
      case measure=>simp[intOf];omega
   ·have NS:decide (st=1)=false:=q_v im
    have pj:w_b (σ i) (stA S i) (L i)=σ i:=by unfold w_b;rw[if_neg];rintro ⟨h,_⟩;rw[tQ.o] at h;exact im h
    have lX:=Zz pj;clear pj;rw[NS];have qU:Hid (∃F',Gr w1 F F'/\Bk w3 b n (z_2 σ S L (i+1)) F'):=Zz ⟨F1,cC.o,by rw[repD_same σ S L i lX.o];exact bh.o.no ar.o⟩;have aT:=Zz (bw.o.then ar.o fun _ _ h=>h.elim);clear bw bh cC;go_wp2;go_roundw
    case rel=>exact ⟨i+1,by omega,by go_num,qU,aT⟩
    case measure=>simp[intOf];omega
  ·obtain rfl:i=n:=by omega
   go_wp2;go_ret;exact ⟨rfl,F1,fun q hq hf=>cC.o q (q_f hq HK.o.size) hf,bh.o,(HK.o.mono fun _ _ h=>h.elim).trans bw.o⟩
end
end Go.Proofs.YtdkheklakfbeeaaGreatDoor
