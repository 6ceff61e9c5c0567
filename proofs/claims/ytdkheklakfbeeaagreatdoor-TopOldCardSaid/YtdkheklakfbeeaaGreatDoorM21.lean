/- Part 21 of the proof. -/
import Derived.ProofKit
import Derived.OpenShut
import Derived.SliceStrings
import Derived.Test.YtdkheklakfbeeaaGreatDoorRows
import Derived.LaidMore
import Derived.Lib.LaidTab
import Derived.Deep.Slices
import Derived.Deep.Fields
import Derived.Test.YtdkheklakfbeeaaGreatDoorM20
set_option linter.all false
set_option maxRecDepth 100000
set_option maxHeartbeats 16000000
namespace Go.Proofs.YtdkheklakfbeeaaGreatDoor
open Go.RowKit Go.Proofs.Tryz
variable {B:Nat->B_}{D:List Nat}{Ft:Nat->Prop}{I dom:List B_}{P Q:B_->Prop}{W w:W_}{b b0 base d gt i m n p s z:Nat}{f:Nat->Option B_}{g:B_->Option B_}{ok:Bool}{v:Value}{σ:Nat->ao}
structure Wz (w w':W_) (z p:Nat) (cs:Array Value) (Ft:Nat->Prop):Prop where
 hz:ab w' z 43 cs
 k:Kp ac w w'
 F:∀q,Ft q->w.heap.size<=q/\q≠z
def Wz.step {w' w'':W_} {cs:Array Value} {Ft':Nat->Prop} (h:Wz w w' z p cs Ft) (hg:Gr w' Ft Ft') (k:Kp Ft w' w''):Wz w w'' z p cs Ft':=by
 refine ⟨h.hz.kp k fun g=>(h.F _ g).2 rfl,h.k.then k fun q i g=>?_,fun q i=>?_⟩
 ·have:=(h.F _ g).1
  omega
 by_cases e:q<w'.heap.size
 ·exact h.F q (hg q e i)
 have:=h.hz.lt;have:=h.k.size;omega
def lvB:Nat->B_:=fun k=>(xn (fun _=>none) 3 (bs dX) k).getD (bs gy)
def l3:cj:=qa 2 2 5
def Dg:Nat->ao:=MX 2 2 5
def ln:cj:=dZ l3 Dg 5 (fun _=>eD) LA
def Gn:Nat->ao:=l1 l3 Dg 5 (fun _=>eD) LA
def R_:Nat->ao:=dY Gn 0 (Gn 0).fail
def vu:Nat->ao:=dY R_ 2 (R_ 2).fail
def lvLg:Nat->Option (List Wr):=fun j=>some (wM 2 (fun _=>eD) LA j)
def vY:Nat->ao:=eY (e6 vu ln lvLg 5) ((ln.count+1) % 2) (bs (bh (eG ln))) 5
def lv_cnt0:cS (go 2 (xn (fun _=>none) 3 (bs dX)) 0) 2=0:=by rfl
def zK:cS (go 2 (xn (fun _=>none) 3 (bs dX)) 1) 2=1:=by rfl
def lv_stp:fi 2 lvB 1=lvZ:=by rfl
def lv_all:eg (fi 2 lvB 1)=lvC:=by
 have hs:MU lvZ 32:=fun j e=>by
  have e:j<2:=e;rcases (show j=0\/j=1 by omega) with rfl|rfl<;>rfl
 rw[lv_stp];unfold eg;rw[hs.enP d_ d_ d_,hs.enQ d_ d_ d_];rfl
def lv_synL:FZ l3 dX (fun t=>cS (go l3.data (xn (fun _=>none) 3 (bs dX)) t) l3.data) (fun t=>eg (i1 l3.data (xn (fun _=>none) 3 (bs dX)) (eg (fi l3.data (fun _=>bs gy) t)) t)) 0 l3.slots=LA:=by
 simp only[MQ];show FZ l3 dX (fun t=>cS (go 2 (xn (fun _=>none) 3 (bs dX)) t) 2) (fun t=>eg (fi 2 lvB t)) 0 2=LA;rw[FZ,FZ,FZ];simp only[lv_cnt0,zK,lv_all];rfl
def AU:gQ 5 dX l3 Dg (fun _=>eD) (fun _=>bs gy):=(wO dX d_ d_ (by unfold sl;omega) d_ d_).1
def kT:∀i,(Dg i).dead=false:=(wO (d:=2) (s:=2) (n:=5) dX d_ d_ (by unfold sl;omega) d_ d_).2.2.1
def CQ:∀i,i<4->bad l3 Dg i=false:=(wO (d:=2) (s:=2) (n:=5) dX d_ d_ (by unfold sl;omega) d_ d_).2.2.2
def DY:i7 l3 Dg=0:=by
 unfold i7;rw[if_pos];show cS (bad l3 Dg) 4<=2;rw[w_B 4 (q:=fun _=>false) CQ];decide
def lv_one:(ln=dZ (qa 2 2 5) (fun _=>dk0) 5 (fun _=>eD) LA):=WO _ _ _ _ _ _ fun i=>by rw[kT];rfl
def lv_fz:∀k y,xn (fun _=>none) 3 (bs dX) k=some y->y.size=32:=fun k y h=>by
 unfold xn at h;split at h
 ·injection h with h;subst h;rfl
 cases h
def lv_ok1 (h:e_ l3 dX (fun t=>cS (go l3.data (xn (fun _=>none) 3 (bs dX)) t) l3.data) (fun t=>i1 l3.data (xn (fun _=>none) 3 (bs dX)) (eg (fi l3.data (fun _=>bs gy) t)) t) l3.slots LA) :
  gQ 5 dX ln Gn (fun j=>dp eD (lC LA j)) lvB/\zX ln Gn lvLg/\(∀i,i<5->tl (Gn i).now 0=bs (bh l3))/\∀i,i<4->bad ln Gn i=false:=by
 obtain ⟨g,k,l,m⟩:=AU.synced (show 2<1000 by decide) lv_fz h (t0:=1) (show 1<2 by decide) (show 0<cS (go 2 _ 1) 2 by rw[zK];decide);refine ⟨g,k,fun i e=>(l i e (kT i)).trans (AU.rc i e (kT i)),fun i e=>(m i o_).trans (CQ i e)⟩
def Zw (i:Nat):(Gn i).dead=false:=by
 show (l1 _ _ _ _ _ i).dead=false;rw[v_7];exact kT i
def lv_bad3 (h:∀i,i<4->bad ln Gn i=false):∀i,i<4->bad ln vu i=decide (i=0\/i=2):=fun i e=>by
 unfold vu;rw[FJ];unfold R_;rw[FJ,h i e];simp
def Wu (h:∀i,i<5->tl (Gn i).now 0=bs (bh l3)):∀i,i<5->(vu i).dead=false->tl (vu i).now 0=bs (bh l3):=fun i j g=>by
 unfold vu at g ⊢;by_cases e:i=2
 ·subst e;rw[P_] at g;cases g
 rw[Vu _ _ e] at g ⊢;unfold R_ at g ⊢;by_cases e:i=0
 ·subst e;rw[P_] at g;cases g
 rw[Vu _ _ e] at g ⊢;exact h i j
def QR:(vu 1).dead=false:=by
 unfold vu;rw[Vu _ _ d_];unfold R_;rw[Vu _ _ d_];exact Zw 1
def W1:(bh l3).length<=2048:=by
 rw[show l3=_ from TU];decide +kernel
section
variable {v q:Nat} {kept:Value} 
def SX (m:a_ w) (q:10<=w.heap.size) (g:gQ 5 dX ln Gn (fun j=>dp eD (lC LA j)) lvB) (k:zX ln Gn lvLg) (l:∀i,i<5->tl (Gn i).now 0=bs (bh l3)) (h:Mu w p b v 5 ln.count dX (dC (bh ln)) vu [0,2] kept Ft) :
  Cl 23 #[.pointer (some ⟨v,0,none⟩)] w fun e w'=>e=.returned (.int .i64 0)/\∃Ft',Gr w Ft Ft'/\Mc w' p b v 5 0 dX (eG ln) vY (fun _=>none) [] [0,2] kept Ft'/\Kp Ft w w' :=
 ue m q rfl ((g.kill 0).kill 2) ((k.kill 0).kill 2) (show 0<3 by decide) (show 3<1000 by decide) (show 2<1000 by decide) h ⟨1,d_,QR⟩ fun _ i o n=>⟨bh l3,Wu l i o n,W1,.inr (by
  have:=Sf;rw[<-lv_one] at this
  exact this)⟩
def lv_read (r:a_ w) (u:10<=w.heap.size) (m:gQ 5 dX ln Gn (fun j=>dp eD (lC LA j)) lvB) (n:zX ln Gn lvLg) (o:∀i,i<4->bad ln Gn i=false) (h:Mc w p b v 5 q dX (eG ln) vY (fun _=>none) [] [0,2] kept Ft) :
  Cl 11 #[.pointer (some ⟨v,0,none⟩),.int .i64 3] w fun e w'=>e=.returned (.tuple #[.string (bs dX),.int .i64 0])/\Kp ac w w':=by
 obtain ⟨x,y,a⟩:=((m.kill 0).kill 2).opened ((n.kill 0).kill 2) (show 3<1000 by decide) (show 2<1000 by decide)
 have z:cS (bad (eG ln) vY) 4<=2:=by
  have e:cS (bad (eG ln) vY) 4=cS (fun i=>decide (i=0\/i=2)) 4:=w_B 4 fun i s=>(y i).trans (lv_bad3 o i s);rw[e];decide
 have t:=LM r u rfl x h 3 (show 3<2*2 by decide)
 have k:rdB (eG ln) vY lvB 3=bs dX:=if_neg fun g=>by
  have:2<cS (bad (eG ln) vY) 4:=g.2;omega
 have l:rdE (eG ln) vY 3=0:=if_neg fun g=>by
  have:2<cS (bad (eG ln) vY) 4:=g.2;omega
 refine t.mono ?_;rintro e w' ⟨rfl,hk⟩;refine ⟨?_,hk⟩;show Ending.returned (.tuple #[.string (rdB (eG ln) vY lvB 3),.int .i64 (rdE (eG ln) vY 3)])=_;rw[k,l]
def Oo (h1:a_ w) (H2:10<=w.heap.size):Cl 6 #[] w fun e w'=>e=.returned (.bool true)/\Kp ac w w':=by
 have x:=Zz h1;have M:=Zz (xl h1 H2 2 2 1 d_ d_ (by unfold sl;omega) d_);change Hid (Calls _ _ _ w fun e w'=>∃z p b v gt T S Ft,e=.returned (.tuple #[.pointer (some ⟨z,0,none⟩),.bool true])/\ab w' z 43 (vP p T S (.slice none 0 0) gt true)/\_/\_/\Mc w' p b v 5 0 dX l3 Dg (fun _=>none) [] [] (.slice none 0 0) Ft/\_) at M;have H8:(⟨#[48,49,50,51,52,53,54,55,56,57,97,98,99,100,101,102,48,49,50,51,52,53,54,55,56,57,97,98,99,100,101,102]⟩:B_)=bs dX:=rfl;have X:=Zz lv_ok1;go_enter func6,ntmps6;go_wp2_with fail;refine M.o.mono ?_;rintro e d ⟨z,p,b,v,gt,T,S,Ft,rfl,hz,_,_,hm,hF,_,_,⟨h5,_,h7,_⟩,hk⟩;have o:=Zz hm;have W:=Zz (⟨hz,hk,fun q h2=>⟨hF q h2,fun e=>h5 (by rw[<-e];exact h2)⟩⟩:Wz w d z p (vP p T S (.slice none 0 0) gt true) Ft);clear hz hm hF h5 hk M h7;have N:=Zz (o.o.no (Kp.refl ac d).drew);have y:=Zz (W.o.step (Ft':=Ft) (fun _ _ h=>h) (((Kp.refl ac d).drew).mono fun _ _ h=>h.elim));clear o W
 go_upto_region 4 with fail
 refine fs ?_;generalize d.drew=x2 at *;have g:=y.o.hz.c0;refine fp 0 ?_;refine fp 1 ?_;refine fp 2 ?_;refine fp 6 ?_;refine fp 7 ?_;refine fp 8 ?_;refine cw 3 g ?_;refine cw 9 g ?_;refine fd 4 fun K J j=>?_;go_simp;refine (Lg N.o).mono ?_;rintro e U ⟨rfl,i⟩;have i:=i.symm;subst i;refine j _ _ (oK g (oK g oN)) ?_;clear j K;refine fd 5 fun K J j=>?_;go_simp;refine (FQ (x.o.no y.o.k) N.o AU.ok d_ 3 (show 3<2*2 by decide) (bs dX) rfl).mono ?_;rintro e H5 ⟨rfl,C,D⟩;have n:=Zz (y.o.step (Ft':=Ft) (fun _ _ h=>h) D);have R:Hid (Mc H5 p b v 5 0 dX l3 Dg (xn (fun _=>none) 3 (bs dX)) [3] [] (.slice none 0 0) Ft):=Zz C
 have G:=Zz (LD (x.o.no n.o.k) (by have:=n.o.k.size;omega) rfl AU R.o lv_fz (fun k hk=>by
  rcases List.mem_singleton.1 hk with rfl
  show 3<2*2
  decide) d_ (show 2<1000 by decide) (t0:=1) (show 1<2 by decide) (show 0<cS (go 2 _ 1) 2 by rw[zK];decide) (.inl DY))
 rw[lv_synL,DY] at G;refine j _ _ (oK (n.o.hz.cell 0) (oK (n.o.hz.cell 0) oN)) ?_;clear j K C D N y g;have g:=n.o.hz.c0;refine fd 10 fun K J j=>?_;go_simp;refine (Lg R.o).mono ?_;rintro e U ⟨rfl,i⟩;have i:=i.symm;subst i;refine j _ _ (oK g (oK g oN)) ?_;clear j K;refine fd 11 fun K J j=>?_;go_simp;refine G.o.mono ?_;rintro e H6 ⟨rfl,_,H⟩;obtain ⟨l,x1,f,V,⟨rfl,rfl⟩,B,r,F⟩:=H rfl;have s:=Zz (n.o.step B F);have h3:Hid (∃q:Nat,Mc H6 p b v 5 q dX ln Gn (fun _=>none) [] [] (.slice none 0 0) f):=Zz ⟨_,r⟩;have m:=Zz (X.o V);refine j _ _ (oK (s.o.hz.cell 0) (oK (s.o.hz.cell 0) oN)) ?_;clear j K H V B r F G R n X g;refine fp 12 ?_;refine fp 13 ?_;refine fe ?_;obtain ⟨h4,r⟩:=h3.o;have o:=Zz r;clear h3 r;have g:=s.o.hz.c0;go_wp2_with fail;refine (Nz o.o 0 d_ d_ d_).mono ?_;rintro e H7 ⟨rfl,E,hg,hm,hk⟩;have I:=Zz (s.o.step hg hk);have h0:Hid (Mc H7 p b v 5 h4 dX ln R_ (fun _=>none) [] [0] (.slice none 0 0) E):=Zz hm;clear hg hm hk g o s;have g:=I.o.hz.c0;go_wp2_with fail;refine (Nz h0.o 2 d_ d_ d_).mono ?_;rintro e H0 ⟨rfl,h8,hg,hm,hk⟩;have Q:=Zz (I.o.step hg hk);have L:Hid (Mc H0 p b v 5 h4 dX ln vu (fun _=>none) [] [0,2] (.slice none 0 0) h8):=Zz hm;clear hg hm hk g h0 I;have g:=Q.o.hz.c0;go_wp2_with fail;refine (EJ ((m.o.1.kill 0).kill 2) L.o).mono ?_;rintro e H1 ⟨rfl,Ft11,hg,hm,hk⟩;have t:=Zz (Q.o.step hg hk);have P:=Zz hm;clear hg hm hk g L Q;have g:=t.o.hz.c0
 have Y:10<=H1.heap.size:=by have:=t.o.k.size;omega
 go_wp2_with fail;refine (v_4 P.o).mono ?_;rintro e U ⟨rfl,i⟩;have i:=i.symm;subst i;go_wp2_with fail;refine (SX (x.o.no t.o.k) Y m.o.1 m.o.2.1 m.o.2.2.1 P.o).mono ?_;rintro e H3 ⟨rfl,h9,hg,hm,hk⟩;have u:=Zz (t.o.step hg hk);have a:=Zz hm;clear hg hm hk g P t Y;have g:=u.o.hz.c0
 have Z:10<=H3.heap.size:=by have:=u.o.k.size;omega
 go_wp2_with fail;refine (Lg a.o).mono ?_;rintro e U ⟨rfl,i⟩;have i:=i.symm;subst i;go_wp2_with fail;refine (lv_read (x.o.no u.o.k) Z m.o.1 m.o.2.1 m.o.2.2.2 a.o).mono ?_;rintro e H9 ⟨rfl,hk⟩;have h6:=Zz (a.o.no hk);have O:=Zz (u.o.step (Ft':=h9) (fun _ _ h=>h) (hk.mono fun _ _ h=>h.elim));clear hk a u g Z;have g:=O.o.hz.c0;go_wp2_with fail;refine (Fw h6.o d_).mono ?_;rintro e x0 ⟨⟨A,c,rfl⟩,hk⟩;have H4:=Zz (O.o.k.trans hk);clear hk h6 O g;go_wp2;go_ret;exact ⟨rfl,H4.o⟩
end
def Ec {L:List Nat} (h:L.Nodup) (a:Nat):(e8 L a).Nodup:=by
 unfold e8;split
 ·exact h
 rename_i g
 exact List.nodup_append.2 ⟨h,s_,fun x i y j=>by
  rcases List.mem_singleton.1 j with rfl
  exact fun e=>g (e▸i)⟩
def QN (h:D.Nodup) (hn:∀i∈D,i<n):cS (fun i=>decide (i∈D)) n=D.length:=by
 unfold cS;rw[List.countP_eq_length_filter];refine List.Perm.length_eq ((List.perm_ext_iff_of_nodup (List.nodup_range.filter _) h).2 fun a=>?_);rw[List.mem_filter,List.mem_range];constructor
 ·rintro ⟨_,e⟩;simpa using e
 intro e;exact ⟨hn a e,by simpa using e⟩
def Vx {p:Nat->Bool} {c:Nat} (h:p c=true) (g:c<n):0<cS p n:=by
 refine Nat.pos_of_ne_zero fun e=>?_;have:=C7 e c g;rw[h] at this;cases this
structure Wp (m:Nat) (B:Nat->B_) (f:Nat->Option B_) (dom:List Nat) (now:List B_):Prop where
 len:now.length=m
 at':∀k,k<m->tl now k=(f k).getD (B k)
 fz:∀k y,f k=some y->y.size=32
 dm:∀k∈dom,k<m
 is:∀k,(f k).isSome=true↔k∈dom
section
variable {dom:List Nat} {now:List B_}
def Wp.write (h:Wp m B f dom now) (j:i<m) {x:B_} (l:x.size=32):Wp m B (xn f i x) (e8 dom i) (now.set i x):=by
 refine ⟨by rw[iO];exact h.len,fun k hk=>?_,fun k y g=>?_,fun k hk=>?_,fun k=>?_⟩
 ·rw[yW _ _ _ _ (by rw[h.len];exact j)]
  unfold xn;by_cases e:k=i
  ·rw[if_pos e,if_pos e];rfl
  rw[if_neg e,if_neg e];exact h.at' k hk
 ·unfold xn at g
  by_cases e:k=i
  ·rw[if_pos e] at g
   injection g with g
   subst g;exact l
  rw[if_neg e] at g;exact h.fz k y g
 ·rcases (MF _ _ _).1 hk with hk|rfl
  ·exact h.dm k hk
  exact j
 rw[MF,<-h.is k];unfold xn;by_cases e:k=i
 ·rw[if_pos e];simp[e]
 rw[if_neg e];simp[e]
def Wp.synced (h:Wp m B f dom now):Wp m (fun k=>(f k).getD (B k)) (fun _=>none) [] now :=
 ⟨h.len,h.at',fun k y e=>by (cases e),fun k hk=>by (cases hk),fun k=>s_⟩
def Wp.none_ (h:Wp m B f [] now):f=fun _=>none:=by
 funext k
 cases e:f k with
 | none=>rfl
 | some y =>
  have:=(h.is k).1 (by rw[e];rfl);cases this
end
structure Vk (n d s:Nat) (S:cj) (σ:Nat->ao) (ch:Nat->Nat->B_) (B:Nat->B_) (D:List Nat):Prop where
 ok:gQ n dX S σ ch B
 ed:S.data=d
 es:S.slots=s
 bd:∀i,i<d+2->bad S σ i=decide (i∈D)
 c:S.count<900
 nd:D.Nodup
 lt:∀i∈D,i<d+2
section
variable {S:cj} {ch:Nat->Nat->B_} 
def Vk.kill (h:Vk n d s S σ ch B D) (k:i<d+2):Vk n d s S (dY σ i (σ i).fail) ch B (e8 D i):=by
 refine ⟨h.ok.kill i,h.ed,h.es,fun j g=>?_,h.c,Ec h.nd i,fun j g=>?_⟩
 ·rw[FJ,h.bd j g]
  by_cases e:j=i
  ·simp[e,MF]
  simp[e,MF]
 rcases (MF _ _ _).1 g with g|rfl
 ·exact h.lt j g
 exact k
def Vk.count_ (h:Vk n d s S σ ch B D):cS (bad S σ) (S.data+2)=D.length:=by
 rw[h.ed,w_B (d+2) h.bd];exact QN h.nd h.lt
def Vk.lost (h:Vk n d s S σ ch B D):i7 S σ=if D.length<3 then 0 else 24:=by
 unfold i7;rw[h.count_];by_cases e:D.length<3
 ·rw[if_pos o_,if_pos e]
 rw[if_neg o_,if_neg e]
def Vk.begin (g:2<=d) (h:d<=4) (hs:sl s):Vk (d+2) d s (qa d s (d+2)) (MX d s (d+2)) (fun _=>eD) (fun _=>bs gy) []:=by
 obtain ⟨j,l,m,k⟩:=wO (n:=d+2) dX g h hs (bS _) o_;exact ⟨j,rfl,rfl,fun i e=>by rw[k i e];simp,by show 2<900;decide,List.nodup_nil,fun i e=>by (cases e)⟩
def Vk.synced (h:Vk n d s S σ ch B D) (o:∀k y,f k=some y->y.size=32) {l:List fu} (hl:e_ S dX (fun t=>cS (go S.data f t) S.data) (fun t=>i1 S.data f (eg (fi S.data B t)) t) S.slots l) {t0:Nat} (g:t0<S.slots) (m:0<cS (go S.data f t0) S.data) (u:S.count<800) :
  Vk n d s (dZ S σ n ch l) (l1 S σ n ch l) (fun j=>dp (ch j) (lC l j)) (fun k=>(f k).getD (B k)) D:=by
 obtain ⟨p,v,x,q⟩:=h.ok.synced o_ o hl g m;refine ⟨p,h.ed,h.es,fun i e=>?_,by show S.count+1<900;omega,h.nd,h.lt⟩;have:=h.ok.ok.n12;have hl:=h.ok.len;have r:=h.ed;rw[q i (by have:=h.ok.ok.n1;omega)];exact h.bd i e
end
def Yx (w:W_) (X:Nat->Prop):Nat->Prop:=fun x=>w.heap.size<=x/\¬X x
structure Tw (w w':W_) (X:Nat->Prop) (z p b v n q gt:Nat) (S:cj) (σ:Nat->ao) (f:Nat->Option B_) (dom D:List Nat) (vn vl:Value) (now:List B_) (Ft:Nat->Prop):Prop where
 hz:ab w' z 43 (vP p vn vl (.slice none 0 0) gt true)
 hn:aH w' 0 9 vn (sv now)
 hm:Mc w' p b v n q dX S σ f dom D (.slice none 0 0) Ft
 k:Kp ac w w'
 F:∀x,Ft x->w.heap.size<=x/\x≠z/\vn.ownBlock≠some x/\¬X x
 zlo:w.heap.size<=z/\¬X z
 vlo:∀x,vn.ownBlock=some x->w.heap.size<=x/\¬X x
 xlt:∀x,X x->x<w'.heap.size
section
variable {w1 w' w'':W_} {X:Nat->Prop} {v q:Nat} {S:cj} {dom:List Nat} {vn vl:Value} {now:List B_} {ch:Nat->Nat->B_} 
def Tw.no (h:Tw w w' X z p b v n q gt S σ f dom D vn vl now Ft) (k:Kp ac w' w''):Tw w w'' X z p b v n q gt S σ f dom D vn vl now Ft :=
 ⟨h.hz.kp k fun h=>h,h.hn.kp k fun _ _ h=>h,h.hm.no k,h.k.trans k,h.F,h.zlo,h.vlo,fun x e=>ea (h.xlt x e) k.size⟩
def Tw.own (h:Tw w w' X z p b v n q gt S σ f dom D vn vl now Ft) {T:Nat->Prop} (k:Kp T w' w'') (g:∀x,T x->X x/\w.heap.size<=x):Tw w w'' X z p b v n q gt S σ f dom D vn vl now Ft :=
 ⟨h.hz.kp k fun e=>h.zlo.2 (g _ e).1,h.hn.kp k fun x i e=>(h.vlo x i).2 (g _ e).1,h.hm.kp k fun x e j=>(h.F x j).2.2.2 (g _ e).1,h.k.then k fun x i e=>(by have:=(g x e).2;omega:False),h.F,h.zlo,h.vlo,fun x i=>ea (h.xlt x i) k.size⟩
def Tw.add (h:Tw w w' X z p b v n q gt S σ f dom D vn vl now Ft) {g:Nat} (hg:w'.heap.size<=g) (l:g<w''.heap.size) (k:Kp ac w' w''):Tw w w'' (fun x=>X x\/x=g) z p b v n q gt S σ f dom D vn vl now Ft:=by
 have j:=h.no k;refine ⟨j.hz,j.hn,j.hm,j.k,fun x i=>⟨(h.F x i).1,(h.F x i).2.1,(h.F x i).2.2.1,fun e=>?_⟩,⟨h.zlo.1,fun e=>?_⟩,fun x i=>⟨(h.vlo x i).1,fun e=>?_⟩,fun x i=>?_⟩
 ·rcases e with e|rfl
  ·exact (h.F x i).2.2.2 e
  have:=(h.hm.lt i).2;omega
 ·rcases e with e|e
  ·exact h.zlo.2 e
  have:=h.hz.lt;omega
 ·rcases e with e|rfl
  ·exact (h.vlo x i).2 e
  have:=(h.hn.lt x i).2;omega
 rcases i with i|rfl
 ·exact j.xlt x i
 exact l
def Tw.less (h:Tw w w' X z p b v n q gt S σ f dom D vn vl now Ft) {Y:Nat->Prop} (i:∀x,Y x->X x):Tw w w' Y z p b v n q gt S σ f dom D vn vl now Ft :=
 ⟨h.hz,h.hn,h.hm,h.k,fun x g=>⟨(h.F x g).1,(h.F x g).2.1,(h.F x g).2.2.1,fun e=>(h.F x g).2.2.2 (i x e)⟩,⟨h.zlo.1,fun e=>h.zlo.2 (i _ e)⟩,fun x g=>⟨(h.vlo x g).1,fun e=>(h.vlo x g).2 (i _ e)⟩,fun x g=>h.xlt x (i x g)⟩
def Tw.yF (h:Tw w w' X z p b v n q gt S σ f dom D vn vl now Ft) (k:Kp Ft w' w''):Kp (Yx w X) w' w'':=k.mono fun x _ e=>⟨(h.F x e).1,(h.F x e).2.2.2⟩
def Tw.step (h:Tw w w' X z p b v n q gt S σ f dom D vn vl now Ft) {s:Nat} {m:cj} {σ':Nat->ao} {r:Nat->Option B_} {o l:List Nat} {Ft':Nat->Prop} (hg:Gr w' Ft Ft') (hm:Mc w'' p b v n s dX m σ' r o l (.slice none 0 0) Ft') (k:Kp Ft w' w'') :
  Tw w w'' X z p b v n s gt m σ' r o l vn vl now Ft':=by
 refine ⟨h.hz.kp k fun i=>(h.F _ i).2.1 rfl,h.hn.kp k fun x g i=>(h.F x i).2.2.1 g,hm,h.k.then k fun x g i=>(by have:=(h.F x i).1;omega:False),fun x g=>?_,h.zlo,h.vlo,fun x g=>ea (h.xlt x g) k.size⟩;by_cases e:x<w'.heap.size
 ·exact h.F x (hg x e g)
 have t:=h.k.size;have u:=h.hz.lt;exact ⟨o_,o_,fun j=>by have:=(h.hn.lt x j).2;omega,fun j=>by have:=h.xlt x j;omega⟩
def Wp.begin (m:Nat):Wp m (fun _=>bs gy) (fun _=>none) [] (List.replicate m (bs gy)):=by
 refine ⟨Aa,fun k hk=>?_,fun k y h=>by (cases h),fun k h=>by (cases h),fun k=>s_⟩;unfold tl;rw[be,List.getElem?_replicate,if_pos hk];rfl
end
def ActsR (w:W_) (u:Value) (N:Nat):Prop :=
 ∃A C,u=.slice A N C/\N<=C/\C<=maxLen/\∀i,i<N->∃g off,A=some ⟨g,off,none⟩/\∃(e a c t k:Int) (h:UInt8) (cell:B_),∀j,j<7->w.cell? ⟨g,off+i*7+j,none⟩=(BK e a c t h cell k)[j]?
def JE (W:W_) (A:Option Addr) (N C k:Nat) (hk:k<=C):(Instr.slice 23 (.slice A N C) none (some (.int .i64 k)) none).run prog W=.ok (.slice A k C) W:=by
 rw[run_slice_h W 23 A N C k_ .i64 (k:Int) o_ o_];have hs:(sizeOf (prog.elem 23)).run prog W=.ok 7 W:=k_;rw[hs]
 have e:(if C=0 then A else A.map (·.add (0*7)))=A:=by
  split
  ·rfl
  cases A with
  | none=>rfl
  | some a=>simp[Addr.add]
 show Result.ok (Value.slice (if C=0 then A else A.map (·.add (0*7))) ((k:Int).toNat-0) (C-0)) W=_;rw[e];rfl
section
end
section
open Go.ChangeShapes Go.WideShapes
def Se {a:Addr} (h:w.cell? a=some v):a=⟨a.block,a.off,none⟩:=by
 obtain ⟨b,o,s⟩:=a
 cases s with
 | none=>rfl
 | some s =>
  unfold World.cell? at h;split at h<;>simp at h
def El {P:Program} {r:Reach} {t e:TypeId} (i:P.underlying t=some (.array n e)) (h:Value.okWide P w r b0 t v):∃j:Array Value,v=.agg j:=by
 simp only[Value.okWide,i] at h;obtain ⟨cs,g,_⟩:=h;exact ⟨cs,g⟩
def Sa {H:Type} {enc:TypeId × Value->H} {P:Program} {J:Nat->Bool} {held:Bool} {r:Reach} {t e:TypeId} {k:IntKind} {d:DataW H} {I:List MemPlace}
  (p:P.underlying t=some (.array n e)) (f:P.underlying e=some (.int k)) (c:P.cellsOf e=1) (x:P.cellsOf t=n) (a:Value.okWide P w r b0 t v) (h:DataW.Trod enc P w base J held t v d I) :
  ∃X:List Int,X.length=n/\v=.agg (X.map (Value.int k)).toArray:=by
 obtain ⟨g,rfl⟩:=El p a;obtain ⟨fuel,E⟩:=h;obtain ⟨ys,m,_,_,hl,M,q⟩:=DataW.trod_array p E;have G:(Value.agg g).cells.toList=g.toList:=rfl;rw[G] at hl q;rw[x] at hl
 have z:∀i,i<n->∃s,g.toList[i]?=some (.int k s):=by
  intro i o;have j:=q i o;rw[c,Nat.mul_one] at j;have y:i<ys.length:=o_;rw[cr y] at j;obtain ⟨s,hs,_⟩:=DataW.trod_int f j;refine ⟨s,?_⟩;have b:=congrArg (fun l:List Value=>l[0]?) hs;simpa[List.getElem?_take] using b
 refine ⟨g.toList.map fun u=>(match u with | .int _ s=>s|_=>0),by simpa using hl,?_⟩
 congr 1;apply Array.ext';apply C8;intro i;by_cases o:i<n
 ·obtain ⟨s,hs⟩:=z i o
  rw[hs];simp only[List.map_map,gq,hs];rfl
 rw[pD o_,pD (by simpa using (by omega:g.toList.length<=i))]
end
section
open Go.ChangeShapes Go.WideShapes Go.Deep
def VO {l:List Value} (h:l.length=7) (j:Nat) (e:j<7):∃x,(l.drop j).take 1=[x]/\l[j]?=some x:=by
 have hl:j<l.length:=o_;refine ⟨l[j],?_,cr hl⟩;rw[List.drop_eq_getElem_cons hl];rfl
def OB {H:Type} {enc:TypeId × Value->H} {K:Nat->Bool} {held:Bool} {r:Reach} {d:DataW H} {ps:List MemPlace}
  (H9:Value.okWide prog w r b0 23 v) (h:DataW.Trod enc prog w base K held 23 v d ps):∃N,ActsR w v N:=by
 have C:prog.underlying 23=some (.slice 31):=k_;have W:prog.cellsOf 31=7:=k_
 obtain ⟨fs,u,H0,F⟩:∃fs:Array Field,prog.underlying 31=some (.struct fs)/\oneCellFields prog fs=true/\fs.map (·.type)=#[3,3,3,3,5,9,29]:=by
  have k:(match prog.underlying 31 with|some (.struct fs)=>oneCellFields prog fs && decide (fs.map (·.type)=#[3,3,3,3,5,9,29])|_=>false)=true:=k_
  split at k
  ·rename_i fs u
   rw[Bool.and_eq_true,decide_eq_true_eq] at k;exact ⟨fs,u,k.1,k.2⟩
  cases k
 have hn:fs.size=7:=by
  have:=congrArg Array.size F
  rwa [Array.size_map] at this
 have e:∀j:Nat,(fs[j]?).map (fun f:Field=>f.type)=(#[3,3,3,3,5,9,29]:Array Nat)[j]?:=fun j=>by rw[<-F,Array.getElem?_map]
 have p:=e 0;have l:=e 1;have h2:=e 2;have h3:=e 3;have h4:=e 4;have h5:=e 5;have h6:=e 6;obtain ⟨X,T,U,rfl⟩:=okWide_slice C H9;obtain ⟨fuel,q⟩:=h;rcases open_slice C q with ⟨c,_⟩|⟨a,len,Y,m,n,D,Pl,c,_,hl,hm,nB,_,s⟩
 ·have E:(Value.slice X T U)=.slice none 0 0:=by simpa[Value.cells] using c
  rw[E];exact ⟨0,none,0,rfl,o_,Nat.zero_le _,fun i s=>absurd s o_⟩
 have E:(Value.slice X T U)=.slice (some a) len Y:=by simpa[Value.cells] using c
 rw[E];refine ⟨len,some a,Y,rfl,hl,hm,fun i bB=>?_⟩
 have nV:i<m:=by rw[nB];split<;>omega
 have ha:a=⟨a.block,a.off,none⟩:=by
  obtain ⟨y7,h8,_⟩:=s 0 o_;obtain ⟨_,h7,V⟩:=World.cells?_some h8;rw[W] at h7 V;have p:=V 0 o_
  have H7:(a.add (0*7)).add 0=a:=by simp[Addr.add]
  rw[H7,cr (show 0<y7.length by omega)] at p;exact Se p
 obtain ⟨cs',B,h1⟩:=s i nV;rw[W] at B;obtain ⟨_,h9,b⟩:=World.cells?_some B;obtain ⟨ys,y8,_,_,_,KH,h0⟩:=DataW.trod_struct u h1
 have key:∀j t,j<7->(fs[j]?).map (fun f:Field=>f.type)=some t->∃x y,cs'[j]?=some x/\DataW.trod enc prog w base K held y8 t [x]=some y:=fun j t o x8=>by
  obtain ⟨f,q,rfl⟩:=Option.map_eq_some_iff.1 x8;obtain ⟨x7,hk⟩:=hone_of H0 j f q;have l:=h0 j f q;rw[x7,hk] at l;obtain ⟨x,x9,H8⟩:=VO h9 j o;rw[x9,cr (show j<ys.length by omega)] at l;exact ⟨x,_,H8,l⟩
 obtain ⟨x0,y0,G,t0⟩:=key 0 3 o_ p;obtain ⟨x1,y1,H1,t1⟩:=key 1 3 o_ l;obtain ⟨x2,y2,H2,t2⟩:=key 2 3 o_ h2;obtain ⟨x3,y3,H3,t3⟩:=key 3 3 o_ h3;obtain ⟨x4,y4,H4,t4⟩:=key 4 5 o_ h4;obtain ⟨x5,y5,H5,t5⟩:=key 5 9 o_ h5;obtain ⟨x6,y6,H6,t6⟩:=key 6 29 o_ h6;obtain ⟨y9,J,_⟩:=DataW.trod_int underlying3 t0;obtain ⟨n1,M,_⟩:=DataW.trod_int underlying3 t1;obtain ⟨n2,O,_⟩:=DataW.trod_int underlying3 t2;obtain ⟨n3,P,_⟩:=DataW.trod_int underlying3 t3;obtain ⟨g,Q,_,L⟩:=DataW.trod_int (show prog.underlying 5=some (.int .u8) by kernel_rfl) t4;obtain ⟨s5,R,_⟩:=DataW.trod_string underlying9 t5;obtain ⟨n6,S,_⟩:=DataW.trod_int (show prog.underlying 29=some (.int .u64) by kernel_rfl) t6;injection J with J;injection M with M;injection O with O;injection P with P;injection Q with Q;injection R with R;injection S with S;subst J M O P Q R S
 have hb:0<=g/\g<256:=by
  simp only[Lit.wf,IntKind.min,IntKind.max,IntKind.signed,IntKind.bits,Bool.and_eq_true,decide_eq_true_eq] at L;simp at L;omega
 obtain ⟨Z,A,z⟩:=a;have hsp:z=none:=congrArg Addr.spot ha;subst hsp
 have b:∀j,j<7->w.cell? ⟨Z,A+i*7+j,none⟩=cs'[j]?:=fun j o=>by
  have:=b j o;rw[SN,SN] at this;exact this
 refine ⟨Z,A,rfl,y9,n1,n2,n3,n6,UInt8.ofNat g.toNat,s5,fun j o=>?_⟩;rw[b j o]
 have I:(((UInt8.ofNat g.toNat).toNat:Nat):Int)=g:=by
  rw[UInt8.toNat_ofNat_of_lt' (show g.toNat<256 by omega)];omega
 unfold BK;rw[I];rcases (show j=0\/j=1\/j=2\/j=3\/j=4\/j=5\/j=6 by omega) with rfl|rfl|rfl|rfl|rfl|rfl|rfl
 ·exact G
 ·exact H1
 ·exact H2
 ·exact H3
 ·exact H4
 ·exact H5
 exact H6
def lay_of (h:laidMetH prog Rows.topLostRow.laid W):a_ W:=by
 rw[MakeChecks.laidMetH_plain _ _ _ k_] at h;obtain ⟨H,⟨S,t0,I,f0,A,q0,Z,Y,h1,h2,⟨T,t1,X,f1,B,K,r,y,v,N,⟨g2,t2,R,f2,C,L,q,P,O,G,⟨U,t3,Q,f3,D,w,s,b,z,m,⟨V,t4,J,f4,F,h0,u,o,a,x,_,_⟩,_⟩,_⟩,_⟩,_⟩,_,_⟩:=h
 have i:∀ {p:String} {g:Nat} {cs:Array Value},prog.globalNamed p=some g->W.var? prog p=some cs->∃t fr,W.heap[g]?=some (.cells cs t fr):=fun {p g cs} hg hv=>by
  unfold World.var? at hv;rw[hg] at hv;simp only[Option.bind_some] at hv;split at hv
  ·rename_i cs' t fr M
   injection hv with hv
   subst hv;exact ⟨t,fr,M⟩
  cases hv
 obtain rfl:=Option.some.inj ((show prog.globalNamed "math/bits.deBruijn64tab" = some 5 by kernel_rfl).symm.trans r)
 obtain rfl:=Option.some.inj ((show prog.globalNamed "cofferdam/layout.sizes" = some 0 by kernel_rfl).symm.trans q)
 obtain rfl:=Option.some.inj ((show prog.globalNamed "cofferdam/sha.first" = some 1 by kernel_rfl).symm.trans s)
 obtain rfl:=Option.some.inj ((show prog.globalNamed "cofferdam/sha.round" = some 2 by kernel_rfl).symm.trans u)
 obtain rfl:=Option.some.inj ((show (prog.globals[5]?).map (·.type)=some 349 by kernel_rfl).symm.trans y);obtain rfl:=Option.some.inj ((show (prog.globals[0]?).map (·.type)=some 189 by kernel_rfl).symm.trans P);obtain rfl:=Option.some.inj ((show (prog.globals[1]?).map (·.type)=some 271 by kernel_rfl).symm.trans b);obtain rfl:=Option.some.inj ((show (prog.globals[2]?).map (·.type)=some 313 by kernel_rfl).symm.trans o);have c:=Lib.cells_of_tab (k:=.u8) (zs:=d64L.map fun n:Nat=>(n:Int)) (show prog.underlying 349=some (.array 64 5) by kernel_rfl) k_ k_ k_ N;have d:=Lib.cells_of_tab (k:=.i64) (zs:=[2,4,8,16]) (show prog.underlying 189=some (.array 4 3) by kernel_rfl) k_ k_ k_ G;have f:=Lib.cells_of_tab (k:=.u32) (zs:=v_S.map fun n:Nat=>(n:Int)) (show prog.underlying 271=some (.array 8 213) by kernel_rfl) k_ k_ k_ m;have E:=Lib.cells_of_tab (k:=.u32) (zs:=g3.map fun n:Nat=>(n:Int)) (show prog.underlying 313=some (.array 64 213) by kernel_rfl) k_ k_ k_ x
 have j:∀ {cs:Array Value} {l:List Value},cs.toList=l->cs=l.toArray:=fun e=>by rw[<-e]
 have d1:=j c;have d2:=j d;have d3:=j f;have d4:=j E;subst d1 d2 d3 d4;refine ⟨?_,?_,?_,?_⟩
 ·obtain ⟨t,fr,h⟩:=i s z
  exact ⟨t,fr,h⟩
 ·obtain ⟨t,fr,h⟩:=i u a
  exact ⟨t,fr,h⟩
 ·obtain ⟨t,fr,h⟩:=i q O
  exact ⟨t,fr,h⟩
 obtain ⟨t,fr,h⟩:=i r v;exact ⟨t,fr,h⟩
end
section
variable {σ:ao} {F:Nat->Prop}
def xb (h:Dk w d σ F) (x:σ.dead=false) :
  Cl 46 #[.pointer (some ⟨d,0,none⟩)] w fun e w'=>∃v,e=.returned v/\aH w' w.heap.size 9 v (sv σ.now)/\Kp ac w w':=by
 have k:=Zz (w_b h 0 d_);rw[x] at k;obtain ⟨la,n,a,f,l,o,m,p,q,r,s,t,u⟩:=h.ex;have hn:=h.hn;have z:=l.c1
 have i:Hid (Cl 82 #[.slice (some ⟨n,0,none⟩) 140 140] w fun e w'=>∃v,e=.returned v/\aH w' w.heap.size 9 v (sv σ.now)/\Kp ac w w'):=Zz (by
  refine (Tryz.slices_Clone_string n 0 140 140 σ.now w (by rw[hn];exact bS _) d_ (fun j y=>?_)).mono ?_
  ·rw[jm,m.cell,lP,iQ _ _ y];rfl
  rintro e w' ⟨v,rfl,g,_,hb⟩;rw[kx (Nat.le_of_eq hn)] at g;refine ⟨v,rfl,?_,Kp.of_below hb ac⟩;unfold aH;rw[cN,hn]
  exact g)
 clear h l o m p q r s t u hn;go_enter func46,ntmps46;go_wp2_with fail;refine k.o.mono ?_;rintro e b ⟨rfl,rfl⟩;simp only[Bool.false_eq_true,if_false];go_wp2_with fail;refine i.o.mono ?_;rintro e c ⟨v,rfl,g,hk⟩;have HR:=Zz (And.intro g hk);clear g hk i;go_wp2;go_ret;exact ⟨v,rfl,HR.o⟩
def vO (T L:List B_) (i:Nat):List B_:=T.take i++L.drop i
def Ch (T L:List B_) (h:T.length=L.length) (i:Nat):(vO T L i).length=L.length:=by
 unfold vO;rw[cd,gC,List.length_drop];omega
def Eh (T L:List B_) (h:T.length=L.length) (i:Nat) (e:i<T.length):(vO T L i).set i (tl T i)=vO T L (i+1):=by
 have g:(T.take i).length=i:=by rw[gC];omega
 unfold vO;rw[List.set_append_right _ _ o_,g,Nat.sub_self,List.drop_eq_getElem_cons (by omega:i<L.length),List.set_cons_zero,mx e,List.append_assoc]
 have:tl T i=T[i]'e:=by
  have:=NA T i e;rw[cr e] at this;injection this with this;exact this.symm
 rw[this];rfl
def Cm (h:Dk w d σ F) (R:σ.dead=false) (T:List B_) (E:T.length=140) (hz:∀i,i<140->(tl T i).size<=2048) (v:Value) (hv:∀W,Kp F w W->b_ W v (sv T)) :
  Cl 49 #[.pointer (some ⟨d,0,none⟩),v] w fun e w'=>e=.returned (.tuple #[])/\∃s,Gr w F s/\Dk w' d ⟨false,T,T,0⟩ s/\Kp F w w':=by
 have H:=Zz (w_b h 0 d_);rw[R] at H;obtain ⟨la,g,y6,xs,t,P,Q,h4,h5,h6,h7,h8,u⟩:=h.ex;rw[R] at t;have b:=Zz h.hn;have a:=Zz h.hl;have x0:=Zz hz;have l:=Zz E;have H3:=ab.ne_ t Q d_;have H1:=ab.ne_ t P d_
 obtain ⟨y5,vc,rfl⟩:∃A c,v=.slice A 140 c:=by
  obtain ⟨A,c,e,_⟩:=hv w (Kp.refl _ _);exact ⟨A,c,by rw[e,cN,E]⟩
 have L:Hid (∀W,Kp F w W->∀i,i<140->∃z vo,y5=some ⟨z,vo,none⟩/\W.cell? ⟨z,vo+i,none⟩=some (.string (tl T i))):=Zz fun W k i S=>by
  obtain ⟨A,c,e,_,_,y2⟩:=hv W k
  have hl:(sv T).length=140:=by rw[cN,E]
  obtain ⟨z,vo,N,y0⟩:=y2 (by rw[hl];decide);injection e with e _ _;refine ⟨z,vo,e.trans N,?_⟩;rw[y0 i (by rw[hl];exact S),iQ _ _ (by rw[E];exact S)]
 have I:=Zz u;have Z:=Zz t;have D:Hid (ab w la 9 (sv (vO T σ.last 0)).toArray):=Zz P;have H5:Hid (ab w g 9 (sv (vO T σ.now 0)).toArray):=Zz Q;have h3:=Zz (Kp.refl F w);have O:=Zz h4;have C:F la:=(u _).2 (.inr (.inl rfl));have h0:F g:=(u _).2 (.inr (.inr (.inl rfl)));have h1:F d:=(u _).2 (.inl rfl);have U:=Zz (And.intro C (And.intro h0 h1));have H6:=Zz H3;have H2:=Zz H1;have M:=Zz (And.intro h6 (And.intro h7 h8));clear h t P Q h4 h5 h6 h7 h8 u R hv hz C h0 h1 H3 H1;go_enter func49,ntmps49;go_wp2_with fail;refine H.o.mono ?_;rintro e X ⟨rfl,rfl⟩;simp only[Bool.false_eq_true,if_false];have f:=Z.o.c1
 go_upto_region 2 with fail
 clear f
 go_loopw [14] (fun V wr=>∃i:Nat,i<=140/\V=.int .i64 i/\Hid (ab wr d 136 #[.slice (some ⟨la,0,none⟩) 140 140,.slice (some ⟨g,0,none⟩) 140 140,y6,.bool false])/\Hid (ab wr la 9 (sv (vO T σ.last i)).toArray)/\Hid (ab wr g 9 (sv (vO T σ.now i)).toArray)/\Hid (Kp F X wr)) (fun V _=>(140-intOf V).toNat)
 case atStart=>exact ⟨0,o_,rfl,Z,D,H5,h3⟩
 case round =>
  clear D H5 h3 Z;obtain ⟨i,S,rfl,j,m,n,o⟩:=hrel;by_cases r:i<140
  ·have y8:(i:Int)<140:=o_
   obtain ⟨z,vo,rfl,x7⟩:=L.o wr o.o i r
   have y7:((tl T i).size:Int)<=2048:=by have:=x0.o i r;omega
   have H9:=Zz (Eh T σ.last (by rw[l.o,a.o]) i (by rw[l.o];exact r));have x9:=Zz (Eh T σ.now (by rw[l.o,b.o]) i (by rw[l.o];exact r))
   have H0:Hid (∀W,ab W la 9 (sv (vO T σ.last i)).toArray->W.cell? ⟨la,i,none⟩=some (.string (tl (vO T σ.last i) i))):=Zz fun W h=>by rw[h.cell,lP,iQ _ _ (by rw[Ch _ _ (by rw[l.o,a.o]),a.o];exact r)]
   have B:Hid (∀W,ab W g 9 (sv (vO T σ.now i)).toArray->W.cell? ⟨g,i,none⟩=some (.string (tl (vO T σ.now i) i))):=Zz fun W h=>by rw[h.cell,lP,iQ _ _ (by rw[Ch _ _ (by rw[l.o,b.o]),b.o];exact r)]
   generalize tl (vO T σ.last i) i=ol at *;generalize tl (vO T σ.now i) i=on at *;generalize hx:tl T i=x at *
   go_upto_region 7 with fail
   have j:=Zz j.o.drew;have m:=Zz m.o.drew;have n:=Zz n.o.drew;have o:=Zz o.o.drew;clear x7;refine fs ?_;generalize wr.drew=Y at *;have h9:=j.o.c0;have f:=j.o.c1;have x6:=H0.o Y m.o;have y3:=m.o.frozen i;refine fp 0 ?_;refine fp 1 ?_;refine fp 2 ?_;refine cw 3 h9 ?_;refine fp 4 ?_;refine fp 5 ?_;refine fp 6 ?_;refine fp 7 ?_;refine cw 8 f ?_;refine fp 9 ?_;refine fp 10 ?_;refine fp 11 ?_;refine fp 12 ?_;refine fd 13 fun K x3 y=>?_;go_simp;refine y _ _ (oW (oW oN)) ?_;clear y K;have H4:=Zz (j.o.far (p:=⟨la,i,none⟩) H2.o (.string x));have G:=Zz (n.o.far (p:=⟨la,i,none⟩) (Ne.symm O.o) (.string x));have H7:Hid (ab (Y.setCell ⟨la,i,none⟩ (.string x)) la 9 (sv (vO T σ.last (i+1))).toArray):=Zz (by have:=m.o.set_ i (.string x);rwa [F6,w_M,H9.o] at this);have h2:=Zz (o.o.setCell ⟨la,i,none⟩ (.string x) (.inl U.o.1));clear h9 f x6 y3 j m n o;generalize Y.setCell ⟨la,i,none⟩ (.string x)=w3 at *;have y4:=B.o w3 G.o;have H8:=G.o.frozen i;refine fp 14 ?_;refine fd 15 fun K x3 y=>?_;go_simp;refine y _ _ (oW (oW oN)) ?_;clear y K;have x1:=Zz (H4.o.far (p:=⟨g,i,none⟩) H6.o (.string x));have J:=Zz (H7.o.far (p:=⟨g,i,none⟩) O.o (.string x));have x2:Hid (ab (w3.setCell ⟨g,i,none⟩ (.string x)) g 9 (sv (vO T σ.now (i+1))).toArray):=Zz (by have:=G.o.set_ i (.string x);rwa [F6,w_M,x9.o] at this);have x4:=Zz (h2.o.setCell ⟨g,i,none⟩ (.string x) (.inl U.o.2.1));clear y4 H8 H4 H7 G h2 B H0;generalize w3.setCell ⟨g,i,none⟩ (.string x)=w4 at *;refine fe ?_;go_wp2;go_roundw
   case rel=>exact ⟨i+1,o_,by go_num,x1,J,x2,x4⟩
   case measure=>simp[intOf];omega
  obtain rfl:i=140:=o_;have k2:=j.o.c2;have f2:=j.o.frozen 2
  have x5:Hid (∃s,Gr X F s/\Dk (wr.setCell ⟨d,2,none⟩ (.slice none 0 0)) d ⟨false,T,T,0⟩ s/\Kp F X (wr.setCell ⟨d,2,none⟩ (.slice none 0 0))):=Zz (by
   have x8:vO T σ.last 140=T:=by unfold vO;rw[kx (Nat.le_of_eq l.o),List.drop_of_length_le (Nat.le_of_eq a.o),List.append_nil]
   have N:vO T σ.now 140=T:=by unfold vO;rw[kx (Nat.le_of_eq l.o),List.drop_of_length_le (Nat.le_of_eq b.o),List.append_nil]
   rw[x8] at m;rw[N] at n;refine ⟨(fun q=>q=d\/q=la\/q=g\/(Value.slice none 0 0).ownBlock=some q:Nat->Prop),?_,⟨⟨la,g,.slice none 0 0,[],j.o.set_ 2 (.slice none 0 0),m.o.far (p:=⟨d,2,none⟩) (Ne.symm H2.o) _,n.o.far (p:=⟨d,2,none⟩) (Ne.symm H6.o) _,O.o,World.ownsRow_nil _ 10 _ 2,M.o.1,M.o.2.1,M.o.2.2,fun _=>Iff.rfl⟩,l.o,l.o⟩,o.o.setCell _ _ (.inl U.o.2.2)⟩;intro q y9 y1;rcases y1 with h|h|h|h
   ·exact (I.o q).2 (.inl h)
   ·exact (I.o q).2 (.inr (.inl h))
   ·exact (I.o q).2 (.inr (.inr (.inl h)))
   cases h)
  clear j m n o L;go_wp2
  go_end0
  exact ⟨rfl,x5.o⟩
end
def ke (b:UInt8) (x:B_):((⟨#[b]⟩:B_)++x).size=x.size+1:=by
 rw[ByteArray.size_append];show 1+x.size=_;omega
def JS (I:List B_) (i:Nat) (T:List B_):Prop:=T.length<=i/\(∀s∈T,s.size<=2049)/\∀j,j<i->j<2->(⟨#[2]⟩:B_)++tl I j∈T
def JS.add {T:List B_} (h:JS I i T) (m:i<140) (s:B_) (hs:s.size<=2049) (l:i<2->s=(⟨#[2]⟩:B_)++tl I i):JS I (i+1) (T++[s]):=by
 refine ⟨by rw[cd];have:=h.1;simp;omega,fun x g=>?_,fun j n k=>?_⟩
 ·rcases List.mem_append.1 g with g|g
  ·exact h.2.1 x g
  rw[List.mem_singleton.1 g];exact hs
 by_cases e:j=i
 ·subst e
  rw[<-l k];simp
 exact List.mem_append_left _ (h.2.2 j o_ k)
def JS.skip {T:List B_} (h:JS I i T) (g:¬i<2):JS I (i+1) T :=
 ⟨by have:=h.1;omega,h.2.1,fun j _ e=>h.2.2 j o_ e⟩
section
def Ln (hv:aH w base 9 v (sv I)) (h0:I.length=140) (hz:∀i,i<140->(tl I i).size<=2048) :
  Cl 80 #[v] w fun e w'=>∃u T,e=.returned u/\aH w' w.heap.size 9 u (sv T)/\T.length<=141/\(∀s∈T,s.size<=1000000)/\(∀j,j<2->(⟨#[2]⟩:B_)++tl I j∈T)/\Kp ac w w':=by
 obtain ⟨g,c,x4,y8,y6,H5⟩:=hv.form (by rw[cN,h0];decide);rw[cN,h0] at x4 H5;subst x4
 have h6:Hid (∀W,Kp ac w W->∀i,i<140->W.cell? ⟨g,i,none⟩=some (.string (tl I i))):=Zz fun W k i h1=>by
  have Y:=hv.kp k fun _ _ h=>h
  have e:(sv I).length=140:=by rw[cN,h0]
  rw[<-e] at Y;rw[Y.cell i (by rw[e];exact h1),iQ _ _ (by rw[h0];exact h1)]
 have M:=Zz hz;have x8:=Zz H5;have x3:=Zz (Kp.refl ac w);have x6:Hid (∃T,JS I 0 T/\aH w w.heap.size 9 (.slice none 0 0) (sv T)):=Zz ⟨[],⟨bS _,s_,fun j D=>o_⟩,aH.nil_ _ _ _⟩;have h8:=Zz (fun W=>w_C W (tl I 2).data.toList (by rw[g5];have:=hz 2 d_;omega));have x1:Hid (bs (tl I 2).data.toList=tl I 2):=Zz rfl;clear hv y8 y6 hz H5;go_enter func80,ntmps80
 go_upto_region 3 with fail
 go_loopw [3,13] (fun s3 h9 wr=>∃i:Nat,i<=140/\h9=.int .i64 i/\Hid (∃T,JS I i T/\aH wr w.heap.size 9 s3 (sv T))/\Hid (Kp ac w wr)) (fun _ h9 _=>(140-intOf h9).toNat)
 case atStart=>exact ⟨0,o_,rfl,x6,x3⟩
 case round =>
  clear x6 x3;obtain ⟨i,h1,rfl,H9,p⟩:=hrel;obtain ⟨T,o,H6⟩:=H9.o;have m:=Zz H6;have E:=p.o.size
  obtain ⟨Z,C,rfl⟩:∃A c,u3=.slice A T.length c:=by
   obtain ⟨A,c,e⟩:=H6.shape;exact ⟨A,c,by rw[e,cN]⟩
  clear H6 H9;by_cases r:i<140
  ·have y7:(i:Int)<140:=o_
   have L:=h6.o wr p.o i r;by_cases Y:i<2
   ·have H0:(i:Int)<2:=o_
    have B:=Zz (JS.add o r ((⟨#[2]⟩:B_)++tl I i) (by rw[ke];have:=M.o i r;omega) (fun _=>rfl));have y0:=M.o i r;generalize tl I i=G at *
    go_upto_region 11 with (at_builtin;refine Bp (w0:=wr) w.heap.size rfl (.tmp 21) (.tmp 24) 38 9 (.string ⟨#[]⟩) 16 rfl underlying38 C4 rfl d_ _ _ (.string ((⟨#[2]⟩:B_)++G)) rfl rfl rfl m.o ((Below.refl _ _).mono E) E (by rw[cN];have:=o.1;omega) ?_;intro V X l R b O;obtain ⟨J,P,rfl⟩:∃A c,V=.slice A (T.length+1) c:=(by obtain ⟨A,c,e⟩:=l.shape;exact ⟨A,c,by rw[e,cd,cN];rfl⟩);have f:=Zz l;have d:=Zz b;clear l R b O)
    have a:=Kp.of_grown d.o (S:=fun q=>some q=(Value.slice Z T.length C).ownBlock) fun _ h=>h;have N:=Zz (p.o.then a fun q H7 h=>by have:=(m.o.lt q h.symm).1;omega);have Q:Hid (∃z,JS I (i+1) z/\aH X w.heap.size 9 (.slice J (T.length+1) P) (sv z)):=Zz ⟨T++[(⟨#[2]⟩:B_)++G],B.o,by rw[x_q];exact f.o⟩;clear a f d m p;go_wp2;go_roundw
    case rel=>exact ⟨i+1,o_,rfl,Q,N⟩
    case measure=>simp[intOf];omega
   have H0:¬((i:Int)<2):=o_;by_cases h3:100<=i/\i<120
   ·have H1:(100:Int)<=(i:Int):=o_
    have H2:(i:Int)<120:=o_;have h3d:decide ((i:Int)<120)=true:=decide_eq_true H2;have h3e:decide ((100:Int)<=(i:Int))=true:=decide_eq_true H1;have B:=Zz (JS.add o r ((⟨#[1]⟩:B_)++tl I i) (by rw[ke];have:=M.o i r;omega) (fun h=>absurd h Y));have y0:=M.o i r;generalize tl I i=G at *
    go_upto_region 11 with (at_builtin;refine Bp (w0:=wr) w.heap.size rfl (.tmp 33) (.tmp 36) 38 9 (.string ⟨#[]⟩) 16 rfl underlying38 C4 rfl d_ _ _ (.string ((⟨#[1]⟩:B_)++G)) rfl rfl rfl m.o ((Below.refl _ _).mono E) E (by rw[cN];have:=o.1;omega) ?_;intro V X l R b O;obtain ⟨J,P,rfl⟩:∃A c,V=.slice A (T.length+1) c:=(by obtain ⟨A,c,e⟩:=l.shape;exact ⟨A,c,by rw[e,cd,cN];rfl⟩);have f:=Zz l;have d:=Zz b;clear l R b O)
    have a:=Kp.of_grown d.o (S:=fun q=>some q=(Value.slice Z T.length C).ownBlock) fun _ h=>h;have N:=Zz (p.o.then a fun q H7 h=>by have:=(m.o.lt q h.symm).1;omega);have Q:Hid (∃z,JS I (i+1) z/\aH X w.heap.size 9 (.slice J (T.length+1) P) (sv z)):=Zz ⟨T++[(⟨#[1]⟩:B_)++G],B.o,by rw[x_q];exact f.o⟩;clear a f d m p;go_wp2;go_roundw
    case rel=>exact ⟨i+1,o_,rfl,Q,N⟩
    case measure=>simp[intOf];omega
   by_cases h4:120<=i
   ·have H3:(100:Int)<=(i:Int):=o_
    have H4:¬((i:Int)<120):=o_;have h4c:(120:Int)<=(i:Int):=o_;have h4d:decide ((i:Int)<120)=false:=h_ H4;have h4e:decide ((100:Int)<=(i:Int))=true:=decide_eq_true H3;have B:=Zz (JS.add o r ((⟨#[0]⟩:B_)++tl I i) (by rw[ke];have:=M.o i r;omega) (fun h=>absurd h Y));have y0:=M.o i r;generalize tl I i=G at *
    go_upto_region 11 with (at_builtin;refine Bp (w0:=wr) w.heap.size rfl (.tmp 41) (.tmp 44) 38 9 (.string ⟨#[]⟩) 16 rfl underlying38 C4 rfl d_ _ _ (.string ((⟨#[0]⟩:B_)++G)) rfl rfl rfl m.o ((Below.refl _ _).mono E) E (by rw[cN];have:=o.1;omega) ?_;intro V X l R b O;obtain ⟨J,P,rfl⟩:∃A c,V=.slice A (T.length+1) c:=(by obtain ⟨A,c,e⟩:=l.shape;exact ⟨A,c,by rw[e,cd,cN];rfl⟩);have f:=Zz l;have d:=Zz b;clear l R b O)
    have a:=Kp.of_grown d.o (S:=fun q=>some q=(Value.slice Z T.length C).ownBlock) fun _ h=>h;have N:=Zz (p.o.then a fun q H7 h=>by have:=(m.o.lt q h.symm).1;omega);have Q:Hid (∃z,JS I (i+1) z/\aH X w.heap.size 9 (.slice J (T.length+1) P) (sv z)):=Zz ⟨T++[(⟨#[0]⟩:B_)++G],B.o,by rw[x_q];exact f.o⟩;clear a f d m p;go_wp2;go_roundw
    case rel=>exact ⟨i+1,o_,rfl,Q,N⟩
    case measure=>simp[intOf];omega
   have h5:¬((100:Int)<=(i:Int)):=o_;have h5b:¬((120:Int)<=(i:Int)):=o_;have h5e:decide ((100:Int)<=(i:Int))=false:=h_ h5;have Q:Hid (∃z,JS I (i+1) z/\aH wr w.heap.size 9 (.slice Z T.length C) (sv z)):=Zz ⟨T,o.skip Y,m.o⟩;clear m;go_wp2;go_roundw
   case rel=>exact ⟨i+1,o_,rfl,Q,p⟩
   case measure=>simp[intOf];omega
  obtain rfl:i=140:=o_;have L:=h6.o wr p.o 2 d_;rw[x1.o] at h8
  have hn:Cy (tl I 2).data.toList<=96:=by
   unfold Cy;split
   ·have:=CR ((tl I 2).data.toList,0) 96 d_;omega
   omega
  have he:zG (tl I 2).data.toList=0\/zG (tl I 2).data.toList=4:=by
   unfold zG;split
   ·exact .inl rfl
   exact .inr rfl
  generalize Cy (tl I 2).data.toList=n at *;generalize zG (tl I 2).data.toList=er at *;clear r h1;obtain ⟨w1,rfl⟩:∃x,x=wr:=⟨wr,rfl⟩;go_wp2_with fail;refine (h8.o w1).mono ?_;rintro e y2 ⟨rfl,h7⟩;have H:=Zz (p.o.trans h7);have x7:=Zz (m.o.kp h7 fun _ _ h=>h);clear h7 p m h8 x1 L E;rcases he with rfl|rfl
  ·have zf:(2:Int)+(n:Int)<=140:=o_
   have hnd:decide ((2:Int)+(n:Int)<=140)=true:=decide_eq_true zf
   have Di:IntKind.i64.wrap ((2:Int)+(n:Int))=2+(n:Int):=by rw[eM];omega
   have UE:140<=c:=x8.o
   have ug:(2:Int)+(n:Int)<=(c:Int):=by have:=x8.o;omega
   have x5:Hid (∃s:B_,(.string ⟨#[2]⟩:Value)=.string s/\s.size<=1+0*2056):=Zz ⟨_,rfl,d_⟩;have x0:=Zz (Kp.refl ac y2)
   go_upto_region 17 with fail
   rw[Nat.add_sub_cancel_left]
   go_loopw [8,71] (fun s8 h2 wr=>∃j:Nat,j<=n/\h2=.int .i64 j/\Hid (∃s:B_,s8=.string s/\s.size<=1+j*2056)/\Hid (Kp ac y2 wr)) (fun _ h2 _=>(n-intOf h2).toNat)
   case atStart=>exact ⟨0,o_,rfl,x5,x0⟩
   case round =>
    clear x5 x0;obtain ⟨j,D,rfl,H8,F⟩:=hrel;obtain ⟨s,rfl,hs⟩:=H8.o;clear H8;by_cases r:j<n
    ·have y7:(j:Int)<(n:Int):=o_
     have L:=h6.o wr (H.o.trans F.o) (2+j) o_;have hz:=M.o (2+j) o_;have y1:=Zz (v_q wr (tl I (2+j)) o_)
     have La:(bs (df (tl I (2+j)).data.toList)).size<=2056:=by
      rw[cG];unfold df;rw[cd,ec,g5];omega
     generalize tl I (2+j)=x at *;generalize bs (df x.data.toList)=y at *
     have ud:(s++y).size<=1+(j+1)*2056:=by rw[ByteArray.size_append];omega
     have pd:s.size<=1000000:=o_;go_wp2_with fail;refine y1.o.mono ?_;rintro e w3 ⟨rfl,x2⟩;have y4:=Zz (F.o.trans x2);have y9:Hid (∃t:B_,(.string (s++y):Value)=.string t/\t.size<=1+(j+1)*2056):=Zz ⟨_,rfl,ud⟩;clear x2 y1 L;go_wp2;go_roundw
     case rel=>exact ⟨j+1,o_,by go_num,y9,y4⟩
     case measure=>simp[intOf];omega
    obtain rfl:j=n:=o_;have E:w.heap.size<=wr.heap.size:=cL H.o.size F.o.size;have x9:=Zz (x7.o.kp F.o fun _ _ h=>h);have y5:=Zz (H.o.trans F.o);have y3:s.size<=1000000:=o_;have hT1:=o.1
    go_upto_region 22 with (at_builtin;refine Bp (w0:=wr) w.heap.size rfl (.tmp 80) (.tmp 82) 38 9 (.string ⟨#[]⟩) 16 rfl underlying38 C4 rfl d_ _ _ (.string s) rfl rfl rfl x9.o ((Below.refl _ _).mono E) E (by rw[cN];omega) ?_;intro V X l R b O;obtain ⟨J,P,rfl⟩:∃A c,V=.slice A (T.length+1) c:=(by obtain ⟨A,c,e⟩:=l.shape;exact ⟨A,c,by rw[e,cd,cN];rfl⟩);have f:=Zz l;have d:=Zz b;clear l R b O)
    have a:=Kp.of_grown d.o (S:=fun q=>some q=(Value.slice Z T.length C).ownBlock) fun _ h=>h;have N:=Zz (y5.o.then a fun q H7 h=>by have:=(x9.o.lt q h.symm).1;omega)
    have K:Hid (aH X w.heap.size 9 (.slice J (T.length+1) P) (sv (T++[s]))/\(T++[s]).length<=141/\(∀x∈T++[s],x.size<=1000000)/\∀j,j<2->(⟨#[2]⟩:B_)++tl I j∈T++[s]):=Zz ⟨by rw[x_q];exact f.o,by rw[cd];simp;omega,fun x U=>by
      rcases List.mem_append.1 U with U|U
      ·exact cL (o.2.1 x U) d_
      rw[List.mem_singleton.1 U];exact y3,fun j D=>List.mem_append_left _ (o.2.2 j o_ D)⟩
    clear a f d;go_wp2;go_ret;exact ⟨_,T++[s],rfl,K.o.1,K.o.2.1,K.o.2.2.1,K.o.2.2.2,N.o⟩
  go_wp2;go_ret;exact ⟨_,T,rfl,x7.o,by have:=o.1;omega,fun x U=>cL (o.2.1 x U) d_,fun j D=>o.2.2 j o_ D,H.o⟩
end
def kZ (s:B_):B_:=bs (sw s.data.toList)
def D7 (s:B_):(kZ s).size<=1000:=by
 unfold kZ;rw[cG,x_R];decide
def TQ (w:W_) (g:a_ w) (h:10<=w.heap.size) (s:B_) (hs:s.size<=1000000) :
  Cl 79 #[.string s] w fun e w'=>e=.returned (.string (kZ s))/\Kp ac w w' :=
 qp w g h s.data.toList (by rw[g5];omega)
def N6 (g:B_->Option B_):B_->Option Value:=fun h=>(g h).map Value.string
def I3 (g:B_->Option B_) (h s:B_):B_->Option B_:=fun x=>if x=h then some s else g x
def stM_upd (g:B_->Option B_) (h s:B_):lu (N6 g) h (.string s)=N6 (I3 g h s):=by
 funext x;unfold lu N6 I3;by_cases e:x=h
 ·rw[if_pos e,if_pos e];rfl
 rw[if_neg e,if_neg e]
def Pd (ok:Bool) (g e:B_->Option B_) (P:B_->Prop):Prop :=
 ok=true->(∀h t,g h=some t->e h=some t)/\∀s,P s->e (kZ s)=some s
def Pd.start (g:B_->Option B_):Pd true g g fun _=>False:=fun _=>⟨fun _ _ h=>h,fun _ h=>h.elim⟩
def Pd.step {m:B_->Option B_} (h:Pd ok m g P) (s:B_) {j:Bool} (l:j=true->ok=true/\∀t,g (kZ s)=some t->t=s):Pd j m (I3 g (kZ s) s) fun x=>P x\/x=s:=fun e=>by
 obtain ⟨n,o⟩:=h (l e).1;have p:=(l e).2
 have key:∀k t,g k=some t->I3 g (kZ s) s k=some t:=fun k t hk=>by
  unfold I3;by_cases e:k=kZ s
  ·rw[if_pos e]
   subst e;rw[p t hk]
  rw[if_neg e];exact hk
 refine ⟨fun k t hk=>key k t (n k t hk),fun x i=>?_⟩;rcases i with i|rfl
 ·exact key _ _ (o x i)
 unfold I3;rw[if_pos rfl]
def Pd.mono {i:B_->Option B_} (h:Pd ok g i P) (j:∀s,Q s->P s):Pd ok g i Q:=fun e=>⟨(h e).1,fun s hs=>(h e).2 s (j s hs)⟩
def Pd.then {i:Bool} {j g2:B_->Option B_} (h:Pd ok g j P) (k:Pd i j g2 Q):Pd (i && ok) g g2 fun s=>P s\/Q s:=fun e=>by
 simp only[Bool.and_eq_true] at e;obtain ⟨a,b⟩:=h e.2;obtain ⟨c,d⟩:=k e.1
 exact ⟨fun x t l=>c _ _ (a _ _ l),fun s hs=>by
  rcases hs with hs|hs
  ·exact c _ _ (b s hs)
  exact d s hs⟩
def XK:prog.underlying 41=some (.map 9 9):=k_
def zeroS (W:W_):(zeroValue 9).run prog W=.ok (.string ⟨#[]⟩) W:=k_
def wlook (h:aS KS w gt (N6 g) dom) (k:B_) (hk:k.size<=1000) :
  (Instr.lookup 41 (.map (some gt)) (.string k) true).run prog w=.ok (.tuple #[.string ((g k).getD ⟨#[]⟩),.bool (g k).isSome]) w:=by
 have:=(h.look kd9 XK (zeroS w) (a:=k) (cL hk d_)).2
 have e:(N6 g k).getD (.string ⟨#[]⟩)=.string ((g k).getD ⟨#[]⟩):=by unfold N6;cases g k<;>rfl
 have i:(N6 g k).isSome=(g k).isSome:=by unfold N6;cases g k<;>rfl
 rw[e,i] at this;exact this
def wput (h:aS KS w gt (N6 g) dom) (m:dom.length<=1000000) (k s:B_) (hk:k.size<=1000) :
  ∃w' e,(Instr.mapUpdate 41 (.map (some gt)) (.string k) (.string s)).run prog w=.ok () w'/\aS KS w' gt (N6 (I3 g k s)) e/\e.length<=dom.length+1/\Kp (·=gt) w w':=by
 obtain ⟨w',j,i,l⟩:=h.put kd9 XK (by simp only[maxLen];omega) (a:=k) (cL hk d_) (.string s);rw[stM_upd] at i;refine ⟨w',_,j,i,?_,l⟩;unfold e8;split
 ·omega
 rw[cd];exact bS _
def WS (W:W_) (gt:Nat) (g:B_->Option B_) (ok:Bool) (m:Nat) (P:B_->Prop):Prop:=∃e h,aS KS W gt (N6 e) h/\h.length<=m/\Pd ok g e P
def WS.no {e:W_} (h:WS W gt g ok m P) (k:Kp ac W e):WS e gt g ok m P:=by
 obtain ⟨i,o,j,l,n⟩:=h;exact ⟨i,o,j.no k,l,n⟩
def WS.mono {e:Nat} (h:WS W gt g ok m P) (hm:m<=e) (n:∀s,Q s->P s):WS W gt g ok e Q:=by
 obtain ⟨i,o,j,k,l⟩:=h;exact ⟨i,o,j,cL k hm,l.mono n⟩
def WS.look (h:WS W gt g ok m P) (hm:m<=1000000) (s:B_):∃o:Option B_,
  (∀e,Kp ac W e->(Instr.lookup 41 (.map (some gt)) (.string (kZ s)) true).run prog e=.ok (.tuple #[.string (o.getD ⟨#[]⟩),.bool o.isSome]) e) /\
  ∀i,(i=true->ok=true/\∀t,o=some t->t=s)->∀e,Kp ac W e->∃w',(Instr.mapUpdate 41 (.map (some gt)) (.string (kZ s)) (.string s)).run prog e=.ok () w'/\WS w' gt g i (m+1) (fun x=>P x\/x=s)/\Kp (·=gt) e w':=by
 obtain ⟨u,a,j,z,v⟩:=h;refine ⟨u (kZ s),fun e k=>wlook (j.no k) _ (D7 s),fun i q e k=>?_⟩;obtain ⟨w',r,l,n,y,p⟩:=wput (j.no k) o_ (kZ s) s (D7 s);exact ⟨w',l,⟨_,r,n,o_,v.step s q⟩,p⟩
def My:B_:=(⟨#[2]⟩:B_)++bs (df (bQ 0))
def Ks:My.size<=1000:=by
 unfold My df;rw[ke,cG,cd,ec,ec];decide
def p_ (σ:Nat->ao) (i:Nat) (s:B_):Prop:=∃k j,k<i/\j<2/\s=(⟨#[2]⟩:B_)++tl (σ k).now j
section
variable {F:Nat->Prop} 
def Em (y6:a_ w) (y7:10<=w.heap.size) (hb:Bk w b n σ F) (y2:∀i,i<n->(σ i).dead=false) (hz:∀i,i<n->∀k,k<140->(tl (σ i).now k).size<=2048) (hM:aS KS w gt (N6 g) dom) (hgt:10<=gt) (hd:dom.length<=100000) :
  Cl 44 #[.map (some gt),.pointer (some ⟨b,0,none⟩)] w fun e w'=>∃ok,e=.returned (.bool ok)/\WS w' gt g ok (dom.length+1+n*141) (p_ σ n)/\Kp (·=gt) w w':=by
 have yX:=hb.offMap hM;have cq:Hid (∀W,Kp (·=gt) w W->gt<W.heap.size):=Zz fun W k=>ea hM.lt k.size
 have h5:Hid (∀W,Kp (·=gt) w W->a_ W/\10<=W.heap.size/\Bk W b n σ F):=Zz fun W k =>
  ⟨y6.kp k fun x y8 e=>o_,cL y7 k.size,hb.kp k fun x y8=>by rw[y8];exact yX⟩
 have cE:n<=12:=by obtain ⟨G,c,st,A,Φ,U,hF⟩:=hb;exact U.n12
 have DT:Hid (∀W,Kp (·=gt) w W->∀i,i<n->∃A,Cl 45 #[.pointer (some ⟨b,0,none⟩),.int .i64 i] W (fun e w'=>e=.returned (.pointer (some ⟨A,0,none⟩))/\w'=W)/\Cl 46 #[.pointer (some ⟨A,0,none⟩)] W (fun e w'=>∃v,e=.returned v/\aH w' W.heap.size 9 v (sv (σ i).now)/\Kp ac W w')):=Zz fun W k i V=>by
  obtain ⟨G,c,st,A,Φ,U,hF⟩:=(h5.o W k).2.2;exact ⟨A i,w_c U i V,xb (U.dk i V) (y2 i V)⟩
 have fT:Hid (∀i,i<n->(σ i).now.length=140):=Zz fun i V=>by
  obtain ⟨G,c,st,A,Φ,U,hF⟩:=hb;exact (U.dk i V).hn
 have HZ:=Zz hz;have yV:=Zz (fun W k=>x_m (h5.o W k).2.2);have xw:=Zz (fun W=>Vh W 0 d_);have uV:=Zz (fun W=>E3 W (bQ 0) (by rw[ec];decide));have H7:=Zz (fun W k s hs=>TQ W (h5.o W k).1 (h5.o W k).2.1 s hs);have kY:Hid (WS w gt g true dom.length fun _=>False):=Zz ⟨g,dom,hM,bS _,Pd.start g⟩;have tV:Hid (⟨#[2]⟩++bs (df (bQ 0))=My):=Zz rfl;have wY:=Ks
 have La:(bs (df (bQ 0))).size<=1000:=by
  unfold df;rw[cG,cd,ec,ec];decide
 generalize dom.length=m at *;clear y6 y7 hb y2 hz hM yX;generalize My=Y at *;generalize bs (df (bQ 0))=tx at *;generalize bs (bQ 0)=nb at *;go_enter func44,ntmps44;go_wp2_with fail;refine (xw.o w).mono ?_;rintro e w1 ⟨rfl,y1⟩;go_wp2_with fail;refine (uV.o w1).mono ?_;rintro e w2 ⟨rfl,x9⟩;have H6:=Zz (y1.trans x9);have H2:=Zz (H6.o.mono (S:=(·=gt)) fun _ _ h=>h.elim);have x5:=Zz (kY.o.no H6.o);clear y1 x9 kY
 go_upto_region 2 with fail
 rw[tV.o];obtain ⟨o,D,a⟩:=x5.o.look o_ Y;have X:=Zz D;have y:=Zz a;clear D a;go_wp2_with fail;refine (H7.o w2 H2.o Y o_).mono ?_;rintro e w3 ⟨rfl,r⟩;have d:=Zz r;have hl:=X.o w3 r
 have z:Hid (∀t,o=some t->o.isSome=true/\o.getD ⟨#[]⟩=t):=Zz fun t h=>by subst h;exact ⟨rfl,rfl⟩
 clear r X;generalize o.isSome=bz at *;generalize o.getD ⟨#[]⟩=x at *
 go_upto_region 3 with fail
 clear hl
 go_cut [30] (fun rh x0=>∃B:Bool,rh=.bool B/\Hid (B=false->∀t,o=some t->t=Y)/\w3=x0)
 case first =>
  cases bz with
  | false =>
   go_wp2_with fail
   go_meet
   exact ⟨false,rfl,Zz (by intro _ t h;have:=(z.o t h).1;cases this),rfl⟩
  | true =>
   by_cases K:x=Y
   ·subst K
    go_wp2_with fail
    go_meet
    exact ⟨false,s_,Zz (by intro _ t h;exact (z.o t h).2.symm),rfl⟩
   obtain ⟨jw,y5⟩:=Eb K;go_wp2_with fail
   go_meet
   exact ⟨true,by simp[y5],Zz (by intro h;cases h),rfl⟩
 case rest =>
 obtain ⟨B,rfl,x2,rfl⟩:=hcut
 go_upto_if 30 with fail
 go_cut [6] (fun h0 x0=>∃ok:Bool,h0=.bool ok/\Hid (ok=true->∀t,o=some t->t=Y)/\w3=x0)
 case first =>
  cases B with
  | false =>
   go_wp2_with fail
   go_meet
   exact ⟨true,rfl,Zz (by intro _;exact x2.o (by trivial)),rfl⟩
  | true =>
   go_wp2_with fail
   go_meet
   exact ⟨false,rfl,Zz (by intro h;cases h),rfl⟩
 case rest =>
  obtain ⟨ok,rfl,y9,rfl⟩:=hcut;have h8:=Zz (H2.o.trans (d.o.mono (S:=(·=gt)) fun _ _ h=>h.elim));go_wp2_with fail;refine (H7.o w3 h8.o Y o_).mono ?_;rintro e O ⟨rfl,r⟩;obtain ⟨N,a,p,Q⟩:=y.o ok (fun h=>⟨by trivial,y9.o h⟩) O (d.o.trans r);have J:=Zz ((h8.o.trans (r.mono (S:=(·=gt)) fun _ _ h=>h.elim)).trans Q);have L:Hid (WS N gt g ok (m+1+0*141) (p_ σ 0)):=Zz (p.mono o_ fun s h=>by obtain ⟨k,j,hk,_⟩:=h;omega);clear r Q p y y9 h8 H2 H6 d x5 xw uV x2 z;go_wp2_with fail;refine (yV.o N J.o).mono ?_;rintro e h3 ⟨rfl,rfl⟩
  go_upto_region 7 with fail
  go_loopw [6,37] (fun h0 H3 wr=>∃i:Nat,i<=n/\H3=.int .i64 i/\∃ok:Bool,h0=.bool ok/\Hid (WS wr gt g ok (m+1+i*141) (p_ σ i))/\Hid (Kp (·=gt) w wr)) (fun _ H3 _=>(n-intOf H3).toNat)
  case atStart=>exact ⟨0,o_,rfl,ok,rfl,L,J⟩
  case round =>
   clear L J;obtain ⟨i,V,rfl,ok,rfl,H0,Z⟩:=hrel;by_cases H5:i<n
   ·have bL:(i:Int)<(n:Int):=o_
    obtain ⟨A,jT,x1⟩:=DT.o wr Z.o i H5;have o5:=Zz jT;have x3:=Zz x1;have IK:=Zz (fT.o i H5);have H1:=Zz (HZ.o i H5);clear jT x1;obtain ⟨w1,rfl⟩:∃x,x=wr:=⟨wr,rfl⟩;go_wp2_with fail;refine o5.o.mono ?_;rintro e w2 ⟨rfl,rfl⟩;go_wp2_with fail;refine x3.o.mono ?_;rintro e w3 ⟨v,rfl,x6,r⟩;have y4:=Zz (Ln x6 IK.o H1.o);have d:=Zz r;clear r x6;go_wp2_with fail;refine y4.o.mono ?_;rintro e N ⟨u,T,rfl,h6,wU,x7,x8,Q⟩
    obtain ⟨Au,cu,rfl⟩:∃A c,u=.slice A T.length c:=by
     obtain ⟨A,c,e⟩:=h6.shape;exact ⟨A,c,by rw[e,cN]⟩
    have H9:=Zz h6;have QY:=Zz x7;have h9:=Zz x8
    have L:Hid (WS N gt g ok (m+1+i*141+0) (fun s=>p_ σ i s\/∃j,j<0/\s=tl T j)):=Zz (((H0.o.no d.o).no Q).mono (bS _) fun s h=>by
     rcases h with h|⟨j,h,_⟩
     ·exact h
     omega)
    have J:=Zz (Z.o.trans ((d.o.trans Q).mono (S:=(·=gt)) fun _ _ h=>h.elim));have x4:=Zz (Kp.refl (·=gt) N);have fa:gt<w3.heap.size:=ea (cq.o _ Z.o) d.o.size;clear h6 x7 x8 Q y4 x3 o5 Z H0 d
    have AF:Hid (∀W,Kp (·=gt) N W->∀j,j<T.length->∃h1,Au=some ⟨h1,0,none⟩/\W.cell? ⟨h1,j,none⟩=some (.string (tl T j))):=Zz fun W k j H8=>by
     have H:=H9.o.kp k fun q hq e=>by have:=(H9.o.lt q hq).1;have:=fa;have e:q=gt:=e;omega
     obtain ⟨h1,aC,e,_⟩:=H.form (by rw[cN];omega);injection e with e1 e2 e3;subst e1;have e:(sv T).length=T.length:=cN T;rw[<-e] at H;exact ⟨h1,rfl,by rw[H.cell j (by rw[e];exact H8),iQ _ _ H8]⟩
    clear H9
    go_upto_region 10 with fail
    go_loopw [6,46] (fun h0 h7 wr=>∃j:Nat,j<=T.length/\h7=.int .i64 j/\∃ok:Bool,h0=.bool ok/\Hid (WS wr gt g ok (m+1+i*141+j) (fun s=>p_ σ i s\/∃l,l<j/\s=tl T l))/\Hid (Kp (·=gt) N wr)) (fun _ h7 _=>(T.length-intOf h7).toNat)
    case atStart=>exact ⟨0,o_,rfl,ok,rfl,L,x4⟩
    case round =>
     clear L x4;obtain ⟨j,H8,rfl,E,rfl,P,M⟩:=hrel;by_cases mO:j<T.length
     ·have pY:(j:Int)<(T.length:Int):=o_
      obtain ⟨h1,rfl,y3⟩:=AF.o wr M.o j mO;have y0:=QY.o _ (K7 T j mO);obtain ⟨o,D,a⟩:=P.o.look o_ (tl T j);have X:=Zz D;have y:=Zz a
      have I:Hid (∀s,(p_ σ i s\/∃l,l<j+1/\s=tl T l)->(p_ σ i s\/∃l,l<j/\s=tl T l)\/s=tl T j):=Zz fun s h=>by
       rcases h with h|⟨l,h,e⟩
       ·exact .inl (.inl h)
       by_cases ej:l=j
       ·subst ej;exact .inr e
       exact .inl (.inr ⟨l,o_,e⟩)
      clear D a
      have z:Hid (∀t,o=some t->o.isSome=true/\o.getD ⟨#[]⟩=t):=Zz fun t h=>by subst h;exact ⟨rfl,rfl⟩
      generalize C5:tl T j=s at y3 y0 X y I;clear C5;go_wp2_with fail;refine (H7.o wr (J.o.trans M.o) s y0).mono ?_;rintro e h3 ⟨rfl,H4⟩;have R:=Zz H4;have hl:=X.o h3 H4;clear H4 X y3;generalize o.isSome=bz at *;generalize o.getD ⟨#[]⟩=x at *
      go_upto_region 14 with fail
      cases bz with
      | false =>
       obtain ⟨O,a,p,f⟩:=y.o E (fun h=>⟨h,fun t e=>by have:=(z.o t e).1;cases this⟩) h3 R.o;clear hl;have C:=Zz ((M.o.trans (R.o.mono (S:=(·=gt)) fun _ _ h=>h.elim)).trans f);have h4:Hid (WS O gt g E (m+1+i*141+(j+1)) (fun s=>p_ σ i s\/∃l,l<j+1/\s=tl T l)):=Zz (p.mono (bS _) I.o);clear f p y I P z;go_wp2;go_roundw
       case rel=>exact ⟨j+1,o_,by go_num,E,rfl,h4,C⟩
       case measure=>simp[intOf];omega
      | true =>
       by_cases K:x=s
       ·subst K
        obtain ⟨O,a,p,f⟩:=y.o E (fun h=>⟨h,fun t e=>(z.o t e).2.symm⟩) h3 R.o;clear hl;have C:=Zz ((M.o.trans (R.o.mono (S:=(·=gt)) fun _ _ h=>h.elim)).trans f);have h4:Hid (WS O gt g E (m+1+i*141+(j+1)) (fun s=>p_ σ i s\/∃l,l<j+1/\s=tl T l)):=Zz (p.mono (bS _) I.o);clear f p y I P z;go_wp2;go_roundw
        case rel=>exact ⟨j+1,o_,by go_num,E,rfl,h4,C⟩
        case measure=>simp[intOf];omega
       obtain ⟨jw,y5⟩:=Eb K;obtain ⟨O,a,p,f⟩:=y.o false (fun h=>by cases h) h3 R.o;clear hl;have C:=Zz ((M.o.trans (R.o.mono (S:=(·=gt)) fun _ _ h=>h.elim)).trans f);have h4:Hid (WS O gt g false (m+1+i*141+(j+1)) (fun s=>p_ σ i s\/∃l,l<j+1/\s=tl T l)):=Zz (p.mono (bS _) I.o);clear f p y I P z;go_wp2;go_roundw
       case rel=>exact ⟨j+1,o_,by go_num,false,rfl,h4,C⟩
       case measure=>simp[intOf];omega
     obtain rfl:j=T.length:=o_;have aL:=Zz (J.o.trans M.o)
     have JD:Hid (WS wr gt g E (m+1+(i+1)*141) (p_ σ (i+1))):=Zz (P.o.mono o_ fun s h=>by
      obtain ⟨k,j,hk,ku,e⟩:=h;by_cases ek:k=i
      ·subst ek
       obtain ⟨l,H,h2⟩:=RA (h9.o j ku);exact .inr ⟨l,H,by rw[e,h2]⟩
      exact .inl ⟨k,j,o_,ku,e⟩)
     clear P J M;go_wp2;go_roundw
     case rel=>exact ⟨i+1,o_,by go_num,E,rfl,JD,aL⟩
     case measure=>simp[intOf];omega
   obtain rfl:i=n:=o_;go_wp2;go_ret;exact ⟨ok,rfl,H0.o,Z.o⟩
end
section
variable {v gk:Nat} {vn vl vm kept:Value} {pl:Bool}
def wR {R:Bool->W_->Prop} (hz:ab w z 43 (vP p vn vl vm gt pl)) (hp:ab w p 81 (oY b v gk kept)) (E:z≠gt)
  (d:∀W,Kp ac w W->Cl 44 #[.map (some gt),.pointer (some ⟨b,0,none⟩)] W fun e w'=>∃ok,e=.returned (.bool ok)/\R ok w'/\Kp (·=gt) W w') :
  Cl 15 #[.pointer (some ⟨z,0,none⟩)] w fun e w'=>e=.returned (.tuple #[])/\∃ok W,R ok W/\Kp (·=z) W w'/\ab w' z 43 (vP p vn vl vm gt (ok && pl))/\Kp (fun q=>q=gt\/q=z) w w':=by
 have j:=Zz hz.drew;have a:=Zz hp.drew;have y:=Zz (Kp.refl ac w).drew;have x:=Zz (d w.drew (Kp.refl ac w).drew);have r:=Zz E;have f:Hid (∀W,Kp ac w.drew W->Kp ac w W):=Zz fun W k=>(Kp.refl ac w).drew.trans k;clear hz hp d;go_enter func15,ntmps15
 go_upto_region 0 with fail
 refine fs ?_;generalize w.drew=w0 at *;have c:=j.o.c0;have t:=j.o.c4;refine fp 0 ?_;refine fp 1 ?_;refine fp 2 ?_;refine fp 3 ?_;refine cw 4 t ?_;refine fp 5 ?_;refine fp 6 ?_;refine fp 7 ?_;refine cw 8 c ?_;refine fd 9 fun K s g=>?_;go_simp;refine (wQ a.o).mono ?_;rintro e I ⟨rfl,rfl⟩;refine g _ _ (oW (oK t oN)) ?_;clear g K;refine fd 10 fun K s g=>?_;go_simp;refine x.o.mono ?_;rintro e i ⟨ok,rfl,hR,hk⟩;refine g _ _ (oW (oW oN)) ?_;clear g K;have HR:=Zz hR;have o:=Zz (j.o.kp hk r.o);have G:=Zz ((y.o.mono (S:=fun q=>q=gt\/q=z) fun _ _ h=>h.elim).trans (hk.mono (S:=fun q=>q=gt\/q=z) fun _ _ h=>.inl h));clear hR hk c t x a f y j;refine fp 11 ?_;have n:=Zz (o.o.set_ 5 (.bool (ok && pl)));have l:=Zz (G.o.setCell ⟨z,5,none⟩ (.bool (ok && pl)) (.inl (.inr rfl)));have m:=Zz ((Kp.refl (·=z) i).setCell ⟨z,5,none⟩ (.bool (ok && pl)) (.inl rfl));have u:=o.o.c5;have f5:=o.o.frozen 5;clear o
 cases ok with
 | true =>
  simp only[Bool.true_and] at n l m;refine fp 12 ?_;refine fp 13 ?_;refine fp 14 ?_;refine cw 15 u ?_;refine fp 16 ?_;refine fp 17 ?_;refine fp 18 ?_;refine fd 19 fun K s g=>?_;go_simp;refine g _ _ (oW (oW (oW oN))) ?_;clear g K;refine fe ?_;clear u f5;generalize i.setCell ⟨z,5,none⟩ (.bool pl)=w3 at *;go_wp2
  go_end0
  exact ⟨rfl,true,i,HR.o,m.o,n.o,l.o⟩
 | false =>
  simp only[Bool.false_and] at n l m;refine fp 12 ?_;refine fp 13 ?_;refine fp 14 ?_;refine fp 15 ?_;refine fp 16 ?_;refine fp 17 ?_;refine fp 18 ?_;refine fd 19 fun K s g=>?_;go_simp;refine g _ _ (oW (oW oN)) ?_;clear g K;refine fe ?_;clear u f5;generalize i.setCell ⟨z,5,none⟩ (.bool false)=w3 at *;go_wp2
  go_end0
  exact ⟨rfl,false,i,HR.o,m.o,n.o,l.o⟩
end
end Go.Proofs.YtdkheklakfbeeaaGreatDoor
