/- Part 12 of the proof. -/
import Derived.RangeFuncNested
import Derived.RangeFuncBound
import Derived.RangeFuncCalls
import Derived.RangeFuncLeaves
import Derived.RangeFuncBox
import Derived.Shelf.Abstract
import Derived.Shelf.RegionOpen
import Derived.WalkKit
import Derived.OwnWalkIn
import Derived.TacticsInMore
import Derived.LoopNIn
import Derived.LoopIn
import Derived.Maps.AppendAt
import Derived.Maps.OwnIn
import Derived.Test.YtdkheklakfbeeaaGreatDoorM11
set_option linter.all false
set_option maxRecDepth 100000
set_option maxHeartbeats 16000000
namespace Go.Proofs.YtdkheklakfbeeaaGreatDoor
open Go.RowKit Tryz
variable {F:Nat->Prop}{b base k n s t:Nat}{key:List UInt8}{w:W_}{σ:Nat->ao}
section
variable {e size g c:Nat} {v:Value} {xs:List Value}
def x_a (h:w.ownsRow base e size (.slice (some ⟨g,0,none⟩) n c) n xs) (j:Nat) (u:Value) :
  (w.setCell ⟨g,j,none⟩ u).ownsRow base e size (.slice (some ⟨g,0,none⟩) n c) n (xs.set j u):=by
 rcases h.2 with ⟨i,t⟩|⟨s,k,l,p,hb,q,o,hm,hs,r⟩
 ·cases i
 injection p with i v m
 injection i with i
 injection i with i
 subst i;refine ⟨by simpa using h.1,.inr ⟨g,k,l.setIfInBounds j u,by rw[m],hb,?_,o,hm,by simpa using hs,?_⟩⟩
 ·simp[World.setCell,Array.getElem?_modify,q]
 rw[Array.toList_setIfInBounds,<-r,List.take_set]
def Ho (h:w.ownsRow base e size (.slice (some ⟨g,0,none⟩) n c) n xs) (j:Nat) (o:j<n*size):w.cell? ⟨g,j,none⟩=xs[j]?:=by
 rcases h.2 with ⟨i,s⟩|⟨r,q,k,l,hb,m,v,hm,hs,p⟩
 ·cases i
 injection l with i t u
 injection i with i
 injection i with i
 subst i;rw[cell_of_row w g j k e (0,0) m,<-p,List.getElem?_take_of_lt o,Array.getElem?_toList]
def y_e (h:w.ownsRow base e size (.slice (some ⟨g,0,none⟩) n c) n xs) (j:Nat):w.frozen? ⟨g,j,none⟩=false:=by
 rcases h.2 with ⟨i,r⟩|⟨q,p,l,m,hb,o,u,hm,hs,v⟩
 ·cases i
 injection m with i s t
 injection i with i
 injection i with i
 subst i;have k:ab w g e l:=o;exact k.frozen j
def LF (h:w.ownsRow base e size v n xs) (hn:0<n):∃g c,v=.slice (some ⟨g,0,none⟩) n c/\base<=g/\g<w.heap.size:=by
 rcases h.2 with ⟨p,o⟩|⟨j,i,m,k,hb,l,q,hm,hs,r⟩
 ·omega
 exact ⟨j,i,k,hb,(F4.1 l).1⟩
end
def rH (L:List fv):∀(i:Nat) (m:fv),i<L.length->ds (L.set i m)=(((ds L).set (i*3) (.int .i64 m.st)).set (i*3+1) (.string m.top)).set (i*3+2) (.string m.log):=by
 induction L with
 | nil=>intro i m h;cases h
 | cons x L k =>
  intro i m h
  cases i with
  | zero=>rfl
  | succ i =>
   have j:i<L.length:=by simpa using h
   have e:ds (x::L)=.int .i64 x.st::.string x.top::.string x.log::ds L:=rfl;have g:ds ((x::L).set (i+1) m)=.int .i64 x.st::.string x.top::.string x.log::ds (L.set i m):=rfl;rw[e,g,k i m j,show (i+1)*3=i*3+3 by omega,show i*3+3+1=(i*3+1)+3 by omega,show i*3+3+2=(i*3+2)+3 by omega];rfl
def memC_st (L:List fv) (i:Nat) (h:i<L.length) (st:Nat):(ds L).set (i*3) (.int .i64 st)=ds (L.set i { L[i]'h with st:=st }):=by
 rw[rH L i _ h];obtain ⟨_,j,l⟩:=Re L i h;apply C8;intro k;simp only[BA,iO];by_cases g:i*3+2=k
 ·subst g
  have hl:i*3+2<(ds L).length:=(AP.1 l).1;simp[hl];exact (AP.1 l).2
 by_cases e:i*3+1=k
 ·subst e
  have hl:i*3+1<(ds L).length:=(AP.1 j).1;simp[hl];exact (AP.1 j).2
 simp[e,g]
def Ew (L:List fv) (i:Nat) (h:i<L.length) (top:B_):(ds L).set (i*3+1) (.string top)=ds (L.set i { L[i]'h with top:=top }):=by
 rw[rH L i _ h];obtain ⟨j,_,l⟩:=Re L i h;apply C8;intro k;simp only[BA,iO];by_cases g:i*3+2=k
 ·subst g
  have hl:i*3+2<(ds L).length:=(AP.1 l).1;simp[hl];exact (AP.1 l).2
 by_cases e:i*3=k
 ·subst e
  have hl:i*3<(ds L).length:=(AP.1 j).1;simp[hl];exact (AP.1 j).2
 simp[e,g]
def w_4 (L:List fv) (i:Nat) (h:i<L.length) (log:B_):(ds L).set (i*3+2) (.string log)=ds (L.set i { L[i]'h with log:=log }):=by
 rw[rH L i _ h];obtain ⟨j,l,_⟩:=Re L i h;apply C8;intro k;simp only[BA,iO];by_cases g:i*3+1=k
 ·subst g
  have hl:i*3+1<(ds L).length:=(AP.1 l).1;simp[hl];exact (AP.1 l).2
 by_cases e:i*3=k
 ·subst e
  have hl:i*3<(ds L).length:=(AP.1 j).1;simp[hl];exact (AP.1 j).2
 simp[e,g]
def gy:List UInt8:=List.replicate 32 0
def lx (key:List UInt8) (i t:Nat) (c:B_) (p:List UInt8):Prop :=
 p.length=32/\((c=bs []/\p=gy)\/∃nonce:List UInt8,nonce.length=12/\c=Ac key nonce i t p)
def Q_ (nonce x:List UInt8) (hn:nonce.length=12) (e:x.length=48):(bs (nonce++x)).extract 0 12=bs nonce/\(bs (nonce++x)).extract 12 60=bs x:=by
 constructor
 ·rw[Co,List.drop_zero,<-hn,Nat.sub_zero,List.take_left]
 rw[Co,<-hn,List.drop_left,kx o_]
def SL:(⟨(Lib.repeatL (⟨#[0]⟩:B_).data.toList 32).toArray⟩:B_)=bs gy:=d_
section
variable {i:Nat} 
def TY (Z:Hm) (U:a_ w) (h:Bk w b n σ F) (hw:10<=w.heap.size) (D:i<n) (hn:n<=12) (hs:sl s) (hk:key.length=32) (H2:t<s) (H1:(σ i).dead=false) (N:Nat->B_) (p:List UInt8)
  (H3:∀j,j<dP s->(tl (σ i).now (100+(dJ s t).getD j 0)).size=64/\im (tl (σ i).now (100+(dJ s t).getD j 0))=N j/\N (j+1)=jh (tl (σ i).now (100+(dJ s t).getD j 0)) (sec s t j))
  (h3:N (dP s)=cK (tl (σ i).now (120+t))) (B:lx key i t (tl (σ i).now (120+t)) p) :
  Cl 100 #[.agg (di b i s key),.string (N 0),.int .i64 t] w fun e w'=>e=.returned (.tuple #[.string (bs p),.int .i64 0])/\Kp ac w w':=by
 have kA:s<=4:=by rcases hs with rfl|rfl<;>omega
 have g:=Zz (ab.new w 139 (di b i s key));have c:=Zz ((Kp.refl ac w).alloc (.cells (di b i s key) 139))
 have M:10<=(w.alloc (.cells (di b i s key) 139)).heap.size:=by have:=c.o.size;omega
 have h5:=Zz (z_aa Z (U.no c.o) (h.no c.o) M D hs hk H2);have h0:=Zz (fun W (k:Kp ac w W) (Y:10<=W.heap.size)=>Cv (key:=key) Z (U.no k) (h.no k) Y D hs H2 (.map none) (fun _=>none) (v_ W) (fun q=>tl (σ i).now (100+q)) N (fun j _=>⟨fun y x9=>(by cases x9),fun _=>⟨H1,rfl⟩⟩) H3);have P:=Zz (fun W (k:Kp ac w W)=>x_n (h.no k) i (120+t) D o_);rw[h3] at h0;rw[H1] at P;have P:Hid (∀W,Kp ac w W->Cl 130 #[.pointer (some ⟨b,0,none⟩),.int .i64 i,.int .i64 (120+t:Nat)] W fun e w'=>e=.returned (.tuple #[.string (tl (σ i).now (120+t)),.int .i64 0])/\w'=W):=P;have H9:=Zz (fun W=>Bm W b i s t key o_ o_);have y8:(di b i s key).size=4:=rfl;have x5:Hid ((prog.info? 139).map (·.size)=some 4):=Zz k_;have h9:=Zz U;have Yo:(120:Int)+(t:Int)=((120+t:Nat):Int):=o_
 have Tx:IntKind.i64.wrap ((120+t:Nat):Int)=((120+t:Nat):Int):=by rw[eM];omega
 have y7:(tl (σ i).now (120+t)).size<=1000:=by
  rcases B.2 with ⟨h,_⟩|⟨nc,h1,h2⟩
  ·rw[h,cG];decide
  rw[h2,mH _ _ _ _ _ h1 B.1];decide
 have H5:=Zz (fun W (A:a_ W) (Y:10<=W.heap.size)=>mJ W A Y (tl (σ i).now (120+t)) o_);clear Z hs U h M H3 h3;generalize tl (σ i).now (120+t)=C at *;generalize 120+t=tt at *;generalize x1:cK C=y6 at *;change Cl 100 #[.agg #[.pointer (some ⟨b,0,none⟩),.int .i64 i,.int .i64 s,.string (bs key)],.string (N 0),.int .i64 t] w _;have y9:Hid (∀(Q:Prop),Q->Q):=Zz fun _ h=>h;obtain ⟨V,x8⟩:=B;rcases x8 with ⟨R,H6⟩|⟨nonce,L,R⟩
 ·subst R
  have h6:=Tryz.strings_Repeat_main ⟨#[0]⟩ 32;have H7:=Zz (fun W=>h6 W d_ d_ d_ d_);rw[SL,<-H6] at H7
  have x4:(bs []).toList.isEmpty=true:=by rw[Lib.toList_data,AT];rfl
  have hq:bs []=(⟨#[]⟩:B_):=rfl;clear H6 h6;generalize bs p=x2 at *;go_enter func100,ntmps100
  go_upto_region 1 with fail
  change Code.wp _ _ _ _ (w.alloc (.cells (di b i s key) 139));generalize M:w.alloc (.cells (di b i s key) 139)=y1 at *;clear M;obtain ⟨G,hG⟩:∃G,w.heap.size=G:=⟨_,rfl⟩;rw[hG] at g ⊢;have r:=g.o.c0;have v:=g.o.c1;have I:=g.o.c2;have z:=g.o.c3;go_wp2_with fail;refine h5.o.mono ?_;rintro e y2 ⟨rfl,f⟩;have m:=Zz (g.o.kp f fun h=>h);have a:=Zz (c.o.trans f);clear f r v I z g c;have r:=m.o.c0;have v:=m.o.c1;have I:=m.o.c2;have z:=m.o.c3;go_wp2_with fail;refine (h0.o _ a.o (by have:=a.o.size;omega)).mono ?_;rintro e w3 ⟨u,rfl,H,E⟩;have d:=Zz (m.o.kp E fun h=>h);have o:=Zz (a.o.trans E);clear E H r v I z m a;have r:=d.o.c0;have v:=d.o.c1;go_wp2_with fail;refine (P.o _ o.o).mono ?_;rintro e y3 ⟨rfl,rfl⟩;go_wp2_with fail;refine (H5.o _ (h9.o.no o.o) (by have:=o.o.size;omega)).mono ?_;rintro e H8 ⟨rfl,J⟩;have T:=Zz (o.o.trans J);clear J;go_wp2_with fail;refine (H7.o _).mono ?_;rintro e y4 ⟨rfl,x7⟩;go_wp2;go_ret2;exact ⟨rfl,T.o.trans (Kp.of_below x7 _)⟩
 have dR:C.size=60:=by rw[R];exact mH _ _ _ _ _ L V
 have H4:=z_ab key nonce (pQ i t) p V;obtain ⟨y5,y0⟩:=Q_ nonce (pL key nonce (pQ i t) p) L H4;have h4:C=bs (nonce++pL key nonce (pQ i t) p):=R;rw[<-h4] at y5 y0
 have x4:C.toList.isEmpty=false:=by
  rw[Lib.toList_data]
  cases hl:C.data.toList with
  | nil=>have:=g5 C;rw[hl] at this;simp at this;omega
  | cons x l=>rfl
 have x0:=Zz (fun W=>Uz W key nonce (pQ i t) p hk L (wT i t) V);clear R h4 H4 x1;generalize pL key nonce (pQ i t) p=SF at *;generalize pQ i t=WB at *;generalize bs p=x2 at *;go_enter func100,ntmps100
 go_upto_region 1 with fail
 change Code.wp _ _ _ _ (w.alloc (.cells (di b i s key) 139));generalize M:w.alloc (.cells (di b i s key) 139)=y1 at *;clear M;obtain ⟨G,hG⟩:∃G,w.heap.size=G:=⟨_,rfl⟩;rw[hG] at g ⊢;have r:=g.o.c0;have v:=g.o.c1;have I:=g.o.c2;have z:=g.o.c3;go_wp2_with fail;refine h5.o.mono ?_;rintro e y2 ⟨rfl,f⟩;have m:=Zz (g.o.kp f fun h=>h);have a:=Zz (c.o.trans f);clear f r v I z g c;have r:=m.o.c0;have v:=m.o.c1;have I:=m.o.c2;have z:=m.o.c3;go_wp2_with fail;refine (h0.o _ a.o (by have:=a.o.size;omega)).mono ?_;rintro e w3 ⟨u,rfl,H,E⟩;have d:=Zz (m.o.kp E fun h=>h);have o:=Zz (a.o.trans E);clear E H r v I z m a;have r:=d.o.c0;have v:=d.o.c1;go_wp2_with fail;refine (P.o _ o.o).mono ?_;rintro e y3 ⟨rfl,rfl⟩;go_wp2_with fail;refine (H5.o _ (h9.o.no o.o) (by have:=o.o.size;omega)).mono ?_;rintro e H8 ⟨rfl,J⟩;have S:=Zz (d.o.kp J fun h=>h).drew;have T:=Zz (o.o.trans J).drew;clear J r v d o
 go_upto_region 16 with fail
 refine fs ?_;generalize H8.drew=y4 at *;have z:=S.o.c3;refine fp 0 ?_;refine cw 1 z ?_;refine fp 2 ?_;refine fp 3 ?_;refine JR 4 (fun W=>ab W G 139 (di b i s key)) rfl rfl rfl k_ k_ S.o (fun W A=>z_au rfl rfl A underlying139 rfl x5.o) ?_;refine fp 5 ?_;refine fp 7 ?_;refine fp 8 ?_;refine fd 6 fun K x3 O=>?_;go_simp;refine (H9.o _).mono ?_;rintro e w7 ⟨rfl,X⟩;have H0:=Zz (S.o.kp X fun h=>h);have h8:=Zz (T.o.trans X);refine O _ _ (oW (oK (H0.o.cell 3) oN)) ?_;clear O K z X S T;refine fd 9 fun K x3 O=>?_;go_simp;refine (x0.o _).mono ?_;rintro e w8 ⟨rfl,h7⟩;have x6:=Zz (h8.o.trans h7);refine O _ _ (oW (oW oN)) ?_;clear O K h7 H0 h8;refine fp 10 ?_;refine fp 11 ?_;refine fp 12 ?_;refine fp 13 ?_;refine fe ?_;go_wp2;go_ret2;exact ⟨rfl,x6.o⟩
def Dd (r:Hm) (q:a_ w) (h:Bk w b n σ F) (J:10<=w.heap.size) (z:i<n) (hs:sl s) (hk:key.length=32) (a:t<s) (E:(σ i).dead=true) (top:B_) :
  Cl 100 #[.agg (di b i s key),.string top,.int .i64 t] w fun e w'=>e=.returned (.tuple #[.string ⟨#[]⟩,.int .i64 20])/\Kp ac w w':=by
 have g:=Zz (ab.new w 139 (di b i s key));have j:=Zz ((Kp.refl ac w).alloc (.cells (di b i s key) 139))
 have l:10<=(w.alloc (.cells (di b i s key) 139)).heap.size:=by have:=j.o.size;omega
 have c:=Zz (z_aa r (q.no j.o) (h.no j.o) l z hs hk a);have I:=Zz (fun W (k:Kp ac w W) (f:10<=W.heap.size)=>jn (key:=key) r (q.no k) (h.no k) f z hs a E (.map none) (fun _=>none) (v_ W) rfl top);clear r hs q h l;change Cl 100 #[.agg #[.pointer (some ⟨b,0,none⟩),.int .i64 i,.int .i64 s,.string (bs key)],.string top,.int .i64 t] w _;go_enter func100,ntmps100
 go_upto_region 1 with fail
 change Code.wp _ _ _ _ (w.alloc (.cells (di b i s key) 139));generalize l:w.alloc (.cells (di b i s key) 139)=M at *;clear l;obtain ⟨G,hG⟩:∃G,w.heap.size=G:=⟨_,rfl⟩;rw[hG] at g ⊢;have u:=g.o.c0;have v:=g.o.c1;have x:=g.o.c2;have y:=g.o.c3;go_wp2_with fail;refine c.o.mono ?_;rintro e N ⟨rfl,o⟩;have m:=Zz (g.o.kp o fun h=>h);have p:=Zz (j.o.trans o);clear o u v x y g j;have u:=m.o.c0;have v:=m.o.c1;have x:=m.o.c2;have y:=m.o.c3;go_wp2_with fail;refine (I.o _ p.o (by have:=p.o.size;omega)).mono ?_;rintro e w3 ⟨rfl,d⟩;go_wp2;go_ret2;exact ⟨rfl,p.o.trans d⟩
end
def dD (s:Nat) (e:Nat->B_) (q:Nat):B_ :=
 if s=2 then cK (e 0)++cK (e 1)
 else if q=1 then im (cK (e 0)++cK (e 1))++im (cK (e 2)++cK (e 3))
 else if q=2 then cK (e 0)++cK (e 1) else cK (e 2)++cK (e 3)
def RM (s:Nat) (e:Nat->B_) (q:Nat):B_:=if q<s then im (dD s e q) else cK (e (q-s))
def e9 (s:Nat) (e:Nat->B_):B_:=RM s e 1
def WM (s:Nat) (e:Nat->B_) (i:Nat):RM s e (s+i)=cK (e i):=by
 unfold RM;rw[if_neg o_,Nat.add_sub_cancel_left]
def Qq (hs:sl s) (e:Nat->B_) (i:Nat) (h:1<=i) (g:i<s):dD s e i=RM s e (2*i)++RM s e (2*i+1)/\RM s e i=im (dD s e i):=by
 refine ⟨?_,by unfold RM;rw[if_pos g]⟩;rcases hs with rfl|rfl
 ·obtain rfl:i=1:=o_
  rfl
 rcases (by omega:i=1\/i=2\/i=3) with rfl|rfl|rfl<;>rfl
def kh {a b:B_} (ha:a.size=32) (hb:b.size=32):(a++b).size=64:=by rw[ByteArray.size_append,ha,hb]
def w_8 (s:Nat) (e:Nat->B_) (q:Nat):(dD s e q).size=64:=by
 unfold dD;split
 ·exact kh (wC _) (wC _)
 split
 ·exact kh (y_3 _) (y_3 _)
 split
 ·exact kh (wC _) (wC _)
 exact kh (wC _) (wC _)
def w_z {a b:B_} (ha:a.size=32) (hb:b.size=32):jh (a++b) false=a/\jh (a++b) true=b:=by
 have g:a=bs a.data.toList:=(J3 a).symm;have h:b=bs b.data.toList:=(J3 b).symm
 have e:a.data.toList.length=32:=by rw[g5];exact ha
 have i:b.data.toList.length=32:=by rw[g5];exact hb
 rw[g,h,uQ];generalize a.data.toList=x at *;generalize b.data.toList=y at *;constructor
 ·show (bs (x++y)).extract 0 32=bs x
  rw[Co,List.drop_zero,<-e,Nat.sub_zero,List.take_left]
 show (bs (x++y)).extract 32 64=bs y;rw[Co,<-e,List.drop_left,kx o_]
def RG (s t:Nat) (e:Nat->B_) (j:Nat):B_:=if j=0 then e9 s e else if j=1/\s=4 then im (dD 4 e (2+t / 2)) else cK (e t)
def E4 (hs:sl s) (t:Nat) (e:Nat->B_):RG s t e (dP s)=cK (e t):=by
 rcases hs with rfl|rfl<;>rfl
def Kb (hs:sl s) (o:t<s) (e:Nat->B_):∀j,j<dP s ->
  (dD s e ((dJ s t).getD j 0)).size=64/\im (dD s e ((dJ s t).getD j 0))=RG s t e j/\RG s t e (j+1)=jh (dD s e ((dJ s t).getD j 0)) (sec s t j):=by
 intro j n;refine ⟨w_8 _ _ _,?_⟩;rcases hs with rfl|rfl
 ·obtain rfl:j=0:=by have:dP 2=1:=rfl;omega
  obtain ⟨g,h⟩:=w_z (wC (e 0)) (wC (e 1));rcases (by omega:t=0\/t=1) with rfl|rfl
  ·exact ⟨rfl,g.symm⟩
  exact ⟨rfl,h.symm⟩
 obtain ⟨g,h⟩:=w_z (wC (e 0)) (wC (e 1));obtain ⟨l,m⟩:=w_z (wC (e 2)) (wC (e 3));obtain ⟨i,k⟩:=w_z (y_3 (cK (e 0)++cK (e 1))) (y_3 (cK (e 2)++cK (e 3)));rcases (by have:dP 4=2:=rfl;omega:j=0\/j=1) with rfl|rfl
 ·rcases (by omega:t=0\/t=1\/t=2\/t=3) with rfl|rfl|rfl|rfl
  ·exact ⟨rfl,i.symm⟩
  ·exact ⟨rfl,i.symm⟩
  ·exact ⟨rfl,k.symm⟩
  exact ⟨rfl,k.symm⟩
 rcases (by omega:t=0\/t=1\/t=2\/t=3) with rfl|rfl|rfl|rfl
 ·exact ⟨rfl,g.symm⟩
 ·exact ⟨rfl,h.symm⟩
 ·exact ⟨rfl,l.symm⟩
 exact ⟨rfl,m.symm⟩
def nP (e:Nat->B_) (t:Nat) (c:B_):Nat->B_:=fun j=>if j=t then c else e j
def YU (hs:sl s) (o:t<s) (e:Nat->B_) (c:B_):∀j,j<dP s ->
  dD s (nP e t c) ((dJ s t).getD j 0)=(if sec s t j then jh (dD s e ((dJ s t).getD j 0)) false++RG s t (nP e t c) (j+1) else RG s t (nP e t c) (j+1)++jh (dD s e ((dJ s t).getD j 0)) true) /\
  RG s t (nP e t c) j=im (dD s (nP e t c) ((dJ s t).getD j 0)):=by
 intro j n;refine ⟨?_,((Kb hs o (nP e t c) j n).2.1).symm⟩;rcases hs with rfl|rfl
 ·obtain rfl:j=0:=by have:dP 2=1:=rfl;omega
  obtain ⟨g,h⟩:=w_z (wC (e 0)) (wC (e 1));rcases (by omega:t=0\/t=1) with rfl|rfl
  ·show cK c++cK (e 1)=cK c++jh (cK (e 0)++cK (e 1)) true
   rw[h]
  show cK (e 0)++cK c=jh (cK (e 0)++cK (e 1)) false++cK c;rw[g]
 obtain ⟨g,h⟩:=w_z (wC (e 0)) (wC (e 1));obtain ⟨l,m⟩:=w_z (wC (e 2)) (wC (e 3));obtain ⟨i,k⟩:=w_z (y_3 (cK (e 0)++cK (e 1))) (y_3 (cK (e 2)++cK (e 3)));rcases (by have:dP 4=2:=rfl;omega:j=0\/j=1) with rfl|rfl
 ·rcases (by omega:t=0\/t=1\/t=2\/t=3) with rfl|rfl|rfl|rfl
  ·show im (cK c++cK (e 1))++im (cK (e 2)++cK (e 3))=im (cK c++cK (e 1))++jh (im (cK (e 0)++cK (e 1))++im (cK (e 2)++cK (e 3))) true
   rw[k]
  ·show im (cK (e 0)++cK c)++im (cK (e 2)++cK (e 3))=im (cK (e 0)++cK c)++jh (im (cK (e 0)++cK (e 1))++im (cK (e 2)++cK (e 3))) true
   rw[k]
  ·show im (cK (e 0)++cK (e 1))++im (cK c++cK (e 3))=jh (im (cK (e 0)++cK (e 1))++im (cK (e 2)++cK (e 3))) false++im (cK c++cK (e 3))
   rw[i]
  show im (cK (e 0)++cK (e 1))++im (cK (e 2)++cK c)=jh (im (cK (e 0)++cK (e 1))++im (cK (e 2)++cK (e 3))) false++im (cK (e 2)++cK c);rw[i]
 rcases (by omega:t=0\/t=1\/t=2\/t=3) with rfl|rfl|rfl|rfl
 ·show cK c++cK (e 1)=cK c++jh (cK (e 0)++cK (e 1)) true
  rw[h]
 ·show cK (e 0)++cK c=jh (cK (e 0)++cK (e 1)) false++cK c
  rw[g]
 ·show cK c++cK (e 3)=cK c++jh (cK (e 2)++cK (e 3)) true
  rw[m]
 show cK (e 2)++cK c=jh (cK (e 2)++cK (e 3)) false++cK c;rw[l]
def MT (hs:sl s) (o:t<s) (i:Nat->B_) (c:B_) (q:Nat) (p:1<=q) (n:q<s) (g:q∉dJ s t):dD s (nP i t c) q=dD s i q:=by
 rcases hs with rfl|rfl
 ·exact absurd (by unfold dJ;rw[if_pos rfl];simp;omega) g
 unfold dJ at g;rw[if_neg d_] at g
 have hn:¬(q=1\/q=2+t / 2):=by simpa using g
 have j:∀x,x≠t->nP i t c x=i x:=fun x m=>if_neg m;have l:¬(4=2):=d_;have k:¬(q=1):=fun h=>hn (.inl h);unfold dD;simp only[if_neg l,if_neg k];by_cases e:q=2
 ·simp only[if_pos e]
  rw[j 0 o_,j 1 o_]
 simp only[if_neg e];rw[j 2 o_,j 3 o_]
def fl (f:Nat->B_) (p:Nat->Bool) (n:Nat):List B_:=(List.range n).map fun j=>if p j then f j else ByteArray.empty
def Gb (f:Nat->B_) (p:Nat->Bool) (n:Nat):(fl f p n).length=n:=by simp[fl]
def D3 (f:Nat->B_) (p:Nat->Bool) (n i:Nat) (h:i<n):tl (fl f p n) i=if p i then f i else ByteArray.empty:=by
 simp[tl,fl,h]
def zg (f:Nat->B_) (p g:Nat->Bool) (n i:Nat) (hp:∀j,j<n->j≠i->g j=p j) (k:g i=true):(fl f p n).set i (f i)=fl f g n:=by
 apply i2 (by simp[fl]);intro j m h
 have l:j<n:=by simpa[fl] using h
 rw[List.getElem_set];by_cases e:i=j
 ·subst e;rw[if_pos rfl];simp[fl,k]
 rw[if_neg e];simp[fl,hp j l (Ne.symm e)]
def qF (f:Nat->B_) (p:Nat->Bool) (n:Nat) (h:∀j,j<n->p j=false):fl f p n=List.replicate n ByteArray.empty:=by
 apply i2 (by simp[fl]);intro j e i
 have g:j<n:=by simpa[fl] using e
 simp[fl,h j g]
def fl_eq (f:Nat->B_) (p e:Nat->Bool) (n:Nat) (h:∀j,j<n->p j=e j):fl f p n=fl f e n:=by
 apply i2 (by simp[fl]);intro j g k
 have i:j<n:=by simpa[fl] using g
 simp[fl,h j i]
def own_blk {W:W_} {G c:Nat} {L:List B_} (h:aH W base 9 (.slice (some ⟨G,0,none⟩) k k) (sv L)) (hl:L.length=k):ab W G 9 (sv L).toArray:=by
 rcases h.2 with ⟨e,_⟩|⟨o,m,n,i,hb,j,q,hm,hs,l⟩
 ·cases e
 injection i with e p g
 injection e with e
 injection e with e
 subst e g;unfold ab;rw[j,<-l,cN,hl,kx (by simpa using Nat.le_of_eq hs)]
def OQ {W:W_} {G:Nat} {L:List B_} (h:ab W G 9 (sv L).toArray) (hl:L.length=k) (hb:base<=G) (hm:k<=maxLen):aH W base 9 (.slice (some ⟨G,0,none⟩) k k) (sv L):=by
 refine ⟨s_,.inr ⟨G,k,(sv L).toArray,by rw[cN,hl],hb,h,by rw[cN,hl];exact bS _,hm,by simp[cN,hl],by rw[List.toList_toArray,Nat.mul_one,List.take_length]⟩⟩
def Jq (w:W_) (s:Nat) (hs:s=2\/s=4) (v:Value) (x:B_) (hv:b_ w v (sv [x])) :
  Cl 142 #[v,.int .i64 s] w fun e w'=>∃u,e=.returned u/\b_ w' u (sv (List.replicate s x))/\Kp ac w w':=by
 have T:=Zz hv;obtain ⟨A,c,rfl,h7,h9,Z⟩:=hv;have a:=Zz (fun W=>Tryz.bits_Mul 1 s d_ o_ W);have N:1*s / 18446744073709551616=0:=o_;have O:1*s % 18446744073709551616=s:=o_;rw[N,O] at a;have q:=mr s o_ w;have l:=aH.made_txts w w.heap.size s (bS _) o_;have n:=(Kp.refl ac w).alloc (.cells (madeCells #[.string ⟨#[]⟩] s) 9);obtain ⟨w0,P⟩:∃w0,w.alloc (.cells (madeCells #[.string ⟨#[]⟩] s) 9)=w0:=⟨_,rfl⟩;rw[P] at q l n;have U:=Zz (T.o.below n.below0);obtain ⟨G,hG⟩:∃G,w.heap.size=G:=⟨_,rfl⟩;rw[hG] at q l;have M:=Zz hG;have r:=own_blk l s_ (c:=s);rw[<-qF (fun _=>x) (fun j=>decide (j<0)) s (fun j _=>s_)] at r;have g:=Zz r;have i:=Zz n
 have H2:IntKind.u64.wrap (s:Int)=(s:Int):=by rw[ie];omega
 have K:IntKind.i64.wrap (s:Int)=(s:Int):=by rw[eM];omega
 have H3:¬((s:Int)<0):=o_;have H0:¬(9223372036854775807<(s:Int)):=o_;have o:=Zz hs;have h5:s<=4/\2<=s:=o_;clear l n P hG r N O Z hs;go_enter func142,ntmps142;go_wp2_with fail;refine (a.o _).mono ?_;rintro e h2 ⟨rfl,rfl⟩
 go_upto_region 7 with fail
 clear q
 have h0:Hid (∀m,1<=m->2*m<=s->(List.take m (sv (fl (fun _=>x) (fun j=>decide (j<m)) s)).toArray.toList++sv (List.replicate m x)++List.drop (m+(sv (List.replicate m x)).length) (sv (fl (fun _=>x) (fun j=>decide (j<m)) s)).toArray.toList).toArray=(sv (fl (fun _=>x) (fun j=>decide (j<2*m)) s)).toArray):=Zz fun m hm t=>by
  rcases o.o with rfl|rfl
  ·obtain rfl:m=1:=o_
   rfl
  rcases (by omega:m=1\/m=2) with rfl|rfl<;>rfl
 have L:Hid ((List.take 0 (sv (fl (fun _=>x) (fun j=>decide (j<0)) s)).toArray.toList++sv [x]++List.drop (0+(sv [x]).length) (sv (fl (fun _=>x) (fun j=>decide (j<0)) s)).toArray.toList).toArray=(sv (fl (fun _=>x) (fun j=>decide (j<1)) s)).toArray):=Zz (by
  rcases o.o with rfl|rfl<;>rfl)
 have h4:Hid (b_ w0 (.slice A 1 c) (sv [x])):=U
 have J:Hid (∀m,∀u∈sv (List.replicate m x),u.oneCell'=true):=Zz fun m u H=>by
  obtain ⟨y,_,rfl⟩:=List.mem_map.1 H;rfl
 have I:Hid (∀p:Nat->Bool,(sv (fl (fun _=>x) p s)).toArray.size=s):=Zz fun p=>by rw[tK,cN,Gb]
 rw[show (sv [x]).length=1 from rfl]
 go_wp2_with (refine Sl rfl ?_;refine jS rfl underlying38 k_ rfl rfl g.o h4.o (by show 0<1;decide) (by show 1<=s;omega) (by rw[I.o];show 0+1<=s;omega) (J.o 1) ?_;rw[L.o];have d:=Zz (g.o.setRow (cs':=(sv (fl (fun _=>x) (fun j=>decide (j<1)) s)).toArray));have f:=Zz (i.o.setRow G (sv (fl (fun _=>x) (fun j=>decide (j<1)) s)).toArray (.inr (Nat.le_of_eq M.o)));generalize w0.setRow G (sv (fl (fun _=>x) (fun j=>decide (j<1)) s)).toArray=H5 at *)
 clear g i
 go_loopw [8] (fun z wr=>∃m:Nat,(m=1\/m=2\/m=4)/\m<=s/\z=.int .i64 m/\Hid (ab wr G 9 (sv (fl (fun _=>x) (fun j=>decide (j<m)) s)).toArray)/\Hid (Kp ac h2 wr)) (fun z _=>s-(intOf z).toNat)
 case atStart=>exact ⟨1,o_,o_,rfl,d,f⟩
 case round =>
  clear d f;obtain ⟨m,hm,V,rfl,g,i⟩:=hrel;by_cases h8:m<s
  ·have H4:(m:Int)<(s:Int):=o_
   have t:2*m<=s:=by rcases o.o with h|h<;>omega
   have R:1<=m:=o_;have H1:¬(s=m):=o_;have h6:(m:Int)<=(s:Int):=o_;have S:=Zz (h0.o m R t)
   have E:b_ wr.drew (.slice (some ⟨G,0,none⟩) m s) (sv (List.replicate m x)):=by
    have hl:(sv (List.replicate m x)).length=m:=by rw[cN,Aa]
    refine ⟨some ⟨G,0,none⟩,s,by rw[hl],by rw[hl];exact V,o_,fun _=>⟨G,0,rfl,fun j k=>?_⟩⟩;rw[hl] at k;have:=g.o.cell j;rw[jm];refine Eq.trans this ?_;rw[lP];rw[iQ _ _ (by rw[Gb];omega),iQ _ _ (by rw[Aa];exact k),D3 _ _ _ _ o_];simp[tl,k]
   have D:=Zz E;have b:=Zz g.o.drew;have Y:=Zz i.o.drew;have C:=Zz hm;clear E g i hm
   go_upto_region 9 with fail
   refine fs ?_;generalize wr.drew=h3 at *;refine fp 0 ?_;refine fp 1 ?_;refine fp 2 ?_;refine fp 3 ?_;refine fp 4 ?_;refine fp 5 ?_;refine fp 6 ?_;refine Dj 7 rfl rfl k_ ?_;refine jS (off:=m) (dLen:=s-m) (dCap:=s-m) rfl underlying38 k_ rfl (by rw[show m=(sv (List.replicate m x)).length by rw[cN,Aa]];rfl) b.o D.o (by rw[cN,Aa];exact R) (by rw[cN,Aa];omega) (by rw[I.o,cN,Aa];omega) (J.o m) ?_;rw[S.o];refine ⟨oN,?_⟩;refine fp 8 ?_;refine fp 9 ?_;refine fe ?_;have B:=Zz (b.o.setRow (cs':=(sv (fl (fun _=>x) (fun j=>decide (j<2*m)) s)).toArray));have X:=Zz (Y.o.setRow G (sv (fl (fun _=>x) (fun j=>decide (j<2*m)) s)).toArray (.inr (Nat.le_of_eq M.o)));generalize h3.setRow G _=H6 at *;rw[show IntKind.i64.wrap ((m:Int)+((sv (List.replicate m x)).length:Int))=((2*m:Nat):Int) by rw[cN,Aa,eM];omega];go_wp2;go_roundw
   case rel=>exact ⟨2*m,by have:=C.o;omega,t,rfl,B,X⟩
   case measure=>simp[intOf];omega
  obtain rfl:m=s:=o_;have Q:=OQ (base:=G) g.o (Gb _ _ _) (bS _) (by simp only[maxLen];omega)
  rw[show fl (fun _=>x) (fun j=>decide (j<m)) m=List.replicate m x by
   apply i2 (by simp[fl]);intro j h1 F
   have k:j<m:=by simpa using F
   simp[fl,k]] at Q
  go_wp2;go_ret;exact ⟨_,rfl,Q.reads,i.o⟩
def So (w:W_) (H4:a_ w) (hw:10<=w.heap.size) (s:Nat) (hs:s=2\/s=4) (v:Value) (T:List B_) (hv:b_ w v (sv T)) (H5:T.length=s) (hz:∀i,i<s->(tl T i).size=32) (g n:Nat->B_)
  (B:∀i,i<s->g (s+i)=tl T i) (f:∀i,1<=i->i<s->n i=g (2*i)++g (2*i+1)/\g i=im (n i)) :
  Cl 141 #[v] w fun e w'=>∃u,e=.returned (.tuple #[u,.string (g 1),.int .i64 0])/\b_ w' u (sv (fl n (fun j=>decide (0<j)) s))/\Kp ac w w':=by
 have OJ:2<=s/\s<=4:=o_
 have R:Hid (∀i,1<=i->i<2*s->(g i).size=32):=Zz fun i E lQ=>by
  rcases Nat.lt_or_ge i s with h|h
  ·rw[(f i E h).2];exact y_3 _
  obtain ⟨j,rfl⟩:∃j,i=s+j:=⟨i-s,o_⟩;rw[B j o_];exact hz j o_
 have x4:=Zz (fun (W:W_) (N:a_ W)=>(show Cl 191 #[.int .i64 s] W fun e w'=>e=.returned (.int .i64 (dP s:Int))/\w'=W by rcases hs with rfl|rfl;exact ME W N;exact MY W N))
 have rR:¬(dP s=0):=by rcases hs with rfl|rfl<;>decide
 obtain ⟨A,c,rfl,x9,bk,S⟩:=hv;rw[cN,H5] at x9 S ⊢;obtain ⟨b,off,rfl,h8⟩:=S o_
 have h9:Hid (∀i,i<s->w.cell? ⟨b,off+i,none⟩=some (.string (g (s+i)))):=Zz fun i E=>by rw[h8 i E,iQ T i o_,B i E]
 have H2:=Zz f;have H0:=Zz H4;have fS:b<w.heap.size:=fV w _ (h9.o 0 o_);clear H4 B f hz h8 S hs H5
 have Ys:((dP s:Int)==0)=false:=by rw[pN];omega
 generalize dP s=dd at *;have t:=mr (2*s) o_ w;have q:=aH.made_txts w w.heap.size (2*s) (bS _) o_;have F:=(Kp.refl ac w).alloc (.cells (madeCells #[.string ⟨#[]⟩] (2*s)) 9);have X:(w.alloc (.cells (madeCells #[.string ⟨#[]⟩] (2*s)) 9)).heap.size=w.heap.size+1:=s_;obtain ⟨w0,H1⟩:∃w0,w.alloc (.cells (madeCells #[.string ⟨#[]⟩] (2*s)) 9)=w0:=⟨_,rfl⟩;rw[H1] at t q F X;have Y:((2*s:Nat):Int)=2*(s:Int):=o_;rw[Y] at t;rw[<-qF g (fun j=>decide (s<=j) && decide (j<s+0)) (2*s) (fun j _=>s_)] at q;obtain ⟨G,hG⟩:∃G,w.heap.size=G:=⟨_,rfl⟩;rw[hG] at t q fS;have M:=Zz hG;have l:=Zz q;have o:=Zz F
 have Yt:IntKind.i64.wrap (2*(s:Int))=2*(s:Int):=by rw[eM];omega
 have zP:=Zz X;clear hG q F H1 X;go_enter func141,ntmps141;go_wp2_with fail;refine (x4.o _ H0.o).mono ?_;rintro e L ⟨rfl,rfl⟩
 go_upto_region 6 with fail
 clear t
 go_loopw [7,19] (fun _ h0 wr=>∃i:Nat,i<=s/\h0=.int .i64 i/\Hid (aH wr G 9 (.slice (some ⟨G,0,none⟩) (2*s) (2*s)) (sv (fl g (fun j=>decide (s<=j) && decide (j<s+i)) (2*s))))/\Hid (Kp ac L wr)/\wr.heap.size=w0.heap.size) (fun _ h0 _=>s-(intOf h0).toNat)
 case atStart=>exact ⟨0,o_,rfl,l,o,rfl⟩
 case round =>
  clear l o;obtain ⟨i,E,rfl,l,o,h5⟩:=hrel;have h3:=Zz h5;clear h5;by_cases h7:i<s
  ·have bB:(i:Int)<(s:Int):=o_
   have D:=h9.o i h7;have hk:=(o.o.below0.cell (fV L _ D)).trans D;have hds:=R.o (s+i) o_ o_;have x3:=Ra l.o (Gb _ _ _) (s+i) o_;have x6:=l.o.frozen (s+i)
   have x5:=Zz (zg g (fun j=>decide (s<=j) && decide (j<s+i)) (fun j=>decide (s<=j) && decide (j<s+(i+1))) (2*s) (s+i) (fun j C h6=>by
    have:(j<s+(i+1))=(j<s+i):=by rw[eq_iff_iff];omega
    simp only[this]) s_)
   have oX:(s:Int)+(i:Int)=((s+i:Nat):Int):=o_;have fk:((s+i:Nat):Int)<2*(s:Int):=o_
   have Yu:IntKind.i64.wrap ((s+i:Nat):Int)=((s+i:Nat):Int):=by rw[eM];omega
   have I:=Zz (v_Q l.o (Gb _ _ _) (s+i) (g (s+i)));rw[x5.o] at I;have a:=Zz (o.o.setCell ⟨G,s+i,none⟩ (.string (g (s+i))) (.inr (Nat.le_of_eq M.o)));have vG:Hid ((wr.setCell ⟨G,s+i,none⟩ (.string (g (s+i)))).heap.size=w0.heap.size):=Zz (by rw[<-h3.o];simp[World.setCell]);clear D;generalize g (s+i)=d at *;have x7:Hid (i+1<=s):=Zz h7;generalize H8:s+i=k at *;have xj:=Zz H8;clear H8;go_wp2;go_roundw
   case rel=>exact ⟨i+1,x7.o,by go_num,I,a,vG.o⟩
   case measure=>simp[intOf];omega
  obtain rfl:i=s:=o_;have t:=mr i o_ wr;have q:=aH.made_txts wr wr.heap.size i (bS _) o_;have O:=Zz (l.o.alloc (.cells (madeCells #[.string ⟨#[]⟩] i) 9));have h1:=Zz (o.o.alloc (.cells (madeCells #[.string ⟨#[]⟩] i) 9))
  have x8:wr.heap.size=G+1:=by rw[h3.o,zP.o,M.o]
  rw[x8] at t q;obtain ⟨x2,H3⟩:∃x2,wr.alloc (.cells (madeCells #[.string ⟨#[]⟩] i) 9)=x2:=⟨_,rfl⟩;rw[H3] at t q O h1;rw[<-qF n (fun j=>decide (i-1<j)) i (fun j _=>by simp;omega)] at q
  rw[fl_eq g _ (fun j=>decide (i-1<j)) (2*i) (fun j C=>by
   have:(i<=j)=(i-1<j):=by rw[eq_iff_iff];omega
   simp only[this];have f:decide (j<i+i)=true:=decide_eq_true o_
   rw[f,Bool.and_true])] at O
  have r:=Zz q;clear q H3 l o
  have jE:IntKind.i64.wrap ((i:Int)-1)=((i-1:Nat):Int):=by rw[eM];omega
  have ml:(i:Int)-1=((i-1:Nat):Int):=o_;have xz:Hid (i-1<i):=Zz o_
  go_upto_region 14 with fail
  clear t jE ml
  go_loopw [9] (fun K wr=>∃m:Nat,m<i/\K=.int .i64 m/\Hid (aH wr G 9 (.slice (some ⟨G,0,none⟩) (2*i) (2*i)) (sv (fl g (fun j=>decide (m<j)) (2*i))))/\Hid (aH wr (G+1) 9 (.slice (some ⟨G+1,0,none⟩) i i) (sv (fl n (fun j=>decide (m<j)) i)))/\Hid (Kp ac L wr)) (fun K _=>(intOf K).toNat)
  case atStart=>exact ⟨i-1,xz.o,rfl,O,r,h1⟩
  case round =>
   clear O r h1;obtain ⟨m,hm,rfl,l,r,o⟩:=hrel;by_cases nV:0<m
   ·obtain ⟨H,x0⟩:=H2.o m nV hm
    have z:=Ra l.o (Gb _ _ _) (2*m) o_;have U:=Ra l.o (Gb _ _ _) (2*m+1) o_;rw[D3 _ _ _ _ o_,if_pos (by simp;omega)] at z U;have y4:=R.o (2*m) o_ o_;have y6:=R.o (2*m+1) o_ o_;have h4:=r.o.frozen m;have h2:=Ra r.o (Gb _ _ _) m hm
    have fw:=Zz (zg n (fun j=>decide (m<j)) (fun j=>decide (m-1<j)) i m (fun j C h6=>by
     have:(m-1<j)=(m<j):=by rw[eq_iff_iff];omega
     simp only[this]) (by simp;omega))
    have o6:=Zz (zg g (fun j=>decide (m<j)) (fun j=>decide (m-1<j)) (2*i) m (fun j C h6=>by
     have:(m-1<j)=(m<j):=by rw[eq_iff_iff];omega
     simp only[this]) (by simp;omega))
    have H9:(n m).size<=100000:=by rw[H,ByteArray.size_append,y4,y6];decide
    have Q:=Zz (fun W (N:a_ W) (y1:10<=W.heap.size)=>nw W N y1 (n m) H9);rw[<-x0] at Q;have P:=Zz (v_Q r.o.drew (Gb _ _ _) m (n m));rw[fw.o] at P;have I:=Zz (l.o.drew.far (p:=⟨G+1,m,none⟩) (by simp[Value.ownBlock]) (.string (n m)));have a:=Zz (o.o.drew.setCell ⟨G+1,m,none⟩ (.string (n m)) (.inr (by have:=M.o;show _<=G+1;omega)))
    have V:(wr.drew.setCell ⟨G+1,m,none⟩ (.string (n m))).cell? ⟨G+1,m,none⟩=some (.string (n m)):=by
     rw[Ra P.o (Gb _ _ _) m hm,D3 _ _ _ _ hm,if_pos (by simp;omega)]
    have H7:=Zz V;have x1:Hid (10<=(wr.drew.setCell ⟨G+1,m,none⟩ (.string (n m))).heap.size):=Zz (by have:=a.o.size;omega);have nx:(m:Int)<(i:Int):=o_;have y8:2*(m:Int)=((2*m:Nat):Int):=o_;have e2m1:((2*m:Nat):Int)+1=((2*m+1:Nat):Int):=o_;have b1:((2*m:Nat):Int)<2*(i:Int):=o_;have b2:((2*m+1:Nat):Int)<2*(i:Int):=o_;have b3:(m:Int)<2*(i:Int):=o_
    have NH:IntKind.i64.wrap ((2*m:Nat):Int)=((2*m:Nat):Int):=by rw[eM];omega
    have RB:IntKind.i64.wrap ((2*m+1:Nat):Int)=((2*m+1:Nat):Int):=by rw[eM];omega
    have d1:wr.drew.cell? ⟨G,2*m,none⟩=_:=z;have d2:wr.drew.cell? ⟨G,2*m+1,none⟩=_:=U;have y5:wr.drew.cell? ⟨G+1,m,none⟩=_:=h2;have y7:wr.drew.frozen? ⟨G+1,m,none⟩=_:=h4;rw[H] at P I a H7 x1 Q;clear V z U h2 h4 H x0 l r o H9;generalize g (2*m)=x at *;generalize g (2*m+1)=y at *;generalize ae:2*m=k2 at *;generalize aw:k2+1=k3 at *
    go_upto_region 16 with fail
    go_still_tail 14,k_
    go_upto_region 17 with fail
    change Code.wp _ _ _ _ (wr.drew.setCell ⟨G+1,m,none⟩ (.string (x++y)));have V:=H7.o;generalize wr.drew.setCell ⟨G+1,m,none⟩ (.string (x++y))=w6 at *;generalize x++y=xy at *;clear d1 d2 y5 y7;go_wp2_with fail;refine (Q.o _ (H0.o.no a.o) x1.o).mono ?_;rintro e w7 ⟨rfl,J⟩;have Z:=Zz (I.o.kp J fun _ _ h=>h);have y9:=Zz (P.o.kp J fun _ _ h=>h);have y0:=Zz (a.o.trans J);have x3:=Ra Z.o (Gb _ _ _) m o_;have x6:=Z.o.frozen m;have H6:=Zz (v_Q Z.o (Gb _ _ _) m (g m));rw[o6.o] at H6;have y3:=Zz (y9.o.far (p:=⟨G,m,none⟩) (by simp[Value.ownBlock]) (.string (g m)));have y2:=Zz (y0.o.setCell ⟨G,m,none⟩ (.string (g m)) (.inr (Nat.le_of_eq M.o)))
    have iS:IntKind.i64.wrap ((m:Int)-1)=((m-1:Nat):Int):=by rw[eM];omega
    have lU:(m:Int)-1=((m-1:Nat):Int):=o_;have kE:Hid (m-1<i):=Zz o_;have gD:Hid (m-1<m):=Zz o_;clear J;generalize g m=dm at *;generalize Fn:m-1=m1 at *;go_wp2;go_roundw
    case rel=>exact ⟨m1,kE.o,rfl,H6,y3,y2⟩
    case measure=>simp[intOf];exact gD.o
   obtain rfl:m=0:=o_;have z:=Ra l.o (Gb _ _ _) 1 o_;rw[D3 _ _ _ _ o_,if_pos s_] at z;have d1:wr.drew.cell? ⟨G,1,none⟩=_:=z;have iW:(1:Int)<2*(i:Int):=o_;have pm:=Zz r.o.reads;clear z
   go_upto_region 18 with fail
   go_still k_
   go_wp2
   go_ret3
   exact ⟨_,rfl,pm.o.drew,o.o.drew⟩
def eD:Nat->B_:=fun _=>bs []
def uJ (s k m:Nat):List Wr:=((List.range k).map fun q=>⟨101+q,dD s eD (q+1)⟩)++(List.range m).map fun q=>⟨120+q,bs []⟩
def EZ (s:Nat):List Wr:=uJ s (s-1) s
def uA (s k m:Nat):(uJ s k m).length=k+m:=by simp[uJ]
def RN (s k:Nat):uJ s (k+1) 0=uJ s k 0++[⟨101+k,dD s eD (k+1)⟩]:=by simp[uJ,List.range_succ]
def H_ (s k m:Nat):uJ s k (m+1)=uJ s k m++[⟨120+m,bs []⟩]:=by simp[uJ,List.range_succ]
def Xw (a:Nat) (x:B_):eu [⟨a,x⟩]=[.int .i64 a,.string x]:=rfl
def w_Q {i e size:Nat} {v:Value} {j:List Value} (h:w.ownsRow b e size v k j) (hb:i<=b):w.ownsRow i e size v k j:=by
 refine ⟨h.1,?_⟩;rcases h.2 with hn|⟨g,l,m,hv,n,rest⟩
 ·exact .inl hn
 exact .inr ⟨g,l,m,hv,cL hb n,rest⟩
section
variable {i:Nat} 
def Qk (y3:Hm) (H0:a_ w) (h:Bk w b n σ F) (hw:10<=w.heap.size) (hi:i<n) (hs:sl s) (hk:key.length=32) :
  Cl 93 #[.agg (di b i s key)] w fun e w'=>∃u,e=.returned (.tuple #[u,.string (e9 s eD),.int .i64 0])/\w'.ownsRow w.heap.size 240 2 u (EZ s).length (eu (EZ s))/\Kp ac w w':=by
 have kA:2<=s/\s<=4:=by rcases hs with rfl|rfl<;>decide
 have o:=Zz (ab.new w 139 (di b i s key));have p:=Zz ((Kp.refl ac w).alloc (.cells (di b i s key) 139))
 have O:10<=(w.alloc (.cells (di b i s key) 139)).heap.size:=by have:=p.o.size;omega
 have HG:=Zz (v_E y3 (H0.no p.o) (h.no p.o) O hi hs hk);have x6:=Zz H0;have nD:=Zz (fun W (H1:a_ W) (h6:10<=W.heap.size)=>mJ W H1 h6 (bs []) d_);have uu:=Zz (fun W v (hv:b_ W v (sv [cK (bs [])]))=>Jq W s hs v (cK (bs [])) hv);have H9:=Zz (fun W (H1:a_ W) (h6:10<=W.heap.size) v (hv:b_ W v (sv (List.replicate s (cK (bs [])))))=>So W H1 h6 s hs v (List.replicate s (cK (bs []))) hv s_ (fun j x=>by simp[tl,x,wC]) (RM s eD) (dD s eD) (fun j x=>by rw[WM];simp[tl,x,eD]) (fun j h1 h2=>Qq hs eD j h1 h2));have kD:=Zz (fun j (x:j<s)=>D3 (dD s eD) (fun j=>decide (0<j)) s j x);have qt:=Zz (RN s);have KD:=Zz (H_ s);have fX:Hid (uJ s 0 0=[]):=Zz rfl;have EN:Hid (uJ s (s-1) s=EZ s):=Zz rfl;have eJ:=Zz (uA s);have x8:(EZ s).length=s-1+s:=uA _ _ _;rw[x8];have yd:=Gb (dD s eD) (fun j=>decide (0<j)) s;have Yy:=Zz yd;clear y3 hs H0 h O x8 yd;change Hid (∀W _ _ v _,Calls _ _ _ W fun e w'=>∃u,e=.returned (.tuple #[u,.string (e9 s eD),.int .i64 0])/\_/\_) at H9;generalize fl (dD s eD) (fun j=>decide (0<j)) s=x2 at *;generalize e9 s eD=TP at *;generalize tP:cK (bs [])=z at *;change Cl 93 #[.agg #[.pointer (some ⟨b,0,none⟩),.int .i64 i,.int .i64 s,.string (bs key)]] w _;go_enter func93,ntmps93
 go_upto_region 1 with fail
 change Code.wp _ _ _ _ (w.alloc (.cells (di b i s key) 139));generalize O:w.alloc (.cells (di b i s key) 139)=w1 at *;clear O;obtain ⟨G,hG⟩:∃G,w.heap.size=G:=⟨_,rfl⟩;rw[hG] at o ⊢;have cq:=Zz hG;have c0:=o.o.c0;have c1:=o.o.c1;have f:=o.o.c2;have c3:=o.o.c3;go_wp2_with fail;refine HG.o.mono ?_;rintro e w2 ⟨rfl,a⟩;have h3:=Zz (o.o.kp a fun h=>h).drew;have P:=Zz (p.o.trans a).drew;clear a c0 c1 f c3 o p
 go_upto_region 3 with fail
 refine fs ?_;generalize w2.drew=w3 at *;have f:=h3.o.c2;have hq0:(⟨#[]⟩:B_)=bs []:=rfl;have g9:=Zz P.o.size;refine fp 2 ?_;refine cw 3 f ?_;refine fd 0 fun K Z t=>?_;go_simp;refine (nD.o _ (x6.o.no P.o) (by have:=g9.o;omega)).mono ?_;rintro e T ⟨rfl,h4⟩;have h7:=Zz (h3.o.kp h4 fun h=>h);have x5:=Zz (P.o.trans h4);refine t _ _ (oK (h7.o.cell 2) oN) ?_;clear t K f h4 h3 P;refine fd 1 fun K Z t=>?_;go_simp;have h9:=Zz (h7.o.alloc (.cells #[.string z] 9));have x9:=Zz (x5.o.alloc (.cells #[.string z] 9));have y2:Hid (b_ (T.alloc (.cells #[.string z] 9)) (.slice (some ⟨T.heap.size,0,none⟩) 1 1) (sv [z])):=Zz (Ab T #[.string z] 9 (by simp[maxLen]));refine t _ _ (oK (h9.o.cell 2) oN) ?_;clear t K h7 x5;generalize T.alloc (.cells #[.string z] 9)=wA at *;refine fd 4 fun K Z t=>?_;go_simp;refine (uu.o _ _ y2.o).mono ?_;rintro e wB ⟨y9,rfl,H8,Y⟩;have y5:=Zz (h9.o.kp Y fun h=>h);have R:=Zz (x9.o.trans Y);have yb:=Zz H8;refine t _ _ (oW oN) ?_;clear t K Y H8 h9 x9 y2;refine fd 5 fun K Z t=>?_;go_simp;refine (H9.o _ (x6.o.no R.o) (by have:=R.o.size;omega) _ yb.o).mono ?_;rintro e r ⟨u,rfl,l,B⟩;have x3:=Zz (y5.o.kp B fun h=>h);have h5:=Zz (R.o.trans B);have HU:=Zz l;refine t _ _ (oW oN) ?_;clear t K B l y5 R yb;refine fp 6 ?_;refine fp 7 ?_;refine fp 8 ?_;refine fp 9 ?_;refine fp 10 ?_;refine fp 11 ?_;refine fp 12 ?_;refine fe ?_;obtain ⟨A,c,rfl,aP,bk,L⟩:=HU.o
 have x0:x2.length=s:=by have:=Yy.o;omega
 rw[cN,x0] at aP L ⊢;obtain ⟨pb,off,rfl,x4⟩:=L o_
 have bM:Hid (∀j,1<=j->j<s->r.cell? ⟨pb,off+j,none⟩=some (.string (dD s eD j))):=Zz fun j h1 x=>by
  rw[x4 j x,iQ x2 j o_,kD.o j x,if_pos (by simp;omega)]
 have g:Hid (r.ownsRow r.heap.size 240 2 (.slice none 0 0) 0 (eu (uJ s 0 0))):=Zz (by rw[fX.o];exact World.ownsRow_nil _ _ _ _);have y8:=Zz (Kp.refl ac r);have U:=Zz h5.o.size
 have Gk:Hid (∀j,(dD s eD j).size<=100):=Zz fun j=>by rw[w_8];decide
 clear L x4 x0
 go_upto_region 6 with fail
 go_loopw [8,9] (fun H5 H6 wr=>∃k:Nat,k+1<=s/\H6=.int .i64 (k+1:Nat)/\Hid (wr.ownsRow r.heap.size 240 2 H5 k (eu (uJ s k 0)))/\Hid (ab wr G 139 (di b i s key))/\Hid (Kp ac w wr)/\Hid (Kp ac r wr)) (fun _ H6 _=>s-(intOf H6).toNat)
 case atStart=>exact ⟨0,o_,rfl,g,x3,h5,y8⟩
 case round =>
  clear g x3 h5 y8;obtain ⟨k,hk,rfl,g,o,p,HR⟩:=hrel;have f:=o.o.c2;by_cases h0:k+1<s
  ·have H2:=bM.o (k+1) o_ h0
   have k0:=(HR.o.below0.cell (fV r _ H2)).trans H2;have bL:((k+1:Nat):Int)<(s:Int):=o_;have vq:(100:Int)+((k+1:Nat):Int)=((101+k:Nat):Int):=o_
   have ph:IntKind.i64.wrap ((101+k:Nat):Int)=((101+k:Nat):Int):=by rw[eM];omega
   have Nj:IntKind.i64.wrap (((k+1:Nat):Int)+1)=((k+1+1:Nat):Int):=by rw[eM];omega
   have DB:Hid (k+1+1<=s):=Zz h0;have D:=Zz (qt.o k);have oh:=Gk.o (k+1);clear H2
   have h8:Hid (∀u∈[Value.int .i64 (101+k:Nat),.string (dD s eD (k+1))],u.oneCell'=true):=Zz (by
    intro u l;rcases List.mem_cons.1 l with rfl|l
    ·rfl
    rcases List.mem_cons.1 l with rfl|l
    ·rfl
    cases l)
   have H3:=HR.o.size;have ON:=U.o;have Q:=Zz (fun q (y:u8.ownBlock=some q)=>(iZ g.o y).1);have y7:(k+1)*24<=140737488355328:=o_;have M:=Zz g.o;generalize dD s eD (k+1)=PX at *;generalize 101+k=ka at *;have OO:=Zz y7;clear y7;generalize x7:k+1=y6 at *;have xj:=Zz x7;clear x7;generalize a:y6+1=k2 at *;have V:=Zz a;clear a
   go_wp2_with (at_builtin;refine Y3 r.heap.size rfl (.tmp 30) (.tmp 38) 182 240 (.agg #[.int .i64 0,.string ⟨#[]⟩]) 2 24 rfl underlying182 sk rfl d_ d_ u8 k (eu (uJ s k 0)) [.int .i64 ka,.string PX] rfl rfl rfl h8.o M.o H3 (by have:=OO.o;have:=xj.o;omega) ?_;intro y9 w9 J E H;have I:=Zz J;have d:=Zz E;clear J E H)
   rw[<-Xw,<-v_u,<-D.o,xj.o] at I;have gL:=Zz (o.o.grown d.o (Ne.symm (hH M.o o.o d_)));have C:=Zz (p.o.then (Kp.of_grown d.o (S:=fun q=>some q=u8.ownBlock) fun _ h=>h) fun q y h=>by have:=(iZ M.o h.symm).1;omega);have H4:=Zz (HR.o.then (Kp.of_grown d.o (S:=fun q=>some q=u8.ownBlock) fun _ h=>h) fun q y h=>by have:=Q.o q h.symm;omega);go_roundw
   case rel=>exact ⟨y6,by rw[V.o];exact DB.o,by rw[V.o],I,gL,C,H4⟩
   case measure=>simp[intOf];have:=V.o;omega
  have y1:k=s-1:=o_;have x1:k+1=s:=o_;rw[x1];have g:=Zz g.o;rw[y1] at g;have y4:Hid (wr.ownsRow r.heap.size 240 2 u8 (s-1+0) (eu (uJ s (s-1) 0))):=g;have De:Hid (s-1<=3/\s<=4):=Zz o_;clear y1 x1 g hk h0;generalize y0:s-1=N at *;have ya:=Zz y0;clear y0
  go_upto_region 10 with fail
  go_loopw [8,10,42] (fun H5 _ X H7=>∃m:Nat,m<=s/\X=.int .i64 m/\Hid (H7.ownsRow r.heap.size 240 2 H5 (N+m) (eu (uJ s N m)))/\Hid (Kp ac w H7)/\Hid (Kp ac r H7)) (fun _ _ X _=>s-(intOf X).toNat)
  case atStart=>exact ⟨0,o_,rfl,y4,p,HR⟩
  case round =>
   clear y4 p HR f o;obtain ⟨m,hm,rfl,g,p,HR⟩:=hrel;by_cases FE:m<s
   ·have bL:(m:Int)<(s:Int):=o_
    have vq:(120:Int)+(m:Int)=((120+m:Nat):Int):=o_
    have ph:IntKind.i64.wrap ((120+m:Nat):Int)=((120+m:Nat):Int):=by rw[eM];omega
    have D:=Zz (KD.o N m)
    have h8:Hid (∀u∈[Value.int .i64 (120+m:Nat),.string (bs [])],u.oneCell'=true):=Zz (by
     intro u l;rcases List.mem_cons.1 l with rfl|l
     ·rfl
     rcases List.mem_cons.1 l with rfl|l
     ·rfl
     cases l)
    have H3:=HR.o.size;have M:=Zz g.o;have Q:=Zz (fun q (y:u8.ownBlock=some q)=>(iZ g.o y).1);have ON:=U.o;generalize 120+m=km at *
    go_wp2_with (at_builtin;refine Y3 r.heap.size rfl (.tmp 45) (.tmp 49) 182 240 (.agg #[.int .i64 0,.string ⟨#[]⟩]) 2 24 rfl underlying182 sk rfl d_ d_ u8 (N+m) (eu (uJ s N m)) [.int .i64 km,.string (bs [])] rfl rfl rfl h8.o M.o H3 (by have:=De.o;omega) ?_;intro y9 w9 J E H;have I:=Zz J;have d:=Zz E;clear J E H)
    rw[<-Xw,<-v_u,<-D.o] at I;have C:=Zz (p.o.then (Kp.of_grown d.o (S:=fun q=>some q=u8.ownBlock) fun _ h=>h) fun q y h=>by have:=Q.o q h.symm;omega);have H4:=Zz (HR.o.then (Kp.of_grown d.o (S:=fun q=>some q=u8.ownBlock) fun _ h=>h) fun q y h=>by have:=Q.o q h.symm;omega);go_roundw
    case rel=>exact ⟨m+1,o_,by go_num,I,C,H4⟩
    case measure=>simp[intOf];omega
   obtain rfl:m=s:=o_;rw[EN.o] at g;go_wp2
   go_ret3
   exact ⟨_,rfl,by rw[ya.o];exact w_Q g.o U.o,p.o⟩
end
section
open Go.Shelf
attribute [local go_sem] Oper.semAt_some
section
variable {P:Program} 
def rndPost (e:Nat) (I:Nat->W_->Prop) (k:Nat) (W:W_):Exit->Act->W_->Prop
 | .normal,_,W'=>KeepsOthers W W'/\W'.heap[e]?=W.heap[e]?/\I k W'
 | _,_,_=>False
def CP {g:Operand} {u:Array Tmp} {assign body:Code} {Q:Exit->Act->W_->Prop} {a:Act} (L:1<=n) {gf:Nat} {lb:Array Value}
  (hg:a.eval g=.func (.func gf) #[] lb) (F:∀args w,(callFunc gf args).run P w=.ok (.enter gf args) w) (N i:Nat) (O:i<w.heap.size) (enc:Nat->Value) (X:u.size=1) (I:Nat->W_->Prop)
  (x:∀k W l o o',w.heap.size<=l->W.heap[l]?=some o->o.isCells=false->I k W->I k (W.putObj l o')) (z:∀k W o,I k W->I k (W.alloc o)) (V:∀k W v,I k W->I k (W.setCell ⟨i,0,none⟩ v)) (H:I 0 w)
  (h4:∀(l:Nat) (J:Nat->W_->Prop) (W:W_),(∀k q v,J k q->J k (q.setCell ⟨i,0,none⟩ v)) ->
   (∀k j,k<N->J k j->YieldAt Fence.wide (n-1-1) P l #[enc k] j fun e q=>e=.returned (.bool true)/\J (k+1) q/\q.heap[i]?=j.heap[i]?)->J 0 W->W.heap[i]?=w.heap[i]? ->
   CallsIn Fence.wide (n-1) P gf (#[.func (.yield l) #[] #[]]++lb) W fun e q=>(∃v,e=.returned v)/\J N q)
  (b:Nat->Act)
  (h5:∀(l k:Nat) (W:W_) (K:Act->W_->Prop),K (b k) W->assign.wpIn (Fence.wide.inRound l) (n-1-1) P (Exit.then K (fun _ _ _=>False)) { tmps:=(u.zip #[enc k]).foldl (fun t (p,v)=>t.setIfInBounds p v) a.tmps,defers:=[] } W)
  (R:∀(l k:Nat) (W:W_),k<N->I k W->body.wpIn (Fence.wide.inRound l) (n-1-1) P (rndPost i I (k+1) W) (b k) W)
  (h2:∀(D:Nat) (W:W_),w.heap.size<=D->I N W->W.heap[D]?=some (.deferred (some []))->Q .normal { a with defers:={ target:=.collected D,args:=#[] }::a.defers } W) :
  (Code.rangeFunc g u assign body).wpIn Fence.wide n P Q a w:=by
 refine wpIn_rangeFunc ?_;intro fn S;obtain ⟨rec,m⟩:∃rec:LoopState->Option Code->Loop,rec=fun st h3=>{ state:=st,pending:=h3,fn,tmps:=a.tmps,params:=u,assign,body,defers:=w.heap.size }:=⟨_,rfl⟩;obtain ⟨j,r⟩:∃j,(w.alloc (.deferred (some []))).alloc (.loop (rec .ready none))=j:=⟨_,rfl⟩
 have h1:j.heap[w.heap.size+1]?=some (.loop (rec .ready none)):=by
  rw[<-r];have:=World.alloc_heap_new (w.alloc (.deferred (some []))) (.loop (rec .ready none));rwa [World.size_alloc] at this
 have G:j.heap[w.heap.size]?=some (.deferred (some [])):=by
  rw[<-r];exact (Below.heap_alloc _ _ _ s_).trans (World.alloc_heap_new w _)
 have C:j.heap[i]?=w.heap[i]?:=by
  rw[<-r];exact (Below.heap_alloc _ _ _ (by simp;omega)).trans (Below.heap_alloc _ _ _ O)
 have U:I 0 j:=by rw[<-r];exact z _ _ _ (z _ _ _ H)
 have d:∀(W:W_) (v:Value) (k:Nat),k≠i->(W.setCell ⟨i,0,none⟩ v).heap[k]?=W.heap[k]?:=fun W v k hk=>Below.heap_setCell W _ v k hk
 refine ⟨w.heap.size+1,[{ target:=.collected w.heap.size,args:=#[] }],j,{ target:=.fn (.func gf) lb,args:=#[.func (.yield (w.heap.size+1)) #[] #[]] },j,gf,
  #[.func (.yield (w.heap.size+1)) #[] #[]]++lb,j,?_,?_,fun _ _=>trivial,?_,fun _=>L,?_⟩
 ·rw[<-r,m];exact run_enterLoop_outer _ _ _ _ _
 ·simp only[resolve,hg]
  simp[go_sem]
 ·simp[invoke,go_sem,F]
 refine (h4 (w.heap.size+1) (fun k W=>I k W/\W.heap[w.heap.size+1]?=some (.loop (rec .ready none))/\W.heap[w.heap.size]?=some (.deferred (some []))) j
  (fun k W v h=>⟨V _ _ _ h.1,(d _ _ _ o_).trans h.2.1,(d _ _ _ o_).trans h.2.2⟩) ?_ ⟨U,h1,G⟩ C).mono ?_
 ·rintro k W T ⟨y,hl,hk⟩
  have Z:w.heap.size+1<W.heap.size:=(F4.1 hl).1;have E:=run_yield (P:=P) (args:=#[enc k]) hl (by rw[m];exact X.symm);rw[m] at E;refine ⟨fn,_,assign,body,E,roundIn_of_wpIn S (h5 _ k W _ ⟨_,run_beginRound hl (by rw[m]),?_⟩)⟩;have h0:(W.putObj (w.heap.size+1) (.loop { rec .ready none with state:=.busy })).heap[w.heap.size+1]?=some (.loop { rec .ready none with state:=.busy }):=World.putObj_heap_same Z;have Y:(W.putObj (w.heap.size+1) (.loop { rec .ready none with state:=.busy })).heap[w.heap.size]?=some (.deferred (some [])):=(World.putObj_heap_other o_).trans hk;have A:(W.putObj (w.heap.size+1) (.loop { rec .ready none with state:=.busy })).heap[i]?=W.heap[i]?:=World.putObj_heap_other o_;refine wpIn_mono (R _ k _ T (x _ _ _ _ _ o_ hl rfl y)) ?_;rintro e h8 h7 hp
  cases e with
  | normal =>
   obtain ⟨c,B,M⟩:=hp;have s:=c.same _ _ h0 rfl;have f:=run_endRound (P:=P) none s;rw[m] at f;rw[m] at s;refine ⟨_,_,f,rfl,⟨x _ _ _ _ _ o_ s rfl M,?_,?_⟩,?_⟩
   ·rw[World.putObj_heap_same (F4.1 s).1,m];rfl
   ·exact (World.putObj_heap_other o_).trans (c.same _ _ Y rfl)
   exact (World.putObj_heap_other o_).trans (B.trans A)
  | ret=>exact hp.elim
  | exit id=>exact hp.elim
  | goto t=>exact hp.elim
  | panic h9=>exact hp.elim
  | outgrown=>exact hp.elim
 rintro e h6 ⟨⟨v,rfl⟩,y,hl,hk⟩;refine ⟨none,_,by have:=run_endLoop (P:=P) hl (by rw[m];simp);rw[m] at this;exact this,h2 _ _ (bS _) (x _ _ _ _ _ o_ hl rfl y) ((World.putObj_heap_other o_).trans hk)⟩
end
def cellN (w:W_) (b:Nat):Nat:=match w.cell? ⟨b,0,none⟩ with|some (.int _ x)=>x.toNat|_=>0
def Vl (n:Nat) (hn:1<=n) (l h x N:Nat) (g:Nat->Nat) (f:((x / 2:Nat):Int)=(g 0:Int)) (hs:∀k,k<N->0<g k/\g k / 2=g (k+1)) (G:g N=0) (M:∀k,g k<=1000) (Q:x<=1000) (J:Nat->W_->Prop)
  (s:∀k i v,J k i->J k (i.setCell ⟨h,0,none⟩ v))
  (I:∀k o,k<N->J k o->YieldAt Fence.wide (n-1) prog l #[.int .i64 (g k:Int)] o fun e i=>e=.returned (.bool true)/\J (k+1) i/\i.heap[h]?=o.heap[h]?)
  (W:W_) (E:J 0 W) (q:ab W h 3 #[.int .i64 x]) :
  CallsIn Fence.wide n prog 252 #[.func (.yield l) #[] #[],.pointer (some ⟨h,0,none⟩)] W fun e i=>(∃v,e=.returned v)/\J N i:=by
 have u:=q.cell 0;have f0:=q.frozen 0;replace u:W.cell? ⟨h,0,none⟩=some (.int .i64 x):=u
 have U:∀y:Nat,y<=1000->((y:Int) >>> 1:Int)=((y / 2:Nat):Int):=fun y _=>by rw[Int.shiftRight_eq_div_pow];omega
 refine callsIn_of_wp func252 rfl trivial ?_ rfl;simp only[ntmps252,tK,List.length_cons,List.length_nil,Nat.reduceAdd,Nat.reduceSub,Array.replicate_succ,Array.replicate_zero,List.push_toArray,List.append_toArray,List.nil_append,List.cons_append]
 gi_wp2
 gi_loopw [5] (fun _ wr=>∃k:Nat,k<=N/\Hid (J k wr)/\Hid (ab wr h 3 #[.int .i64 (g k:Int)])) (fun _ wr=>cellN wr h)
 case atStart =>
  refine ⟨0,Nat.zero_le _,Zz (s _ _ _ E),Zz ?_⟩;have:=q.set_ 0 (.int .i64 ((x:Int) / 2));rw[<-f];exact this
 case round =>
  obtain ⟨k,hk,r,j⟩:=hrel;have z:=j.o.c0;have f1:=j.o.frozen 0;by_cases p:k<N
  ·obtain ⟨T,O⟩:=hs k p
   have S:(0:Int)<(g k:Int):=o_;obtain ⟨fn,tmps,assign,body,R,hR⟩:=I k wr p r.o
   gi_wp2
   refine hR.mono ?_;rintro e t ⟨rfl,a,b⟩;have m:ab t h 3 #[.int .i64 (g k:Int)]:=b.trans j.o;have P:=m.c0;have f3:=m.frozen 0
   gi_wp2
   go_roundw
   case rel =>
    refine ⟨k+1,p,Zz (s _ _ _ a),Zz ?_⟩;have:=m.set_ 0 (.int .i64 ((g k:Int) / 2));rw[<-O];exact this
   case measure =>
    have d:=m.set_ 0 (.int .i64 ((g k:Int) / 2));have c:(t.setCell ⟨h,0,none⟩ (.int .i64 ((g k:Int) / 2))).cell? ⟨h,0,none⟩=some (.int .i64 ((g k:Int) / 2)):=d.cell 0;unfold cellN;rw[z,c];show ((g k:Int) / 2).toNat<((g k:Int)).toNat;omega
  obtain rfl:k=N:=o_;rw[G] at z j
  gi_wp2
  go_end0
  exact ⟨⟨_,rfl⟩,r.o⟩
def Ah (w:W_) (x:Nat):Cl 224 #[.int .i64 x] w fun e w'=>e=.returned (.func (.func 252) #[] #[.pointer (some ⟨w.heap.size,0,none⟩)])/\w'=w.alloc (.cells #[.int .i64 x] 3):=by
 go_enter func224,ntmps224;go_wp2;go_ret;exact ⟨rfl,rfl⟩
def Hk (s t:Nat) (k:Nat):Nat:=(s+t) / 2 ^ (k+1)
def YI (s t k:Nat):Hk s t k / 2=Hk s t (k+1):=by
 unfold Hk;rw[Nat.div_div_eq_div_mul,<-Nat.pow_succ]
def upL (s t n:Nat):List Nat:=(List.range n).map (Hk s t)
def FT (s t n:Nat):upL s t (n+1)=upL s t n++[Hk s t n]:=by simp[upL,List.range_succ]
def up_path (s t:Nat) (hs:sl s) (e:t<s):(upL s t (dP s)).reverse=dJ s t/\Hk s t (dP s)=0/\(∀k,k<dP s->0<Hk s t k):=by
 rcases hs with rfl|rfl
 ·have:t=0\/t=1:=o_
  rcases this with rfl|rfl<;>exact ⟨d_,d_,d_⟩
 have:t=0\/t=1\/t=2\/t=3:=o_;rcases this with rfl|rfl|rfl|rfl<;>exact ⟨d_,d_,d_⟩
def upN_le (s t k:Nat) (hs:sl s) (e:t<s):Hk s t k<=1000:=by
 refine cL (Nat.div_le_self _ _) ?_;rcases hs with rfl|rfl<;>omega
def RX:Hm:=by
 intro w s t hs M H4 hw;obtain ⟨h5,h6,h7⟩:=up_path s t hs M
 have hd:dP s<=2/\1<=dP s:=by rcases hs with rfl|rfl<;>decide
 have x4:=Zz (fun k=>upN_le s t k hs M)
 have h8:Cl 191 #[.int .i64 s] w fun e w'=>e=.returned (.int .i64 (dP s:Int))/\w'=w:=by
  rcases hs with rfl|rfl
  ·exact ME w H4
  exact MY w H4
 have x3:=Zz h8
 have H0:s+t<=1000:=by rcases hs with rfl|rfl<;>omega
 have rR:((dP s:Int)==0)=false:=by rw[pN];omega
 have h1:¬((t:Int)<0):=o_;have L:¬((s:Int)<=(t:Int)):=o_;have H6:decide ((t:Int)<0)=false:=h_ h1;have O:decide (s<=t)=false:=h_ o_;have H9:=Zz (fun W=>Ah W (s+t));have h9:Hid (((s+t) / 2:Nat)=Hk s t 0):=Zz rfl;obtain ⟨m,hm⟩:∃m,s+t=m:=⟨_,rfl⟩;rw[hm] at H9 h9 H0
 have Di:IntKind.i64.wrap ((s:Int)+(t:Int))=(m:Int):=by rw[eM];omega
 have HM:=Zz hm;clear hm;obtain ⟨i0,hi,du,dM,dv⟩:=info_parts rs;clear h8;refine callsIn_wide (n:=4).1 ?_;refine callsIn_of_wp_marks func171 rfl trivial ?_ rfl;simp only[ntmps171,tK,List.length_cons,List.length_nil,Nat.reduceAdd,Nat.reduceSub,Array.replicate_succ,Array.replicate_zero,List.push_toArray,List.append_toArray,List.nil_append,List.cons_append]
 gi_wp2_with (first
  | (refine ⟨trivial,?_⟩;gi_at_call 191;refine (callsIn_wide.2 x3.o).mono ?_;rintro e i ⟨rfl,rfl⟩)
  | (refine ⟨trivial,?_⟩;gi_at_call 224;refine (callsIn_wide.2 (H9.o _)).mono ?_;rintro e c ⟨rfl,rfl⟩))
 have H3:Boxed ((i.alloc (.cells #[.slice none 0 0] 57)).alloc (.cells #[.int .i64 m] 3)) i.heap.size 57 (.slice none 0 0):=(Boxed.new i 57 (.slice none 0 0)).alloc _;have B:=ab.new (i.alloc (.cells #[.slice none 0 0] 57)) 3 #[.int .i64 m];rw[World.size_alloc] at B;have jD:=((Kp.refl ac i).alloc (.cells #[.slice none 0 0] 57)).alloc (.cells #[.int .i64 m] 3);have aj:((i.alloc (.cells #[.slice none 0 0] 57)).alloc (.cells #[.int .i64 m] 3)).heap.size=i.heap.size+2:=s_;have x7:=x4.o;have x9:=YI s t;have x8:=FT s t;have x2:=h9.o;have y0:upL s t 0=[]:=rfl;generalize Hk s t=U at *;generalize upL s t=d at *;generalize hW:(i.alloc (.cells #[.slice none 0 0] 57)).alloc (.cells #[.int .i64 m] 3)=W0 at *;clear hW;obtain ⟨A,y1⟩:∃A,i.heap.size=A:=⟨_,rfl⟩;rw[y1] at H3 B aj ⊢;obtain ⟨N,H5⟩:∃N,dP s=N:=⟨_,rfl⟩;rw[H5] at h5 h6 h7 hd rR ⊢
 refine CP (n:=4) o_ (gf:=252) (lb:=#[.pointer (some ⟨A+1,0,none⟩)]) rfl (enters_of func252 k_ rfl) N (A+1) o_ (fun k=>.int .i64 (U k:Int)) rfl
  (fun k W=>(∃v,Boxed W A 57 v/\W.ownsRow A 3 1 v k (zv (d k))/\v.ownBlock≠some (A+1))/\Kp ac i W/\A+2<=W.heap.size)
  ?putObj ?alloc ?set ⟨⟨_,H3,by rw[y0];exact World.ownsRow_nil _ _ _ _,by simp[Value.ownBlock]⟩,jD,o_⟩ ?seq
  (fun k=>{ tmps:=#[.int .i64 s,.int .i64 t,undef,undef,.slice none 0 0,.int .i64 0,.pointer (some ⟨A,0,none⟩),.int .i64 (U k:Int),.int .i64 s,.int .i64 N,.bool false,.bool false,.int .i64 t,.bool false,.bool false,.bool false,.int .i64 t,.int .i64 s,.bool false,.bool false,.int .i64 s,.int .i64 t,.int .i64 m,.func (.func 252) #[] #[.pointer (some ⟨A+1,0,none⟩)],.int .i64 (U k:Int),undef,undef,undef,undef,undef,undef,undef],defers:=[] }) ?assign ?body ?done
 case putObj =>
  rintro k W l o o' hl eQ y2 ⟨⟨v,y,I,E⟩,z,V⟩;refine ⟨⟨v,?_,ownsRow_putObj I o' eQ y2,E⟩,⟨z.os,z.tape,z.output,?_,fun q Q hs=>(World.putObj_heap_other o_).trans (z.block q Q hs)⟩,?_⟩
  ·exact (World.putObj_heap_other o_).trans y
  ·simpa[World.putObj] using z.size
  simpa[World.putObj] using V
 case alloc =>
  rintro k W o ⟨⟨v,y,I,E⟩,z,V⟩;exact ⟨⟨v,y.alloc o,World.ownsRow.alloc I o,E⟩,z.alloc o,by simp;omega⟩
 case set =>
  rintro k W u ⟨⟨v,y,I,E⟩,z,V⟩;refine ⟨⟨v,y.kept (grownBy_setCell' W (A+1) u) s_,?_,E⟩,z.setCell _ _ (.inr (by show i.heap.size<=A+1;omega)),by simpa[World.setCell] using V⟩;exact dL I ((Kp.refl (fun q=>q=A+1) W).setCell ⟨A+1,0,none⟩ u (.inl rfl)) (fun q Q e=>E (by rw[Q,e]))
 case seq =>
  intro l J W x5 hY h0 y3;exact Vl 3 o_ l (A+1) m N U (by rw[x2]) (fun k hk=>⟨h7 k hk,x9 k⟩) h6 x7 H0 J x5 hY W h0 (y3.trans B)
 case assign =>
  intro l k W K hK
  gi_wp2
  exact hK
 case body =>
  rintro l k W hk ⟨⟨v,hv,f,F⟩,p,H7⟩;have hc:=hv.cell;have y4:A<=W.heap.size:=o_;obtain ⟨h4,cv,rfl⟩:=lM f
  gi_wp2_with (gi_at_builtin;(refine wpListIn_append_own_at _ rfl _ _ 57 rfl A 3 i0 (.int .i64 0) 1 8 underlying57 hi du dM dv rfl d_ _ _ _ rfl (World.ownsRow.alloc f _) ⟨W.heap.size,0,none⟩ 1 1 [.int .i64 (U k:Int)] rfl rfl (cell_one_new _ _ _) (by simp[Value.oneCell']) (by simp only[maxLen];omega) o_ (by simp;omega) ?_;intro v' x6 x1 X _ S;obtain ⟨H2,H8,rfl⟩:=ownsRow_succ x1;obtain ⟨h3,sy,kP,y9,G⟩:=hv.appended d_ f y4 (bS _) x1 X;have aP:=h3.cell;have Ku:=h3.frozen))
  replace X:(W.alloc (.cells #[.int .i64 (U k:Int)] 3)).grownBy x6 (Value.slice h4 k cv).ownBlock:=X;replace S:(Value.slice (some ⟨H2,0,none⟩) (k+1) H8).ownBlock=(Value.slice h4 k cv).ownBlock\/(Value.slice (some ⟨H2,0,none⟩) (k+1) H8).ownBlock=some (W.alloc (.cells #[.int .i64 (U k:Int)] 3)).heap.size:=S;rw[World.size_alloc] at S;refine ⟨y9,?_,⟨_,sy,?_,?_⟩,⟨G.os.trans p.os,G.tape.trans p.tape,G.output.trans p.output,cL p.size G.size,fun q Q hs=>(G.block q o_).trans (p.block q Q hs)⟩,cL H7 G.size⟩
  ·refine (Below.heap_setCell _ _ _ _ (by show A+1≠A;omega)).trans ((X.block (A+1) (by simp;omega) (Ne.symm F)).trans (Below.heap_alloc _ _ _ o_))
  ·rw[x8,show zv (d k++[U k])=zv (d k)++[.int .i64 (U k:Int)] by simp[zv]]
   exact kP
  intro P;rcases S with h|h
  ·exact F (h▸P)
  rw[h] at P;cases P;omega
 case done =>
  rintro D W hD ⟨⟨v,hv,f,F⟩,p,H7⟩ C;have hc:=hv.cell;have y5:=hv.not_row (by decide:(57:Nat)≠3) f;obtain ⟨av,hn|⟨g,R,T,rfl,hb,h2,mw,xe,dR,M⟩⟩:=f
  ·omega
  have sg:g≠A:=fun e=>y5 (by rw[e];rfl)
  have y6:D≠g:=fun e=>by rw[e,h2] at C;cases C
  have YK:(d N).length=N:=by rw[iF] at av;omega
  have x0:ab W g 3 T:=h2;rw[Nat.mul_one] at M
  have y7:N<=T.toList.length:=by
   have:=congrArg List.length M;rw[gC,iF] at this;omega
  have Z:=Tryz.slices_Reverse_int_cells g 0 N R ((d N).map fun (x:Nat)=>(x:Int)) W (by rw[fW];omega) o_
   (fun j a=>by
    rw[fW] at a;rw[jm,x0.cell]
    have y:(zv (d N))[j]?=T.toList[j]?:=by rw[<-M,List.getElem?_take,if_pos o_]
    rw[oP _ _ a] at y;rw[<-Array.getElem?_toList,<-y]
    simp[be,a])
   (fun j a=>x0.frozen _)
  have cI:(((d N).map fun (x:Nat)=>(x:Int)).take N).reverse.map (Value.int .i64)=zv (d N).reverse:=by
   rw[kx (by rw[fW];omega)];simp[zv,List.map_reverse]
  rw[cI,h5] at Z
  have H:(dJ s t).length=N:=by rw[KU];exact H5
  have Y:Cl 225 #[.slice (some ⟨g,0,none⟩) N R] W fun e c=>e=.returned (.tuple #[])/\Boxed c A 57 (.slice (some ⟨g,0,none⟩) N R)/\c.heap[D]?=some (.deferred (some []))/\b_ c (.slice (some ⟨g,0,none⟩) N R) (zv (dJ s t))/\Kp ac i c:=by
   refine Z.mono ?_;rintro e c ⟨rfl,q,rfl⟩;obtain ⟨r1,r2,r3,r4⟩:=v_s g (zv (dJ s t)) 0 (W.drewN q);have f:=v_W (g:=g) (e:=3) (zv (dJ s t)) 0 (W.drewN q) T h2 (by rw[iF,H];simpa using y7);obtain ⟨jM,y,I,E⟩:=f;refine ⟨rfl,?_,?_,?_,?_⟩
   ·exact (x_5 _ _ _ (Ne.symm sg)).trans hv
   ·exact (x_5 _ _ _ y6).trans C
   ·refine ⟨_,_,by rw[iF,H],by rw[iF,H];exact mw,by simp only[maxLen] at xe;omega,fun _=>⟨g,0,rfl,fun j a=>?_⟩⟩
    rw[jm,ab.cell (y:ab _ g 3 jM),<-Array.getElem?_toList,E,List.take_zero,List.nil_append,A3 a]
   exact ⟨r1.trans p.os,r2.trans p.tape,r3.trans p.output,by rw[r4];exact p.size,fun k hk hs=>(x_5 _ _ _ o_).trans (p.block k hk hs)⟩
  have Y:=Zz Y;clear Z
  gi_wp2_with (refine ⟨trivial,?_⟩;gi_at_call 225;(refine (callsIn_wide.2 Y.o).mono ?_;rintro e c ⟨rfl,h1,L,H6,O⟩;have bk:=h1.cell))
  refine ⟨s_,.inl ⟨_,_,rfl,run_takeDeferred L,?_⟩⟩
  have y8:∀r,some D=some r->∃o:Obj,c.heap[r]?=some o/\o.isCells=false:=fun r e=>by cases e;exact ⟨_,L,rfl⟩
  refine ⟨_,results_tmp2 rfl _ _ _,_,rfl,?_,?_⟩
  ·obtain ⟨A1,c1,P,e1,e2,e3⟩:=H6
   cases P;refine ⟨_,_,rfl,e1,e2,fun hp=>?_⟩;obtain ⟨b,off,e4,e5⟩:=e3 hp;refine ⟨b,off,e4,fun j a=>?_⟩;have H1:=e5 j a;rw[cr a] at H1 ⊢;exact cell_kept H1 (grownBy_putObj' c D (.deferred none)) y8
  exact ⟨O.os,O.tape,O.output,by simpa[World.putObj] using O.size,fun k hk hs=>(World.putObj_heap_other o_).trans (O.block k hk hs)⟩
end
def Mz (i:Nat):zv (List.range (i+1))=zv (List.range i)++[.int .i64 i]:=by rw[List.range_succ];simp[zv]
section
variable {an:Nat} 
def ls (h:Bk w b n σ F) (an:Nat) (hk:key.length=32) :
  Cl 85 #[.agg (aT b an key)] w fun e w'=>e=.returned (.int .i64 0)/\Kp ac w w':=by
 have i:=Zz (ab.new w 113 (aT b an key));have j:=Zz ((Kp.refl ac w).alloc (.cells (aT b an key) 113));obtain ⟨o,c,st,A,Φ,g,hF⟩:=h.no j.o;have k:=Zz (w_c g 0 g.n1);have l:=Zz (JA (g.dk 0 g.n1))
 have s:(bs key).size=32:=by rw[cG,hk]
 clear h g hF;change Cl 85 #[.agg #[.pointer (some ⟨b,0,none⟩),.pointer (some ⟨an,0,none⟩),.string (bs key)]] w _;go_enter func85,ntmps85
 go_upto_region 1 with fail
 change Code.wp _ _ _ _ (w.alloc (.cells (aT b an key) 113));generalize w.alloc (.cells (aT b an key) 113)=t at *;generalize w.heap.size=G at *;have p:=i.o.c0;have q:=i.o.c1;have r:=i.o.c2;go_wp2_with fail;refine k.o.mono ?_;rintro e m ⟨rfl,rfl⟩;go_wp2_with fail;refine l.o.mono ?_;rintro e m ⟨rfl,rfl⟩;go_wp2;go_ret;exact ⟨rfl,j.o⟩
end
def uL:B_:=bs gy
def WA:uL.size=32:=rfl
def repeatZ (w:W_):Cl 92 #[.string ⟨#[0]⟩,.int .i64 32] w fun e w'=>e=.returned (.string uL)/\Kp ac w w':=by
 have h:=Tryz.strings_Repeat ⟨#[0]⟩ 32 w d_ d_;refine h.mono ?_;rintro e w' ⟨rfl,hb⟩;exact ⟨rfl,Kp.of_below hb ac⟩
def rX (d s n:Nat):List fv:=(List.range n).map fun i=>if i<d+2 then ⟨1,e9 s eD,fb⟩ else ⟨0,uL,fb⟩
def g8 (d s n:Nat):cj:=⟨1,1,d,s,rX d s n⟩
def x_Z (d s n:Nat):(rX d s n).length=n:=by simp[rX]
def Ru (d s n i:Nat) (h:i<n):(rX d s n).take (i+1)=(rX d s n).take i++[if i<d+2 then ⟨1,e9 s eD,fb⟩ else ⟨0,uL,fb⟩]:=by
 rw[mx (by rw[x_Z];exact h)];simp[rX]
def v_y:fb.size=32:=v_2 _
def v_9 (hs:sl s) (e:Nat->B_):(e9 s e).size=32:=by
 have g:2<=s:=by rcases hs with rfl|rfl<;>decide
 unfold e9 RM;rw[if_pos o_,y_3]
def M3 {d:Nat} (j:2<=d) (k:d<=4) (hs:sl s) (hn:d+2<=n) (m:n<=12):a7 (g8 d s n) where
 d2:=j
 d8:=k
 sl:=hs
 n1:=by show d+2<=(rX d s n).length;rw[x_Z];exact hn
 n12:=by show (rX d s n).length<=12;rw[x_Z];exact m
 mem i h:=by
  have o:i<n:=by have:i<(rX d s n).length:=h;rwa [x_Z] at this
  have e:(g8 d s n).mem[i]'h=if i<d+2 then ⟨1,e9 s eD,fb⟩ else ⟨0,uL,fb⟩:=by simp[g8,rX]
  have l:(g8 d s n).data=d:=rfl;rw[e,l];by_cases g:i<d+2
  ·rw[if_pos g]
   exact ⟨v_9 hs _,v_y,fun _=>.inl rfl,fun h=>o_⟩
  rw[if_neg g];exact ⟨WA,v_y,fun h=>absurd h g,fun _=>rfl⟩
 c:=by show 1<=1000;decide
 e:=by show 1<=1000;decide
def fU (d s i:Nat):Nat->ao:=fun j=>if j<i/\j<d+2 then (dk0.wrs (EZ s)).flush else dk0
def Rw (d s:Nat):fU d s 0=fun _=>dk0:=by funext j;simp[fU]
def Vj (d s i:Nat) (h:i<d+2):dY (fU d s i) i ((dk0.wrs (EZ s)).flush)=fU d s (i+1):=by
 funext j;unfold dY fU;by_cases e:j=i
 ·subst e;simp[h]
 have:(j<i+1)=(j<i):=by rw[eq_iff_iff];omega
 simp only[e,if_false,this]
def TV (d s i:Nat) (h:¬i<d+2):fU d s (i+1)=fU d s i:=by
 funext j;unfold fU;by_cases e:j=i
 ·subst e;simp[h]
 have:(j<i+1)=(j<i):=by rw[eq_iff_iff];omega
 simp only[this]
def Tt (d s i:Nat):fU d s i i=dk0:=by simp[fU]
def wH (hs:sl s):∀x∈EZ s,x.ok:=by
 intro x e
 have h:s<=4:=by rcases hs with rfl|rfl<;>decide
 unfold EZ uJ at e;rcases List.mem_append.1 e with e|e
 ·obtain ⟨q,g,rfl⟩:=List.mem_map.1 e
  have:=List.mem_range.1 g;exact ⟨by show 100<=101+q;omega,by show 101+q<140;omega,by show (dD s eD (q+1)).size<=2032;rw[w_8];decide⟩
 obtain ⟨q,g,rfl⟩:=List.mem_map.1 e;have:=List.mem_range.1 g;exact ⟨by show 100<=120+q;omega,by show 120+q<140;omega,by show (bs []).size<=2032;decide⟩
def w_T (d s i j:Nat):(fU d s i j).dead=false:=by
 unfold fU;split
 ·show (ao.flush _).dead=false
  unfold ao.flush;rw[ao.wrs_dead];rfl
 rfl
def Cn (d s i j:Nat):(fU d s i j).wait=0:=by
 unfold fU;split
 ·unfold ao.flush
  rw[ao.wrs_dead];rfl
 rfl
end Go.Proofs.YtdkheklakfbeeaaGreatDoor
