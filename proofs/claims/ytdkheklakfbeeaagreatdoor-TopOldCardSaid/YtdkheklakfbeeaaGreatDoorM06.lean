/- Part 6 of the proof. -/
import Derived.Test.YtdkheklakfbeeaaGreatDoorM05
set_option linter.all false
set_option maxRecDepth 100000
set_option maxHeartbeats 16000000
namespace Go.Proofs.YtdkheklakfbeeaaGreatDoor
open Go.RowKit Tryz
variable {X:List Nat}{base n:Nat}
def cK (c:B_):B_:=bs (N2 c.data.toList)
def im (c:B_):B_:=bs (NX c.data.toList)
def wC (c:B_):(cK c).size=32:=by unfold cK N2;rw[cG,x_R]
def y_3 (c:B_):(im c).size=32:=by unfold im NX;rw[cG,x_R]
def nw (w:W_) (g:a_ w) (h:10<=w.heap.size) (p:B_) (hp:p.size<=100000) :
  Cl 192 #[.string p] w fun e w'=>e=.returned (.string (im p))/\Kp ac w w':=by
 have:=XJ w g h p.data.toList (by rw[g5];omega)
 rwa [J3] at this
def mJ (w:W_) (g:a_ w) (h:10<=w.heap.size) (p:B_) (hp:p.size<=100000) :
  Cl 143 #[.string p] w fun e w'=>e=.returned (.string (cK p))/\Kp ac w w':=by
 have:=TR w g h p.data.toList (by rw[g5];omega)
 rwa [J3] at this
def Ll (w:W_) (a:a_ w) (h0:10<=w.heap.size) (s t:Nat) (hs:s=2\/s=4) (R:t<s) (v:Value) (L:List B_) (hv:b_ w v (sv L)) (hl:L.length=dP s) (h:Nat->B_)
  (d:∀i,i<dP s->(tl L i).size=64/\im (tl L i)=h i/\h (i+1)=jh (tl L i) (sec s t i)) :
  Cl 206 #[.string (h 0),.int .i64 t,v] w fun e w'=>e=.returned (.tuple #[.string (h (dP s)),.int .i64 0])/\Kp ac w w':=by
 have h1:1<=dP s/\dP s<=2:=by rcases hs with rfl|rfl<;>decide
 obtain ⟨A,c,rfl,M,K,k⟩:=hv;rw[cN,hl] at M k ⊢;obtain ⟨b,off,rfl,x⟩:=k o_
 have O:Hid (∀i,i<dP s->w.cell? ⟨b,off+i,none⟩=some (.string (tl L i))):=Zz fun i j=>by rw[x i j,iQ L i o_]
 have T:=Zz d;have J:=Zz (fun W (m:a_ W)=>sf W m s hs);have U:=Zz (fun W i j=>rF W s t i hs R j);have z:=Zz a;have C:¬((s:Int)<=(t:Int)):=o_;have S:¬((t:Int)<0):=o_;have D:decide ((t:Int)<0)=false:=h_ S;have F:decide (s<=t)=false:=h_ o_;clear a d x k hs;generalize dP s=n at *;go_enter func206,ntmps206;go_wp2_with fail;refine (J.o _ z.o).mono ?_;rintro e q ⟨rfl,rfl⟩;have g:=Zz (Kp.refl ac q)
 go_upto_region 4 with fail
 go_loopw [0,8,9,21] (fun Y _ _ em wr=>∃i:Nat,i<=n/\em=.int .i64 i/\Y=.string (h i)/\Hid (Kp ac q wr)) (fun _ _ _ em _=>n-(intOf em).toNat)
 case atStart=>exact ⟨0,o_,rfl,rfl,g⟩
 case round =>
  clear g;obtain ⟨i,j,rfl,rfl,g⟩:=hrel;by_cases l:i<n
  ·have H:(i:Int)<(n:Int):=o_
   have o:=O.o i l;have hk:=(g.o.below0.cell (fV q _ o)).trans o;obtain ⟨X,f,E⟩:=T.o i l;have r:=Zz (fun W (m:a_ W) (P:10<=W.heap.size)=>nw W m P (tl L i) o_);have I:=Zz (fun W=>U.o W i l);have G:=Zz (fun W y=>C3 W (tl L i) X y);have V:=Zz E;rw[f] at r;clear f E o;generalize tl L i=p at *;generalize sec s t i=y at *;generalize B:h i=Z at *
   have Q:10<=wr.heap.size:=by have:=g.o.size;omega
   go_wp2_with fail;refine (r.o _ (z.o.no g.o) Q).mono ?_;rintro e h2 ⟨rfl,u⟩;have N:=Zz (g.o.trans u);clear u hk;go_wp2_with fail;refine (I.o _).mono ?_;rintro e w3 ⟨rfl,rfl⟩;go_wp2_with fail;refine (G.o _ _).mono ?_;rintro e h3 ⟨rfl,rfl⟩;rw[<-V.o];go_wp2;go_roundw
   case rel=>exact ⟨i+1,o_,by go_num,rfl,N⟩
   case measure=>simp[intOf];omega
  obtain rfl:i=n:=o_;go_wp2;go_ret2;exact ⟨rfl,g.o⟩
def CE (o:Nat->B_) (n i:Nat):List B_:=(List.range n).map fun j=>if j<i then ByteArray.empty else o j
def zZ (o:Nat->B_) (n i:Nat):(CE o n i).length=n:=by simp[CE]
def ptI_all (o:Nat->B_) (n:Nat):CE o n n=List.replicate n ByteArray.empty:=by
 apply i2 (by simp[CE]);intro j e g
 have:j<n:=by simpa[CE] using e
 simp[CE,this]
def WL (o:Nat->B_) (n:Nat):CE o n 0=(List.range n).map o:=by
 apply i2 (by simp[CE]);intro j e g;simp[CE]
def ptI_set (o:Nat->B_) (n i:Nat) (h:i<n):(CE o n (i+1)).set i (o i)=CE o n i:=by
 apply i2 (by simp[CE]);intro j g k;rw[List.getElem_set];by_cases e:i=j
 ·subst e;rw[if_pos rfl];simp[CE]
 rw[if_neg e]
 have:(j<i+1)=(j<i):=by rw[eq_iff_iff];omega
 simp only[CE,List.getElem_map,List.getElem_range,this]
def aH.made_txts (W:W_) (base n:Nat) (hb:base<=W.heap.size) (hn:n<=1000):aH (W.alloc (.cells (madeCells #[.string ⟨#[]⟩] n) 9)) base 9 (.slice (some ⟨W.heap.size,0,none⟩) n n) (sv (List.replicate n ByteArray.empty)):=by
 have h:=aH.lit_ W base 9 (madeCells #[.string ⟨#[]⟩] n) hb (by simp[size_madeCells,maxLen];omega)
 have e:(madeCells #[Value.string ⟨#[]⟩] n).size=n:=by simp[size_madeCells]
 have g:(madeCells #[Value.string ⟨#[]⟩] n).toList=sv (List.replicate n ByteArray.empty):=by rw[toList_madeCells_one];simp only[sv,List.map_replicate];rfl
 rwa [e,g] at h
def v_Q {W:W_} {G k c:Nat} {L:List B_} (h:aH W base 9 (.slice (some ⟨G,0,none⟩) k c) (sv L)) (hl:L.length=k) (j:Nat) (x:B_):aH (W.setCell ⟨G,j,none⟩ (.string x)) base 9 (.slice (some ⟨G,0,none⟩) k c) (sv (L.set j x)):=by
 have e:aH W base 9 (.slice (some ⟨G,0,none⟩) (sv L).length c) (sv L):=by rw[cN,hl];exact h
 have:=e.set_ j (.string x);rw[w_M,cN,hl] at this;exact this
def Ra {W:W_} {G k c:Nat} {L:List B_} (h:aH W base 9 (.slice (some ⟨G,0,none⟩) k c) (sv L)) (hl:L.length=k) (j:Nat) (e:j<k):W.cell? ⟨G,j,none⟩=some (.string (tl L j)):=by
 have g:aH W base 9 (.slice (some ⟨G,0,none⟩) (sv L).length c) (sv L):=by rw[cN,hl];exact h
 rw[g.cell j (by rw[cN,hl];exact e),iQ L j (by rw[hl];exact e)]
def rB (p:B_) (hp:p.size=64) (b:Bool):(jh p b).size=32:=by
 cases b
 ·show (p.extract 0 32).size=32
  rw[ByteArray.size_extract];omega
 show (p.extract 32 64).size=32;rw[ByteArray.size_extract];omega
def TC (w:W_) (h9:a_ w) (y8:10<=w.heap.size) (s t:Nat) (hs:s=2\/s=4) (H9:t<s) (v:Value) (L:List B_) (hv:b_ w v (sv L)) (hl:L.length=dP s) (o g:Nat->B_)
  (hg:(g (dP s)).size=32) (C:∀i,i<dP s->(tl L i).size=64/\o i=(if sec s t i then jh (tl L i) false++g (i+1) else g (i+1)++jh (tl L i) true)/\g i=im (o i)) :
  Cl 170 #[.int .i64 t,v,.string (g (dP s))] w fun e w'=>∃u,e=.returned (.tuple #[u,.string (g 0),.int .i64 0])/\b_ w' u (sv ((List.range (dP s)).map o))/\Kp ac w w':=by
 have jz:1<=dP s/\dP s<=2:=by rcases hs with rfl|rfl<;>decide
 obtain ⟨A,c,rfl,H6,y6,T⟩:=hv;rw[cN,hl] at H6 T ⊢;obtain ⟨b,off,rfl,h5⟩:=T o_
 have V:Hid (∀i,i<dP s->w.cell? ⟨b,off+i,none⟩=some (.string (tl L i))):=Zz fun i E=>by rw[h5 i E,iQ L i o_]
 have F:=Zz C;have H5:=Zz (fun W (B:a_ W)=>sf W B s hs);have x1:=Zz (fun W i E=>rF W s t i hs H9 E);have X:=Zz h9;have y1:¬((s:Int)<=(t:Int)):=o_;have x0:¬((t:Int)<0):=o_;have y4:decide ((t:Int)<0)=false:=h_ x0;have y5:decide (s<=t)=false:=h_ o_
 have H2:Hid (∀i,i<=dP s->(g i).size=32):=Zz fun i E=>by
  rcases Nat.lt_or_ge i (dP s) with h|h
  ·rw[(C i h).2.2];exact y_3 _
  obtain rfl:i=dP s:=o_;exact hg
 clear h9 C h5 T hs;generalize dP s=n at *;have U:=mr n o_ w;have f:=aH.made_txts w w.heap.size n (bS _) o_;rw[<-ptI_all o n] at f;have D:=(Kp.refl ac w).alloc (.cells (madeCells #[.string ⟨#[]⟩] n) 9);obtain ⟨w0,h8⟩:∃w0,w.alloc (.cells (madeCells #[.string ⟨#[]⟩] n) 9)=w0:=⟨_,rfl⟩;rw[h8] at U f D;obtain ⟨G,hG⟩:∃G,w.heap.size=G:=⟨_,rfl⟩;rw[hG] at U f;have h7:=Zz hG;have k:=Zz f;have y:=Zz D
 have y9:IntKind.i64.wrap ((n:Int)-1)=((n-1:Nat):Int):=by rw[eM];omega
 clear hG f D h8;go_enter func170,ntmps170;go_wp2_with fail;refine (H5.o _ X.o).mono ?_;rintro e Q ⟨rfl,rfl⟩
 go_upto_region 7 with fail
 clear U
 go_loopw [2,10] (fun x5 H wr=>∃i:Nat,i<=n/\H=.int .i64 ((i:Int)-1)/\x5=.string (g i)/\Hid (aH wr G 9 (.slice (some ⟨G,0,none⟩) n n) (sv (CE o n i)))/\Hid (Kp ac Q wr)) (fun _ H _=>(intOf H+1).toNat)
 case atStart=>exact ⟨n,o_,by congr 1;omega,rfl,k,y⟩
 case round =>
  clear k y;obtain ⟨i,E,rfl,rfl,k,y⟩:=hrel;by_cases y3:0<i
  ·obtain ⟨j,rfl⟩:∃j,i=j+1:=⟨i-1,o_⟩
   have x3:((j+1:Nat):Int)-1=(j:Int):=o_;rw[x3];have r:j<n:=o_;have y7:(j:Int)<(n:Int):=o_;have N:=V.o j r;have hk:=(y.o.below0.cell (fV Q _ N)).trans N;obtain ⟨P,x,H1⟩:=F.o j r;have I:=Zz (fun W=>x1.o W j r);have h0:=Zz (fun W H7=>C3 W (tl L j) P H7);have h2:=Zz (rB (tl L j) P);have R:=H2.o (j+1) o_
   have h3:(o j).size<=100000:=by
    rw[x];split
    ·rw[ByteArray.size_append,rB _ P,R];decide
    rw[ByteArray.size_append,rB _ P,R];decide
   have a:=Zz (fun W (B:a_ W) (H8:10<=W.heap.size)=>nw W B H8 (o j) h3);rw[<-H1] at a;have x8:=Ra k.o (zZ o n (j+1)) j r;have y0:=k.o.frozen j;have d:Hid (aH (wr.setCell ⟨G,j,none⟩ (.string (o j))) G 9 (.slice (some ⟨G,0,none⟩) n n) (sv (CE o n j))):=Zz (by rw[<-ptI_set o n j r];exact v_Q k.o (zZ o n (j+1)) j (o j));have q:=Zz (y.o.setCell ⟨G,j,none⟩ (.string (o j)) (.inr (Nat.le_of_eq h7.o)))
   have M:10<=(wr.setCell ⟨G,j,none⟩ (.string (o j))).heap.size:=by have:=q.o.size;omega
   have x9:G<wr.heap.size:=(k.o.lt G rfl).2
   have y2:b≠G:=by
    have:=fV Q _ N;have:=h7.o;show b≠G
    have h1:b<Q.heap.size:=by assumption
    omega
   have J:(wr.setCell ⟨G,j,none⟩ (.string (o j))).cell? ⟨G,j,none⟩=some (.string (o j)):=by
    rw[Ra d.o (zZ o n j) j r];congr 2;simp[tl,CE,r]
   have O:=Zz J;clear H1 N h3 J;generalize tl L j=p at *;generalize h4:g (j+1)=l at *;have H4:=Zz h4;clear h4
   cases H0:sec s t j with
   | true =>
    rw[H0] at I x
    have z:o j=jh p false++l:=by rw[x];rfl
    have H3:(jh p false).size=32:=h2.o false;rw[z] at d q M a O;have x2:l.size=32:=R;clear x z F V;go_wp2_with fail;refine (I.o _).mono ?_;rintro e w3 ⟨rfl,rfl⟩;go_wp2_with fail;refine (h0.o _ _).mono ?_;rintro e K ⟨rfl,rfl⟩
    go_upto_region 14 with fail
    have J:=O.o;generalize Z:K.setCell ⟨G,j,none⟩ (.string (jh p false++l))=x6 at *;clear Z;generalize jh p false++l=x4 at *;go_wp2_with fail;refine (a.o _ (X.o.no q.o) M).mono ?_;rintro e x7 ⟨rfl,m⟩;have Y:=Zz (d.o.kp m fun _ _ h=>h);have S:=Zz (q.o.trans m);clear m;go_wp2;go_roundw
    case rel=>exact ⟨j,o_,by go_num,rfl,Y,S⟩
    case measure=>simp[intOf]
   | false =>
    rw[H0] at I x
    have z:o j=l++jh p true:=by rw[x];rfl
    have H3:(jh p true).size=32:=h2.o true;rw[z] at d q M a O;have x2:l.size=32:=R;clear x z F V;go_wp2_with fail;refine (I.o _).mono ?_;rintro e w3 ⟨rfl,rfl⟩;go_wp2_with fail;refine (h0.o _ _).mono ?_;rintro e K ⟨rfl,rfl⟩
    go_upto_region 14 with fail
    have J:=O.o;generalize Z:K.setCell ⟨G,j,none⟩ (.string (l++jh p true))=x6 at *;clear Z;generalize l++jh p true=x4 at *;go_wp2_with fail;refine (a.o _ (X.o.no q.o) M).mono ?_;rintro e x7 ⟨rfl,m⟩;have Y:=Zz (d.o.kp m fun _ _ h=>h);have S:=Zz (q.o.trans m);clear m;go_wp2;go_roundw
    case rel=>exact ⟨j,o_,by go_num,rfl,Y,S⟩
    case measure=>simp[intOf]
  obtain rfl:i=0:=o_;have h6:=k.o.reads;rw[WL] at h6;go_wp2
  go_ret3
  exact ⟨_,rfl,h6,y.o⟩
def bQ (n:Nat):List UInt8:=v8 [n / 4294967296,n % 4294967296]
def ec (n:Nat):(bQ n).length=8:=by unfold bQ;rw[x_J];rfl
def df (l:List UInt8):List UInt8:=bQ l.length++l
def Vh (w:W_) (n:Nat) (hn:n<18446744073709551616) :
  Cl 78 #[.int .u64 n] w fun e w'=>e=.returned (.string (bs (bQ n)))/\Kp ac w w':=by
 have k:(n:Int) / 4294967296=((n / 4294967296:Nat):Int):=o_;have l:n / 4294967296<4294967296:=o_;have j:Hid (bQ n=v8 [n / 4294967296,n % 4294967296]):=Zz rfl
 have m:IntKind.u32.wrap (n:Int)=((n % 4294967296:Nat):Int):=by rw[IntKind.wrap_u32];omega
 have o:IntKind.u32.wrap ((n / 4294967296:Nat):Int)=((n / 4294967296:Nat):Int):=by rw[IntKind.wrap_u32];omega
 have g:=Zz (fun W v h=>v_d W v [n / 4294967296,n % 4294967296] h s_);rw[<-j.o] at g;generalize bQ n=R at *;generalize n / 4294967296=a at *;generalize n % 4294967296=b at *;have HR:Hid (b_ (w.alloc (.cells #[.int .u32 a,.int .u32 b] 213)) (.slice (some ⟨w.heap.size,0,none⟩) 2 2) (uv [a,b])):=Zz (Ab w #[.int .u32 a,.int .u32 b] 213 (by simp[maxLen]));have i:=Zz ((Kp.refl ac w).alloc (.cells #[.int .u32 a,.int .u32 b] 213));go_enter func78,ntmps78;go_wp2_with fail;refine (g.o _ _ HR.o).mono ?_;rintro e p ⟨rfl,hb⟩;go_wp2;go_ret;exact ⟨rfl,i.o.trans (Kp.of_below hb _)⟩
def E3 (w:W_) (l:List UInt8) (hl:l.length<=1000000) :
  Cl 77 #[.string (bs l)] w fun e w'=>e=.returned (.string (bs (df l)))/\Kp ac w w':=by
 have i:(bs l).size=l.length:=cG l
 have k:IntKind.u64.wrap (l.length:Int)=(l.length:Int):=by rw[ie];omega
 have h:=Zz (Vh w l.length o_)
 have j:¬(9223372036854775807<(bs (bQ l.length)).size+(bs l).size):=by rw[cG,ec,i];omega
 have g:Hid (bs (bQ l.length)++bs l=bs (df l)):=Zz (uQ _ _);generalize bs (df l)=R at *;generalize bs (bQ l.length)=N at *;go_enter func77,ntmps77;go_wp2_with fail;refine h.o.mono ?_;rintro e m ⟨rfl,hk⟩;go_wp2;go_ret;exact ⟨by rw[<-g.o];rfl,hk⟩
abbrev Rd:=List UInt8 × Nat
def Rd.cs (r:Rd):Array Value:=#[.string (bs r.1),.int .i64 r.2]
def Rd.bad (r:Rd) (n:Nat):Nat:=if r.2=0/\r.1.length<n then 3 else r.2
def Rd.took (r:Rd) (n:Nat):List UInt8:=if r.bad n=0 then r.1.take n else []
def Rd.left (r:Rd) (n:Nat):Rd:=if r.bad n=0 then (r.1.drop n,0) else (r.1,r.bad n)
def jl (w:W_) (l:List UInt8) :
  Cl 178 #[.string (bs l)] w fun e w'=>e=.returned (.pointer (some ⟨w.heap.size,0,none⟩))/\ab w' w.heap.size 317 (Rd.cs (l,0))/\Kp ac w w':=by
 have g:Hid (ab (w.alloc (.cells #[.string (bs l),.int .i64 0] 317)) w.heap.size 317 (Rd.cs (l,0))):=Zz (ab.new w _ _);have h:=Zz ((Kp.refl ac w).alloc (.cells #[.string (bs l),.int .i64 0] 317));go_enter func178,ntmps178;go_wp2;go_ret;exact ⟨rfl,g.o,h.o⟩
def NE (w:W_) (p:Nat) (r:Rd) (t:r.1.length<=1000000) (n:Nat) (hn:n<18446744073709551616) (k:ab w p 317 r.cs) :
  Cl 230 #[.pointer (some ⟨p,0,none⟩),.int .u64 n] w fun e w'=>e=.returned (.string (bs (r.took n)))/\ab w' p 317 (r.left n).cs/\Kp (·=p) w w':=by
 obtain ⟨l,b⟩:=r;have t:l.length<=1000000:=t;have c:=k.c0;have d:=k.c1;have f0:=k.frozen 0;have f1:=k.frozen 1;have a:(bs l).size=l.length:=cG l
 have E:IntKind.u64.wrap (l.length:Int)=(l.length:Int):=by rw[ie];omega
 have q:=Zz k;clear k;by_cases hb:b=0
 ·subst hb
  by_cases s:l.length<n
  ·have g:Rd.bad (l,0) n=3:=if_pos ⟨rfl,s⟩
   have i:Rd.took (l,0) n=[]:=by unfold Rd.took;rw[g];rfl
   have j:Rd.left (l,0) n=(l,3):=by unfold Rd.left;rw[g];rfl
   rw[i,j];have u:(l.length:Int)<(n:Int):=o_;have o:Hid (ab (w.setCell ⟨p,1,none⟩ (.int .i64 3)) p 317 (Rd.cs (l,3))):=Zz (q.o.set_ 1 (.int .i64 3));have m:=Zz ((Kp.refl (·=p) w).setCell ⟨p,1,none⟩ (.int .i64 3) (.inl rfl));clear g i j;go_enter func230,ntmps230;go_wp2;go_ret;exact ⟨rfl,o.o,m.o⟩
  have g:Rd.bad (l,0) n=0:=if_neg (fun h=>s h.2)
  have i:Rd.took (l,0) n=l.take n:=by unfold Rd.took;rw[g];rfl
  have j:Rd.left (l,0) n=(l.drop n,0):=by unfold Rd.left;rw[g];rfl
  rw[i,j];have u:¬(l.length:Int)<(n:Int):=o_;have f:(n:Int)<=(l.length:Int):=o_;have z:n<=l.length:=o_
  have x:(bs l).extract 0 n=bs (l.take n):=by rw[Co];simp
  have y:(bs l).extract n l.length=bs (l.drop n):=by rw[Co,kx (by rw[List.length_drop];omega)]
  have o:Hid (ab (w.setCell ⟨p,0,none⟩ (.string (bs (l.drop n)))) p 317 (Rd.cs (l.drop n,0))):=Zz (q.o.set_ 0 (.string (bs (l.drop n))));have m:=Zz ((Kp.refl (·=p) w).setCell ⟨p,0,none⟩ (.string (bs (l.drop n))) (.inl rfl));clear g i j;go_enter func230,ntmps230;go_wp2;go_ret;exact ⟨rfl,o.o,m.o⟩
 have g:Rd.bad (l,b) n=b:=if_neg (fun h=>hb h.1)
 have i:Rd.took (l,b) n=[]:=by unfold Rd.took;rw[g,if_neg hb]
 have j:Rd.left (l,b) n=(l,b):=by unfold Rd.left;rw[g,if_neg hb]
 rw[i,j];have v:¬(b:Int)=0:=o_;clear g i j;go_enter func230,ntmps230;go_wp2;go_ret;exact ⟨rfl,q.o,Kp.refl _ _⟩
def Qt (l:List UInt8):Nat:=A5 l 0*4294967296+A5 l 1
def Rd.num (r:Rd):Nat:=if r.bad 8=0 then Qt (r.1.take 8) else 0
def Oy (l:List UInt8):Qt l<18446744073709551616:=by
 unfold Qt;have:=mT l 0;have:=mT l 1;omega
def Rd.num_lt (r:Rd):r.num<18446744073709551616:=by
 unfold Rd.num;split
 ·exact Oy _
 decide
def Rd.bad_ok {r:Rd} (h:r.bad n=0):r.2=0/\n<=r.1.length:=by
 unfold Rd.bad at h;split at h
 ·cases h
 rename_i hn;exact ⟨h,o_⟩
def Rd.left_len (r:Rd) (n:Nat):(r.left n).1.length<=r.1.length:=by
 unfold Rd.left;split
 ·simp
 exact bS _
def Rd.left_bad (r:Rd) (n:Nat):(r.left n).2=r.bad n:=by
 unfold Rd.left;split
 ·rename_i h;exact h.symm
 rfl
def Rd.took_len (r:Rd) (n:Nat):(r.took n).length=if r.bad n=0 then n else 0:=by
 unfold Rd.took;split
 ·rename_i h
  rw[gC];have:=(Rd.bad_ok h).2;omega
 rfl
def Rd.bad_lt {r:Rd} (h:r.2<100) (n:Nat):r.bad n<100:=by
 unfold Rd.bad;split
 ·decide
 exact h
def YH (P c:Nat) (W:W_):(Instr.arrayAt 320 (.slice (some ⟨P,0,none⟩) 2 c)).run prog W=.ok (.pointer (some ⟨P,0,none⟩)) W:=by
 have h:prog.underlying 320=some (.array 2 213):=k_;simp[Instr.arrayAt,run_underlying h]
def v_X (w:W_) (p:Nat) (r:Rd) (I:r.1.length<=1000000) (t:ab w p 317 r.cs) :
  Cl 183 #[.pointer (some ⟨p,0,none⟩)] w fun e w'=>e=.returned (.int .u64 r.num)/\ab w' p 317 (r.left 8).cs/\Kp (·=p) w w':=by
 have o:=Zz (NE w p r I 8 d_ t);have V:=t.lt;by_cases hb:r.bad 8=0
 ·have g:(r.took 8).length=8:=by rw[Rd.took_len,if_pos hb]
  have y:Hid (r.num=A5 (r.took 8) 0*4294967296+A5 (r.took 8) 1):=Zz (by unfold Rd.num Rd.took;rw[if_pos hb,if_pos hb];rfl);have m:=Zz (fun W=>zC W (bs (r.took 8)) (by rw[cG,g];decide) (by rw[cG,g]))
  have k:(qk (r.took 8)).length=2:=by simp[qk,g]
  have f:(qk (r.took 8)).getD 0 0=A5 (r.took 8) 0:=by simp[qk,g]
  have E:(qk (r.took 8)).getD 1 0=A5 (r.took 8) 1:=by simp[qk,g]
  have Y:=mT (r.took 8) 0;have Z:=mT (r.took 8) 1;simp only[AT] at m;generalize A5 (r.took 8) 0=a at *;generalize A5 (r.took 8) 1=b at *;generalize qk (r.took 8)=L at *;generalize r.took 8=T at *;generalize (r.left 8).cs=cs at *;generalize r.num=R at *;go_enter func183,ntmps183;go_wp2_with fail;refine o.o.mono ?_;rintro e N ⟨rfl,l,j⟩;have i:=Zz l;have n:=Zz j;have Q:=j.size;clear l j;go_wp2_with fail;refine (m.o _).mono ?_;rintro e u ⟨v,rfl,h,hb⟩;obtain ⟨P,c,rfl,O,B,C⟩:=h.form (by rw[ft,k];decide);rw[ft,k] at h;have q:=Zz (i.o.below hb i.o.lt);have s:=Zz (n.o.trans (Kp.of_below hb _));have z:=x_8 h k 0 d_;have d:=x_8 h k 1 d_;rw[f] at z;rw[E] at d;rw[ft,k];clear h hb i n
  have G:bits .or .u64 ((a:Int)*4294967296) (b:Int)=(R:Int):=by
   have:=bits_join .u64 64 d_ wraps_u64 32 ((a:Int)*4294967296) (b:Int) o_ o_ o_ o_ o_ o_;rw[this,y.o];omega
  have S:IntKind.u64.wrap (a:Int)=(a:Int):=by rw[ie];omega
  have U:IntKind.u64.wrap (b:Int)=(b:Int):=by rw[ie];omega
  have X:=YH P c u;have J:=Zz (q.o.alloc (.cells #[.int .u32 a,.int .u32 b] 320));have M:=Zz (s.o.alloc (.cells #[.int .u32 a,.int .u32 b] 320));go_wp2;go_ret;exact ⟨rfl,J.o,M.o⟩
 have g:r.took 8=[]:=by unfold Rd.took;rw[if_neg hb]
 have x:r.num=0:=by unfold Rd.num;rw[if_neg hb]
 rw[x];rw[g] at o;have m:=Zz (fun W=>zC W (bs []) d_ d_);generalize (r.left 8).cs=cs at *;go_enter func183,ntmps183;go_wp2_with fail;refine o.o.mono ?_;rintro e N ⟨rfl,l,j⟩;have i:=Zz l;have n:=Zz j;clear l j;go_wp2_with fail;refine (m.o _).mono ?_;rintro e u ⟨v,rfl,h,hb⟩;obtain ⟨A,c,rfl⟩:=h.shape;have q:=Zz (i.o.below hb i.o.lt);have s:=Zz (n.o.trans (Kp.of_below hb _));rw[show (uv (qk (bs []).data.toList)).length=0 from rfl];go_wp2;go_ret;exact ⟨rfl,q.o,s.o⟩
def Rd.below (r:Rd) (b:Nat):Nat:=if r.bad 8=0/\r.num<b then r.num else 0
def Rd.belowS (r:Rd) (b:Nat):Rd:=if r.bad 8=0/\¬r.num<b then (r.1.drop 8,4) else r.left 8
def v_l (w:W_) (p:Nat) (r:Rd) (d:r.1.length<=1000000) (c:r.2<100) (b:Nat) (g:1<=b) (hb:b<=1000000) (z:ab w p 317 r.cs) :
  Cl 179 #[.pointer (some ⟨p,0,none⟩),.int .i64 b] w fun e w'=>e=.returned (.int .i64 (r.below b:Int))/\ab w' p 317 (r.belowS b).cs/\Kp (·=p) w w':=by
 have s:=Zz (v_X w p r d z);have M:=r.num_lt
 have E:IntKind.u64.wrap (b:Int)=(b:Int):=by rw[ie];omega
 have G:¬((b:Int)<1):=o_;have I:=Rd.bad_lt c 8;have v:=Rd.left_bad r 8;by_cases k:r.bad 8=0
 ·have m:r.left 8=(r.1.drop 8,0):=by unfold Rd.left;rw[if_pos k]
  rw[m] at s;by_cases u:r.num<b
  ·have i:r.below b=r.num:=by unfold Rd.below;rw[if_pos ⟨k,u⟩]
   have j:r.belowS b=(r.1.drop 8,0):=by unfold Rd.belowS;rw[if_neg (fun h=>h.2 u),m]
   rw[i,j];generalize r.num=n at *;generalize r.1.drop 8=l at *;have f:¬((b:Int)<=(n:Int)):=o_
   have N:IntKind.i64.wrap (n:Int)=(n:Int):=by rw[eM];omega
   clear i j m v k;go_enter func179,ntmps179;go_wp2_with fail;refine s.o.mono ?_;rintro e x ⟨rfl,g,o⟩;have y:=g.c1;have t:=Zz g;clear g;go_wp2;go_ret;exact ⟨rfl,t.o,o⟩
  have i:r.below b=0:=by unfold Rd.below;rw[if_neg (fun h=>u h.2)]
  have j:r.belowS b=(r.1.drop 8,4):=by unfold Rd.belowS;rw[if_pos ⟨k,u⟩]
  rw[i,j];generalize r.num=n at *;generalize r.1.drop 8=l at *;have f:((b:Int)<=(n:Int)):=o_;clear i j m v k;go_enter func179,ntmps179;go_wp2_with fail;refine s.o.mono ?_;rintro e x ⟨rfl,g,o⟩;have y:=g.c1;have f1:=g.frozen 1;have t:Hid (ab (x.setCell ⟨p,1,none⟩ (.int .i64 4)) p 317 (Rd.cs (l,4))):=Zz (g.set_ 1 (.int .i64 4));have a:=Zz (o.setCell ⟨p,1,none⟩ (.int .i64 4) (.inl rfl));clear g o;go_wp2;go_ret;exact ⟨rfl,t.o,a.o⟩
 have i:r.below b=0:=by unfold Rd.below;rw[if_neg (fun h=>k h.1)]
 have j:r.belowS b=r.left 8:=by unfold Rd.belowS;rw[if_neg (fun h=>k h.1)]
 rw[i,j]
 have m:r.left 8=(r.1,r.bad 8):=by unfold Rd.left;rw[if_neg k]
 rw[m] at s ⊢;generalize r.bad 8=q at *;have J:¬((q:Int)=0):=o_;generalize r.1=l at *;generalize r.num=n at *;clear i j m v;go_enter func179,ntmps179;go_wp2_with fail;refine s.o.mono ?_;rintro e x ⟨rfl,g,o⟩;have y:=g.c1;have t:=Zz g;clear g;go_wp2;go_ret;exact ⟨rfl,t.o,o⟩
def Rd.text (r:Rd):List UInt8:=(r.left 8).took r.num
def Rd.textS (r:Rd):Rd:=(r.left 8).left r.num
def nm (w:W_) (p:Nat) (r:Rd) (i:r.1.length<=1000000) (k:ab w p 317 r.cs) :
  Cl 231 #[.pointer (some ⟨p,0,none⟩)] w fun e w'=>e=.returned (.string (bs r.text))/\ab w' p 317 r.textS.cs/\Kp (·=p) w w':=by
 have j:=Zz (v_X w p r i k);have g:=Zz (fun W h=>NE W p (r.left 8) (cL (Rd.left_len r 8) i) r.num r.num_lt h);change Hid (∀W,_->Calls _ _ _ _ fun e w'=>e=.returned (.string (bs r.text))/\ab w' p 317 r.textS.cs/\_) at g;generalize r.textS=S at *;generalize r.text=T at *;generalize r.num=n at *;generalize (r.left 8).cs=cs at *;go_enter func231,ntmps231;go_wp2_with fail;refine j.o.mono ?_;rintro e s ⟨rfl,o,q⟩;go_wp2_with fail;refine (g.o _ o).mono ?_;rintro e t ⟨rfl,m,l⟩;go_wp2;go_ret;exact ⟨rfl,m,q.trans l⟩
def Rd.done (r:Rd):Nat:=if r.2=0 then (if r.1=[] then 0 else 5) else r.2
def ki (w:W_) (p:Nat) (r:Rd) (h:ab w p 317 r.cs) :
  Cl 180 #[.pointer (some ⟨p,0,none⟩)] w fun e w'=>e=.returned (.int .i64 r.done)/\w'=w:=by
 obtain ⟨l,b⟩:=r;have j:=h.c0;have k:=h.c1;clear h;by_cases hb:b=0
 ·subst hb
  by_cases hl:l=[]
  ·subst hl
   have g:Rd.done ([],0)=0:=rfl;rw[g];have i:bs []=(⟨#[]⟩:B_):=rfl;go_enter func180,ntmps180;go_wp2;go_ret;exact ⟨rfl,rfl⟩
  have g:Rd.done (l,0)=5:=by unfold Rd.done;rw[if_pos rfl,if_neg hl]
  rw[g]
  have i:(bs l).toList.isEmpty=false:=by
   rw[Lib.toList_data,AT]
   cases l with
   | nil=>exact absurd rfl hl
   | cons x l=>rfl
  generalize bs l=s at *;clear g;go_enter func180,ntmps180;go_wp2;go_ret;exact ⟨rfl,rfl⟩
 have g:Rd.done (l,b)=b:=by unfold Rd.done;rw[if_neg hb]
 rw[g];have i:¬((b:Int)=0):=o_;clear g;go_enter func180,ntmps180;go_wp2;go_ret;exact ⟨rfl,rfl⟩
def iB (w:W_) (v:Value) (size n:Nat) (e:List Value):Prop :=
 ∃A c,v=.slice A n c/\n<=c/\c<=9223372036854775807/\e.length=n*size/\(0<n->∃b off,A=some ⟨b,off,none⟩/\∀j,j<n*size->w.cell? ⟨b,off+j,none⟩=e[j]?)
section
variable {w w':W_} {v:Value} {size:Nat} {xs:List Value}
def iB.keep (h:iB w v size n xs) (hk:∀p:Addr,p.block<w.heap.size->w'.cell? p=w.cell? p):iB w' v size n xs:=by
 obtain ⟨A,c,rfl,g,i,k,l⟩:=h;refine ⟨A,c,rfl,g,i,k,fun hp=>?_⟩;obtain ⟨b,off,rfl,m⟩:=l hp;refine ⟨b,off,rfl,fun j o=>?_⟩;have e:=m j o;rw[cr o_] at e ⊢;exact (hk _ (fV w _ e)).trans e
def iB.no (h:iB w v size n xs) (k:Kp ac w w'):iB w' v size n xs:=h.keep fun _ hp=>k.below0.cell hp
def iB.drew (h:iB w v size n xs):iB w.drew v size n xs:=h
def Kx (w:W_) (size:Nat):iB w (.slice none 0 0) size 0 []:=⟨none,0,rfl,o_,o_,s_,fun h=>absurd h o_⟩
def Sy {e:Nat} (h:w.ownsRow base e size v n xs):iB w v size n xs:=by
 rcases h.2 with ⟨rfl,rfl⟩|⟨g,i,k,rfl,hb,m,l,hm,hs,p⟩
 ·exact ⟨none,0,rfl,o_,o_,h.1,fun h=>absurd h o_⟩
 refine ⟨_,i,rfl,l,hm,h.1,fun _=>⟨g,0,rfl,fun j o=>?_⟩⟩;rw[jm,cell_of_row w g j k e (0,0) m,<-p,List.getElem?_take,if_pos o];simp
end
structure Wr where
 at':Nat
 cell:B_
def eu (l:List Wr):List Value:=l.flatMap fun x=>[.int .i64 x.at',.string x.cell]
def sN (l:List Wr):(eu l).length=l.length*2:=by
 induction l with
 | nil=>rfl
 | cons x l e=>simp only[eu,List.flatMap_cons,cd,List.length_cons] at e ⊢;rw[e];simp;omega
def v_u (l m:List Wr):eu (l++m)=eu l++eu m:=by simp[eu]
def tH (l:List Wr) (i:Nat) (h:i<l.length):(eu l)[i*2]?=some (.int .i64 ((l[i]'h).at':Int))/\(eu l)[i*2+1]?=some (.string (l[i]'h).cell):=by
 induction l generalizing i with
 | nil=>simp at h
 | cons x l j =>
  cases i with
  | zero=>exact ⟨rfl,rfl⟩
  | succ i =>
   have:=j i (by simpa using h);have e:(i+1)*2=i*2+2:=o_;have g:(i+1)*2+1=(i*2+1)+2:=o_;rw[g,e];exact this
def Wr.ok (x:Wr):Prop:=100<=x.at'/\x.at'<140/\x.cell.size<=2032
def E5 (w:W_) (a:Nat) (s:B_) (l:100<=a) (m:a<140) (n:s.size<=2032) :
  Cl 173 #[.agg #[.int .i64 a,.string s]] w fun e w'=>e=.returned (.int .i64 0)/\Kp ac w w':=by
 have g:=Zz ((Kp.refl ac w).alloc (.cells #[.int .i64 a,.string s] 240));have hb:=ab.new w 240 #[.int .i64 a,.string s];have j:=hb.cell 0;have k:=hb.cell 1;have h:¬((a:Int)<100):=o_;have i:¬((140:Int)<=(a:Int)):=o_;have o:¬(2032<(s.size:Int)):=o_;have d1:decide ((a:Int)<100)=false:=h_ h;have d2:decide ((140:Int)<=(a:Int))=false:=h_ i;clear hb;go_enter func173,ntmps173
 go_upto_region 1 with fail
 generalize w.alloc (.cells #[.int .i64 a,.string s] 240)=p at *;go_wp2;go_ret;exact ⟨rfl,g.o⟩
def v_q (w:W_) (c:B_) (g:c.size<=1000000) :
  Cl 77 #[.string c] w fun e w'=>e=.returned (.string (bs (df c.data.toList)))/\Kp ac w w':=by
 have:=E3 w c.data.toList (by rw[g5];omega)
 rwa [J3] at this
def WK (w:W_) (g:a_ w) (h:10<=w.heap.size) (l:List UInt8) (hl:l.length<=90000000) (s:B_) (hs:s=bs l) :
  Cl 176 #[.string s] w fun e w'=>e=.returned (.string (bs (dC l)))/\Kp ac w w':=by subst hs;exact N1 w g h l hl
def strB (l:List UInt8):Lib.strCells (bs l)=bv l:=by simp[Lib.strCells,bs,bv]
def z_ (cells:List B_):List UInt8:=cells.flatMap fun c=>df c.data.toList
def iD (cells:List B_):B_:=bs (dC (z_ cells))
def v_2 (cells:List B_):(iD cells).size=32:=by unfold iD dC;rw[cG,x_R]
def w_ (T:List B_) (i:Nat) (h:i<T.length):z_ (T.take (i+1))=z_ (T.take i)++df (tl T i).data.toList:=by
 rw[mx h];unfold z_;rw[List.flatMap_append];simp[tl,h]
def Y_ (T:List B_) (h:∀i,i<T.length->(tl T i).size<=3000) (i:Nat) (j:i<=T.length):(z_ (T.take i)).length<=i*3008:=by
 induction i with
 | zero=>simp[z_]
 | succ i e =>
  rw[w_ T i o_,cd];have:=e o_;have g:=h i o_
  have:(df (tl T i).data.toList).length<=3008:=by
   unfold df;rw[cd,ec,g5];omega
  omega
def Kn {S:Nat->Prop} {w w':W_} {B b:Nat} {l:List Value} (h:Lib.IsBuilder 232 5 B b l w) (k:Kp S w w') (i:∀q,B<=q->¬S q):Lib.IsBuilder 232 5 B b l w':=by
 have one:∀p,Lib.BuilderAt 232 5 B b p l w->Lib.BuilderAt 232 5 B b p l w':=fun p h=>by
  obtain ⟨g,v,hb,e,j⟩:=h;exact ⟨g,v,(k.block b (F4.1 hb).1 (i b g)).trans hb,dL e k fun q m=>i q (iZ e m).1,j⟩
 exact h.elim (fun h=>.inl (one _ h)) (fun h=>.inr (one _ h))
def oH (w:W_):Lib.IsBuilder 232 5 w.heap.size w.heap.size [] (w.alloc (.cells #[.pointer none,.slice none 0 0] 232)) :=
 .inl ⟨bS _,.slice none 0 0,heap_alloc_new w _,World.ownsRow_nil _ _ _ _,by simp[Value.ownBlock]⟩
def z_ax (w:W_) (Q:a_ w) (h9:10<=w.heap.size) (v:Value) (T:List B_) (hv:b_ w v (sv T)) (h1:T.length<=100) (hz:∀i,i<T.length->(tl T i).size<=3000) :
  Cl 174 #[v] w fun e w'=>e=.returned (.string (iD T))/\Kp ac w w':=by
 obtain ⟨A,c,rfl,I,h7,s⟩:=hv;rw[cN] at I s ⊢;have d:=Zz s;have f:=Zz (w_ T);have u:Hid (z_ (T.take T.length)=z_ T):=Zz (by rw[List.take_length]);have x:=Zz (Y_ T hz);have U:=Zz (iQ T);have E:=Zz hz;have L:=Zz Q;have V:Hid (iD T=bs (dC (z_ T))):=Zz rfl;obtain ⟨n,hn⟩:∃n,T.length=n:=⟨_,rfl⟩;rw[hn] at I d f u h1 U x E ⊢;have O:=oH w;have S:=(Below.refl w.heap.size w).alloc (bS _) (.cells #[.pointer none,.slice none 0 0] 232);have j:Hid (Lib.IsBuilder 232 5 w.heap.size w.heap.size (bv (z_ (T.take 0))) (w.alloc (.cells #[.pointer none,.slice none 0 0] 232))):=Zz O;have g:=Zz S;clear s hn Q hz O S;generalize iD T=C at *;go_enter func174,ntmps174
 go_upto_region 3 with fail
 generalize w.alloc (.cells #[.pointer none,.slice none 0 0] 232)=w0 at *;obtain ⟨B,P⟩:∃B,w.heap.size=B:=⟨_,rfl⟩;rw[P] at j g ⊢
 go_loopw [5,8] (fun _ z wr=>∃i:Nat,i<=n/\z=.int .i64 i/\Hid (Lib.IsBuilder 232 5 B B (bv (z_ (T.take i))) wr)/\Hid (Below B w wr)) (fun _ z _=>n-(intOf z).toNat)
 case atStart=>exact ⟨0,o_,rfl,j,g⟩
 case round =>
  clear j g;obtain ⟨i,h8,rfl,j,g⟩:=hrel;by_cases l:i<n
  ·obtain ⟨b,off,rfl,M⟩:=d.o o_
   have o:=M i l;rw[U.o i l] at o;have hk:=(g.o.cell (by have:=fV w _ o;omega)).trans o;have h6:(i:Int)<(n:Int):=o_;have h5:=E.o i l;have h4:=Zz (fun W=>v_q W (tl T i) o_);have J:=Zz (f.o i l);have q:=x.o (i+1) o_;rw[J.o,cd] at q;have D:=Zz (fun W (h:Lib.IsBuilder 232 5 B B (bv (z_ (T.take i))) W) (hs:B<=W.heap.size)=>Tryz.Builder_WriteString B B (bv (z_ (T.take i))) (bs (df (tl T i).data.toList)) W h (by rw[og,cG];omega) hs);clear M o q
   have y:B<=wr.heap.size:=by have:=g.o.size;omega
   generalize R:bs (df (tl T i).data.toList)=X at *;have Y:=Zz R;clear R;generalize tl T i=p at *;go_wp2_with fail;refine (h4.o _).mono ?_;rintro e a ⟨rfl,k⟩;have H:=Zz (Kn j.o k fun _ _ h=>h);have t:=Zz (g.o.trans (k.below0.mono y))
   have h3:B<=a.heap.size:=by have:=k.size;omega
   clear k;go_wp2_with fail;refine (D.o _ H.o h3).mono ?_;rintro e w3 ⟨rfl,N,m⟩;have F:Hid (Lib.IsBuilder 232 5 B B (bv (z_ (T.take (i+1)))) w3):=Zz (by rw[J.o,w_E,<-strB (df p.data.toList),Y.o];exact .inr N);have K:=Zz (t.o.trans m);clear N m;go_wp2;go_roundw
   case rel=>exact ⟨i+1,o_,by go_num,F,K⟩
   case measure=>simp[intOf];omega
  obtain rfl:i=n:=o_;rw[u.o] at j;have q:=x.o i (bS _);rw[u.o] at q
  have y:B<=wr.heap.size:=by have:=g.o.size;omega
  have Z:=Zz (fun W (h:Lib.IsBuilder 232 5 B B (bv (z_ T)) W) (hs:B<=W.heap.size)=>Tryz.Builder_String_any B B (z_ T) W h hs);have G:=Zz (fun W (h2:a_ W) (h0:10<=W.heap.size)=>WK W h2 h0 (z_ T) o_ ⟨(z_ T).toArray⟩ rfl);rw[<-V.o] at G;generalize (⟨(z_ T).toArray⟩:B_)=X at *;go_wp2_with fail;refine (Z.o _ j.o y).mono ?_;rintro e a ⟨rfl,k⟩;have t:=Zz (g.o.trans k);have r:Hid (Kp ac w a):=Zz (Kp.of_below (by rw[P];exact t.o) _);clear k;go_wp2_with fail;refine (G.o _ (L.o.no r.o) (by have:=r.o.size;omega)).mono ?_;rintro e w3 ⟨rfl,m⟩;go_wp2;go_ret;exact ⟨rfl,r.o.trans m⟩
def bm (l:List Wr):List B_:=bs (bQ l.length)::l.map fun x=>bs (bQ x.at'++df x.cell.data.toList)
def Nd (l:List Wr):(bm l).length=l.length+1:=by simp[bm]
def fb:B_:=iD (bm [])
def FD (l:List UInt8):Nat:=(Rd.belowS (l,0) 96).done
def Cy (l:List UInt8):Nat:=if FD l=0 then Rd.below (l,0) 96+1 else 0
def zG (l:List UInt8):Nat:=if FD l=0 then 0 else 4
def CR (r:Rd) (b:Nat) (hb:1<=b):r.below b<b:=by
 unfold Rd.below;split
 ·rename_i h;exact h.2
 omega
def w_C (w:W_) (l:List UInt8) (hl:l.length<=1000000) :
  Cl 128 #[.string (bs l)] w fun e w'=>e=.returned (.tuple #[.int .i64 (Cy l:Int),.int .i64 (zG l:Int)])/\Kp ac w w':=by
 have x:=Zz (jl w l);have v:=Zz (fun W h=>v_l W w.heap.size (l,0) hl (by show 0<100;decide) 96 d_ d_ h);have o:=Zz (fun W h=>ki W w.heap.size (Rd.belowS (l,0) 96) h);have a:=CR (l,0) 96 d_;have k:Hid (Cy l=if FD l=0 then Rd.below (l,0) 96+1 else 0):=Zz rfl;have m:Hid (zG l=if FD l=0 then 0 else 4):=Zz rfl;change Hid (∀W,_->Calls _ _ _ _ fun e w'=>e=.returned (.int .i64 (FD l:Int))/\w'=W) at o;generalize FD l=d at *;generalize Rd.below (l,0) 96=n at *;generalize Cy l=N at *;generalize zG l=E at *;go_enter func128,ntmps128;go_wp2_with fail;refine x.o.mono ?_;rintro e c ⟨rfl,t,u⟩;go_wp2_with fail;refine (v.o _ t).mono ?_;rintro e y ⟨rfl,s,r⟩;have p:Hid (Kp ac w y):=Zz (u.then r (T:=(·=w.heap.size)) fun q b h=>by have h:q=w.heap.size:=h;omega);clear u r;go_wp2_with fail;refine (o.o _ s).mono ?_;rintro e w3 ⟨rfl,rfl⟩;clear t s;by_cases g:d=0
 ·have i:N=n+1:=by rw[k.o,if_pos g]
  have j:E=0:=by rw[m.o,if_pos g]
  subst g i j;go_wp2;go_ret2;exact ⟨rfl,p.o⟩
 have i:N=0:=by rw[k.o,if_neg g]
 have j:E=4:=by rw[m.o,if_neg g]
 have z:¬((d:Int)=0):=o_;subst i j;go_wp2;go_ret2;exact ⟨rfl,p.o⟩
def R9 (l:List Wr) (i:Nat) (h:i<l.length):(bm l).take (i+2)=(bm l).take (i+1)++[bs (bQ (l[i]'h).at'++df (l[i]'h).cell.data.toList)]:=by
 have hl:i+1<(bm l).length:=by rw[Nd];omega
 rw[mx hl];congr 1;simp[bm]
def C4:(prog.info? 9).map (fun i=>(i.zero,i.size,i.bytes))=some (some (.string ⟨#[]⟩),1,16):=k_
def Es (w:W_) (h7:a_ w) (hw:10<=w.heap.size) (v:Value) (l:List Wr) (hv:iB w v 2 l.length (eu l)) (hl:l.length<96) (Q:∀x∈l,x.ok) :
  Cl 117 #[v] w fun e w'=>∃u,e=.returned (.tuple #[u,.string (iD (bm l)),.int .i64 0])/\aH w' w.heap.size 9 u (sv (bm l))/\Kp ac w w':=by
 obtain ⟨A,c,rfl,x1,bk,H6,L⟩:=hv;have Z:=Zz L;have tZ:=Zz (tH l);have y4:Hid (∀i (h:i<l.length),(l[i]'h).ok):=Zz fun i h=>Q _ (rY h);have x7:=Zz (R9 l);have x4:=Zz h7;have h3:Hid ((bm l).take (l.length+1)=bm l):=Zz (kx (by rw[Nd];omega))
 have H9:Hid (∀i,i<(bm l).length->(tl (bm l) i).size<=3000):=Zz fun i h9=>by
  rw[Nd] at h9
  cases i with
  | zero=>show (bs (bQ l.length)).size<=3000;rw[cG,ec];decide
  | succ i =>
   have h:i<l.length:=o_
   have:tl (bm l) (i+1)=bs (bQ (l[i]'h).at'++df (l[i]'h).cell.data.toList):=by simp[tl,bm,h]
   rw[this,cG,cd,ec];unfold df;rw[cd,ec,g5];have:=(Q _ (rY h)).2.2;omega
 have x9:Hid ((bm l).length<=100):=Zz (by rw[Nd];omega);have H7:=Zz (fun W=>Vh W l.length o_);have y8:[bs (bQ l.length)]=(bm l).take (0+1):=rfl;obtain ⟨n,hn⟩:∃n,l.length=n:=⟨_,rfl⟩;have x6:=Zz hn;rw[hn] at x1 Z h3 hl H7 H6 ⊢
 have WX:IntKind.u64.wrap (n:Int)=(n:Int):=by rw[ie];omega
 have C:[bs (bQ n)]=(bm l).take (0+1):=by rw[<-hn];rfl
 have x0:=Zz C;clear L hn h7 Q y8 C H6;have y2:¬((96:Int)<=(n:Int)):=o_;have WZ:¬(96<=n):=o_;generalize bm l=o at *;generalize bs (bQ n)=z at *;go_enter func117,ntmps117;go_wp2_with fail;refine (H7.o _).mono ?_;rintro e r ⟨rfl,E⟩;have h8:=aH.lit_ r w.heap.size 9 #[.string z] E.size (by simp[maxLen]);have g:=Zz (E.alloc (.cells #[.string z] 9));have x8:=E.size;clear E
 go_upto_region 5 with fail
 have j:Hid (aH (r.alloc (.cells #[.string z] 9)) w.heap.size 9 (.slice (some ⟨r.heap.size,0,none⟩) 1 1) (sv (o.take (0+1)))):=Zz (by rw[<-x0.o];exact h8);clear h8;generalize r.alloc (.cells #[.string z] 9)=w2 at *;obtain ⟨G,hG⟩:∃G,r.heap.size=G:=⟨_,rfl⟩;rw[hG] at j ⊢;clear hG x8
 go_loopw [5,7,8,19] (fun s5 _ _ Y wr=>∃i:Nat,i<=n/\Y=.int .i64 i/\Hid (aH wr w.heap.size 9 s5 (sv (o.take (i+1))))/\Hid (Kp ac w wr)) (fun _ _ _ Y _=>n-(intOf Y).toNat)
 case atStart=>exact ⟨0,o_,rfl,j,g⟩
 case round =>
  clear j g;obtain ⟨i,h9,rfl,j,g⟩:=hrel;by_cases af:i<n
  ·obtain ⟨b,off,rfl,O⟩:=Z.o o_
   have p:i<l.length:=by have:=x6.o;omega
   obtain ⟨H4,H5⟩:=tZ.o i p;have U:=(O (i*2) o_).trans H4;have N:=(O (i*2+1) o_).trans H5;rw[<-Nat.add_assoc] at N;have y6:=(g.o.below0.cell (fV w _ U)).trans U;have y7:=(g.o.below0.cell (fV w _ N)).trans N;obtain ⟨o1,o2,o3⟩:=y4.o i p;have x2:=Zz (x7.o i p);have bL:(i:Int)<(n:Int):=o_;clear O H4 H5 U N;generalize (l[i]'p).at'=a at *;generalize (l[i]'p).cell=s at *;have M:=Zz (ab.new wr 240 #[.int .i64 a,.string s]);have H1:=Zz (j.o.alloc (.cells #[.int .i64 a,.string s] 240));have h0:=Zz (g.o.alloc (.cells #[.int .i64 a,.string s] 240));have y0:=Zz (fun W=>E5 W a s o1 o2 o3);have y5:=Zz (fun W=>Vh W a o_);have H8:=Zz (fun W=>v_q W s o_)
   have WT:IntKind.u64.wrap (a:Int)=(a:Int):=by rw[ie];omega
   have z1:(bs (bQ a)).size=8:=by rw[cG,ec]
   have z2:(bs (df s.data.toList)).size<=3000:=by rw[cG];unfold df;rw[cd,ec,g5];omega
   have uR:bs (bQ a)++bs (df s.data.toList)=bs (bQ a++df s.data.toList):=uQ _ _;have W5:¬(9223372036854775807<8+(bs (df s.data.toList)).size):=o_;generalize bs (bQ a++df s.data.toList)=X at *;generalize bs (df s.data.toList)=X2 at *;generalize bs (bQ a)=X1 at *
   go_upto_region 7 with fail
   clear j g y6 y7;generalize y1:wr.alloc (.cells #[.int .i64 a,.string s] 240)=w5 at *;clear y1;generalize wr.heap.size=D at *;have I:=M.o.c0;have J:=M.o.c1;go_wp2_with fail;refine (y0.o _).mono ?_;rintro e w6 ⟨rfl,d⟩;have f:=Zz (M.o.kp d fun h=>h).drew;have h4:=Zz (H1.o.kp d fun _ _ h=>h).drew;have F:=Zz (h0.o.trans d).drew;clear I J d M H1 h0
   go_upto_region 10 with fail
   refine fs ?_;generalize w6.drew=w7 at *;have I:=f.o.c0;have J:=f.o.c1;refine fp 0 ?_;refine fp 1 ?_;refine cw 2 I ?_;refine fp 3 ?_;refine fp 5 ?_;refine cw 6 J ?_;refine fd 4 fun K B k=>?_;go_simp;refine (y5.o _).mono ?_;rintro e w8 ⟨rfl,m⟩;have h5:=Zz (f.o.kp m fun h=>h);have H2:=Zz (h4.o.kp m fun _ _ h=>h);have h1:=Zz (F.o.trans m);refine k _ _ (oK (h5.o.cell 1) (oW oN)) ?_;clear k K I J m f h4 F;refine fd 7 fun K B k=>?_;go_simp;refine (H8.o _).mono ?_;rintro e t ⟨rfl,P⟩;have h2:=Zz (H2.o.kp P fun _ _ h=>h);have H:=Zz (h1.o.trans P);refine k _ _ (oW (oW oN)) ?_;clear k K P h5 H2 h1;refine fp 8 ?_;refine fd 9 fun K B k=>?_;go_simp;have R:=Zz (h2.o.alloc (.cells #[.string X] 9));have T:=Zz (H.o.alloc (.cells #[.string X] 9));have h6:Hid (b_ (t.alloc (.cells #[.string X] 9)) (.slice (some ⟨t.heap.size,0,none⟩) 1 1) (sv [X])):=Zz (Ab t #[.string X] 9 (by simp[maxLen]));have H3:Hid (w.heap.size<=(t.alloc (.cells #[.string X] 9)).heap.size):=Zz T.o.size;refine k _ _ (oW (oW oN)) ?_;clear k K h2 H;generalize t.alloc (.cells #[.string X] 9)=wA at *;refine Dj 10 rfl rfl k_ ?_;refine x_2 rfl underlying38 C4 rfl d_ rfl rfl (fun u V=>by obtain ⟨y,_,rfl⟩:=List.mem_map.1 V;rfl) R.o h6.o (by show 0<1;decide) H3.o (by show ((sv (o.take (i+1))).length+1)*16<=140737488355328;rw[cN,gC];omega) ?_;intro v1 wB H0 hg;have nv:Hid (aH wB w.heap.size 9 v1 (sv (o.take (i+1+1)))):=Zz (by rw[show i+1+1=i+2 from rfl,x2.o,x_q];exact H0);have uY:=Zz (T.o.then (Kp.of_grown hg (S:=fun q=>some q=u5.ownBlock) fun _ h=>h) fun q hq h=>by have:=(R.o.lt q h.symm).1;omega);clear H0 hg R h6 T H3;refine ⟨oW (oW oN),?_⟩;refine fp 11 ?_;refine fe ?_;go_wp2;go_roundw
   case rel=>exact ⟨i+1,o_,by go_num,nv,uY⟩
   case measure=>simp[intOf];omega
  obtain rfl:i=n:=o_;rw[h3.o] at j;have ua:=Zz (fun W (y3:a_ W) (x5:10<=W.heap.size) u V=>z_ax W y3 x5 u o V x9.o H9.o);have x3:=Zz j.o.reads;go_wp2_with fail;refine (ua.o _ (x4.o.no g.o) (by have:=g.o.size;omega) _ x3.o).mono ?_;rintro e w8 ⟨rfl,m⟩;have y9:=Zz (j.o.kp m fun _ _ h=>h);go_wp2
  go_ret3
  exact ⟨_,rfl,y9.o,g.o.trans m⟩
def N9 (hn:n<18446744073709551616):Qt (bQ n)=n:=by
 unfold Qt
 have e:A5 (bQ n) 0=n / 4294967296:=by
  show (b8 (n / 4294967296 / 16777216)).toNat*16777216+(b8 (n / 4294967296 / 65536)).toNat*65536+(b8 (n / 4294967296 / 256)).toNat*256+(b8 (n / 4294967296)).toNat=_;rw[Iu,Iu,Iu,Iu];omega
 have g:A5 (bQ n) 1=n % 4294967296:=by
  show (b8 (n % 4294967296 / 16777216)).toNat*16777216+(b8 (n % 4294967296 / 65536)).toNat*65536+(b8 (n % 4294967296 / 256)).toNat*256+(b8 (n % 4294967296)).toNat=_;rw[Iu,Iu,Iu,Iu];omega
 rw[e,g];omega
def Rd.num_ok (hn:n<18446744073709551616) (rest:List UInt8):Rd.num (bQ n++rest,0)=n/\Rd.left (bQ n++rest,0) 8=(rest,0)/\Rd.bad (bQ n++rest,0) 8=0:=by
 have hb:Rd.bad (bQ n++rest,0) 8=0:=if_neg (fun h=>by
  have e:(bQ n++rest).length<8:=h.2
  rw[cd,ec] at e;omega)
 refine ⟨?_,?_,hb⟩
 ·unfold Rd.num
  rw[if_pos hb];show Qt ((bQ n++rest).take 8)=n;rw[<-ec n,List.take_left,N9 hn]
 unfold Rd.left;rw[if_pos hb];show ((bQ n++rest).drop 8,0)=(rest,0);rw[<-ec n,List.drop_left]
def Rd.below_ok {b:Nat} (hn:n<18446744073709551616) (hb:n<b) (rest:List UInt8):Rd.below (bQ n++rest,0) b=n/\Rd.belowS (bQ n++rest,0) b=(rest,0):=by
 obtain ⟨e,g,i⟩:=Rd.num_ok hn rest;unfold Rd.below Rd.belowS;rw[e,g,i,if_pos ⟨rfl,hb⟩,if_neg (fun h=>h.2 hb)];exact ⟨rfl,rfl⟩
def Rd.text_ok {c:List UInt8} (j:c.length<18446744073709551616) (rest:List UInt8):Rd.text (df c++rest,0)=c/\Rd.textS (df c++rest,0)=(rest,0):=by
 have e:df c++rest=bQ c.length++(c++rest):=by unfold df;rw[List.append_assoc]
 rw[e];obtain ⟨i,g,k⟩:=Rd.num_ok j (c++rest)
 have hb:Rd.bad (c++rest,0) c.length=0:=if_neg (fun h=>by
  have g:(c++rest).length<c.length:=h.2
  rw[cd] at g;omega)
 unfold Rd.text Rd.textS;rw[i,g];constructor
 ·unfold Rd.took
  rw[if_pos hb];show (c++rest).take c.length=c;rw[List.take_left]
 unfold Rd.left;rw[if_pos hb];show ((c++rest).drop c.length,0)=(rest,0);rw[List.drop_left]
def v_r (hn:n<96):Cy (bQ n)=n+1/\zG (bQ n)=0:=by
 have e:bQ n=bQ n++[]:=(List.append_nil _).symm;obtain ⟨g,h⟩:=Rd.below_ok (n:=n) (b:=96) o_ hn []
 have i:FD (bQ n)=0:=by
  unfold FD;rw[e,h];rfl
 unfold Cy zG;rw[i];refine ⟨?_,rfl⟩;rw[if_pos rfl,e,g]
def z_aw (l:List Wr):tl (bm l) 0=bs (bQ l.length):=rfl
def v_C (w:W_) (h:a_ w) (i:10<=w.heap.size) :
  Cl 89 #[] w fun e w'=>e=.returned (.string fb)/\Kp ac w w':=by
 have g:=Zz (Es w h i (.slice none 0 0) [] (Kx w 2) d_ s_);change Hid (Calls _ _ _ w fun e w'=>∃u,e=.returned (.tuple #[u,.string fb,.int .i64 0])/\_/\_) at g;generalize fb=N at *;clear h;go_enter func89,ntmps89;go_wp2_with fail;refine g.o.mono ?_;rintro e k ⟨u,rfl,j,hk⟩;go_wp2;go_ret;exact ⟨rfl,hk⟩
def sk:(prog.info? 240).map (fun i=>(i.zero,i.size,i.bytes))=some (some (.agg #[.int .i64 0,.string ⟨#[]⟩]),2,24):=k_
def Ei (l:List Wr) (i:Nat) (h:i<l.length):eu (l.take (i+1))=eu (l.take i)++[.int .i64 ((l[i]'h).at':Int),.string (l[i]'h).cell]:=by
 rw[mx h,v_u];rfl
def XI (w:W_) (H7:a_ w) (hw:10<=w.heap.size) (v:Value) (l:List Wr) (hv:b_ w v (sv (bm l))) (hl:l.length<96) (O:∀x∈l,x.ok) :
  Cl 185 #[v,.string (iD (bm l))] w fun e w'=>∃u,e=.returned (.tuple #[u,.int .i64 0])/\w'.ownsRow w.heap.size 240 2 u l.length (eu l)/\Kp ac w w':=by
 have U:=Nd l;obtain ⟨A,c,rfl,I,y7,y⟩:=hv;have Y:Hid (∀W,Kp ac w W->b_ W (.slice A (sv (bm l)).length c) (sv (bm l))):=Zz fun W k=>(show b_ w (.slice A (sv (bm l)).length c) (sv (bm l)) from ⟨A,c,rfl,I,y7,y⟩).below k.below0;rw[cN,U] at I y Y ⊢;obtain ⟨b,off,rfl,J⟩:=y o_;have y6:=Zz H7
 have x9:Hid (∀i,i<(bm l).length->(tl (bm l) i).size<=3000):=Zz fun i H8=>by
  rw[Nd] at H8
  cases i with
  | zero=>show (bs (bQ l.length)).size<=3000;rw[cG,ec];decide
  | succ i =>
   have h:i<l.length:=o_
   have:tl (bm l) (i+1)=bs (bQ (l[i]'h).at'++df (l[i]'h).cell.data.toList):=by simp[tl,bm,h]
   rw[this,cG,cd,ec];unfold df;rw[cd,ec,g5];have:=(O _ (rY h)).2.2;omega
 have ua:=Zz (fun W (hW:a_ W) (y8:10<=W.heap.size) u o=>z_ax W hW y8 u (bm l) o o_ x9.o);have z:=J 0 o_;rw[iQ _ 0 o_,z_aw,Nat.add_zero] at z;have C:=Zz (fun W=>w_C W (bQ l.length) (by rw[ec];decide));rw[(v_r hl).1,(v_r hl).2] at C
 have y5:Hid (∀i (h:i<l.length),w.cell? ⟨b,off+(i+1),none⟩=some (.string (bs (bQ (l[i]'h).at'++df (l[i]'h).cell.data.toList)))):=Zz fun i h=>by
  rw[J (i+1) o_,iQ _ _ o_];simp[tl,bm,h]
 have il:Hid (∀i (h:i<l.length),(l[i]'h).ok):=Zz fun i h=>O _ (rY h);have je:=Zz (Ei l);have H2:Hid (eu (l.take l.length)=eu l):=Zz (by rw[List.take_length])
 have eI:Hid (∀i,(eu (l.take i)).length<=i*2):=Zz fun i=>by rw[sN,gC];omega
 have fS:b<w.heap.size:=fV w _ z;clear y J H7 O;obtain ⟨n,hn⟩:∃n,l.length=n:=⟨_,rfl⟩;have dN:=Zz hn;rw[hn] at I Y C H2 hl z U ⊢;clear hn U;generalize iD (bm l)=DG at *;generalize bQ n=NB at *;have io:¬(n+1=0):=o_;have W6:((n+1:Nat):Int)-1=(n:Int):=o_;have Nf:0<n+1:=o_;have lY:Hid (∀i,i<n->i+1<n+1):=Zz fun i h=>o_;have Dc:n+1<97:=o_;generalize n+1=F at *
 have Ng:((F:Int)==0)=false:=by rw[pN];omega
 go_enter func185,ntmps185;go_wp2_with fail;refine (C.o _).mono ?_;rintro e w1 ⟨rfl,h6⟩;have p:=Zz h6;clear h6;go_wp2_with fail;refine (ua.o _ (y6.o.no p.o) (by have:=p.o.size;omega) _ (Y.o _ p.o)).mono ?_;rintro e w2 ⟨rfl,h0⟩;have g:=Zz (p.o.trans h0);clear h0 p z;have j:Hid (w2.ownsRow w.heap.size 240 2 (.slice none 0 0) 0 (eu (l.take 0))):=Zz (World.ownsRow_nil _ _ _ _)
 go_upto_region 12 with fail
 go_loopw [8,9,10,11,12,41] (fun s8 _ _ _ _ f wr=>∃i:Nat,i<=n/\f=.int .i64 i/\Hid (wr.ownsRow w.heap.size 240 2 s8 i (eu (l.take i)))/\Hid (Kp ac w wr)) (fun _ _ _ _ _ f _=>n-(intOf f).toNat)
 case atStart=>exact ⟨0,o_,rfl,j,g⟩
 case round =>
  clear j g;obtain ⟨i,H8,rfl,j,g⟩:=hrel;by_cases y4:i<n
  ·have r:i<l.length:=by have:=dN.o;omega
   have V:=y5.o i r;have k0:=(g.o.below0.cell (fV w _ V)).trans V;obtain ⟨o1,x6,o3⟩:=il.o i r;have y2:=Zz (je.o i r);have Ni:=lY.o i y4;have bL:(i:Int)<(n:Int):=o_
   have Nj:IntKind.i64.wrap ((i:Int)+1)=((i+1:Nat):Int):=by rw[eM];omega
   have hI2:(i:Int)+1=((i+1:Nat):Int):=o_;have hI3:((i+1:Nat):Int)<(F:Int):=o_;have xz:Hid (i+1<=n):=Zz o_;clear V;generalize (l[i]'r).at'=a at *;generalize (l[i]'r).cell=s at *;obtain ⟨H3,H4⟩:=Rd.below_ok (n:=a) (b:=140) o_ x6 (df s.data.toList);have H:df s.data.toList=df s.data.toList++[]:=(List.append_nil _).symm;obtain ⟨Q,R⟩:=Rd.text_ok (c:=s.data.toList) (by rw[g5];omega) [];rw[<-H] at Q R
   have gz:(df s.data.toList).length<=3000:=by unfold df;rw[cd,ec,g5];omega
   have eS:=Zz (fun W=>jl W (bQ a++df s.data.toList));have H9:=Zz (fun W D h=>v_l W D (bQ a++df s.data.toList,0) (by show (bQ a++df s.data.toList).length<=_;rw[cd,ec];omega) (by show 0<100;decide) 140 d_ d_ h);rw[H3,H4] at H9;have Z:=Zz (fun W D h=>nm W D (df s.data.toList,0) (by show (df s.data.toList).length<=_;omega) h);rw[Q,R] at Z;rw[J3] at Z;have Fd:=Zz (fun W D h=>ki W D ([],0) h);rw[show Rd.done ([],0)=0 from rfl] at Fd;have gO:=Zz (fun W=>E5 W a s o1 x6 o3);clear H3 H4 Q R H gz;generalize bQ a++df s.data.toList=X at *;generalize df s.data.toList=X2 at *;generalize x7:i+1=k at *;have x8:=Zz x7;clear x7;go_wp2_with fail;refine (eS.o _).mono ?_;rintro e w3 ⟨rfl,h4,N⟩;have h1:=Zz (g.o.trans N);have x0:=Zz (dL j.o N fun _ _ h=>h);have hDw:w.heap.size<=wr.heap.size:=g.o.size;have x4:=Zz (fun q (m:u8.ownBlock=some q)=>(iZ j.o m).2);have L:=Zz h4;clear N h4 j g k0;generalize wr.heap.size=D at *;go_wp2_with fail;refine (H9.o _ _ L.o).mono ?_;rintro e w4 ⟨rfl,H6,M⟩;have h3:=Zz (h1.o.then M (T:=(·=D)) fun q m h=>by have h:q=D:=h;omega);have x2:=Zz (dL x0.o M fun q m h=>by have h:q=D:=h;have:=x4.o q m;omega);have H1:=Zz H6;clear M H6 L x0 h1;go_wp2_with fail;refine (Z.o _ _ H1.o).mono ?_;rintro e B ⟨rfl,H5,G⟩;have h2:=Zz ((h3.o.then G (T:=(·=D)) fun q m h=>by have h:q=D:=h;omega).alloc (.cells #[.int .i64 a,.string s] 240));have x5:=Zz (World.ownsRow.alloc (dL x2.o G fun q m h=>by have h:q=D:=h;have:=x4.o q m;omega) (.cells #[.int .i64 a,.string s] 240));have K:=Zz (H5.alloc (.cells #[.int .i64 a,.string s] 240));have d:=Zz (ab.new B 240 #[.int .i64 a,.string s]);clear G H5 H1 x2 h3
   go_upto_region 17 with fail
   generalize y0:B.alloc (.cells #[.int .i64 a,.string s] 240)=w6 at *;clear y0;generalize B.heap.size=E at *;have h9:=d.o.c0;have H0:=d.o.c1;go_wp2_with fail;refine (Fd.o _ _ K.o).mono ?_;rintro e w7 ⟨rfl,rfl⟩;go_wp2_with fail;refine (gO.o _).mono ?_;rintro e w8 ⟨rfl,t⟩;have h7:=Zz (h2.o.trans t);have x1:=Zz (dL x5.o t fun _ _ h=>h);have x3:=Zz (d.o.kp t fun h=>h);clear t h9 H0 h2 x5 K d;have h9:=x3.o.c0;have H0:=x3.o.c1
   have y9:Hid (∀u∈[Value.int .i64 a,.string s],u.oneCell'=true):=Zz (by
    intro u o;rcases List.mem_cons.1 o with rfl|o
    ·rfl
    rcases List.mem_cons.1 o with rfl|o
    ·rfl
    cases o)
   have jf:=h7.o.size
   go_wp2_with (at_builtin;refine Y3 w.heap.size rfl (.tmp 64) (.tmp 66) 182 240 (.agg #[.int .i64 0,.string ⟨#[]⟩]) 2 24 rfl underlying182 sk rfl d_ d_ u8 i (eu (l.take i)) [.int .i64 a,.string s] rfl rfl rfl y9.o x1.o jf o_ ?_;intro v1 w9 h8 h5 y3;have P:=Zz h8;have y1:=Zz (h7.o.then (Kp.of_grown h5 (S:=fun q=>some q=u8.ownBlock) fun _ h=>h) fun q m h=>by have:=(iZ x1.o h.symm).1;omega);clear h8 h5 y3)
   rw[<-y2.o] at P;go_roundw
   case rel=>exact ⟨k,xz.o,by go_num,by rw[<-x8.o] at P ⊢;exact P,y1⟩
   case measure=>simp[intOf];have:=x8.o;omega
  obtain rfl:i=n:=o_;rw[H2.o] at j;go_wp2;go_ret2;exact ⟨_,rfl,j.o,g.o⟩
structure Q4 where
 a:Nat
 b:Nat
 c:Nat
 d:Nat
def Q4.step (n m:Nat) (q:Q4):Q4 :=
 let a:=(q.a+q.b) % 4294967296;let d:=fo (q.d ^^^ a) n;let c:=(q.c+d) % 4294967296
 ⟨a,fo (q.b ^^^ c) m,c,d⟩
def Q4.quarter (q:Q4):Q4:=(q.step 16 12).step 8 7
def Q4.ok (q:Q4):Prop:=q.a<4294967296/\q.b<4294967296/\q.c<4294967296/\q.d<4294967296
def Q4.step_ok {q:Q4} (h:q.ok) (n m:Nat):(q.step n m).ok:=by
 obtain ⟨k,g,l,i⟩:=h;have ha:(q.a+q.b) % 4294967296<4294967296:=gx _ d_;have j:=qj (n:=n) (xlt i ha);have e:(q.c+fo (q.d ^^^ ((q.a+q.b) % 4294967296)) n) % 4294967296<4294967296:=gx _ d_;exact ⟨ha,qj (xlt g e),e,j⟩
def DX {fn:Func} {t u v x:Tmp} (h:fn.results=#[.tmp t,.tmp u,.tmp v,.tmp x]) (tmps:Array Value) (P:Program) (w:W_) :
  (results fn tmps).run P w=.ok (.tuple #[tmps.getD t undef,tmps.getD u undef,tmps.getD v undef,tmps.getD x undef]) w:=by
 simp[results,h]
def idxQ (W:W_):(Instr.index 354 (.agg #[.int .i64 16,.int .i64 12,.int .i64 8,.int .i64 7]) (.int .i64 0)).run prog W=.ok (.agg #[.int .i64 16,.int .i64 12]) W:=k_
def idxQ1 (W:W_):(Instr.index 354 (.agg #[.int .i64 16,.int .i64 12,.int .i64 8,.int .i64 7]) (.int .i64 1)).run prog W=.ok (.agg #[.int .i64 8,.int .i64 7]) W:=k_
def zB (w:W_) (q:Q4) (z:q.ok) :
  Cl 270 #[.int .u32 q.a,.int .u32 q.b,.int .u32 q.c,.int .u32 q.d] w fun e w'=>e=.returned (.tuple #[.int .u32 q.quarter.a,.int .u32 q.quarter.b,.int .u32 q.quarter.c,.int .u32 q.quarter.d])/\Kp ac w w':=by
 have c:=Zz z;have b:=Zz (Kp.refl ac w);clear z;go_enter func270,ntmps270;go_wp2
 go_loopw [0,1,2,3,13,17] (fun G I J M _ x wr=>∃i:Nat,∃r:Q4,i<=2/\x=.int .i64 i/\r.ok/\G=.int .u32 r.a/\I=.int .u32 r.b/\J=.int .u32 r.c/\M=.int .u32 r.d/\Hid (r=[q,q.step 16 12,q.quarter].getD i q)/\Hid (Kp ac w wr)) (fun _ _ _ _ _ x _=>2-(intOf x).toNat)
 case atStart=>exact ⟨0,q,o_,rfl,c.o,rfl,rfl,rfl,rfl,Zz rfl,b⟩
 case round =>
  obtain ⟨i,r,N,rfl,a,rfl,rfl,rfl,rfl,HR,t⟩:=hrel;by_cases g:i=2
  ·subst g
   have y:r=q.quarter:=HR.o;have d:=Zz y;clear y;go_wp2
   (try simp only[Exit.inBlock,Exit.then])
   refine bodyPost_ret (DX rfl _ _ _) rfl ?_;exact ⟨by rw[d.o];rfl,t.o⟩
  have p:i=0\/i=1:=o_;rcases p with rfl|rfl
  ·obtain ⟨p,g,u,j⟩:=a
   have E:=idxQ wr;have h:Hid (r.step 16 12=⟨(r.a+r.b) % 4294967296,fo (r.b ^^^ ((r.c+fo (r.d ^^^ ((r.a+r.b) % 4294967296)) 16) % 4294967296)) 12,(r.c+fo (r.d ^^^ ((r.a+r.b) % 4294967296)) 16) % 4294967296,fo (r.d ^^^ ((r.a+r.b) % 4294967296)) 16⟩):=Zz rfl;have v:=Zz (Q4.step_ok (q:=r) ⟨p,g,u,j⟩ 16 12)
   have s:Hid (r=[q,q.step 16 12,q.quarter].getD 0 q->r.step 16 12=[q,q.step 16 12,q.quarter].getD 1 q):=Zz fun e=>by rw[e];rfl
   go_wp2_with fail;have m:((r.a:Int)+(r.b:Int)) % 4294967296=(((r.a+r.b) % 4294967296:Nat):Int):=o_;have k:(r.a+r.b) % 4294967296<4294967296:=gx _ d_;rw[m] at *;clear m;generalize (r.a+r.b) % 4294967296=A at *;rw[FR r.d A j k];refine (v_V (r.d ^^^ A) 16 16 rfl (xlt j k) d_ _).mono ?_;rintro e w' ⟨rfl,rfl⟩;have hD:=qj (n:=16) (xlt j k);generalize fo (r.d ^^^ A) 16=D at *;go_wp2_with fail;have o:((r.c:Int)+(D:Int)) % 4294967296=(((r.c+D) % 4294967296:Nat):Int):=o_;have l:(r.c+D) % 4294967296<4294967296:=gx _ d_;rw[o] at *;clear o;generalize (r.c+D) % 4294967296=C at *;rw[FR r.b C g l];refine (v_V (r.b ^^^ C) 12 12 rfl (xlt g l) d_ _).mono ?_;rintro e w' ⟨rfl,rfl⟩;have f:=qj (n:=12) (xlt g l);generalize fo (r.b ^^^ C) 12=B at *;go_wp2;go_roundw
   case rel=>exact ⟨1,r.step 16 12,o_,rfl,v.o,by rw[h.o],by rw[h.o],by rw[h.o],by rw[h.o],Zz (s.o HR.o),Zz (t.o.alloc _)⟩
   case measure=>simp[intOf]
  obtain ⟨p,g,u,j⟩:=a;have E:=idxQ1 wr;have h:Hid (r.step 8 7=⟨(r.a+r.b) % 4294967296,fo (r.b ^^^ ((r.c+fo (r.d ^^^ ((r.a+r.b) % 4294967296)) 8) % 4294967296)) 7,(r.c+fo (r.d ^^^ ((r.a+r.b) % 4294967296)) 8) % 4294967296,fo (r.d ^^^ ((r.a+r.b) % 4294967296)) 8⟩):=Zz rfl;have v:=Zz (Q4.step_ok (q:=r) ⟨p,g,u,j⟩ 8 7)
  have s:Hid (r=[q,q.step 16 12,q.quarter].getD 1 q->r.step 8 7=[q,q.step 16 12,q.quarter].getD 2 q):=Zz fun e=>by rw[e];rfl
  go_wp2_with fail;have m:((r.a:Int)+(r.b:Int)) % 4294967296=(((r.a+r.b) % 4294967296:Nat):Int):=o_;have k:(r.a+r.b) % 4294967296<4294967296:=gx _ d_;rw[m] at *;clear m;generalize (r.a+r.b) % 4294967296=A at *;rw[FR r.d A j k];refine (v_V (r.d ^^^ A) 8 8 rfl (xlt j k) d_ _).mono ?_;rintro e w' ⟨rfl,rfl⟩;have hD:=qj (n:=8) (xlt j k);generalize fo (r.d ^^^ A) 8=D at *;go_wp2_with fail;have o:((r.c:Int)+(D:Int)) % 4294967296=(((r.c+D) % 4294967296:Nat):Int):=o_;have l:(r.c+D) % 4294967296<4294967296:=gx _ d_;rw[o] at *;clear o;generalize (r.c+D) % 4294967296=C at *;rw[FR r.b C g l];refine (v_V (r.b ^^^ C) 7 7 rfl (xlt g l) d_ _).mono ?_;rintro e w' ⟨rfl,rfl⟩;have f:=qj (n:=7) (xlt g l);generalize fo (r.b ^^^ C) 7=B at *;go_wp2;go_roundw
  case rel=>exact ⟨2,r.step 8 7,o_,rfl,v.o,by rw[h.o],by rw[h.o],by rw[h.o],by rw[h.o],Zz (s.o HR.o),Zz (t.o.alloc _)⟩
  case measure=>simp[intOf]
def qtr (X:List Nat) (a b c d:Nat):List Nat :=
 let q:=Q4.quarter ⟨X.getD a 0,X.getD b 0,X.getD c 0,X.getD d 0⟩
 (((X.set a q.a).set b q.b).set c q.c).set d q.d
def oM (w:W_) (p:Nat) (X:List Nat) (M:X.length=16) (n:gW X) (a b c d:Nat) (W:a<16) (C:b<16) (D:c<16) (Y:d<16) (f:ab w p 345 (uv X).toArray) :
  Cl 267 #[.pointer (some ⟨p,0,none⟩),.int .i64 a,.int .i64 b,.int .i64 c,.int .i64 d] w fun e w'=>e=.returned (.tuple #[])/\ab w' p 345 (uv (qtr X a b c d)).toArray/\Kp (·=p) w w':=by
 have o:=Zz f.drew;have Q:=Zz ((Kp.refl ac w).drew);clear f;go_enter func267,ntmps267;have Z:(a:Int)<16:=o_;have A:(b:Int)<16:=o_;have B:(c:Int)<16:=o_;have hD:(d:Int)<16:=o_;have ha:=pt o.o a o_;have hb:=pt o.o b o_;have N:=pt o.o c o_;have O:=pt o.o d o_;have P:Hid (qtr X a b c d=(((X.set a (Q4.quarter ⟨X.getD a 0,X.getD b 0,X.getD c 0,X.getD d 0⟩).a).set b (Q4.quarter ⟨X.getD a 0,X.getD b 0,X.getD c 0,X.getD d 0⟩).b).set c (Q4.quarter ⟨X.getD a 0,X.getD b 0,X.getD c 0,X.getD d 0⟩).c).set d (Q4.quarter ⟨X.getD a 0,X.getD b 0,X.getD c 0,X.getD d 0⟩).d):=Zz rfl;have R:Hid (Q4.ok ⟨X.getD a 0,X.getD b 0,X.getD c 0,X.getD d 0⟩):=Zz ⟨n a,n b,n c,n d⟩;have v:=Zz M;clear n M;generalize X.getD a 0=q at *;generalize X.getD b 0=r at *;generalize X.getD c 0=s at *;generalize X.getD d 0=t at *;refine fs ?_;generalize w.drew=w0 at *;refine fp 0 ?_;refine fp 1 ?_;refine fp 2 ?_;refine fp 3 ?_;refine fp 4 ?_;refine fp 5 ?_;refine fp 6 ?_;refine fp 7 ?_;refine fp 8 ?_;refine fp 9 ?_;refine fp 10 ?_;refine fp 11 ?_;refine fp 13 ?_;refine fp 14 ?_;refine fp 15 ?_;refine fp 16 ?_;refine fp 18 ?_;refine fp 19 ?_;refine fp 20 ?_;refine fp 21 ?_;refine fp 23 ?_;refine fp 24 ?_;refine fp 25 ?_;refine fp 26 ?_;refine fp 34 ?_;refine fp 37 ?_;refine fp 40 ?_;refine fp 43 ?_;refine cw 12 ha ?_;refine cw 17 hb ?_;refine cw 22 N ?_;refine cw 27 O ?_;refine fd 28 fun K u i=>?_;go_simp;refine (zB _ ⟨q,r,s,t⟩ R.o).mono ?_;rintro e m ⟨rfl,hk⟩;refine i _ _ (oW (oW (oW (oW oN)))) ?_;clear i K;have g:=Zz (o.o.kp hk fun h=>h);have j:Hid (Kp (·=p) w m):=Zz ((Q.o.trans hk).mono fun _ _ h=>h.elim);clear hk ha hb N O;generalize (Q4.quarter ⟨q,r,s,t⟩).a=x at *;generalize (Q4.quarter ⟨q,r,s,t⟩).b=qb at *;generalize (Q4.quarter ⟨q,r,s,t⟩).c=y at *;generalize (Q4.quarter ⟨q,r,s,t⟩).d=z at *;refine fp 29 ?_;refine fp 30 ?_;refine fp 31 ?_;refine fp 32 ?_;refine fp 33 ?_;refine fp 35 ?_;have E:=pt g.o a (by (try simp only[iO]);rw[v.o];omega);generalize ((_:List Nat).getD a 0)=olda at E;have S:=g.o.frozen a;refine fd 36 fun K u i=>?_;go_simp;refine i _ _ (oW (oW (oW (oW oN)))) ?_;clear i K E S;have l:=Zz (x_0 g.o a x);have k:=Zz (j.o.setCell ⟨p,a,none⟩ (.int .u32 (x:Nat)) (.inl rfl));clear g j;obtain ⟨g,j⟩:=And.intro l k;clear l k;generalize m.setCell ⟨p,a,none⟩ (.int .u32 (x:Nat))=m at *;refine fp 38 ?_;have G:=pt g.o b (by (try simp only[iO]);rw[v.o];omega);generalize ((_:List Nat).getD b 0)=oldb at G;have T:=g.o.frozen b;refine fd 39 fun K u i=>?_;go_simp;refine i _ _ (oW (oW (oW (oW oN)))) ?_;clear i K G T;have l:=Zz (x_0 g.o b qb);have k:=Zz (j.o.setCell ⟨p,b,none⟩ (.int .u32 (qb:Nat)) (.inl rfl));clear g j;obtain ⟨g,j⟩:=And.intro l k;clear l k;generalize m.setCell ⟨p,b,none⟩ (.int .u32 (qb:Nat))=m at *;refine fp 41 ?_;have I:=pt g.o c (by (try simp only[iO]);rw[v.o];omega);generalize ((_:List Nat).getD c 0)=oldc at I;have U:=g.o.frozen c;refine fd 42 fun K u i=>?_;go_simp;refine i _ _ (oW (oW (oW (oW oN)))) ?_;clear i K I U;have l:=Zz (x_0 g.o c y);have k:=Zz (j.o.setCell ⟨p,c,none⟩ (.int .u32 (y:Nat)) (.inl rfl));clear g j;obtain ⟨g,j⟩:=And.intro l k;clear l k;generalize m.setCell ⟨p,c,none⟩ (.int .u32 (y:Nat))=m at *;refine fp 44 ?_;have J:=pt g.o d (by (try simp only[iO]);rw[v.o];omega);generalize ((_:List Nat).getD d 0)=oldd at J;have V:=g.o.frozen d;refine fd 45 fun K u i=>?_;go_simp;refine i _ _ (oW (oW (oW (oW oN)))) ?_
 clear i K J V;have l:=Zz (x_0 g.o d z);have k:=Zz (j.o.setCell ⟨p,d,none⟩ (.int .u32 (z:Nat)) (.inl rfl));clear g j;obtain ⟨g,j⟩:=And.intro l k;clear l k;generalize m.setCell ⟨p,d,none⟩ (.int .u32 (z:Nat))=m at *;refine fe ?_
 go_end0
 exact ⟨rfl,by rw[P.o];exact g.o,j.o⟩
def chS (key nonce:List UInt8) (e:Nat):List Nat:=iU ([101,120,112,97,110,100,32,51,50,45,98,121,116,101,32,107]++key)++[e]++iU nonce
def sd (X:List Nat):Nat->List Nat
 | 0=>X
 | i+1=>qtr (sd X i) i (i+4) (i+8) (i+12)
def Do (X:List Nat):Nat->List Nat
 | 0=>X
 | i+1=>qtr (Do X i) i (4+(i+1) % 4) (8+(i+2) % 4) (12+(i+3) % 4)
def j8 (X:List Nat):Nat->List Nat
 | 0=>X
 | i+1=>Do (sd (j8 X i) 4) 4
def EP (X Y:List Nat) (n:Nat):List Nat:=(List.range 16).map fun j=>if j<n then (X.getD j 0+Y.getD j 0) % 4294967296 else X.getD j 0
def gA (key nonce:List UInt8) (e:Nat):List UInt8:=oO (EP (j8 (chS key nonce e) 10) (chS key nonce e) 16)
def Lw (h:X.length=16) (a b c d:Nat):(qtr X a b c d).length=16:=by simp[qtr,h]
def Q4.quarter_ok {q:Q4} (h:q.ok):q.quarter.ok:=Q4.step_ok (Q4.step_ok h _ _) _ _
def Xj (h:gW X) (a b c d:Nat):gW (qtr X a b c d):=by
 have e:=Q4.quarter_ok (q:=⟨X.getD a 0,X.getD b 0,X.getD c 0,X.getD d 0⟩) ⟨h a,h b,h c,h d⟩;exact (((h.set _ _ e.1).set _ _ e.2.1).set _ _ e.2.2.1).set _ _ e.2.2.2
def ts (h:X.length=16) (n:Nat):(sd X n).length=16:=by
 induction n with
 | zero=>exact h
 | succ n e=>exact Lw e _ _ _ _
def zm (h:gW X) (n:Nat):gW (sd X n):=by
 induction n with
 | zero=>exact h
 | succ n e=>exact Xj e _ _ _ _
def DO (h:X.length=16) (n:Nat):(Do X n).length=16:=by
 induction n with
 | zero=>exact h
 | succ n e=>exact Lw e _ _ _ _
def MD (h:gW X) (n:Nat):gW (Do X n):=by
 induction n with
 | zero=>exact h
 | succ n e=>exact Xj e _ _ _ _
def rU (h:X.length=16) (n:Nat):(j8 X n).length=16:=by
 induction n with
 | zero=>exact h
 | succ n e=>exact DO (ts e 4) 4
def M1 (h:gW X) (n:Nat):gW (j8 X n):=by
 induction n with
 | zero=>exact h
 | succ n e=>exact MD (zm e 4) 4
def w_Y (X Y:List Nat) (n:Nat):(EP X Y n).length=16:=by simp[EP]
def AN {Y:List Nat} {j:Nat} (e:j<16):(EP X Y n).getD j 0=if j<n then (X.getD j 0+Y.getD j 0) % 4294967296 else X.getD j 0:=by
 unfold EP;rw[be,gq,pB e];rfl
def Rp (e:X.length=16) (Y:List Nat):EP X Y 0=X:=by
 refine C8 fun j=>?_;unfold EP;rw[gq];rcases Nat.lt_or_ge j 16 with h|h
 ·rw[pB h,cr o_];simp[be,e,h]
 rw[pD (by simpa using h),pD o_];rfl
def T1 {Y:List Nat} {i:Nat} (m:i<16):(EP X Y i).set i ((X.getD i 0+Y.getD i 0) % 4294967296)=EP X Y (i+1):=by
 refine C8 fun j=>?_;rw[BA];have hl:=w_Y X Y i;rcases Nat.lt_or_ge j 16 with h|h
 ·have k:(EP X Y i)[j]?=some ((EP X Y i).getD j 0):=by rw[be,cr o_];rfl
  have l:(EP X Y (i+1))[j]?=some ((EP X Y (i+1)).getD j 0):=by rw[be,cr (by rw[w_Y];omega)];rfl
  rw[k,l,AN h,AN h];by_cases e:i=j
  ·subst e;rw[if_pos rfl,if_pos o_,if_pos o_]
  rw[if_neg e];by_cases g:j<i
  ·rw[if_pos g,if_pos o_]
  rw[if_neg g,if_neg o_]
 rw[if_neg o_,pD o_,pD (by rw[w_Y];omega)]
end Go.Proofs.YtdkheklakfbeeaaGreatDoor
