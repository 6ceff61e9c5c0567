/- Part 3 of the proof. -/
import Derived.Shelf.Strings.Builder1
import Derived.Shelf.Strings.Builder2
import Derived.Shelf.Small.Bits
import Derived.Shelf.Small.Wraps
import Derived.Shelf.Strings.BuilderF
import Derived.Shelf.Strings.BuilderK
import Derived.Shelf.Strings.Builder2Cap
import Derived.Shelf.Strconv.Itoa0
import Derived.Shelf.Sort.Plain
import Derived.Shelf.Strings.Prefix
import Derived.Shelf.Bits.Mul64
import Derived.Shelf.Strings.Repeat
import Derived.Shelf.Strings.BuilderCap
import Derived.Shelf.Slices.Turned
import Derived.Shelf.Slices.Reverse
import Derived.Ground.Names2Prog
import Derived.Shelf.Slices.Clone
import Derived.Shelf.Slices.SearchI
import Derived.Shelf.Slices.Cells
import Derived.Shelf.Slices.In.SortNone
import Derived.Ground.SlgnProg
import Derived.Shelf.SlicesE.Reverse
import Derived.Shelf.SlicesE.Clone
import Derived.Test.YtdkheklakfbeeaaGreatDoorProg
import Derived.Still
import Derived.Tactics
import Derived.KernelRfl
import Derived.Test.YtdkheklakfbeeaaGreatDoorM02
set_option linter.all false
set_option maxRecDepth 100000
set_option maxHeartbeats 16000000
namespace Go.Proofs.YtdkheklakfbeeaaGreatDoor
open Go.RowKit Tryz
variable {V X:List Nat}{i j:Nat}{w w':W_}
def g3:List Nat:=[0x428a2f98,0x71374491,0xb5c0fbcf,0xe9b5dba5,0x3956c25b,0x59f111f1,0x923f82a4,0xab1c5ed5,
 0xd807aa98,0x12835b01,0x243185be,0x550c7dc3,0x72be5d74,0x80deb1fe,0x9bdc06a7,0xc19bf174,
 0xe49b69c1,0xefbe4786,0x0fc19dc6,0x240ca1cc,0x2de92c6f,0x4a7484aa,0x5cb0a9dc,0x76f988da,
 0x983e5152,0xa831c66d,0xb00327c8,0xbf597fc7,0xc6e00bf3,0xd5a79147,0x06ca6351,0x14292967,
 0x27b70a85,0x2e1b2138,0x4d2c6dfc,0x53380d13,0x650a7354,0x766a0abb,0x81c2c92e,0x92722c85,
 0xa2bfe8a1,0xa81a664b,0xc24b8b70,0xc76c51a3,0xd192e819,0xd6990624,0xf40e3585,0x106aa070,
 0x19a4c116,0x1e376c08,0x2748774c,0x34b0bcb5,0x391c0cb3,0x4ed8aa4a,0x5b9cca4f,0x682e6ff3,
 0x748f82ee,0x78a5636f,0x84c87814,0x8cc70208,0x90befffa,0xa4506ceb,0xbef9a3f7,0xc67178f2]
def ru:g3.length=64:=rfl
def Sb:gW g3:=by
 intro i;by_cases h:i<64
 ·have:∀j,j<64->g3.getD j 0<4294967296:=by decide +kernel
  exact this i h
 rw[be,pD (by rw[ru];omega)];simp
def bs1 (e:Nat):Nat:=fo e 26 ^^^ fo e 21 ^^^ fo e 7
def bs0 (a:Nat):Nat:=fo a 30 ^^^ fo a 19 ^^^ fo a 10
def chf (e f g:Nat):Nat:=(e &&& f) ^^^ ((4294967295 ^^^ e) &&& g)
def mjf (a b c:Nat):Nat:=(a &&& b) ^^^ (a &&& c) ^^^ (b &&& c)
def pf (X:List Nat) (k x:Nat):Nat:=(X.getD 7 0+bs1 (X.getD 4 0)+chf (X.getD 4 0) (X.getD 5 0) (X.getD 6 0)+k+x) % 4294967296
def qf (X:List Nat):Nat:=(bs0 (X.getD 0 0)+mjf (X.getD 0 0) (X.getD 1 0) (X.getD 2 0)) % 4294967296
def rnd (X:List Nat) (k x:Nat):List Nat:=((X.take 1++X.take 7).set 0 ((pf X k x+qf X) % 4294967296)).set 4 ((X.getD 3 0+pf X k x) % 4294967296)
def rdI (V S:List Nat):Nat->List Nat
 | 0=>V
 | n+1=>rnd (rdI V S n) (g3.getD n 0) (S.getD n 0)
def rnd_len (h:X.length=8) (k x:Nat):(rnd X k x).length=8:=by simp[rnd,h]
def MV (h:V.length=8) (S:List Nat) (n:Nat):(rdI V S n).length=8:=by
 induction n with
 | zero=>exact h
 | succ n e=>exact rnd_len e _ _
def gW.shift (h:gW X) (hl:X.length=8):gW (X.take 1++X.take 7):=by
 intro i;rcases Nat.eq_zero_or_pos i with rfl|hp
 ·have:=h 0
  simpa[be,List.getElem?_append,hl] using this
 have e:(X.take 1).length=1:=by simp[hl]
 rw[be,uS (by rw[e];omega),e,List.getElem?_take];split
 ·exact h (i-1)
 simp
def rnd_lt (h:gW X) (hl:X.length=8) (k x:Nat):gW (rnd X k x):=((h.shift hl).set _ _ (gx _ d_)).set _ _ (gx _ d_)
def rdI_lt (h:gW V) (hl:V.length=8) (S:List Nat) (n:Nat):gW (rdI V S n):=by
 induction n with
 | zero=>exact h
 | succ n e=>exact rnd_lt e (MV hl S n) _ _
def Bn (V X:List Nat) (i:Nat):List Nat:=(List.range 8).map fun j=>if j<i then (V.getD j 0+X.getD j 0) % 4294967296 else V.getD j 0
def w_v (V X:List Nat) (i:Nat):(Bn V X i).length=8:=by simp[Bn]
def qm (e:j<8):(Bn V X i).getD j 0=if j<i then (V.getD j 0+X.getD j 0) % 4294967296 else V.getD j 0:=by
 unfold Bn;rw[be,gq,pB e];rfl
def Sm (e:V.length=8) (X:List Nat):Bn V X 0=V:=by
 refine C8 fun j=>?_;unfold Bn;rw[gq];rcases Nat.lt_or_ge j 8 with h|h
 ·rw[pB h,cr o_];simp[be,e,h]
 rw[pD (by simpa using h),pD o_];rfl
def TD (m:i<8):(Bn V X i).set i ((V.getD i 0+X.getD i 0) % 4294967296)=Bn V X (i+1):=by
 refine C8 fun j=>?_;rw[BA];have hl:=w_v V X i;rcases Nat.lt_or_ge j 8 with h|h
 ·have k:(Bn V X i)[j]?=some ((Bn V X i).getD j 0):=by rw[be,cr o_];rfl
  have l:(Bn V X (i+1))[j]?=some ((Bn V X (i+1)).getD j 0):=by rw[be,cr (by rw[w_v];omega)];rfl
  rw[k,l,qm h,qm h];by_cases e:i=j
  ·subst e;rw[if_pos rfl,if_pos o_,if_pos o_]
  rw[if_neg e];by_cases g:j<i
  ·rw[if_pos g,if_pos o_]
  rw[if_neg g,if_neg o_]
 rw[if_neg o_,pD o_,pD (by rw[w_v];omega)]
def N3 (e:gW V) (i j:Nat):(Bn V X i).getD j 0<4294967296:=by
 rcases Nat.lt_or_ge j 8 with h|h
 ·rw[qm h];split
  ·exact gx _ d_
  exact e j
 rw[be,pD (by rw[w_v];omega)];decide
def Lj (V:List Nat) (l:List UInt8):List Nat:=Bn V (rdI V (Dw l) 64) 8
def alt {a b:Nat} (hb:b<4294967296):a &&& b<4294967296:=Nat.and_lt_two_pow (n:=32) _ hb
def Ss (l:List UInt8):gW (Dw l):=by
 refine WJ (fun i=>?_) 48;by_cases h:i<(qk l).length
 ·rw[be,A3 h]
  unfold qk;rw[gq]
  cases e:(List.range (l.length / 4))[i]? with
  | none=>simp
  | some j=>exact mT _ _
 rw[be,uS o_,List.getElem?_replicate];split<;>simp
def oD {t:TypeId} {n:Nat} (h:prog.underlying t=some (.array n 213)) {L:List Nat} (o:L.length=n) (i:Nat) (k:i<n) (w:W_) :
  (Instr.index t (.agg (uv L).toArray) (.int .i64 i)).run prog w=.ok (.int .u32 (L.getD i 0:Nat)) w:=by
 have hb:0<=(i:Int)/\(i:Int)<(n:Int):=o_
 have m:(uv L).toArray[i]?=some (.int .u32 (L.getD i 0:Nat)):=by rw[lP,r6 L i o_]
 have e:=M_
 cases g:prog.info? 213 with
 | none=>rw[g] at e;cases e
 | some j =>
  rw[g] at e
  have l:j.size=1:=by simpa using e
  simp[Instr.index,run_underlying h,asIntOf,hb,go_sem,sizeOf,typeInfo,g,l,m];rw[if_pos k,r6 L i o_];simp[be]
def v_S:List Nat:=[0x6a09e667,0xbb67ae85,0x3c6ef372,0xa54ff53a,0x510e527f,0x9b05688c,0x1f83d9ab,0x5be0cd19]
def d64L:List Nat:=[0,1,56,2,57,49,28,3,61,58,42,50,38,29,17,4,62,47,59,36,45,43,51,22,53,39,33,30,24,18,12,5,63,55,48,27,60,41,37,16,46,35,44,21,52,32,23,11,54,26,40,15,34,20,31,10,25,14,19,9,13,8,7,6]
structure a_ (w:W_):Prop where
 first:∃t fr,w.heap[1]?=some (.cells (uv v_S).toArray t fr)
 round:∃t fr,w.heap[2]?=some (.cells (uv g3).toArray t fr)
 sizes:∃t fr,w.heap[0]?=some (.cells #[.int .i64 2,.int .i64 4,.int .i64 8,.int .i64 16] t fr)
 d64:∃t fr,w.heap[5]?=some (.cells (d64L.map fun (n:Nat)=>Value.int .u8 n).toArray t fr)
def a_.kp {S:Nat->Prop} (h:a_ w) (k:Kp S w w') (e:∀g,g<6->¬S g):a_ w':=by
 obtain ⟨⟨t1,f1,i⟩,⟨t2,f2,j⟩,⟨t3,f3,l⟩,⟨t4,f4,m⟩⟩:=h;exact ⟨⟨t1,f1,(k.block _ (F4.1 i).1 (e _ d_)).trans i⟩,⟨t2,f2,(k.block _ (F4.1 j).1 (e _ d_)).trans j⟩,⟨t3,f3,(k.block _ (F4.1 l).1 (e _ d_)).trans l⟩,⟨t4,f4,(k.block _ (F4.1 m).1 (e _ d_)).trans m⟩⟩
def a_.no (h:a_ w) (k:Kp ac w w'):a_ w':=h.kp k fun _ _ h=>h
def Yz (w:W_) (hL:a_ w) (p:Nat) (uO:10<=p) (V:List Nat) (Z:V.length=8) (EG:gW V) (r:B_) (n:Int) (x3:ab w p 273 (uv V++[Value.string r,Value.int .i64 n]).toArray) (s:B_) (hs:s.size=64) :
  Cl 177 #[.pointer (some ⟨p,0,none⟩),.string s] w fun e w'=>e=.returned (.tuple #[])/\ab w' p 273 (uv (Lj V s.data.toList)++[Value.string r,Value.int .i64 n]).toArray/\Kp (·=p) w w':=by
 have y8:=Zz x3;have bf:=Zz hL;have bR:=Zz hs;have fG:=Zz (xk s hs);have mF:=Zz (Ss s.data.toList);have H9:Hid (Lj V s.data.toList=Bn V (rdI V (Dw s.data.toList) 64) 8):=Zz rfl;clear x3 hL hs;go_enter func177,ntmps177
 go_upto_region 0 with fail
 refine Dn k_ _ ?hQ _ _ rfl p V Z [Value.string r,Value.int .i64 n] s bR.o rfl rfl y8.o ?Ms
 case hQ =>
  intro I a0 d0 v0 x0 h;simp only[Exit.then,Exit.inBlock] at h ⊢
  first
   | exact h
   | (simp +zetaDelta only[Exit.then,Exit.inBlock,bodyPost] at h ⊢;exact h)
   | (simp +zetaDelta [Exit.then,Exit.inBlock,bodyPost] at h)
 case Ms =>
  intro _ _ _ _ _ _ T l w1 uN mG H4 K V9 h9 Wa H0 L;simp only[frT,Act.put,F6,List.set_cons_zero,List.set_cons_succ];have co:=y8.o.lt;have iJ:=bf.o.no (Kp.of_below L _);obtain ⟨tg,fg,rL⟩:=iJ.round
  have x4:(uv g3).toArray.size=64:=by rfl
  have eK:Kp (·=p) w w1:=.of_below L _;have qT:=Zz uN;have x6:=Zz mG;have pR:Hid (ab w1 l 271 (uv (rdI V (Dw s.data.toList) 0)).toArray):=Zz H4;have y3:=Zz eK;have tS:Hid (∀i,rdI V (Dw s.data.toList) (i+1)=rnd (rdI V (Dw s.data.toList) i) (g3.getD i 0) ((Dw s.data.toList).getD i 0)):=Zz fun i=>rfl;have h1:=Zz (MV Z (Dw s.data.toList));have C:=Zz (rdI_lt EG Z (Dw s.data.toList));clear uN mG H4 eK L
  go_wp2_with (refine wpList_load_row rfl 313 (.global 2) rfl 2 rfl tg _ fg _ rL underlying313 rfl (by rw[x4];exact Kk) ?_)
  clear rL x4;generalize hS:Dw s.data.toList=S at *;clear hS;generalize rdI V S=X at *
  go_loopw [6,7,8,9,10,11,12,13,23] (fun _ _ _ _ _ _ _ _ H1 wr=>∃i:Nat,i<=64/\H1=.int .i64 i/\Hid (ab wr l 271 (uv (X i)).toArray)/\Hid (ab wr T 313 (uv S).toArray)/\Hid (ab wr p 273 (uv V++[Value.string r,Value.int .i64 n]).toArray)/\Hid (Kp (·=p) w wr)) (fun _ _ _ _ _ _ _ _ H1 _=>64-(intOf H1).toNat)
  case atStart=>exact ⟨0,o_,rfl,pR,x6,qT,y3⟩
  case round =>
   clear pR x6 qT y3;obtain ⟨i,hi,rfl,m,U,o,z⟩:=hrel;by_cases t:i<64
   ·have bB:(i:Int)<64:=o_
    have hk:=oD underlying313 ru i t wr;have nJ:=Zz (tS.o i);have B:=h1.o i;have u:=Zz (C.o i);have eB:=Sb i;have CT:=mF.o i;have dx:wr.drew.cell? ⟨T,i,none⟩=_:=pt U.o i (by rw[fG.o];exact t);generalize g3.getD i 0=k at *;generalize S.getD i 0=x at *;generalize X i=Y at *;have la:=u.o 0;have lb:=u.o 1;have N:=u.o 2;have ld:=u.o 3;have le:=u.o 4;have lf:=u.o 5;have lg:=u.o 6;have lh:=u.o 7;have I:=pt m.o 0 o_;have y4:=pt m.o 4 o_;have d0:wr.drew.cell? ⟨l,0,none⟩=_:=I;have d1:wr.drew.cell? ⟨l,1,none⟩=_:=pt m.o 1 o_;have d2:wr.drew.cell? ⟨l,2,none⟩=_:=pt m.o 2 o_;have d3:wr.drew.cell? ⟨l,3,none⟩=_:=pt m.o 3 o_;have d4:wr.drew.cell? ⟨l,4,none⟩=_:=y4;have d5:wr.drew.cell? ⟨l,5,none⟩=_:=pt m.o 5 o_;have d6:wr.drew.cell? ⟨l,6,none⟩=_:=pt m.o 6 o_;have d7:wr.drew.cell? ⟨l,7,none⟩=_:=pt m.o 7 o_;have fw:Hid (splice (uv Y) 1 (uv (Y.take 7))=uv (Y.take 1++Y.take 7)):=Zz (by unfold splice;rw[ft,gC,B];simp[uv,B,List.map_take]);have CU:Hid (∀pq O,rnd Y k x=((Y.take 1++Y.take 7).set 0 pq).set 4 O\/True):=Zz fun _ _=>.inr trivial;have M:=Zz B;have rD:rnd Y k x=((Y.take 1++Y.take 7).set 0 ((pf Y k x+qf Y) % 4294967296)).set 4 ((Y.getD 3 0+pf Y k x) % 4294967296):=rfl;have H5:pf Y k x=(Y.getD 7 0+bs1 (Y.getD 4 0)+chf (Y.getD 4 0) (Y.getD 5 0) (Y.getD 6 0)+k+x) % 4294967296:=rfl;have x7:qf Y=(bs0 (Y.getD 0 0)+mjf (Y.getD 0 0) (Y.getD 1 0) (Y.getD 2 0)) % 4294967296:=rfl;generalize pf Y k x=J at *;generalize qf Y=h6 at *;have zr:=Zz H5;have Wb:=Zz x7;have Wc:=Zz rD;clear H5 x7 rD CU B;generalize Y.getD 0 0=a at *;generalize Y.getD 1 0=b at *;generalize Y.getD 2 0=c at *;obtain ⟨d,h7⟩:∃d,d=Y.getD 3 0:=⟨_,rfl⟩;rw[<-h7] at d3;have oV:=Zz h7;clear h7;generalize Y.getD 4 0=e at *;generalize Y.getD 5 0=f at *;generalize Y.getD 6 0=g at *;generalize Y.getD 7 0=h at *;have x8:Hid (ab wr.drew l 271 (uv Y).toArray):=m;have x9:Hid (ab wr.drew T 313 (uv S).toArray):=U;have y0:Hid (ab wr.drew p 273 (uv V++[Value.string r,Value.int .i64 n]).toArray):=o;have y1:Hid (Kp (·=p) w wr.drew):=Zz z.o.drew;have R1:=Zz (fun W=>Lk e 6 6 rfl le d_ d_ W);have R2:=Zz (fun W=>Lk e 11 11 rfl le d_ d_ W);have R3:=Zz (fun W=>Lk e 25 25 rfl le d_ d_ W);have R4:=Zz (fun W=>Lk a 2 2 rfl la d_ d_ W);have R5:=Zz (fun W=>Lk a 13 13 rfl la d_ d_ W);have R6:=Zz (fun W=>Lk a 22 22 rfl la d_ d_ W)
    have x1:bits .xor .u32 (bits .xor .u32 ((fo e (32-6):Nat):Int) ((fo e (32-11):Nat):Int)) ((fo e (32-25):Nat):Int)=((bs1 e:Nat):Int):=by
     rw[FR _ _ (qj le) (qj le),FR _ _ (xlt (qj le) (qj le)) (qj le)];rfl
    have x2:bits .xor .u32 (bits .xor .u32 ((fo a (32-2):Nat):Int) ((fo a (32-13):Nat):Int)) ((fo a (32-22):Nat):Int)=((bs0 a:Nat):Int):=by
     rw[FR _ _ (qj la) (qj la),FR _ _ (xlt (qj la) (qj la)) (qj la)];rfl
    generalize fo e (32-6)=p1 at *;generalize fo e (32-11)=p2 at *;generalize fo e (32-25)=p3 at *;generalize fo a (32-2)=p4 at *;generalize fo a (32-13)=p5 at *;generalize fo a (32-22)=p6 at *;generalize bs1 e=xx at *;generalize bs0 a=yy at *;have Wd:chf e f g=(e &&& f) ^^^ ((4294967295 ^^^ e) &&& g):=rfl;have We:mjf a b c=(a &&& b) ^^^ (a &&& c) ^^^ (b &&& c):=rfl;have lm:(4294967295:Nat)<4294967296:=d_;have n1:bits .xor .u32 IntKind.u32.max (e:Int)=((4294967295 ^^^ e:Nat):Int):=FR 4294967295 e lm le
    have n2:bits .xor .u32 (bits .and .u32 (e:Int) (f:Int)) (bits .and .u32 ((4294967295 ^^^ e:Nat):Int) (g:Int))=((chf e f g:Nat):Int):=by
     rw[DU e f le lf,DU _ g (xlt lm le) lg,FR _ _ (alt lf) (alt lg)];rfl
    have n3:bits .xor .u32 (bits .xor .u32 (bits .and .u32 (a:Int) (b:Int)) (bits .and .u32 (a:Int) (c:Int))) (bits .and .u32 (b:Int) (c:Int))=((mjf a b c:Nat):Int):=by
     rw[DU a b la lb,DU a c la N,DU b c lb N,FR _ _ (alt lb) (alt N),FR _ _ (xlt (alt lb) (alt N)) (alt N)];rfl
    generalize 4294967295 ^^^ e=ne at *;generalize chf e f g=y5 at *;generalize mjf a b c=mj at *;clear Wd We;have Wf:=zr.o;have Wg:=Wb.o;obtain ⟨h2,jw⟩:∃q,(h+xx) % 4294967296=q:=⟨_,rfl⟩;obtain ⟨h3,gY⟩:∃q,(h2+y5) % 4294967296=q:=⟨_,rfl⟩;obtain ⟨O,H8⟩:∃q,(h3+k) % 4294967296=q:=⟨_,rfl⟩;have x5:(O+x) % 4294967296=J:=o_;obtain ⟨P,y9⟩:∃q,(J+h6) % 4294967296=q:=⟨_,rfl⟩;obtain ⟨Q,H3⟩:∃q,(d+J) % 4294967296=q:=⟨_,rfl⟩;have F:=Wc.o;rw[y9,<-oV.o,H3] at F;have Mv:=Zz F;have s1:=w_R h xx h2 jw;have s2:=w_R h2 y5 h3 gY;have s3:=w_R h3 k O H8;have s4:=w_R O x J x5;have s5:((yy:Int)+(mj:Int)) % 4294967296=(h6:Int):=o_;have s6:((J:Int)+(h6:Int)) % 4294967296=(P:Int):=o_;have s7:((d:Int)+(J:Int)) % 4294967296=(Q:Int):=o_;clear Wf Wg jw gY H8 x5 y9 H3 F;go_wp2
    go_still k_
    go_wp2_with fail;clear I y4 hk m U o z;generalize wr.drew=G at *;refine (R1.o _).mono ?_;rintro e w' ⟨rfl,rfl⟩;go_wp2_with fail;refine (R2.o _).mono ?_;rintro e w' ⟨rfl,rfl⟩;go_wp2_with fail;refine (R3.o _).mono ?_;rintro e w' ⟨rfl,rfl⟩;go_wp2_with fail;refine (R4.o _).mono ?_;rintro e w' ⟨rfl,rfl⟩;go_wp2_with fail;refine (R5.o _).mono ?_;rintro e w' ⟨rfl,rfl⟩;go_wp2_with fail;refine (R6.o _).mono ?_;rintro e w' ⟨rfl,rfl⟩;go_wp2;have H5'':Hid (ab G.drew.drew l 271 (uv Y).toArray):=x8;have H4'':Hid (ab G.drew.drew T 313 (uv S).toArray):=x9;have HP'':Hid (ab G.drew.drew p 273 (uv V++[Value.string r,Value.int .i64 n]).toArray):=y0;have HB'':Hid (Kp (·=p) w G.drew.drew):=Zz y1.o.drew.drew
    go_still k_
    go_wp2;clear x8 x9 y0 y1;have e1:G.drew.drew=G.drew.drew:=rfl;generalize xh:G.drew=w3 at *;clear xh e1
    have y6:∀j v,(uv (Y.take 7))[j]?=some v->w3.drew.cell? ((⟨l,0,none⟩:Addr).add j)=some v:=fun j v A=>by
     have Wh:j<7:=by
      rcases Nat.lt_or_ge j 7 with h|h
      ·exact h
      rw[pD (by rw[ft,gC];omega)] at A;cases A
     rw[SN,jm,H5''.o.cell,lP,<-A,show uv (Y.take 7)=(uv Y).take 7 from by simp[uv,List.map_take],List.getElem?_take,if_pos Wh]
    have ky:=Zz y6;clear y6
    have y2:(uv (Y.take 7)).length=7:=by rw[ft,gC,M.o];rfl
    have tT:=Zz y2;clear y2;have fA:=Zz (w_L (Y.take 7))
    go_still_tail 2,k_
    go_wp2_with (refine wpList_copy_own rfl (.tmp 85) (.tmp 86) 215 215 rfl 213 underlying215 M_ l 1 7 7 ⟨l,0,none⟩ 7 8 rfl rfl _ 271 H5''.o (uv (Y.take 7)) tT.o ky.o (by rw[tT.o,tK,ft,M.o];decide) fA.o ?_;go_must (
           have hsp:((uv Y).toArray.toList.take 1++(uv (Y.take 7)++(uv Y).toArray.toList.drop (1+(uv (Y.take 7)).length))).toArray=(uv (Y.take 1++Y.take 7)).toArray:=congrArg List.toArray fw.o;rw[hsp];clear hsp;have E:=Zz (H5''.o.setRow (cs':=(uv (Y.take 1++Y.take 7)).toArray));have h4:=Zz (H4''.o.farRow (g:=l) (cs':=(uv (Y.take 1++Y.take 7)).toArray) K);have h5:=Zz (HP''.o.farRow (g:=l) (cs':=(uv (Y.take 1++Y.take 7)).toArray) (lI h9));have qb:=Zz (HB''.o.setRow l (uv (Y.take 1++Y.take 7)).toArray (.inr H0));obtain ⟨h8,D⟩:∃h8,w3.drew.setRow l (uv (Y.take 1++Y.take 7)).toArray=h8:=⟨_,rfl⟩;have gZ:({ heap:=w3.heap,tape:=w3.tape,drawn:=w3.drawn+1,os:=w3.os,output:=w3.output }:W_).setRow l (uv (Y.take 1++Y.take 7)).toArray=h8:=D;rw[D] at E h4 h5 qb;rw[gZ];clear gZ;clear D
           have H2:(Y.take 1++Y.take 7).length=8:=by rw[cd,gC,gC,M.o];rfl
           have g0:=pt E.o 0 (by rw[H2];decide);have Wi:=pt E.o 4 (by rw[H2];decide)
           have R:(Y.take 1++Y.take 7).getD 4 0=Y.getD 3 0:=by
            rw[be,uS (by rw[gC,M.o];decide),gC,M.o,List.getElem?_take,if_pos d_,<-be];rfl
           rw[R,<-oV.o] at Wi;generalize (Y.take 1++Y.take 7).getD 0 0=o0 at *;have fz0:=E.o.frozen 0;have fz4:=E.o.frozen 4;have k5:=fun x y:Nat=>x_0 (x_0 E.o 0 x) 4 y;have K5:=Zz k5;have k4:=fun x y:Nat=>(h4.o.far (p:=⟨l,0,none⟩) K (.int .u32 x)).far (p:=⟨l,4,none⟩) K (.int .u32 y);have K4:=Zz k4;have kp:=fun x y:Nat=>(h5.o.far (p:=⟨l,0,none⟩) (lI h9) (.int .u32 x)).far (p:=⟨l,4,none⟩) (lI h9) (.int .u32 y);have KP:=Zz kp;have kb:=fun x y:Nat=>(qb.o.setCell ⟨l,0,none⟩ (.int .u32 x) (.inr H0)).setCell ⟨l,4,none⟩ (.int .u32 y) (.inr H0);have KB:=Zz kb
           clear k5 k4 kp kb E h4 h5 qb R H2))
    go_roundw
    case rel=>exact ⟨i+1,o_,by go_num,Zz (by rw[nJ.o,Mv.o];exact K5.o P Q),Zz (K4.o P Q),Zz (KP.o P Q),Zz (KB.o P Q)⟩
    case measure=>simp[intOf];omega
   have H6:i=64:=o_;have oR:¬((i:Int)<64):=o_;have H7:=Zz (h1.o i);have Wj:=Zz (C.o i);have kX:Hid (Lj V s.data.toList=Bn V (X i) 8):=Zz (by rw[H6];exact H9.o);generalize Wk:X i=Y at *;clear h1 C tS H9 Wk H6;have rN:=m.o
   go_wp2_with (refine wpList_load_row rfl 271 (.tmp 5) rfl l rfl 271 _ (0,0) _ m.o underlying271 rfl (by rw[tK,ft,H7.o];exact w_J) ?_)
   go_loopw [14,15,99] (fun _ _ H wr=>∃i:Nat,i<=8/\H=.int .i64 i/\Hid (ab wr p 273 (uv (Bn V Y i)++[Value.string r,Value.int .i64 n]).toArray)/\Hid (Kp (·=p) w wr)) (fun _ _ H _=>8-(intOf H).toNat)
   case atStart=>exact ⟨0,o_,rfl,by rw[Sm Z];exact o,z⟩
   case round =>
    clear m U o z;obtain ⟨j,A,rfl,o,z⟩:=hrel;by_cases t:j<8
    ·have cR:(j:Int)<8:=o_
     have hk:=oD underlying271 H7.o j t wr;have I:=QU o.o j (by rw[w_v];exact t);have fz:=o.o.frozen j;rw[qm t,if_neg (Nat.lt_irrefl j)] at I;have y7:∀x:Nat,ab (wr.drew.setCell ⟨p,j,none⟩ (.int .u32 x)) p 273 (uv ((Bn V Y j).set j x)++[Value.string r,Value.int .i64 n]).toArray:=fun x=>YF o.o.drew j x (by rw[w_v];exact t);have bD:=Zz y7;clear y7;have aR:=Zz (TD (V:=V) (X:=Y) t);have jy:=Zz z.o.drew;obtain ⟨q,h0⟩:∃q,(V.getD j 0+Y.getD j 0) % 4294967296=q:=⟨_,rfl⟩;have HQ:=Zz h0;generalize V.getD j 0=a at *;generalize Y.getD j 0=b at *;have hs:=w_R a b q h0;clear h0;go_wp2;have d0:wr.drew.cell? ⟨p,j,none⟩=_:=I;have dz:wr.drew.frozen? ⟨p,j,none⟩=_:=fz
     go_still_tail 10,k_
     go_wp2;go_roundw
     case rel=>exact ⟨j+1,o_,by go_num,Zz (by rw[<-aR.o,HQ.o];exact bD.o q),Zz (jy.o.setCell ⟨p,j,none⟩ _ (.inl rfl))⟩
     case measure=>simp[intOf];omega
    have Wl:j=8:=o_;subst Wl;go_wp2
    go_end0
    exact ⟨rfl,by rw[kX.o];exact o.o,z.o⟩
def D_ (V:List Nat) (l:List UInt8):Nat->List Nat
 | 0=>V
 | n+1=>Lj (D_ V l n) ((l.drop (64*n)).take 64)
def WF (V:List Nat) (l:List UInt8):(Lj V l).length=8:=w_v _ _ _
def OH (e:gW V) (l:List UInt8):gW (Lj V l):=fun j=>N3 e _ j
def v_J (e:V.length=8) (l:List UInt8) (n:Nat):(D_ V l n).length=8:=by
 cases n with
 | zero=>exact e
 | succ n=>exact WF _ _
def XD (e:gW V) (l:List UInt8) (n:Nat):gW (D_ V l n):=by
 induction n with
 | zero=>exact e
 | succ n g=>exact OH g _
def uQ (a b:List UInt8):bs a++bs b=bs (a++b):=by
 refine ByteArray.ext ?_;rw[ByteArray.data_append];simp[bs]
def Co (a:List UInt8) (i j:Nat):(bs a).extract i j=bs ((a.drop i).take (j-i)):=by
 refine ByteArray.ext ?_;rw[ByteArray.data_extract];simp[bs,List.extract_toArray]
def mb:Value->Nat
 | .string s=>s.size
 | _=>0
def EA (w:W_) (O:a_ w) (p:Nat) (h6:10<=p) (V:List Nat) (v:V.length=8) (W:gW V) (r l:List UInt8) (n:Nat) (hn:n+l.length<=1000000000) (H2:r.length+l.length<=1000000000)
  (i:ab w p 273 (uv V++[Value.string (bs r),Value.int .i64 n]).toArray)
  (L:List UInt8) (x:Hid (r++l=L)) (m:Nat) (U:Hid (L.length / 64=m)) (h:Nat) (T:Hid (n+l.length=h)) :
  Cl 126 #[.pointer (some ⟨p,0,none⟩),.string (bs l)] w fun e w'=>e=.returned (.tuple #[])/\ab w' p 273 (uv (D_ V L m)++[Value.string (bs (L.drop (64*m))),Value.int .i64 h]).toArray/\Kp (·=p) w w':=by
 have t:=ft V;rw[v] at t
 have N:w.cell? ⟨p,8,none⟩=some (.string (bs r)):=by rw[i.cell,lP,uS o_,t];rfl
 have H:w.cell? ⟨p,9,none⟩=some (.int .i64 n):=by rw[i.cell,lP,uS o_,t];rfl
 have f8:=i.frozen 8;have f9:=i.frozen 9
 have h0:¬(9223372036854775807<(bs r).size+(bs l).size):=by rw[cG,cG];omega
 have h4:=T.o;have Q:((n:Int)+(l.length:Int))=(h:Int):=o_
 have h2:L.length<=1000000000:=by
  have:=congrArg List.length x.o;rw[cd] at this;omega
 have d:ab (w.setCell ⟨p,9,none⟩ (.int .i64 h)) p 273 (uv V++[Value.string (bs r),Value.int .i64 h]).toArray:=by
  have:=i.set_ 9 (.int .i64 h)
  rwa [F6,List.set_append_right _ _ o_,t] at this
 have G:=Zz d;have M:=Zz ((Kp.refl (·=p) w).setCell ⟨p,9,none⟩ (.int .i64 h) (.inl rfl));have F:=Zz O;have y:=uQ r l;rw[x.o] at y;have b:=Zz y;have h7:h<=1000000000:=o_;have q:=cG l;have A:=cG r;have Z:¬(9223372036854775807<r.length+l.length):=o_;have S:=Zz Q;clear d i O Q h0 y h4 x T;go_enter func126,ntmps126;go_wp2;rw[S.o,b.o];generalize w.setCell ⟨p,9,none⟩ (.int .i64 h)=H6 at *;clear N H f8 f9 Z A q S b
 go_loopw [1] (fun z wr=>∃j:Nat,64*j<=L.length/\z=.string (bs (L.drop (64*j)))/\Hid (ab wr p 273 (uv (D_ V L j)++[Value.string (bs r),Value.int .i64 h]).toArray)/\Hid (Kp (·=p) w wr)) (fun z _=>mb z)
 case atStart=>exact ⟨0,o_,rfl,G,M⟩
 case round =>
  clear G M;obtain ⟨j,H1,rfl,k,o⟩:=hrel
  have q:(bs (L.drop (64*j))).size=L.length-64*j:=by rw[cG,List.length_drop]
  by_cases h9:64*j+64<=L.length
  ·have H4:(64:Int)<=((L.length-64*j:Nat):Int):=o_
   have H0:(bs (L.drop (64*j))).extract 0 64=bs ((L.drop (64*j)).take 64):=by rw[Co];rfl
   have K:(bs (L.drop (64*j))).extract 64 (L.length-64*j)=bs (L.drop (64*(j+1))):=by
    rw[Co,List.drop_drop,kx (by rw[List.length_drop];omega)];rfl
   have P:=Yz wr (F.o.kp o.o (fun g hg=>by show ¬_=_;omega)) p h6 (D_ V L j) (v_J v L j) (XD W L j) (bs r) (h:Int) k.o (bs ((L.drop (64*j)).take 64)) (by rw[cG,gC,List.length_drop];omega);have f:=Zz P;have h5:=Zz K;have B:Hid (D_ V L (j+1)=Lj (D_ V L j) (bs ((L.drop (64*j)).take 64)).data.toList):=Zz rfl;have E:=Zz q;clear P;generalize bs (L.drop (64*j))=s at *;generalize bs ((L.drop (64*j)).take 64)=H5 at *;clear q;have H3:s.size=L.length-64*j:=E.o;go_wp2_with fail;refine f.o.mono ?_;rintro e w' ⟨rfl,a,I⟩;have C:=Zz a;have D:=Zz (o.o.trans I);clear a I k o f;go_wp2;go_roundw
   case rel=>exact ⟨j+1,o_,by rw[<-h5.o],by rw[B.o];exact C,D⟩
   case measure=>unfold mb;simp only;rw[cG,List.length_drop,E.o];omega
  have h8:¬((64:Int)<=((L.length-64*j:Nat):Int)):=o_;have c:L.length / 64=j:=o_;have R:=v_J v L j;have u:=ft (D_ V L j);rw[R] at u;have f8:=k.o.frozen 8
  have N:wr.cell? ⟨p,8,none⟩=some (.string (bs r)):=by rw[k.o.cell,lP,uS o_,u];rfl
  have hb:=k.o.set_ 8 (.string (bs (L.drop (64*j))));rw[F6,List.set_append_right _ _ o_,u] at hb;have X:=Zz hb;have h1:=Zz (o.o.setCell ⟨p,8,none⟩ (.string (bs (L.drop (64*j)))) (.inl rfl));have Y:=Zz c;clear R u hb c;generalize J:bs (L.drop (64*j))=s at *;have h3:=Zz J;clear J;go_wp2
  go_end0
  exact ⟨rfl,by rw[<-U.o,Y.o,h3.o];exact X.o,h1.o⟩
end Go.Proofs.YtdkheklakfbeeaaGreatDoor
section
open Go.Proofs.Tryz
namespace Go.Proofs
open Go.Shelf
def Tryz.lays169_ren:Go.Shelf.Ren:=⟨fun|169=>139|n=>n,fun|70=>230|9=>9|0=>0|72=>232|37=>105|127=>285|3=>3|5=>5|n=>n,fun|n=>n⟩
def Tryz.lays169:Go.Proofs.Lays.n169 prog Tryz.lays169_ren:={
 mixed:=by kernel_rfl
 f169:=func139.trans (congrArg some (by kernel_rfl))
 t0:=underlying0
 a0:=isAgg0
 z0:=sizeOf0
 v0:=zeroValue0
 t3:=underlying3
 a3:=isAgg3
 z3:=sizeOf3
 v3:=zeroValue3
 t9:=underlying9
 a9:=isAgg9
 z9:=sizeOf9
 v9:=zeroValue9
 t37:=underlying105
 a37:=isAgg105
 z37:=sizeOf105
 v37:=zeroValue105
 t70:=underlying230
 a70:=isAgg230
 z70:=sizeOf230
 v70:=zeroValue230
 t72:=underlying232
 a72:=isAgg232
 z72:=sizeOf232
 v72:=zeroValue232
 t127:=underlying285
 a127:=isAgg285
 z127:=sizeOf285
 v127:=zeroValue285 }
def Tryz.Builder_Extra_169:Builder.Extra prog Tryz.lays169_ren:={
 sizeBuilder:=by kernel_rfl
 liesBuilder:=by kernel_rfl
 t5:=underlying5
 a5:=isAgg5
 z5:=sizeOf5
 v5:=zeroValue5
 infoByte:=by kernel_rfl
 cellsByte:=by kernel_rfl
 sizeByte:=by kernel_rfl
 neB5:=by decide }
open Go.RowKit in
def Tryz.Builder_String_any (B b:Nat) (l:List UInt8) (w:World) (h:Lib.IsBuilder 232 5 B b (Lib.byteCells l) w) (g:B<=w.heap.size) :
  Calls prog 139 #[.pointer (some ⟨b,0,none⟩)] w fun e w'=>e=.returned (.string ⟨l.toArray⟩)/\Below B w w':=Any.Builder_String_any Tryz.lays169 Tryz.Builder_Extra_169 B b l w h g
open Go.RowKit in
def Tryz.Builder_String_f (B b:Nat) (l:List UInt8) (w:World) (h:Lib.IsBuilderF 232 5 B b (Lib.byteCells l) w) (g:l≠[]) :
  Calls prog 139 #[.pointer (some ⟨b,0,none⟩)] w fun e w'=>e=.returned (.string ⟨l.toArray⟩)/\(Lib.IsBuilderF 232 5 B b (Lib.byteCells l) w'/\Below B w w'):=Any.Builder_String_f Tryz.lays169 Tryz.Builder_Extra_169 B b l w h g
def Tryz.lays189_ren:Go.Shelf.Ren:=⟨fun|189=>97|125=>148|257=>147|128=>204|129=>205|294=>195|295=>196|296=>197|297=>198|298=>199|299=>200|216=>201|300=>202|301=>203|328=>235|329=>236|330=>237|331=>238|332=>239|215=>240|343=>259|n=>n,fun|28=>57|3=>3|46=>214|0=>0|51=>213|53=>29|4=>4|183=>288|182=>287|131=>293|5=>5|9=>9|218=>324|222=>277|228=>336|229=>337|n=>n,fun|n=>n⟩
def Tryz.lays189:Go.Proofs.Lays.n189 prog Tryz.lays189_ren:={
 mixed:=by kernel_rfl
 f125:=func148.trans (congrArg some (by kernel_rfl))
 f128:=func204.trans (congrArg some (by kernel_rfl))
 f129:=func205.trans (congrArg some (by kernel_rfl))
 f189:=func97.trans (congrArg some (by kernel_rfl))
 f215:=func240.trans (congrArg some (by kernel_rfl))
 f216:=func201.trans (congrArg some (by kernel_rfl))
 f257:=func147.trans (congrArg some (by kernel_rfl))
 f294:=func195.trans (congrArg some (by kernel_rfl))
 f295:=func196.trans (congrArg some (by kernel_rfl))
 f296:=func197.trans (congrArg some (by kernel_rfl))
 f297:=func198.trans (congrArg some (by kernel_rfl))
 f298:=func199.trans (congrArg some (by kernel_rfl))
 f299:=func200.trans (congrArg some (by kernel_rfl))
 f300:=func202.trans (congrArg some (by kernel_rfl))
 f301:=func203.trans (congrArg some (by kernel_rfl))
 f328:=func235.trans (congrArg some (by kernel_rfl))
 f329:=func236.trans (congrArg some (by kernel_rfl))
 f330:=func237.trans (congrArg some (by kernel_rfl))
 f331:=func238.trans (congrArg some (by kernel_rfl))
 f332:=func239.trans (congrArg some (by kernel_rfl))
 f343:=func259.trans (congrArg some (by kernel_rfl))
 t0:=underlying0
 a0:=isAgg0
 z0:=sizeOf0
 v0:=zeroValue0
 t3:=underlying3
 a3:=isAgg3
 z3:=sizeOf3
 v3:=zeroValue3
 t4:=underlying4
 a4:=isAgg4
 z4:=sizeOf4
 v4:=zeroValue4
 t5:=underlying5
 a5:=isAgg5
 z5:=sizeOf5
 v5:=zeroValue5
 t9:=underlying9
 a9:=isAgg9
 z9:=sizeOf9
 v9:=zeroValue9
 t28:=underlying57
 a28:=isAgg57
 z28:=sizeOf57
 v28:=zeroValue57
 t46:=underlying214
 a46:=isAgg214
 z46:=sizeOf214
 v46:=zeroValue214
 t51:=underlying213
 a51:=isAgg213
 z51:=sizeOf213
 v51:=zeroValue213
 t53:=underlying29
 a53:=isAgg29
 z53:=sizeOf29
 v53:=zeroValue29
 t131:=underlying293
 a131:=isAgg293
 z131:=sizeOf293
 v131:=zeroValue293
 t182:=underlying287
 a182:=isAgg287
 z182:=sizeOf287
 v182:=zeroValue287
 t183:=underlying288
 a183:=isAgg288
 z183:=sizeOf288
 v183:=zeroValue288
 t218:=underlying324
 a218:=isAgg324
 z218:=sizeOf324
 v218:=zeroValue324
 t222:=underlying277
 a222:=isAgg277
 z222:=sizeOf277
 v222:=zeroValue277
 t228:=underlying336
 a228:=isAgg336
 z228:=sizeOf336
 v228:=zeroValue336
 t229:=underlying337
 a229:=isAgg337
 z229:=sizeOf337
 v229:=zeroValue337 }
open Go.Sort Go.RowKit in
def Tryz.slices_Sort_int (blk off g:Nat) (zs:List Int) (w:World) (i:Holds (Value.int .i64) w blk off zs.toArray) (hblk:blk<w.heap.size) (h:zs.length<4611686018427387904) :
  Calls prog 97 #[.slice (some ⟨blk,off,none⟩) zs.length g] w fun e w' =>
   e=.returned (.tuple #[])/\∃n os,w'=grow (putRow (Value.int .i64) (Sort.ahead w n) blk off (zs.mergeSort fun x y=>decide (x<=y)).toArray) os:=Any.slices_Sort_int Tryz.lays189 blk off g zs w i hblk h
def Tryz.lays212_ren:Go.Shelf.Ren:=⟨fun|212=>134|263=>186|264=>187|n=>n,fun|46=>214|51=>213|146=>281|53=>29|148=>283|n=>n,fun|n=>n⟩
def Tryz.lays212:Go.Proofs.Lays.n212 prog Tryz.lays212_ren:={
 mixed:=by kernel_rfl
 f212:=func134.trans (congrArg some (by kernel_rfl))
 f263:=func186.trans (congrArg some (by kernel_rfl))
 f264:=func187.trans (congrArg some (by kernel_rfl))
 t46:=underlying214
 a46:=isAgg214
 z46:=sizeOf214
 v46:=zeroValue214
 t51:=underlying213
 a51:=isAgg213
 z51:=sizeOf213
 v51:=zeroValue213
 t53:=underlying29
 a53:=isAgg29
 z53:=sizeOf29
 v53:=zeroValue29
 t146:=underlying281
 a146:=isAgg281
 z146:=sizeOf281
 v146:=zeroValue281
 t148:=underlying283
 a148:=isAgg283
 z148:=sizeOf283
 v148:=zeroValue283 }
open Go.RowKit Go.Lib in
def Tryz.bits_Mul (x y:Nat) (g:x<18446744073709551616) (h:y<18446744073709551616) (w:World) :
  Calls prog 134 #[.int .u64 x,.int .u64 y] w fun e w'=>e=.returned (.tuple #[.int .u64 (x*y / 18446744073709551616:Nat),.int .u64 (x*y % 18446744073709551616:Nat)])/\w'=w:=Any.bits_Mul Tryz.lays212 x y g h w
def Tryz.lays105_ren:Go.Shelf.Ren:=⟨fun|105=>92|212=>134|99=>135|165=>136|166=>137|170=>138|169=>139|263=>186|264=>187|206=>188|240=>189|241=>190|276=>232|277=>233|n=>n,fun|9=>9|3=>3|4=>4|20=>20|0=>0|46=>214|109=>227|5=>5|72=>232|76=>235|51=>213|146=>281|53=>29|148=>283|70=>230|37=>105|75=>234|127=>285|164=>321|80=>174|n=>n,fun|n=>n⟩
def Tryz.lays105:Go.Proofs.Lays.n105 prog Tryz.lays105_ren:={
 mixed:=by kernel_rfl
 f99:=func135.trans (congrArg some (by kernel_rfl))
 f105:=func92.trans (congrArg some (by kernel_rfl))
 f165:=func136.trans (congrArg some (by kernel_rfl))
 f166:=func137.trans (congrArg some (by kernel_rfl))
 f169:=func139.trans (congrArg some (by kernel_rfl))
 f170:=func138.trans (congrArg some (by kernel_rfl))
 f206:=func188.trans (congrArg some (by kernel_rfl))
 f212:=func134.trans (congrArg some (by kernel_rfl))
 f240:=func189.trans (congrArg some (by kernel_rfl))
 f241:=func190.trans (congrArg some (by kernel_rfl))
 f263:=func186.trans (congrArg some (by kernel_rfl))
 f264:=func187.trans (congrArg some (by kernel_rfl))
 f276:=func232.trans (congrArg some (by kernel_rfl))
 f277:=func233.trans (congrArg some (by kernel_rfl))
 t0:=underlying0
 a0:=isAgg0
 z0:=sizeOf0
 v0:=zeroValue0
 t3:=underlying3
 a3:=isAgg3
 z3:=sizeOf3
 v3:=zeroValue3
 t4:=underlying4
 a4:=isAgg4
 z4:=sizeOf4
 v4:=zeroValue4
 t5:=underlying5
 a5:=isAgg5
 z5:=sizeOf5
 v5:=zeroValue5
 t9:=underlying9
 a9:=isAgg9
 z9:=sizeOf9
 v9:=zeroValue9
 t20:=underlying20
 a20:=isAgg20
 z20:=sizeOf20
 v20:=zeroValue20
 t37:=underlying105
 a37:=isAgg105
 z37:=sizeOf105
 v37:=zeroValue105
 t46:=underlying214
 a46:=isAgg214
 z46:=sizeOf214
 v46:=zeroValue214
 t51:=underlying213
 a51:=isAgg213
 z51:=sizeOf213
 v51:=zeroValue213
 t53:=underlying29
 a53:=isAgg29
 z53:=sizeOf29
 v53:=zeroValue29
 t70:=underlying230
 a70:=isAgg230
 z70:=sizeOf230
 v70:=zeroValue230
 t72:=underlying232
 a72:=isAgg232
 z72:=sizeOf232
 v72:=zeroValue232
 t75:=underlying234
 a75:=isAgg234
 z75:=sizeOf234
 v75:=zeroValue234
 t76:=underlying235
 a76:=isAgg235
 z76:=sizeOf235
 v76:=zeroValue235
 t109:=underlying227
 a109:=isAgg227
 z109:=sizeOf227
 v109:=zeroValue227
 t127:=underlying285
 a127:=isAgg285
 z127:=sizeOf285
 v127:=zeroValue285
 t146:=underlying281
 a146:=isAgg281
 z146:=sizeOf281
 v146:=zeroValue281
 t148:=underlying283
 a148:=isAgg283
 z148:=sizeOf283
 v148:=zeroValue283
 t164:=underlying321
 a164:=isAgg321
 z164:=sizeOf321
 v164:=zeroValue321 }
def Tryz.Builder_Extra_105:Builder.Extra prog Tryz.lays105_ren:={
 sizeBuilder:=by kernel_rfl
 liesBuilder:=by kernel_rfl
 t5:=underlying5
 a5:=isAgg5
 z5:=sizeOf5
 v5:=zeroValue5
 infoByte:=by kernel_rfl
 cellsByte:=by kernel_rfl
 sizeByte:=by kernel_rfl
 neB5:=by decide }
open Go.RowKit Go.Lib in
def Tryz.strings_Repeat_main (s:ByteArray) (c:Nat) (w:World) (g:2<=c) (i:c<=9223372036854775807) (hlen:s.size*c<=140737488355328) (h:0<s.size) :
  Calls prog 92 #[.string s,.int .i64 c] w fun e w'=>e=.returned (.string ⟨(Lib.repeatL s.data.toList c).toArray⟩)/\Below w.heap.size w w':=Any.strings_Repeat_main Tryz.lays105 Tryz.Builder_Extra_105 s c w g i hlen h
open Go.RowKit Go.Lib in
def Tryz.strings_Repeat_zero (s:ByteArray) (w:World) :
  Calls prog 92 #[.string s,.int .i64 0] w fun e w'=>e=.returned (.string ⟨#[]⟩)/\w'=w:=Any.strings_Repeat_zero Tryz.lays105 s w
open Go.RowKit Go.Lib in
def Tryz.strings_Repeat (s:ByteArray) (c:Nat) (w:World) (g:c<=9223372036854775807) (hlen:s.size*c<=140737488355328) :
  Calls prog 92 #[.string s,.int .i64 c] w fun e w'=>e=.returned (.string ⟨(Lib.repeatL s.data.toList c).toArray⟩)/\Below w.heap.size w w':=Any.strings_Repeat Tryz.lays105 Tryz.Builder_Extra_105 s c w g hlen
def Tryz.lays107_ren:Go.Shelf.Ren:=⟨fun|107=>99|108=>149|n=>n,fun|28=>57|3=>3|4=>4|0=>0|n=>n,fun|n=>n⟩
def Tryz.lays107:Go.Proofs.Lays.n107 prog Tryz.lays107_ren:={
 mixed:=by kernel_rfl
 f107:=func99.trans (congrArg some (by kernel_rfl))
 f108:=func149.trans (congrArg some (by kernel_rfl))
 t0:=underlying0
 a0:=isAgg0
 z0:=sizeOf0
 v0:=zeroValue0
 t3:=underlying3
 a3:=isAgg3
 z3:=sizeOf3
 v3:=zeroValue3
 t4:=underlying4
 a4:=isAgg4
 z4:=sizeOf4
 v4:=zeroValue4
 t28:=underlying57
 a28:=isAgg57
 z28:=sizeOf57
 v28:=zeroValue57 }
open Go.Lib in
def Tryz.slices_Contains_int (b off n c:Nat) (zs:List Int) (x:Int) (w:World) (hz:n<=zs.length) (hbig:n<=9223372036854775807) (g:∀j,j<zs.length->w.cell? ⟨b,off+j,none⟩=some (.int .i64 (zs.getD j 0))) :
  Calls prog 99 #[.slice (some ⟨b,off,none⟩) n c,.int .i64 x] w fun e w'=>e=.returned (.bool ((zs.take n).contains x))/\w'=w:=Any.slices_Contains_int Tryz.lays107 b off n c zs x w hz hbig g
open Go.Lib in
def Tryz.slices_Contains_int_empty (a:Option Addr) (c:Nat) (x:Int) (w:World) :
  Calls prog 99 #[.slice a 0 c,.int .i64 x] w fun e w'=>e=.returned (.bool false)/\w'=w:=Any.slices_Contains_int_empty Tryz.lays107 a c x w
def Tryz.lays112_ren:Go.Shelf.Ren:=⟨fun|112=>225|n=>n,fun|28=>57|3=>3|4=>4|0=>0|n=>n,fun|n=>n⟩
def Tryz.lays112:Go.Proofs.Lays.n112 prog Tryz.lays112_ren:={
 mixed:=by kernel_rfl
 f112:=func225.trans (congrArg some (by kernel_rfl))
 t0:=underlying0
 a0:=isAgg0
 z0:=sizeOf0
 v0:=zeroValue0
 t3:=underlying3
 a3:=isAgg3
 z3:=sizeOf3
 v3:=zeroValue3
 t4:=underlying4
 a4:=isAgg4
 z4:=sizeOf4
 v4:=zeroValue4
 t28:=underlying57
 a28:=isAgg57
 z28:=sizeOf57
 v28:=zeroValue57 }
def Tryz.laysNm216_ren:Go.Shelf.Ren:=⟨fun|16=>82|n=>n,fun|24=>38|9=>9|4=>4|n=>n,fun|n=>n⟩
def Tryz.laysNm216:Go.Proofs.Lays2.n16 prog Tryz.laysNm216_ren:={
 mixed:=by kernel_rfl
 f16:=func82.trans (congrArg some (by kernel_rfl))
 t4:=underlying4
 a4:=isAgg4
 z4:=sizeOf4
 v4:=zeroValue4
 t9:=underlying9
 a9:=isAgg9
 z9:=sizeOf9
 v9:=zeroValue9
 t24:=underlying38
 a24:=isAgg38
 z24:=sizeOf38
 v24:=zeroValue38
 i9:=by kernel_rfl }
open Go.RowKit Go.Lib in
def Tryz.slices_Clone_string (b off n c:Nat) (zs:List ByteArray) (w:World) (hz:n<=zs.length) (hbig:n*16<=140737488355328) (h:∀j,j<zs.length->w.cell? ⟨b,off+j,none⟩=some (.string (zs.getD j ByteArray.empty))) :
  Calls prog 82 #[.slice (some ⟨b,off,none⟩) n c] w fun e w'=>∃g,e=.returned g/\w'.ownsRow w.heap.size 9 1 g n ((zs.take n).map (Value.string))/\g≠.slice none 0 0/\Below w.heap.size w w':=Any.slices_Clone_string Tryz.laysNm216 b off n c zs w hz hbig h
open Go.RowKit Go.Lib Go.Sort in
def Tryz.slices_Reverse_int_cells (b off n c:Nat) (zs:List Int) (w:World) (hz:n<=zs.length) (hbig:n<=9223372036854775807) (g:∀j,j<zs.length->w.cell? ⟨b,off+j,none⟩=some (.int .i64 (zs.getD j 0))) (h:∀j,j<n->w.frozen? ⟨b,off+j,none⟩=false) :
  Calls prog 225 #[.slice (some ⟨b,off,none⟩) n c] w fun e w'=>e=.returned (.tuple #[])/\∃q,w'=(w.drewN q).setCells b off ((zs.take n).reverse.map (Value.int .i64)):=Any.slices_Reverse_int_cells Tryz.lays112 b off n c zs w hz hbig g h
open Go.RowKit Go.Sort in
def Tryz.slices_Sort_int_none (p:Option Addr) (g:Nat) (w:World) :
  Calls prog 97 #[.slice p 0 g] w fun e w'=>e=.returned (.tuple #[])/\w'=w:=Any.slices_Sort_int_none Tryz.lays189 p g w
end Go.Proofs
end
section
open Go.Proofs.Tryz
namespace Go.Proofs
open Go.Shelf
def Tryz.lays166:Go.Proofs.Lays.n166 prog Tryz.lays105_ren:={
 mixed:=Tryz.lays105.mixed
 f166:=Tryz.lays105.f166
 f240:=Tryz.lays105.f240
 f276:=Tryz.lays105.f276
 t0:=Tryz.lays105.t0
 a0:=Tryz.lays105.a0
 z0:=Tryz.lays105.z0
 v0:=Tryz.lays105.v0
 t3:=Tryz.lays105.t3
 a3:=Tryz.lays105.a3
 z3:=Tryz.lays105.z3
 v3:=Tryz.lays105.v3
 t4:=Tryz.lays105.t4
 a4:=Tryz.lays105.a4
 z4:=Tryz.lays105.z4
 v4:=Tryz.lays105.v4
 t9:=Tryz.lays105.t9
 a9:=Tryz.lays105.a9
 z9:=Tryz.lays105.z9
 v9:=Tryz.lays105.v9
 t20:=Tryz.lays105.t20
 a20:=Tryz.lays105.a20
 z20:=Tryz.lays105.z20
 v20:=Tryz.lays105.v20
 t37:=Tryz.lays105.t37
 a37:=Tryz.lays105.a37
 z37:=Tryz.lays105.z37
 v37:=Tryz.lays105.v37
 t70:=Tryz.lays105.t70
 a70:=Tryz.lays105.a70
 z70:=Tryz.lays105.z70
 v70:=Tryz.lays105.v70
 t72:=Tryz.lays105.t72
 a72:=Tryz.lays105.a72
 z72:=Tryz.lays105.z72
 v72:=Tryz.lays105.v72
 t75:=Tryz.lays105.t75
 a75:=Tryz.lays105.a75
 z75:=Tryz.lays105.z75
 v75:=Tryz.lays105.v75
 t164:=Tryz.lays105.t164
 a164:=Tryz.lays105.a164
 z164:=Tryz.lays105.z164
 v164:=Tryz.lays105.v164
}
open Go.RowKit in
def Tryz.Builder_WriteString (B b:Nat) (bs:List Value) (s:ByteArray) (w:World) (h:Lib.IsBuilder 232 5 B b bs w) (hlen:bs.length+s.size<=140737488355328) (g:B<=w.heap.size) :
  Calls prog 137 #[.pointer (some ⟨b,0,none⟩),.string s] w fun e w'=>e=.returned (.tuple #[.int .i64 s.size,.nilIface])/\(Lib.BuilderAt 232 5 B b (.pointer (some ⟨b,0,none⟩)) (bs++Lib.strCells s) w'/\Below B w w'):=Any.Builder_WriteString Tryz.lays166 Tryz.Builder_Extra_105 B b bs s w h hlen g
open Go.RowKit in
def Tryz.Builder_WriteString_k (B b:Nat) (bs:List Value) (s:ByteArray) (w:World) (h:Lib.IsBuilderF 232 5 B b bs w) (hlen:bs.length+s.size<=140737488355328) (g:B<=w.heap.size) :
  Calls prog 137 #[.pointer (some ⟨b,0,none⟩),.string s] w fun e w'=>e=.returned (.tuple #[.int .i64 s.size,.nilIface])/\(Lib.BuilderAtF 232 5 B b (.pointer (some ⟨b,0,none⟩)) (bs++Lib.strCells s) w'/\Below B w w'/\Lib.OthersKept 5 (some b) w w'):=Any.Builder_WriteString_k Tryz.lays166 Tryz.Builder_Extra_105 B b bs s w h hlen g
end Go.Proofs
end
namespace Go.Proofs.YtdkheklakfbeeaaGreatDoor
open Go.RowKit Tryz
variable {H:List (Nat×(W_->Prop))}{K R:Act->W_->Prop}{Ob:Nat->W_->W_->Prop}{P:Program}{Q:Exit->Act->W_->Prop}{S:W_->Prop}{a a':Act}{ah:Array Oper}{d fuel i j:Nat}{listed:Array Bool}{o:Oper}{v:Value}{w w':W_}
def l8 (r:List UInt8) (n:Nat):List UInt8:=(128::List.replicate ((119-r.length) % 64) 0)++v8 [n*8 / 4294967296,n*8 % 4294967296]
def Oi (V:List Nat) (r:List UInt8) (n:Nat):List UInt8:=v8 (D_ V (r++l8 r n) ((r++l8 r n).length / 64))
def Ez:(prog.info? 273).map (·.size)=some 10:=k_
def T0 (w:W_) (Q:a_ w) (p:Nat) (H2:10<=p) (V:List Nat) (y:V.length=8) (S:gW V) (r:List UInt8) (n:Nat) (hn:n<=100000000) (H0:r.length<64)
  (m:ab w p 273 (uv V++[Value.string (bs r),Value.int .i64 n]).toArray) :
  Cl 127 #[.pointer (some ⟨p,0,none⟩)] w fun e w'=>e=.returned (.string (bs (Oi V r n)))/\Kp ac w w':=by
 have s:=ft V;rw[y] at s
 have G:w.cell? ⟨p,8,none⟩=some (.string (bs r)):=by rw[m.cell,lP,uS o_,s];rfl
 have I:w.cell? ⟨p,9,none⟩=some (.int .i64 n):=by rw[m.cell,lP,uS o_,s];rfl
 have l:=Zz m;have D:=Zz Q
 have v:(uv V++[Value.string (bs r),Value.int .i64 n]).toArray.size=10:=by rw[tK,cd,s];rfl
 have A:(uv V++[Value.string (bs r),Value.int .i64 n]).toArray.all (·.oneCell')=true:=all_oneCell_toArray (by
  intro u h4;rcases List.mem_append.1 h4 with h|h
  ·exact w_L V u h
  rcases List.mem_cons.1 h with rfl|h
  ·rfl
  rcases List.mem_cons.1 h with rfl|h
  ·rfl
  cases h)
 obtain ⟨k,hk⟩:∃k,(119-r.length) % 64=k:=⟨_,rfl⟩
 have f:((wrap64 (119-((bs r).size:Int))).tmod 64)=(k:Int):=by
  rw[cG,show wrap64 (119-(r.length:Int))=((119-r.length:Nat):Int) by unfold wrap64;omega,<-hk];rfl
 have h8:k<64:=o_;have h7:=Zz hk;have B:=Zz f;clear m Q hk f;go_enter func127,ntmps127
 go_wp2_with (first
  | (refine wpList_load_row rfl 273 (.tmp 9) rfl p rfl 273 _ (0,0) _ l.o underlying273 rfl (by rw[v];exact Ez) ?_)
  | (refine wpList_store_row rfl 273 (.tmp 3) (.tmp 10) rfl w.heap.size _ rfl rfl 273 _ (ab.new w _ _) (by rw[v];exact Ez) (by rw[v];rfl) A ?_;go_must (
    have q:=Zz ((ab.new w 273 #[Value.int IntKind.u32 0,Value.int IntKind.u32 0,Value.int IntKind.u32 0,Value.int IntKind.u32 0,Value.int IntKind.u32 0,Value.int IntKind.u32 0,Value.int IntKind.u32 0,Value.int IntKind.u32 0,Value.string { data:=#[] },Value.int IntKind.i64 0]).setRow (cs':=(uv V++[Value.string (bs r),Value.int .i64 n]).toArray));have o:=Zz (((Kp.refl ac w).alloc (.cells #[Value.int IntKind.u32 0,Value.int IntKind.u32 0,Value.int IntKind.u32 0,Value.int IntKind.u32 0,Value.int IntKind.u32 0,Value.int IntKind.u32 0,Value.int IntKind.u32 0,Value.int IntKind.u32 0,Value.string { data:=#[] },Value.int IntKind.i64 0] 273)).setRow w.heap.size (uv V++[Value.string (bs r),Value.int .i64 n]).toArray (.inr (bS _)));have x:=l.o.lt;obtain ⟨E,hE⟩:∃E,w.heap.size=E:=⟨_,rfl⟩;obtain ⟨g,O⟩:∃g,(w.alloc (.cells #[Value.int IntKind.u32 0,Value.int IntKind.u32 0,Value.int IntKind.u32 0,Value.int IntKind.u32 0,Value.int IntKind.u32 0,Value.int IntKind.u32 0,Value.int IntKind.u32 0,Value.int IntKind.u32 0,Value.string { data:=#[] },Value.int IntKind.i64 0] 273)).setRow w.heap.size (uv V++[Value.string (bs r),Value.int .i64 n]).toArray=g:=⟨_,rfl⟩;rw[O] at q o ⊢;clear O;rw[hE] at q x ⊢;have U:=Zz hE;clear hE;have d8:g.cell? ⟨p,8,none⟩=some (.string (bs r)):=((World.cell?_of_block (o.o.block p l.o.lt fun h=>h)).trans G);have d9:g.cell? ⟨p,9,none⟩=some (.int .i64 n):=((World.cell?_of_block (o.o.block p l.o.lt fun h=>h)).trans I)
    clear G I))
  | fail)
 rw[B.o];refine (Tryz.strings_Repeat ⟨#[0]⟩ k g o_ (by show 1*k<=_;omega)).mono ?_;rintro e w3 ⟨rfl,d⟩
 have a:Lib.repeatL [(0:UInt8)] k=List.replicate k 0:=by have:=Lib.repeatL_replicate 0 1 k;simpa using this
 rw[show ((⟨#[0]⟩:B_).data.toList)=[(0:UInt8)] from rfl,a,show (⟨(List.replicate k (0:UInt8)).toArray⟩:B_)=bs (List.replicate k 0) from rfl]
 have F:¬(9223372036854775807<1+(bs (List.replicate k 0)).size):=by rw[cG,Aa];omega
 go_wp2_with fail
 have i:b_ (w3.alloc (.cells #[Value.int .u32 ((n:Int)*8 / 4294967296),Value.int .u32 ((n:Int)*8)] 213)) (.slice (some ⟨w3.heap.size,0,none⟩) 2 2) (uv [n*8 / 4294967296,n*8 % 4294967296]):=by
  have L:(n:Int)*8 / 4294967296=((n*8 / 4294967296:Nat):Int):=o_;have h2:(n:Int)*8=((n*8 % 4294967296:Nat):Int):=o_;rw[L]
  have h3:(Value.int .u32 ((n:Int)*8))=.int .u32 (n*8 % 4294967296:Nat):=by rw[<-h2]
  rw[h3];exact (aH.lit_ w3 w3.heap.size 213 #[.int .u32 (n*8 / 4294967296:Nat),.int .u32 (n*8 % 4294967296:Nat)] (bS _) (by show 2<=maxLen;decide)).reads
 refine (v_d _ _ _ i s_).mono ?_;rintro e R ⟨rfl,P⟩;have J:Hid (Kp ac w3 R):=Zz (((Kp.refl ac w3).alloc _).trans (Kp.of_below P _));clear i P;have h5:Hid (({ data:=#[128] }:B_)++bs (List.replicate k 0)=bs (128::List.replicate k 0)):=Zz (uQ [128] (List.replicate k 0));rw[h5.o]
 have H:¬(9223372036854775807<(bs (128::List.replicate k 0)).size+(bs (v8 [n*8 / 4294967296,n*8 % 4294967296])).size):=by rw[cG,cG,x_J];simp;omega
 go_wp2_with fail;rw[uQ,show (128::List.replicate k 0)++v8 [n*8 / 4294967296,n*8 % 4294967296]=l8 r n by rw[<-h7.o];rfl]
 have x:(l8 r n).length<=100:=by unfold l8;rw[cd,x_J];simp;omega
 have t:Hid (Kp ac g w3):=Zz (Kp.of_below d _);have K:=Zz ((q.o.kp t.o fun h=>h).kp J.o fun h=>h);have c:=Zz ((o.o.trans t.o).trans J.o);have H1:=l.o.lt;have h0:=U.o;refine (EA R (D.o.no c.o) E o_ V y S r (l8 r n) n o_ o_ K.o (r++l8 r n) (Zz rfl) _ (Zz rfl) _ (Zz rfl)).mono ?_;rintro e h6 ⟨rfl,M,b⟩;have z:=Zz (v_J y (r++l8 r n) ((r++l8 r n).length / 64));have Y:=Zz M;have C:=Zz (c.o.then b (T:=(·=E)) fun q h9 h=>by have h:q=E:=h;omega);have W:Hid (Oi V r n=v8 (D_ V (r++l8 r n) ((r++l8 r n).length / 64))):=Zz rfl;clear M b t d a F H x;generalize D_ V (r++l8 r n) ((r++l8 r n).length / 64)=X at *;go_wp2_with fail
 have i:b_ h6 (.slice (some ⟨E,0,none⟩) 8 8) (uv X):=by
  refine ⟨_,8,by rw[ft,z.o],by rw[ft,z.o];omega,o_,fun _=>⟨E,0,rfl,fun j h1=>?_⟩⟩;rw[jm,Y.o.cell,lP,A3 h1]
 refine (v_d _ _ _ i (by rw[z.o];omega)).mono ?_;rintro e H3 ⟨rfl,N⟩;have Z:=Zz (C.o.trans (Kp.of_below N _));clear i N;rw[<-W.o];go_wp2;go_ret;exact ⟨rfl,Z.o⟩
def rK:gW v_S:=by
 intro i;by_cases h:i<8
 ·have:∀j,j<8->v_S.getD j 0<4294967296:=by decide +kernel
  exact this i h
 rw[be,pD (by show 8<=i;omega)];decide
def Zj (w:W_) (g:a_ w) (j:10<=w.heap.size) :
  Cl 125 #[] w fun e w'=>∃p,e=.returned (.pointer (some ⟨p,0,none⟩))/\10<=p/\w.heap.size<=p/\ab w' p 273 (uv v_S++[Value.string (bs []),Value.int .i64 (0:Nat)]).toArray/\Kp ac w w':=by
 obtain ⟨k,h,i⟩:=g.first;clear g;go_enter func125,ntmps125
 go_wp2_with (refine wpList_load_row rfl 271 (.global 1) rfl 1 rfl k _ h _ i underlying271 rfl w_J ?_)
 go_ret;exact ⟨w.heap.size,rfl,j,bS _,ab.new w 273 (uv v_S++[Value.string (bs []),Value.int .i64 (0:Nat)]).toArray,(Kp.refl ac w).alloc _⟩
def sw (l:List UInt8):List UInt8:=Oi (D_ v_S l (l.length / 64)) (l.drop (64*(l.length / 64))) l.length
def Fu (V:List Nat) (r:List UInt8) (n:Nat) (e:V.length=8):(Oi V r n).length=32:=by unfold Oi;rw[x_J,v_J e]
def x_R (l:List UInt8):(sw l).length=32:=Fu _ _ _ (v_J rfl _ _)
def N2 (l:List UInt8):List UInt8:=sw (0::l)
def NX (l:List UInt8):List UInt8:=sw (1::l)
def dC (l:List UInt8):List UInt8:=sw (2::l)
def qp (w:W_) (o:a_ w) (u:10<=w.heap.size) (l:List UInt8) (hl:l.length<=100000000) :
  Cl 79 #[.string (bs l)] w fun e w'=>e=.returned (.string (bs (sw l)))/\Kp ac w w':=by
 have g:=Zz o;clear o;have HR:Hid (sw l=Oi (D_ v_S l (l.length / 64)) (l.drop (64*(l.length / 64))) l.length):=Zz rfl;generalize sw l=R at *;go_enter func79,ntmps79;go_wp2_with fail;refine (Zj w g.o u).mono ?_;rintro e x ⟨p,rfl,hp,v,hb,hk⟩;have r:=Zz hb;have i:=Zz hk;clear hb hk;go_wp2_with fail;refine (EA x (g.o.no i.o) p hp v_S rfl rK [] l 0 o_ (by simp;omega) r.o l (Zz rfl) _ (Zz rfl) l.length (Zz (jm _))).mono ?_;rintro e y ⟨rfl,m,j⟩;have s:=Zz m;have k:=Zz (i.o.then j (T:=(·=p)) fun q z h=>by have h:q=p:=h;omega);clear m j;go_wp2_with fail;refine (T0 y (g.o.no k.o) p hp _ (v_J rfl _ _) (XD rK _ _) _ l.length hl (by rw[List.length_drop];omega) s.o).mono ?_;rintro e w3 ⟨rfl,n⟩;have t:=Zz (k.o.trans n);clear n;rw[<-HR.o];go_wp2;go_ret;exact ⟨rfl,t.o⟩
def TR (w:W_) (g:a_ w) (i:10<=w.heap.size) (l:List UInt8) (hl:l.length<=90000000) :
  Cl 143 #[.string (bs l)] w fun e w'=>e=.returned (.string (bs (N2 l)))/\Kp ac w w':=by
 have hs:=qp w g i (0::l) (by simp;omega);rw[show bs (0::l)=(⟨#[0]⟩:B_)++bs l from (uQ [0] l).symm] at hs;have h:=Zz hs
 have j:¬(9223372036854775807<1+(bs l).size):=by rw[cG];omega
 unfold N2;generalize sw (0::l)=R at *;generalize bs l=s at *;clear hs g;go_enter func143,ntmps143;go_wp2_with fail;refine h.o.mono ?_;rintro e k ⟨rfl,hk⟩;go_wp2;go_ret;exact ⟨rfl,hk⟩
def XJ (w:W_) (g:a_ w) (i:10<=w.heap.size) (l:List UInt8) (hl:l.length<=90000000) :
  Cl 192 #[.string (bs l)] w fun e w'=>e=.returned (.string (bs (NX l)))/\Kp ac w w':=by
 have hs:=qp w g i (1::l) (by simp;omega);rw[show bs (1::l)=(⟨#[1]⟩:B_)++bs l from (uQ [1] l).symm] at hs;have h:=Zz hs
 have j:¬(9223372036854775807<1+(bs l).size):=by rw[cG];omega
 unfold NX;generalize sw (1::l)=R at *;generalize bs l=s at *;clear hs g;go_enter func192,ntmps192;go_wp2_with fail;refine h.o.mono ?_;rintro e k ⟨rfl,hk⟩;go_wp2;go_ret;exact ⟨rfl,hk⟩
def N1 (w:W_) (g:a_ w) (i:10<=w.heap.size) (l:List UInt8) (hl:l.length<=90000000) :
  Cl 176 #[.string (bs l)] w fun e w'=>e=.returned (.string (bs (dC l)))/\Kp ac w w':=by
 have hs:=qp w g i (2::l) (by simp;omega);rw[show bs (2::l)=(⟨#[2]⟩:B_)++bs l from (uQ [2] l).symm] at hs;have h:=Zz hs
 have j:¬(9223372036854775807<1+(bs l).size):=by rw[cG];omega
 unfold dC;generalize sw (2::l)=R at *;generalize bs l=s at *;clear hs g;go_enter func176,ntmps176;go_wp2_with fail;refine h.o.mono ?_;rintro e k ⟨rfl,hk⟩;go_wp2;go_ret;exact ⟨rfl,hk⟩
section
variable {md:Region.Mode}
def QF:Exit->Act->W_->Prop:=fun _ _ _=>False
def RH (P:Program) (ah:Array Oper) (i:Nat) (K:Act->W_->Prop) (a:Act) (w:W_):Prop :=
 match ah[i]? with
 | none=>K a w
 | some o=>if Region.wanted o (yielded ah a.tmps) then o.wp P a w K QF else K (a.put o.dst undef) w
def QF.lets (Q:Exit->Act->W_->Prop) (h:LetsOut QF):LetsOut Q:=by obtain ⟨_,_,h⟩:=h;exact h.elim
def wp_QF (Q:Exit->Act->W_->Prop) (h:o.wp P a w K QF):o.wp P a w K Q:=by
 unfold Oper.wp at *;generalize (execOp a.eval o).run P w=r at *
 cases r with
 | ok n w' =>
  cases n<;>simp only[Oper.upon] at h ⊢ <;>
   first
    | exact h
    | exact Calls.mono h (fun e w'' g=>by cases e<;>first | exact g | exact g.elim | exact QF.lets _ g)
 | halt x w'=>cases x<;>simp only[Oper.upon] at h ⊢<;>first | exact h | exact h.elim
def Du (h:RH P ah i K a w):wpOp P ah Q i K a w:=by
 unfold RH at h;unfold wpOp;split
 ·rename_i e;simp only[e] at h;exact h
 rename_i o e;simp only[e] at h;split
 ·rename_i g;simp only[g,if_true] at h;exact .inl (wp_QF Q h)
 rename_i g;simp only[g] at h;exact h
def v_f {j:Act->W_->Prop} (h:∀a w,K a w->j a w) (e:RH P ah i K a w):RH P ah i j a w:=by
 unfold RH at *;split
 ·exact h _ _ (by simpa[*] using e)
 rename_i o k;simp only[k] at e;split
 ·rename_i g;simp only[g,if_true] at e;exact Oper.wp_mono h e
 rename_i g;simp only[g] at e;exact h _ _ e
inductive Waits (md:Region.Mode) (ah:Array Oper):Nat->Nat->Prop
 | one {j:Nat} {oj:Oper} {e:Edge}:ah[j]?=some oj->e∈oj.after->Region.binds md e=true->Waits md ah j e.on
 | more {j i:Nat} {oj:Oper} {e:Edge}:ah[j]?=some oj->e∈oj.after->Region.binds md e=true->Waits md ah e.on i->Waits md ah j i
def Bz (md:Region.Mode) (ah:Array Oper):Nat->Nat->Nat->Bool
 | 0,_,_=>false
 | f+1,j,i=>match ah[j]? with
  | some g=>g.after.any fun e=>Region.binds md e && (e.on==i || Bz md ah f e.on i)
  | none=>false
def CI:∀(f j i:Nat),Bz md ah f j i=true->Waits md ah j i
 | 0,_,_,h=>by cases h
 | f+1,j,i,h=>by
  unfold Bz at h;split at h
  ·rename_i n m
   obtain ⟨e,l,hb⟩:=Array.any_eq_true'.1 h;simp only[Bool.and_eq_true,Bool.or_eq_true,beq_iff_eq] at hb;obtain ⟨k,g⟩:=hb;rcases g with g|g
   ·subst g;exact .one m l k
   exact .more m l k (CI f e.on i g)
  cases h
def ir (md:Region.Mode) (ah:Array Oper) (listed:Array Bool):Prop :=
 ∀j g,ah[j]?=some g->listed.getD j false=true->∀e∈g.after,Region.binds md e=true->listed.getD e.on false=true
def v_n (h:listed.getD i true=false):listed.getD i false=false:=by
 rcases Nat.lt_or_ge i listed.size with e|e
 ·simp[e] at h ⊢;exact h
 simp[Array.getElem?_eq_none e] at h
def ir.set (h:ir md ah listed) (p:i∈Region.ready md ah listed):ir md ah (listed.setIfInBounds i true):=by
 obtain ⟨_,q,n,o⟩:=mem_ready.1 p;intro j m l hl e k hb;by_cases g:i=j
 ·subst g
  have:m=q:=Option.some.inj (l.symm.trans n);subst this;exact getD_set_true (o e k hb)
 rw[getD_set_ne false g] at hl;exact getD_set_true (h j m l hl e k hb)
def ir.waits (h:ir md ah listed) (l:Waits md ah j i) (k:listed.getD j false=true):listed.getD i false=true:=by
 induction l with
 | one g e hb=>exact h _ _ g k _ e hb
 | more g e hb _ m=>exact m (h _ _ g k _ e hb)
def Et (h:ir md ah listed) (n:Waits md ah j i) (m:j∈Region.ready md ah listed):listed.getD i false=true:=by
 obtain ⟨_,o,k,l⟩:=mem_ready.1 m
 cases n with
 | one g e hb =>
  have:=Option.some.inj (k.symm.trans g);subst this
  exact l _ e hb
 | more g e hb hm =>
  have:=Option.some.inj (k.symm.trans g);subst this;exact h.waits hm (l _ e hb)
def Qo (P:Program) (ah:Array Oper) (S:W_->Prop) (o:Oper) (v:Value) (a:Act):Prop :=
 (Region.wanted o (yielded ah a.tmps)=true/\∀w,S w->((execOp a.eval o).run P w=.ok (.value v) w\/((execOp a.eval o).run P w=.ok .skip w/\v=undef) \/
  ∃f args,(execOp a.eval o).run P w=.ok (.enter f args) w/\Calls P f args w (fun e w''=>e=.returned v/\w''=w))) \/
 (Region.wanted o (yielded ah a.tmps)=false/\v=undef)
def Qo.of_same (h:Qo P ah S o v a) (e:execOp a'.eval o=execOp a.eval o)
  (g:Region.wanted o (yielded ah a'.tmps)=Region.wanted o (yielded ah a.tmps)):Qo P ah S o v a':=by
 unfold Qo at *;rw[e,g];exact h
def Qo.sure (p:ah[i]?=some o) (q:Qo P ah S o v a) (l:S w) (h:K (a.put o.dst v) w):RH P ah i K a w:=by
 unfold RH;simp only[p];rcases q with ⟨j,hv⟩|⟨j,rfl⟩
 ·simp only[j,if_true]
  rcases hv w l with g|⟨g,k⟩|⟨f,args,g,m⟩
  ·unfold Oper.wp;rw[g];exact h
  ·unfold Oper.wp;rw[g];subst k;exact h
  unfold Oper.wp;rw[g]
  exact m.mono fun e w'' ⟨n,j⟩=>by subst n;subst j;exact h
 simp only[j,Bool.false_eq_true,if_false];exact h
def K8 {g i:Oper} (t:ah[j]?=some i) (z:g.apart ah i=true)
  (y:∀cs b,g.op≠.select cs b) (s:∀cs b,i.op≠.select cs b) 
  (k:Qo P ah S g v a) (h:RH P ah j K (a.put g.dst v) w) :
  RH P ah j (fun a' w'=>Qo P ah S g v a'/\K (a'.put g.dst v) w') a w:=by
 obtain ⟨p,l,q⟩:=Oper.apart_spec z
 have keep:∀(a:Act),Qo P ah S g v a->∀u,Qo P ah S g v (a.put i.dst u):=fun a k u =>
  k.of_same (execOp_put g y a i.dst u q) (wanted_put g a i.dst u q)
 have keepD:∀d,Qo P ah S g v { a with defers:=d::a.defers }:=fun d=>k.of_same rfl rfl
 unfold RH at *;simp only[t] at *;rw[wanted_put i a g.dst v p] at h;split
 ·rename_i o
  simp only[o,if_true] at h;unfold Oper.wp at *;rw[execOp_put i s a g.dst v p] at h;generalize (execOp a.eval i).run P w=r at *
  cases r with
  | ok n w' =>
   cases n<;>simp only[Oper.upon] at h ⊢
   case value u=>exact ⟨keep a k u,by rw[<-Act.put_comm a v u l];exact h⟩
   case skip=>exact ⟨keep a k _,by rw[<-Act.put_comm a v undef l];exact h⟩
   case defer d =>
    refine ⟨keep _ (keepD d) _,?_⟩;rw[<-Act.put_comm _ v undef l,<-Act.put_defers];exact h
   case enter f args =>
    refine Calls.mono h fun e w'' m=>?_
    cases e with
    | returned u=>exact ⟨keep a k u,by rw[<-Act.put_comm a v u l];exact m⟩
    | panicked c=>exact m
    | outgrown=>exact m
   case row rw args=>exact Rows.mono h fun u w'' m=>⟨keep a k u,by rw[<-Act.put_comm a v u l];exact m⟩
  | halt x w'=>cases x<;>simp only[Oper.upon] at h ⊢<;>exact h
 rename_i o;simp only[o] at h;exact ⟨keep a k _,by rw[<-Act.put_comm a v undef l];exact h⟩
def v_0 (P:Program) (md:Region.Mode) (ah:Array Oper) (R:Act->W_->Prop) (Ob:Nat->W_->W_->Prop):Nat->Array Bool->Act->W_->Prop
 | 0,listed,a,w=>Region.ready md ah listed=[]/\R a w
 | fuel+1,listed,a,w =>
  (Region.ready md ah listed=[]->R a w) /\
  ∀i∈Region.ready md ah listed,RH P ah i (fun a' w'=>Ob i w w'/\v_0 P md ah R Ob fuel (listed.setIfInBounds i true) a' w') a w
def BJ (hR:∀a w,R a w->Q .normal a w):∀(fuel:Nat) (listed:Array Bool) (a:Act) (w:W_),v_0 P md ah R Ob fuel listed a w->wpAny P md ah Q fuel listed a w
 | 0,_,_,_,h=>⟨h.1,hR _ _ h.2⟩
 | fuel+1,_,_,_,h=>⟨fun g=>hR _ _ (h.1 g),fun i j=>Du (v_f (fun a w e=>BJ hR fuel _ a w e.2) (h.2 i j))⟩
def v_g {e:Nat->W_->W_->Prop} (h:∀i w w',e i w w'->Ob i w w'):∀(fuel:Nat) (listed:Array Bool) (a:Act) (w:W_),v_0 P md ah R e fuel listed a w->v_0 P md ah R Ob fuel listed a w
 | 0,_,_,_,hh=>hh
 | fuel+1,_,_,_,hh=>⟨hh.1,fun i j=>v_f (fun a w g=>⟨h _ _ _ g.1,v_g h fuel _ a w g.2⟩) (hh.2 i j)⟩
def j7 {q:Oper} (z:ah[i]?=some q) (c:∀(j:Nat) (o:Oper) cs b,ah[j]?=some o->o.op≠.select cs b)
  (E:∀j w,Ob j w w) :
  ∀(fuel:Nat) (listed:Array Bool) (a:Act) (w:W_),ir md ah listed ->
   (∀j n,ah[j]?=some n->j≠i->listed.getD j true=false->(∀e∈n.after,Region.binds md e=true->e.on≠i)->q.apart ah n=true) ->
   i∈Region.ready md ah listed->Qo P ah S q v a->S w ->
   v_0 P md ah R (fun j w w'=>Ob j w w'/\(¬Waits md ah j i->S w->S w')) fuel (listed.setIfInBounds i true) (a.put q.dst v) w->v_0 P md ah R Ob (fuel+1) listed a w:=by
 intro fuel
 induction fuel with
 | zero =>
  intro listed a w y _ m u t H;refine ⟨fun h=>(by rw[h] at m;cases m),fun j p=>?_⟩;by_cases g:j=i
  ·subst g;exact u.sure z t ⟨E _ _,H⟩
  have:=ready_mono p g;rw[H.1] at this
  cases this
 | succ fuel T =>
  intro listed a w y G m u t H;refine ⟨fun h=>(by rw[h] at m;cases m),fun j p=>?_⟩;by_cases g:j=i
  ·subst g;exact u.sure z t ⟨E _ _,v_g (fun _ _ _ h=>h.1) _ _ _ _ H⟩
  have N:=H.2 j (ready_mono p g);have r:=(mem_ready.1 m).1;obtain ⟨d,n,x,M⟩:=mem_ready.1 p
  have I:∀e∈n.after,Region.binds md e=true->e.on≠i:=fun e O hb W=>by
   have l:=M e O hb;rw[W,v_n r] at l;cases l
  have V:¬Waits md ah j i:=fun Q=>by
   have l:=Et y Q p;rw[v_n r] at l;cases l
  have l:=K8 x (G j n x g d I) (fun cs b=>c i q cs b z) (fun cs b=>c j n cs b x) u N
  have X:∀k ok,ah[k]?=some ok->k≠i->(listed.setIfInBounds j true).getD k true=false ->
    (∀e∈ok.after,Region.binds md e=true->e.on≠i)->q.apart ah ok=true:=fun k ok hk J r U=>by
   refine G k ok hk J ?_ U;by_cases f:j=k
   ·subst f;exact d
   rw[getD_set_ne true f] at r;exact r
  refine v_f (fun a' w' s=>⟨s.2.1.1,T (listed.setIfInBounds j true) a' w' (y.set p) X (ready_mono m (Ne.symm g)) s.1 (s.2.1.2 V t) ?_⟩) l;rw[Array.setIfInBounds_comm _ _ g];exact s.2.2
abbrev l7:=List (Nat × (W_->Prop))
def l0 (md:Region.Mode) (ah:Array Oper) (H:l7) (j:Nat) (w w':W_):Prop:=∀x∈H,¬Waits md ah j x.1->x.2 w->x.2 w'
def l0.nil :l0 md ah [] j w w':=fun _ h=>by cases h
def l0.waits {H:l7} (g:Bz md ah 60 j i=true) (h:l0 md ah H j w w'):l0 md ah ((i,S)::H) j w w':=fun x e hn hs=>by
 rcases List.mem_cons.1 e with rfl|e
 ·exact absurd (CI 60 _ _ g) hn
 exact h x e hn hs
def l0.keeps {H:l7} (g:S w') (h:l0 md ah H j w w'):l0 md ah ((i,S)::H) j w w':=fun x e hn hs=>by
 rcases List.mem_cons.1 e with rfl|e
 ·exact g
 exact h x e hn hs
def l0.same {H:l7} :l0 md ah H j w w:=fun _ _ _ hs=>hs
def Fr (P:Program) (ah:Array Oper) (R:Act->W_->Prop) (H:l7) (fuel:Nat) (listed:Array Bool) (a:Act) (w:W_):Prop :=
 ir .any ah listed->v_0 P .any ah R (l0 .any ah H) fuel listed a w
def v_K {id:Nat} {l:List Oper} (hm:P.follows .mixedOrders=true)
  (h:Fr P l.toArray (Q .normal) [] l.length (Array.replicate l.length false) a { w with drawn:=w.drawn+1 }):(Code.region id l.toArray true).wp P Q a w:=by
 refine wp_region_any hm (BJ (fun _ _ h=>h) _ _ _ _ (h fun j e _ hl=>?_));rcases Nat.lt_or_ge j l.length with h|h
 ·simp[h] at hl
 simp[Nat.not_lt.2 h] at hl
variable {H:l7} 
def fr_end (g:Region.ready .any ah listed=[]) (h:R a w):Fr P ah R H fuel listed a w:=fun _=>by
 cases fuel with
 | zero=>exact ⟨g,h⟩
 | succ fuel=>exact ⟨fun _=>h,fun i e=>by rw[g] at e;cases e⟩
def Az {u:Value} (g:d<a.tmps.size) (h:a.put (some d) u=a.put (some d) v):u=v:=by
 have e:=congrArg (fun x:Act=>x.tmps[d]?) h;simpa[Act.put,g] using e
def v_5 (m:o.dst=some d) (k:d<a.tmps.size) (t:S w) {G:Act->Prop}
  (h:if Region.wanted o (yielded ah a.tmps) then o.still P a w (fun a'=>(∀W,S W->if Region.wanted o (yielded ah a.tmps) then o.still P a W (fun e=>e=a') else a.put o.dst undef=a')/\G a')
   else ((∀W,S W->if Region.wanted o (yielded ah a.tmps) then o.still P a W (fun e=>e=a.put o.dst undef) else a.put o.dst undef=a.put o.dst undef)/\G (a.put o.dst undef))) :
  ∃v,Qo P ah S o v a/\G (a.put o.dst v):=by
 by_cases j:Region.wanted o (yielded ah a.tmps)=true
 ·simp only[j,if_true] at h
  have key:∃v,(∀W,S W->o.still P a W (fun e=>e=a.put o.dst v))/\G (a.put o.dst v):=by
   change o.stillUpon P a w _ ((execOp a.eval o).run P w) at h;generalize (execOp a.eval o).run P w=r at h
   cases r with
   | ok n w' =>
    cases n<;>simp only[Oper.stillUpon] at h
    case value u=>exact ⟨u,h.2⟩
    case skip=>exact ⟨undef,h.2⟩
    case enter f args=>obtain ⟨_,v,_,l⟩:=h;exact ⟨v,l⟩
   | halt x w'=>simp only[Oper.stillUpon] at h
  obtain ⟨v,q,l⟩:=key;refine ⟨v,.inl ⟨j,fun W s=>?_⟩,l⟩;have i:=q W s;unfold Oper.still at i;generalize y:(execOp a.eval o).run P W=r at i
  cases r with
  | ok n w' =>
   cases n<;>simp only[Oper.stillUpon] at i
   case value u =>
    obtain ⟨rfl,g⟩:=i;rw[m] at g;exact .inl (by rw[Az k g])
   case skip =>
    obtain ⟨rfl,g⟩:=i;rw[m] at g;exact .inr (.inl ⟨rfl,(Az k g).symm⟩)
   case enter f args =>
    obtain ⟨rfl,u,p,g⟩:=i;rw[m] at g;rw[Az k g] at p
    exact .inr (.inr ⟨f,args,rfl,p⟩)
  | halt x w'=>simp only[Oper.stillUpon] at i
 simp only[j] at h;exact ⟨undef,.inr ⟨by simpa using j,rfl⟩,h.2⟩
def w_h (i:Nat) (S:W_->Prop) (n:ah[i]?=some o) (t:o.dst=some d) (q:decide (d<a.tmps.size)=true) (k:(Region.noSelect ah && (Region.ready .any ah listed).contains i && Region.free .any ah listed i)=true) (l:S w)
  (h:∀K:Act->Prop,(∀a',(∀W,S W->if Region.wanted o (yielded ah a.tmps) then o.still P a W (fun e=>e=a') else a.put o.dst undef=a')->Fr P ah R ((i,S)::H) fuel (listed.setIfInBounds i true) a' w->K a') ->
   if Region.wanted o (yielded ah a.tmps) then o.still P a w K else K (a.put o.dst undef)):Fr P ah R H (fuel+1) listed a w:=by
 simp only[Bool.and_eq_true] at k;obtain ⟨⟨hs,y⟩,u⟩:=k
 have p:i∈Region.ready .any ah listed:=by simpa using y
 obtain ⟨v,b,hF⟩:=v_5 (G:=fun a'=>Fr P ah R ((i,S)::H) fuel (listed.setIfInBounds i true) a' w) t (of_decide_eq_true q) l (h _ fun a' r s=>⟨r,s⟩);intro g;refine j7 n (Region.noSelect_spec hs) (fun _ _=>l0.same) fuel listed a w g (Region.free_spec n u) p b l ?_;exact v_g (fun j w w' m=>⟨fun x z=>m x (List.mem_cons_of_mem _ z),fun hn hs=>m (i,S) (List.mem_cons_self ..) hn hs⟩) _ _ _ _ (hF (g.set p))
def TW (i:Nat) (l:ah[i]?=some o) (r:o.dst=some d) (n:decide (d<a.tmps.size)=true) (k:(Region.noSelect ah && (Region.ready .any ah listed).contains i && Region.free .any ah listed i)=true)
  (h:∀K:Act->Prop,(∀a',(∀W:W_,if Region.wanted o (yielded ah a.tmps) then o.still P a W (fun e=>e=a') else a.put o.dst undef=a')->Fr P ah R H fuel (listed.setIfInBounds i true) a' w->K a') ->
   if Region.wanted o (yielded ah a.tmps) then o.still P a w K else K (a.put o.dst undef)):Fr P ah R H (fuel+1) listed a w:=by
 simp only[Bool.and_eq_true] at k;obtain ⟨⟨hs,u⟩,s⟩:=k
 have m:i∈Region.ready .any ah listed:=by simpa using u
 obtain ⟨v,x,hF⟩:=v_5 (S:=fun _=>True) (G:=fun a'=>Fr P ah R H fuel (listed.setIfInBounds i true) a' w) r (of_decide_eq_true n) trivial (h _ fun a' p q=>⟨fun W _=>p W,q⟩);intro g;refine j7 l (Region.noSelect_spec hs) (fun _ _=>l0.same) fuel listed a w g (Region.free_spec l s) m x trivial ?_;exact v_g (fun j w w' t=>⟨t,fun _ _=>trivial⟩) _ _ _ _ (hF (g.set m))
def WP (P:Program) (ah:Array Oper) (R:Act->W_->Prop) (H:l7) (fuel:Nat) (listed:Array Bool) (a:Act) (w:W_) (i:Nat):Prop :=
 RH P ah i (fun a' w'=>l0 .any ah H i w w'/\Fr P ah R H fuel (listed.setIfInBounds i true) a' w') a w
def C9 (i:Nat) (k:ah[i]?=some o)
  (h:∀(K:Act->W_->Prop) (e:Exit->Act->W_->Prop),(∀a' w',l0 .any ah H i w w'->Fr P ah R H fuel (listed.setIfInBounds i true) a' w'->K a' w') ->
   if Region.wanted o (yielded ah a.tmps) then o.wp P a w K e else K (a.put o.dst undef) w):WP P ah R H fuel listed a w i:=by
 unfold WP RH;simp only[k];exact h _ QF fun a' w' g j=>⟨g,j⟩
def Y1 (j:Region.ready .any ah listed≠[]) (h:∀i∈Region.ready .any ah listed,WP P ah R H fuel listed a w i):Fr P ah R H (fuel+1) listed a w:=fun k =>
 ⟨fun l=>absurd l j,fun i g=>v_f (fun a' w' e=>⟨e.1,e.2 (k.set g)⟩) (h i g)⟩
def Md (i:Nat) (l:ah[i]?=some o) (g:Region.ready .any ah listed=[i])
  (h:∀(K:Act->W_->Prop) (k:Exit->Act->W_->Prop),(∀a' w',l0 .any ah H i w w'->Fr P ah R H fuel (listed.setIfInBounds i true) a' w'->K a' w') ->
   if Region.wanted o (yielded ah a.tmps) then o.wp P a w K k else K (a.put o.dst undef) w):Fr P ah R H (fuel+1) listed a w :=
 Y1 (by rw[g];simp) fun j e=>by
  rw[g] at e
  obtain rfl:j=i:=by simpa using e
  exact C9 j l h
def v_p (i k:Nat) (g:Region.ready .any ah listed=[i,k]) (h:WP P ah R H fuel listed a w i) (l:WP P ah R H fuel listed a w k):Fr P ah R H (fuel+1) listed a w :=
 Y1 (by rw[g];simp) fun j e=>by
  rw[g] at e;rcases (by simpa using e:j=i\/j=k) with rfl|rfl
  ·exact h
  exact l
end
def fp (i:Nat) (hF:Fr P ah R H fuel (listed.setIfInBounds i true) a' w) (m:ah[i]?=some o := by rfl) (l:o.dst=some d := by rfl) (g:decide (d<a.tmps.size)=true := by kernel_rfl) (j:(Region.noSelect ah&&(Region.ready .any ah listed).contains i&&Region.free .any ah listed i)=true := by kernel_rfl) (h:∀ (W:W_) (K:Act->Prop),K a'->if Region.wanted o (yielded ah a.tmps) then o.still P a W K else K (a.put o.dst undef) := by intro W K h; go_simp; exact h):Fr P ah R H (fuel+1) listed a w:=TW i m l g j fun K k=>h w K (k a' (fun W=>h W (fun e=>e=a') rfl) hF)
def fq (i:Nat) (S:W_->Prop) (g:S w) (hF:Fr P ah R ((i,S)::H) fuel (listed.setIfInBounds i true) a' w) (p:ah[i]?=some o := by rfl) (n:o.dst=some d := by rfl) (k:decide (d<a.tmps.size)=true := by kernel_rfl) (l:(Region.noSelect ah&&(Region.ready .any ah listed).contains i&&Region.free .any ah listed i)=true := by kernel_rfl) (h:∀ (W:W_),S W->∀K:Act->Prop,K a'->if Region.wanted o (yielded ah a.tmps) then o.still P a W K else K (a.put o.dst undef) := by intro W j K h; go_simp; exact h):Fr P ah R H (fuel+1) listed a w:=w_h i S p n k l g fun K m=>h w g K (m a' (fun W j=>h W j (fun e=>e=a') rfl) hF)
def cw (i:Nat) {e:Addr} (j:w.cell? e=some v) (hF:Fr P ah R ((i,fun W=>W.cell? e=some v)::H) fuel (listed.setIfInBounds i true) a' w) (q:ah[i]?=some o := by rfl) (p:o.dst=some d := by rfl) (l:decide (d<a.tmps.size)=true := by kernel_rfl) (m:(Region.noSelect ah&&(Region.ready .any ah listed).contains i&&Region.free .any ah listed i)=true := by kernel_rfl) (h:∀ (W:W_),W.cell? e=some v->∀K:Act->Prop,K a'->if Region.wanted o (yielded ah a.tmps) then o.still P a W K else K (a.put o.dst undef) := by intro W k K h; go_simp; exact h):Fr P ah R H (fuel+1) listed a w:=w_h i (fun W=>W.cell? e=some v) q p l m j fun K n=>h w j K (n a' (fun W k=>h W k (fun g=>g=a') rfl) hF)
def fd (i:Nat) (h:∀ (K:Act->W_->Prop) (e:Exit->Act->W_->Prop),(∀a' w',l0 .any ah H i w w'->Fr P ah R H fuel (listed.setIfInBounds i true) a' w'->K a' w')->if Region.wanted o (yielded ah a.tmps) then o.wp P a w K e else K (a.put o.dst undef) w) (g:ah[i]?=some o := by rfl) (j:Region.ready .any ah listed=[i] := by kernel_rfl):Fr P ah R H (fuel+1) listed a w:=Md i g j h
def fe (h:R a w) (e:Region.ready .any ah listed=[] := by kernel_rfl):Fr P ah R H fuel listed a w:=fr_end e h
def fs {id:Nat} {l:List Oper} (h:Fr P l.toArray (Q .normal) [] l.length (Array.replicate l.length false) a w.drew) (hm:P.follows .mixedOrders=true := by kernel_rfl):(Code.region id l.toArray true).wp P Q a w:=v_K hm h
def oW {e:Region.Mode} {H:l7} (h:l0 e ah H j w w') (g:Bz e ah 60 j i=true := by kernel_rfl):l0 e ah ((i,S)::H) j w w':=l0.waits g h
def oK {e:Region.Mode} {H:l7} (g:S w') (h:l0 e ah H j w w'):l0 e ah ((i,S)::H) j w w':=l0.keeps g h
def oN {e:Region.Mode} :l0 e ah [] j w w':=l0.nil
end Go.Proofs.YtdkheklakfbeeaaGreatDoor
