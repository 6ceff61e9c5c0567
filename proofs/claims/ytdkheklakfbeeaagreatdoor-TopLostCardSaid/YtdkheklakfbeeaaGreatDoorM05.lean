/- Part 5 of the proof. -/
import Derived.Shelf.Strings.Builder1
import Derived.Shelf.Strings.Builder2
import Derived.Shelf.Small.Bits
import Derived.Shelf.Small.Wraps
import Derived.Shelf.Strings.BuilderF
import Derived.Shelf.Strings.BuilderK
import Derived.Shelf.Strings.Builder2Cap
import Derived.Shelf.Strconv.Itoa0
import Derived.Shelf.Sort.Plain
import Derived.Shelf.Strings.Prefix
import Derived.Shelf.Bits.Mul64
import Derived.Shelf.Strings.Repeat
import Derived.Shelf.Strings.BuilderCap
import Derived.Shelf.Slices.Turned
import Derived.Shelf.Slices.Reverse
import Derived.Ground.Names2Prog
import Derived.Shelf.Slices.Clone
import Derived.Shelf.Slices.SearchI
import Derived.Shelf.Slices.Cells
import Derived.Shelf.Slices.In.SortNone
import Derived.Ground.SlgnProg
import Derived.Shelf.SlicesE.Reverse
import Derived.Shelf.SlicesE.Clone
import Derived.Test.YtdkheklakfbeeaaGreatDoorProg
import Derived.Test.YtdkheklakfbeeaaGreatDoorM04
set_option linter.all false
set_option maxRecDepth 100000
set_option maxHeartbeats 16000000
namespace Go.Proofs.YtdkheklakfbeeaaGreatDoor
open Go.RowKit Tryz
def roundL:List Nat:=[0x428a2f98,0x71374491,0xb5c0fbcf,0xe9b5dba5,0x3956c25b,0x59f111f1,0x923f82a4,0xab1c5ed5,
 0xd807aa98,0x12835b01,0x243185be,0x550c7dc3,0x72be5d74,0x80deb1fe,0x9bdc06a7,0xc19bf174,
 0xe49b69c1,0xefbe4786,0x0fc19dc6,0x240ca1cc,0x2de92c6f,0x4a7484aa,0x5cb0a9dc,0x76f988da,
 0x983e5152,0xa831c66d,0xb00327c8,0xbf597fc7,0xc6e00bf3,0xd5a79147,0x06ca6351,0x14292967,
 0x27b70a85,0x2e1b2138,0x4d2c6dfc,0x53380d13,0x650a7354,0x766a0abb,0x81c2c92e,0x92722c85,
 0xa2bfe8a1,0xa81a664b,0xc24b8b70,0xc76c51a3,0xd192e819,0xd6990624,0xf40e3585,0x106aa070,
 0x19a4c116,0x1e376c08,0x2748774c,0x34b0bcb5,0x391c0cb3,0x4ed8aa4a,0x5b9cca4f,0x682e6ff3,
 0x748f82ee,0x78a5636f,0x84c87814,0x8cc70208,0x90befffa,0xa4506ceb,0xbef9a3f7,0xc67178f2]
theorem roundL_len:roundL.length=64:=rfl
theorem roundL_lt:W32 roundL:=by
 intro i;by_cases h:i<64
 ·have:∀j,j<64->roundL.getD j 0<4294967296:=by decide +kernel
  exact this i h
 ·rw[q_a,q_q (by rw[roundL_len];omega)];simp
def bs1 (e:Nat):Nat:=rol e 26 ^^^ rol e 21 ^^^ rol e 7
def bs0 (a:Nat):Nat:=rol a 30 ^^^ rol a 19 ^^^ rol a 10
def chf (e f g:Nat):Nat:=(e &&& f) ^^^ ((4294967295 ^^^ e) &&& g)
def mjf (a b c:Nat):Nat:=(a &&& b) ^^^ (a &&& c) ^^^ (b &&& c)
def pf (X:List Nat) (k x:Nat):Nat:=(X.getD 7 0+bs1 (X.getD 4 0)+chf (X.getD 4 0) (X.getD 5 0) (X.getD 6 0)+k+x) % 4294967296
def qf (X:List Nat):Nat:=(bs0 (X.getD 0 0)+mjf (X.getD 0 0) (X.getD 1 0) (X.getD 2 0)) % 4294967296
def rnd (X:List Nat) (k x:Nat):List Nat:=((X.take 1++X.take 7).set 0 ((pf X k x+qf X) % 4294967296)).set 4 ((X.getD 3 0+pf X k x) % 4294967296)
def rdI (V S:List Nat):Nat->List Nat
 | 0=>V
 | n+1=>rnd (rdI V S n) (roundL.getD n 0) (S.getD n 0)
theorem rnd_len {X:List Nat} (h:X.length=8) (k x:Nat):(rnd X k x).length=8:=by simp[rnd,h]
theorem rdI_len {V:List Nat} (h:V.length=8) (S:List Nat) (n:Nat):(rdI V S n).length=8:=by
 induction n with
 | zero=>exact h
 | succ n ih=>exact rnd_len ih _ _
theorem W32.shift {X:List Nat} (h:W32 X) (hl:X.length=8):W32 (X.take 1++X.take 7):=by
 intro i;rcases Nat.eq_zero_or_pos i with rfl|hp
 ·have:=h 0
  simpa[q_a,List.getElem?_append,hl] using this
 ·have hi:(X.take 1).length=1:=by simp[hl]
  rw[q_a,q_u (by rw[hi];omega),hi,List.getElem?_take];split
  ·exact h (i-1)
  ·simp
theorem rnd_lt {X:List Nat} (h:W32 X) (hl:X.length=8) (k x:Nat):W32 (rnd X k x):=((h.shift hl).set _ _ (q_z _ (by decide))).set _ _ (q_z _ (by decide))
theorem rdI_lt {V:List Nat} (h:W32 V) (hl:V.length=8) (S:List Nat) (n:Nat):W32 (rdI V S n):=by
 induction n with
 | zero=>exact h
 | succ n ih=>exact rnd_lt ih (rdI_len hl S n) _ _
def x_F (V X:List Nat) (i:Nat):List Nat:=(List.range 8).map fun j=>if j<i then (V.getD j 0+X.getD j 0) % 4294967296 else V.getD j 0
theorem x_9 (V X:List Nat) (i:Nat):(x_F V X i).length=8:=by simp[x_F]
theorem addV_at {V X:List Nat} {i j:Nat} (hj:j<8):(x_F V X i).getD j 0=if j<i then (V.getD j 0+X.getD j 0) % 4294967296 else V.getD j 0:=by
 unfold x_F;rw[q_a,q_j,q_n hj];rfl
theorem addV_zero {V:List Nat} (hV:V.length=8) (X:List Nat):x_F V X 0=V:=by
 refine q_G fun j=>?_;unfold x_F;rw[q_j];rcases Nat.lt_or_ge j 8 with h|h
 ·rw[q_n h,q_d (by omega)];simp[q_a,hV,h]
 ·rw[q_q (by simpa using h),q_q (by omega)];rfl
theorem addV_set {V X:List Nat} {i:Nat} (hi:i<8):(x_F V X i).set i ((V.getD i 0+X.getD i 0) % 4294967296)=x_F V X (i+1):=by
 refine q_G fun j=>?_;rw[q_C];have hl:=x_9 V X i;rcases Nat.lt_or_ge j 8 with h|h
 ·have h1:(x_F V X i)[j]?=some ((x_F V X i).getD j 0):=by rw[q_a,q_d (by omega)];rfl
  have h2:(x_F V X (i+1))[j]?=some ((x_F V X (i+1)).getD j 0):=by rw[q_a,q_d (by rw[x_9];omega)];rfl
  rw[h1,h2,addV_at h,addV_at h];by_cases e:i=j
  ·subst e;rw[if_pos rfl,if_pos (by omega),if_pos (by omega)]
  ·rw[if_neg e]
   by_cases h3:j<i
   ·rw[if_pos h3,if_pos (by omega)]
   ·rw[if_neg h3,if_neg (by omega)]
 ·rw[if_neg (by omega),q_q (by omega),q_q (by rw[x_9];omega)]
theorem addV_lt {V X:List Nat} (hV:W32 V) (i j:Nat):(x_F V X i).getD j 0<4294967296:=by
 rcases Nat.lt_or_ge j 8 with h|h
 ·rw[addV_at h];split
  ·exact q_z _ (by decide)
  ·exact hV j
 ·rw[q_a,q_q (by rw[x_9];omega)];decide
def blkF (V:List Nat) (l:List UInt8):List Nat:=x_F V (rdI V (x_a l) 64) 8
theorem alt {a b:Nat} (hb:b<4294967296):a &&& b<4294967296:=Nat.and_lt_two_pow (n:=32) _ hb
theorem sched_w32 (l:List UInt8):W32 (x_a l):=by
 refine scI_lt (fun i=>?_) 48;by_cases h:i<(y_V l).length
 ·rw[q_a,q_F h]
  unfold y_V;rw[q_j]
  cases e:(List.range (l.length / 4))[i]? with
  | none=>simp
  | some j=>exact beW_lt _ _
 ·rw[q_a,q_u (by omega),List.getElem?_replicate]
  split<;>simp
theorem run_index_u {t:TypeId} {n:Nat} (h:prog.underlying t=some (.array n 213)) {L:List Nat} (hL:L.length=n) (i:Nat) (hi:i<n) (w:World) :
  (Instr.index t (.agg (uv L).toArray) (.int .i64 i)).run prog w=.ok (.int .u32 (L.getD i 0:Nat)) w:=by
 have hb:0<=(i:Int)/\(i:Int)<(n:Int):=by omega
 have hx:(uv L).toArray[i]?=some (.int .u32 (L.getD i 0:Nat)):=by rw[q_p,uv_at L i (by omega)]
 have aj:=sizeU
 cases hq:prog.info? 213 with
 | none=>rw[hq] at aj;cases aj
 | some j =>
  rw[hq] at aj
  have hj:j.size=1:=by simpa using aj
  simp[Instr.index,run_underlying h,asIntOf,hb,go_sem,sizeOf,typeInfo,hq,hj,hx];rw[if_pos hi,uv_at L i (by omega)];simp[q_a]
def v_x:List Nat:=[0x6a09e667,0xbb67ae85,0x3c6ef372,0xa54ff53a,0x510e527f,0x9b05688c,0x1f83d9ab,0x5be0cd19]
def d64L:List Nat:=[0,1,56,2,57,49,28,3,61,58,42,50,38,29,17,4,62,47,59,36,45,43,51,22,53,39,33,30,24,18,12,5,63,55,48,27,60,41,37,16,46,35,44,21,52,32,23,11,54,26,40,15,34,20,31,10,25,14,19,9,13,8,7,6]
structure Lay (w:World):Prop where
 first:∃t fr,w.heap[1]?=some (.cells (uv v_x).toArray t fr)
 round:∃t fr,w.heap[2]?=some (.cells (uv roundL).toArray t fr)
 sizes:∃t fr,w.heap[0]?=some (.cells #[.int .i64 2,.int .i64 4,.int .i64 8,.int .i64 16] t fr)
 d64:∃t fr,w.heap[5]?=some (.cells (d64L.map fun (n:Nat)=>Value.int .u8 n).toArray t fr)
theorem Lay.kp {w w':World} {S:Nat->Prop} (h:Lay w) (k:Kp S w w') (hS:∀g,g<6->¬S g):Lay w':=by
 obtain ⟨⟨t1,f1,h1⟩,⟨t2,f2,h2⟩,⟨t3,f3,h3⟩,⟨t4,f4,h4⟩⟩:=h;exact ⟨⟨t1,f1,(k.block _ (q_K.1 h1).1 (hS _ (by decide))).trans h1⟩,⟨t2,f2,(k.block _ (q_K.1 h2).1 (hS _ (by decide))).trans h2⟩,⟨t3,f3,(k.block _ (q_K.1 h3).1 (hS _ (by decide))).trans h3⟩,⟨t4,f4,(k.block _ (q_K.1 h4).1 (hS _ (by decide))).trans h4⟩⟩
theorem Lay.no {w w':World} (h:Lay w) (k:Kp NoB w w'):Lay w':=h.kp k fun _ _ h=>h
theorem take_any (w:World) (hL:Lay w) (p:Nat) (sM:10<=p) (V:List Nat) (hV:V.length=8) (CX:W32 V) (r:ByteArray) (n:Int) (HP:Blk w p 273 (uv V++[Value.string r,Value.int .i64 n]).toArray) (s:ByteArray) (hs:s.size=64) :
  Cl 177 #[.pointer (some ⟨p,0,none⟩),.string s] w fun e w'=>e=.returned (.tuple #[])/\Blk w' p 273 (uv (blkF V s.data.toList)++[Value.string r,Value.int .i64 n]).toArray/\Kp (·=p) w w':=by
 have cM:=Zz HP;have bj:=Zz hL;have b6:=Zz hs;have fx:=Zz (sched_len s hs);have ll:=Zz (sched_w32 s.data.toList);have HF:Hid (blkF V s.data.toList=x_F V (rdI V (x_a s.data.toList) 64) 8):=Zz rfl;clear HP hL hs;go_enter func177,ntmps177
 go_upto_region 0 with fail
 refine region_take (by kernel_rfl) _ ?hQ _ _ rfl p V hV [Value.string r,Value.int .i64 n] s b6.o rfl rfl cM.o ?KC
 case hQ =>
  intro c0 a0 d0 v0 x0 h;simp only[Exit.then,Exit.inBlock] at h ⊢
  first
   | exact h
   | (simp +zetaDelta only[Exit.then,Exit.inBlock,bodyPost] at h ⊢;exact h)
   | (simp +zetaDelta [Exit.then,Exit.inBlock,bodyPost] at h)
 case KC =>
  intro _ _ _ _ _ _ G4 G5 w1 sL ln CY aA UP xC UQ xD bT;simp only[frT,Act.put,q_A,List.set_cons_zero,List.set_cons_succ];have bQ:=cM.o.lt;have fP:=bj.o.no (Kp.of_below bT _);obtain ⟨tg,fg,pR⟩:=fP.round
  have Iu:(uv roundL).toArray.size=64:=by rfl
  have dO:Kp (·=p) w w1:=.of_below bT _;have oU:=Zz sL;have Qv:=Zz ln;have nS:Hid (Blk w1 G5 271 (uv (rdI V (x_a s.data.toList) 0)).toArray):=Zz CY;have bh:=Zz dO;have rM:Hid (∀i,rdI V (x_a s.data.toList) (i+1)=rnd (rdI V (x_a s.data.toList) i) (roundL.getD i 0) ((x_a s.data.toList).getD i 0)):=Zz fun i=>rfl;have iA:=Zz (rdI_len hV (x_a s.data.toList));have AX:=Zz (rdI_lt CX hV (x_a s.data.toList));clear sL ln CY dO bT
  go_wp2_with (refine wpList_load_row rfl 313 (.global 2) rfl 2 rfl tg _ fg _ pR underlying313 rfl (by rw[Iu];exact x_C) ?_)
  clear pR Iu;generalize hS:x_a s.data.toList=S at *;clear hS;generalize rdI V S=X at *
  go_loopw [6,7,8,9,10,11,12,13,23] (fun _ _ _ _ _ _ _ _ s23 wr=>∃i:Nat,i<=64/\s23=.int .i64 i/\Hid (Blk wr G5 271 (uv (X i)).toArray)/\Hid (Blk wr G4 313 (uv S).toArray)/\Hid (Blk wr p 273 (uv V++[Value.string r,Value.int .i64 n]).toArray)/\Hid (Kp (·=p) w wr)) (fun _ _ _ _ _ _ _ _ s23 _=>64-(intOf s23).toNat)
  case atStart=>exact ⟨0,by omega,rfl,nS,Qv,oU,bh⟩
  case round =>
   clear nS Qv oU bh;obtain ⟨i,hi,rfl,H5,H4,ee,HB⟩:=hrel;by_cases af:i<64
   ·have bt:(i:Int)<64:=by omega
    have hk:=run_index_u underlying313 roundL_len i af wr;have ms:=Zz (rM.o i);have sN:=iA.o i;have lp:=Zz (AX.o i);have dN:=roundL_lt i;have AY:=ll.o i;have dx:wr.drew.cell? ⟨G4,i,none⟩=_:=z_E H4.o i (by rw[fx.o];exact af);generalize roundL.getD i 0=k at *;generalize S.getD i 0=x at *;generalize X i=Y at *;have la:=lp.o 0;have lb:=lp.o 1;have lc:=lp.o 2;have ld:=lp.o 3;have le:=lp.o 4;have lf:=lp.o 5;have lg:=lp.o 6;have lh:=lp.o 7;have c0:=z_E H5.o 0 (by omega);have c4:=z_E H5.o 4 (by omega);have d0:wr.drew.cell? ⟨G5,0,none⟩=_:=c0;have d1:wr.drew.cell? ⟨G5,1,none⟩=_:=z_E H5.o 1 (by omega);have d2:wr.drew.cell? ⟨G5,2,none⟩=_:=z_E H5.o 2 (by omega);have d3:wr.drew.cell? ⟨G5,3,none⟩=_:=z_E H5.o 3 (by omega);have d4:wr.drew.cell? ⟨G5,4,none⟩=_:=c4;have d5:wr.drew.cell? ⟨G5,5,none⟩=_:=z_E H5.o 5 (by omega);have d6:wr.drew.cell? ⟨G5,6,none⟩=_:=z_E H5.o 6 (by omega);have d7:wr.drew.cell? ⟨G5,7,none⟩=_:=z_E H5.o 7 (by omega);have ff:Hid (splice (uv Y) 1 (uv (Y.take 7))=uv (Y.take 1++Y.take 7)):=Zz (by unfold splice;rw[z_l,q_l,sN];simp[uv,sN,List.map_take]);have AZ:Hid (∀pq q3,rnd Y k x=((Y.take 1++Y.take 7).set 0 pq).set 4 q3\/True):=Zz fun _ _=>.inr trivial;have cz:=Zz sN;have pI:rnd Y k x=((Y.take 1++Y.take 7).set 0 ((pf Y k x+qf Y) % 4294967296)).set 4 ((Y.getD 3 0+pf Y k x) % 4294967296):=rfl;have CZ:pf Y k x=(Y.getD 7 0+bs1 (Y.getD 4 0)+chf (Y.getD 4 0) (Y.getD 5 0) (Y.getD 6 0)+k+x) % 4294967296:=rfl;have Qw:qf Y=(bs0 (Y.getD 0 0)+mjf (Y.getD 0 0) (Y.getD 1 0) (Y.getD 2 0)) % 4294967296:=rfl;generalize pf Y k x=pv at *;generalize qf Y=qv at *;have C3:=Zz CZ;have UR:=Zz Qw;have US:=Zz pI;clear CZ Qw pI AZ sN;generalize Y.getD 0 0=a at *;generalize Y.getD 1 0=b at *;generalize Y.getD 2 0=c at *;obtain ⟨d,rN⟩:∃d,d=Y.getD 3 0:=⟨_,rfl⟩;rw[<-rN] at d3;have sO:=Zz rN;clear rN;generalize Y.getD 4 0=e at *;generalize Y.getD 5 0=f at *;generalize Y.getD 6 0=g at *;generalize Y.getD 7 0=h at *;have Qy:Hid (Blk wr.drew G5 271 (uv Y).toArray):=H5;have Qz:Hid (Blk wr.drew G4 313 (uv S).toArray):=H4;have QA:Hid (Blk wr.drew p 273 (uv V++[Value.string r,Value.int .i64 n]).toArray):=ee;have QB:Hid (Kp (·=p) w wr.drew):=Zz HB.o.drew;have R1:=Zz (fun W=>y_0 e 6 6 rfl le (by decide) (by decide) W);have R2:=Zz (fun W=>y_0 e 11 11 rfl le (by decide) (by decide) W);have R3:=Zz (fun W=>y_0 e 25 25 rfl le (by decide) (by decide) W);have R4:=Zz (fun W=>y_0 a 2 2 rfl la (by decide) (by decide) W);have R5:=Zz (fun W=>y_0 a 13 13 rfl la (by decide) (by decide) W);have R6:=Zz (fun W=>y_0 a 22 22 rfl la (by decide) (by decide) W)
    have x1:bits .xor .u32 (bits .xor .u32 ((rol e (32-6):Nat):Int) ((rol e (32-11):Nat):Int)) ((rol e (32-25):Nat):Int)=((bs1 e:Nat):Int):=by
     rw[x_k _ _ (z_8 le) (z_8 le),x_k _ _ (xlt (z_8 le) (z_8 le)) (z_8 le)];rfl
    have x2:bits .xor .u32 (bits .xor .u32 ((rol a (32-2):Nat):Int) ((rol a (32-13):Nat):Int)) ((rol a (32-22):Nat):Int)=((bs0 a:Nat):Int):=by
     rw[x_k _ _ (z_8 la) (z_8 la),x_k _ _ (xlt (z_8 la) (z_8 la)) (z_8 la)];rfl
    generalize rol e (32-6)=p1 at *;generalize rol e (32-11)=p2 at *;generalize rol e (32-25)=p3 at *;generalize rol a (32-2)=p4 at *;generalize rol a (32-13)=p5 at *;generalize rol a (32-22)=p6 at *;generalize bs1 e=xx at *;generalize bs0 a=yy at *;have UT:chf e f g=(e &&& f) ^^^ ((4294967295 ^^^ e) &&& g):=rfl;have UU:mjf a b c=(a &&& b) ^^^ (a &&& c) ^^^ (b &&& c):=rfl
    have lm:(4294967295:Nat)<4294967296:=by decide
    have n1:bits .xor .u32 IntKind.u32.max (e:Int)=((4294967295 ^^^ e:Nat):Int):=x_k 4294967295 e lm le
    have n2:bits .xor .u32 (bits .and .u32 (e:Int) (f:Int)) (bits .and .u32 ((4294967295 ^^^ e:Nat):Int) (g:Int))=((chf e f g:Nat):Int):=by
     rw[and32 e f le lf,and32 _ g (xlt lm le) lg,x_k _ _ (alt lf) (alt lg)];rfl
    have n3:bits .xor .u32 (bits .xor .u32 (bits .and .u32 (a:Int) (b:Int)) (bits .and .u32 (a:Int) (c:Int))) (bits .and .u32 (b:Int) (c:Int))=((mjf a b c:Nat):Int):=by
     rw[and32 a b la lb,and32 a c la lc,and32 b c lb lc,x_k _ _ (alt lb) (alt lc),x_k _ _ (xlt (alt lb) (alt lc)) (alt lc)];rfl
    generalize 4294967295 ^^^ e=ne at *;generalize chf e f g=ch at *;generalize mjf a b c=mj at *;clear UT UU;have UV:=C3.o;have UW:=UR.o;obtain ⟨q1,js⟩:∃q,(h+xx) % 4294967296=q:=⟨_,rfl⟩;obtain ⟨q2,jt⟩:∃q,(q1+ch) % 4294967296=q:=⟨_,rfl⟩;obtain ⟨q3,Cs⟩:∃q,(q2+k) % 4294967296=q:=⟨_,rfl⟩
    have Iv:(q3+x) % 4294967296=pv:=by omega
    obtain ⟨z0,dB⟩:∃q,(pv+qv) % 4294967296=q:=⟨_,rfl⟩;obtain ⟨z4,A5⟩:∃q,(d+pv) % 4294967296=q:=⟨_,rfl⟩;have KD:=US.o;rw[dB,<-sO.o,A5] at KD;have KE:=Zz KD;have s1:=w_A h xx q1 js;have s2:=w_A q1 ch q2 jt;have s3:=w_A q2 k q3 Cs;have s4:=w_A q3 x pv Iv
    have s5:((yy:Int)+(mj:Int)) % 4294967296=(qv:Int):=by omega
    have s6:((pv:Int)+(qv:Int)) % 4294967296=(z0:Int):=by omega
    have s7:((d:Int)+(pv:Int)) % 4294967296=(z4:Int):=by omega
    clear UV UW js jt Cs Iv dB A5 KD;go_wp2
    go_still (by kernel_rfl)
    go_wp2_with fail;clear c0 c4 hk H5 H4 ee HB;generalize wr.drew=w2 at *;refine (R1.o _).mono ?_;rintro e w' ⟨rfl,rfl⟩;go_wp2_with fail;refine (R2.o _).mono ?_;rintro e w' ⟨rfl,rfl⟩;go_wp2_with fail;refine (R3.o _).mono ?_;rintro e w' ⟨rfl,rfl⟩;go_wp2_with fail;refine (R4.o _).mono ?_;rintro e w' ⟨rfl,rfl⟩;go_wp2_with fail;refine (R5.o _).mono ?_;rintro e w' ⟨rfl,rfl⟩;go_wp2_with fail;refine (R6.o _).mono ?_;rintro e w' ⟨rfl,rfl⟩;go_wp2;have H5'':Hid (Blk w2.drew.drew G5 271 (uv Y).toArray):=Qy;have H4'':Hid (Blk w2.drew.drew G4 313 (uv S).toArray):=Qz;have HP'':Hid (Blk w2.drew.drew p 273 (uv V++[Value.string r,Value.int .i64 n]).toArray):=QA;have HB'':Hid (Kp (·=p) w w2.drew.drew):=Zz QB.o.drew.drew
    go_still (by kernel_rfl)
    go_wp2;clear Qy Qz QA QB;have e1:w2.drew.drew=w2.drew.drew:=rfl;generalize uP:w2.drew=w3 at *;clear uP e1
    have et:∀j v,(uv (Y.take 7))[j]?=some v->w3.drew.cell? ((⟨G5,0,none⟩:Addr).add j)=some v:=fun j v hj=>by
     have UX:j<7:=by
      rcases Nat.lt_or_ge j 7 with h|h
      ·exact h
      ·rw[q_q (by rw[z_l,q_l];omega)] at hj;cases hj
     rw[y_M,q_D,H5''.o.cell,q_p,<-hj,show uv (Y.take 7)=(uv Y).take 7 from by simp[uv,List.map_take],List.getElem?_take,if_pos UX]
    have jv:=Zz et;clear et
    have QC:(uv (Y.take 7)).length=7:=by rw[z_l,q_l,cz.o];rfl
    have A6:=Zz QC;clear QC;have eM:=Zz (w_u (Y.take 7))
    go_still_tail 2,(by kernel_rfl)
    go_wp2_with (refine wpList_copy_own rfl (.tmp 85) (.tmp 86) 215 215 rfl 213 underlying215 sizeU G5 1 7 7 ⟨G5,0,none⟩ 7 8 rfl rfl _ 271 H5''.o (uv (Y.take 7)) A6.o jv.o (by rw[A6.o,q_y,z_l,cz.o];decide) eM.o ?_;go_must (
           have hsp:((uv Y).toArray.toList.take 1++(uv (Y.take 7)++(uv Y).toArray.toList.drop (1+(uv (Y.take 7)).length))).toArray=(uv (Y.take 1++Y.take 7)).toArray:=congrArg List.toArray ff.o;rw[hsp];clear hsp;have q5:=Zz (H5''.o.setRow (cs':=(uv (Y.take 1++Y.take 7)).toArray));have q4:=Zz (H4''.o.farRow (g:=G5) (cs':=(uv (Y.take 1++Y.take 7)).toArray) aA);have qp:=Zz (HP''.o.farRow (g:=G5) (cs':=(uv (Y.take 1++Y.take 7)).toArray) (q_E xC));have qb:=Zz (HB''.o.setRow G5 (uv (Y.take 1++Y.take 7)).toArray (.inr xD));obtain ⟨w4,Ba⟩:∃w4,w3.drew.setRow G5 (uv (Y.take 1++Y.take 7)).toArray=w4:=⟨_,rfl⟩;have fY:({ heap:=w3.heap,tape:=w3.tape,drawn:=w3.drawn+1,os:=w3.os,output:=w3.output }:World).setRow G5 (uv (Y.take 1++Y.take 7)).toArray=w4:=Ba;rw[Ba] at q5 q4 qp qb;rw[fY];clear fY;clear Ba
           have KF:(Y.take 1++Y.take 7).length=8:=by rw[q_b,q_l,q_l,cz.o];rfl
           have g0:=z_E q5.o 0 (by rw[KF];decide);have UY:=z_E q5.o 4 (by rw[KF];decide)
           have z4e:(Y.take 1++Y.take 7).getD 4 0=Y.getD 3 0:=by
            rw[q_a,q_u (by rw[q_l,cz.o];decide),q_l,cz.o,List.getElem?_take,if_pos (by decide),<-q_a];rfl
           rw[z4e,<-sO.o] at UY;generalize (Y.take 1++Y.take 7).getD 0 0=o0 at *;have fz0:=q5.o.frozen 0;have fz4:=q5.o.frozen 4;have k5:=fun x y:Nat=>x_I (x_I q5.o 0 x) 4 y;have K5:=Zz k5;have k4:=fun x y:Nat=>(q4.o.far (p:=⟨G5,0,none⟩) aA (.int .u32 x)).far (p:=⟨G5,4,none⟩) aA (.int .u32 y);have K4:=Zz k4;have kp:=fun x y:Nat=>(qp.o.far (p:=⟨G5,0,none⟩) (q_E xC) (.int .u32 x)).far (p:=⟨G5,4,none⟩) (q_E xC) (.int .u32 y);have KP:=Zz kp;have kb:=fun x y:Nat=>(qb.o.setCell ⟨G5,0,none⟩ (.int .u32 x) (.inr xD)).setCell ⟨G5,4,none⟩ (.int .u32 y) (.inr xD);have KB:=Zz kb
           clear k5 k4 kp kb q5 q4 qp qb z4e KF))
    go_roundw
    case rel=>exact ⟨i+1,by omega,by go_num,Zz (by rw[ms.o,KE.o];exact K5.o z0 z4),Zz (K4.o z0 z4),Zz (KP.o z0 z4),Zz (KB.o z0 z4)⟩
    case measure=>simp[intOf];omega
   ·have C4:i=64:=by omega
    have m9:¬((i:Int)<64):=by omega
    have C5:=Zz (iA.o i);have UZ:=Zz (AX.o i);have jM:Hid (blkF V s.data.toList=x_F V (X i) 8):=Zz (by rw[C4];exact HF.o);generalize U0:X i=Y at *;clear iA AX rM HF U0 C4;have pS:=H5.o
    go_wp2_with (refine wpList_load_row rfl 271 (.tmp 5) rfl G5 rfl 271 _ (0,0) _ H5.o underlying271 rfl (by rw[q_y,z_l,C5.o];exact w_C) ?_)
    go_loopw [14,15,99] (fun _ _ s99 wr=>∃i:Nat,i<=8/\s99=.int .i64 i/\Hid (Blk wr p 273 (uv (x_F V Y i)++[Value.string r,Value.int .i64 n]).toArray)/\Hid (Kp (·=p) w wr)) (fun _ _ s99 _=>8-(intOf s99).toNat)
    case atStart=>exact ⟨0,by omega,rfl,by rw[addV_zero hV];exact ee,HB⟩
    case round =>
     clear H5 H4 ee HB;obtain ⟨j,hj,rfl,ee,HB⟩:=hrel;by_cases af:j<8
     ·have cF:(j:Int)<8:=by omega
      have hk:=run_index_u underlying271 C5.o j af wr;have c0:=blk_hcell ee.o j (by rw[x_9];exact af);have fz:=ee.o.frozen j;rw[addV_at af,if_neg (Nat.lt_irrefl j)] at c0;have cL:∀x:Nat,Blk (wr.drew.setCell ⟨p,j,none⟩ (.int .u32 x)) p 273 (uv ((x_F V Y j).set j x)++[Value.string r,Value.int .i64 n]).toArray:=fun x=>blk_hset ee.o.drew j x (by rw[x_9];exact af);have bl:=Zz cL;clear cL;have aR:=Zz (addV_set (V:=V) (X:=Y) af);have iB:=Zz HB.o.drew;obtain ⟨q,hq⟩:∃q,(V.getD j 0+Y.getD j 0) % 4294967296=q:=⟨_,rfl⟩;have HQ:=Zz hq;generalize V.getD j 0=a at *;generalize Y.getD j 0=b at *;have hs:=w_A a b q hq;clear hq;go_wp2;have d0:wr.drew.cell? ⟨p,j,none⟩=_:=c0;have dz:wr.drew.frozen? ⟨p,j,none⟩=_:=fz
      go_still_tail 10,(by kernel_rfl)
      go_wp2;go_roundw
      case rel=>exact ⟨j+1,by omega,by go_num,Zz (by rw[<-aR.o,HQ.o];exact bl.o q),Zz (iB.o.setCell ⟨p,j,none⟩ _ (.inl rfl))⟩
      case measure=>simp[intOf];omega
     ·have U1:j=8:=by omega
      subst U1;go_wp2
      go_end0
      exact ⟨rfl,by rw[jM.o];exact ee.o,HB.o⟩
def eat (V:List Nat) (l:List UInt8):Nat->List Nat
 | 0=>V
 | n+1=>blkF (eat V l n) ((l.drop (64*n)).take 64)
theorem blkF_len (V:List Nat) (l:List UInt8):(blkF V l).length=8:=x_9 _ _ _
theorem blkF_lt {V:List Nat} (hV:W32 V) (l:List UInt8):W32 (blkF V l):=fun j=>addV_lt hV _ j
theorem v_n {V:List Nat} (hV:V.length=8) (l:List UInt8) (n:Nat):(eat V l n).length=8:=by
 cases n with
 | zero=>exact hV
 | succ n=>exact blkF_len _ _
theorem eat_lt {V:List Nat} (hV:W32 V) (l:List UInt8) (n:Nat):W32 (eat V l n):=by
 induction n with
 | zero=>exact hV
 | succ n ih=>exact blkF_lt ih _
theorem y_f (a b:List UInt8):bs a++bs b=bs (a++b):=by
 refine ByteArray.ext ?_;rw[ByteArray.data_append];simp[bs]
theorem z_0 (a:List UInt8) (i j:Nat):(bs a).extract i j=bs ((a.drop i).take (j-i)):=by
 refine ByteArray.ext ?_;rw[ByteArray.data_extract];simp[bs,List.extract_toArray]
def strLen:Value->Nat
 | .string s=>s.size
 | _=>0
theorem write_to (w:World) (hL:Lay w) (p:Nat) (sM:10<=p) (V:List Nat) (hV:V.length=8) (CX:W32 V) (r l:List UInt8) (n:Nat) (hn:n+l.length<=1000000000) (hr:r.length+l.length<=1000000000)
  (HP:Blk w p 273 (uv V++[Value.string (bs r),Value.int .i64 n]).toArray)
  (L:List UInt8) (oV:Hid (r++l=L)) (m:Nat) (mt:Hid (L.length / 64=m)) (n':Nat) (C6:Hid (n+l.length=n')) :
  Cl 126 #[.pointer (some ⟨p,0,none⟩),.string (bs l)] w fun e w'=>e=.returned (.tuple #[])/\Blk w' p 273 (uv (eat V L m)++[Value.string (bs (L.drop (64*m))),Value.int .i64 n']).toArray/\Kp (·=p) w w':=by
 have lT:=z_l V;rw[hV] at lT
 have c8:w.cell? ⟨p,8,none⟩=some (.string (bs r)):=by rw[HP.cell,q_p,q_u (by omega),lT];rfl
 have c9:w.cell? ⟨p,9,none⟩=some (.int .i64 n):=by rw[HP.cell,q_p,q_u (by omega),lT];rfl
 have f8:=HP.frozen 8;have f9:=HP.frozen 9
 have h0:¬(9223372036854775807<(bs r).size+(bs l).size):=by rw[z_b,z_b];omega
 have gv:=C6.o
 have ky:((n:Int)+(l.length:Int))=(n':Int):=by omega
 have hLn:L.length<=1000000000:=by
  have:=congrArg List.length oV.o;rw[q_b] at this;omega
 have H1:Blk (w.setCell ⟨p,9,none⟩ (.int .i64 n')) p 273 (uv V++[Value.string (bs r),Value.int .i64 n']).toArray:=by
  have:=HP.set_ 9 (.int .i64 n')
  rwa [q_A,List.set_append_right _ _ (by omega),lT] at this
 have QD:=Zz H1;have aW:=Zz ((Kp.refl (·=p) w).setCell ⟨p,9,none⟩ (.int .i64 n') (.inl rfl));have bj:=Zz hL;have nU:=y_f r l;rw[oV.o] at nU;have C7:=Zz nU
 have JR:n'<=1000000000:=by omega
 have aj:=z_b l;have U3:=z_b r
 have KH:¬(9223372036854775807<r.length+l.length):=by omega
 have rO:=Zz ky;clear H1 HP hL ky h0 nU gv oV C6;go_enter func126,ntmps126;go_wp2;rw[rO.o,C7.o];generalize w.setCell ⟨p,9,none⟩ (.int .i64 n')=w1 at *;clear c8 c9 f8 f9 KH U3 aj rO C7
 go_loopw [1] (fun s1 wr=>∃j:Nat,64*j<=L.length/\s1=.string (bs (L.drop (64*j)))/\Hid (Blk wr p 273 (uv (eat V L j)++[Value.string (bs r),Value.int .i64 n']).toArray)/\Hid (Kp (·=p) w wr)) (fun s1 _=>strLen s1)
 case atStart=>exact ⟨0,by omega,rfl,QD,aW⟩
 case round =>
  clear QD aW;obtain ⟨j,hj,rfl,HB,HK⟩:=hrel
  have aj:(bs (L.drop (64*j))).size=L.length-64*j:=by rw[z_b,List.length_drop]
  by_cases af:64*j+64<=L.length
  ·have m9:(64:Int)<=((L.length-64*j:Nat):Int):=by omega
   have ew:(bs (L.drop (64*j))).extract 0 64=bs ((L.drop (64*j)).take 64):=by rw[z_0];rfl
   have eN:(bs (L.drop (64*j))).extract 64 (L.length-64*j)=bs (L.drop (64*(j+1))):=by
    rw[z_0,List.drop_drop,q_t (by rw[List.length_drop];omega)];rfl
   have ht:=take_any wr (bj.o.kp HK.o (fun g hg=>by show ¬_=_;omega)) p sM (eat V L j) (v_n hV L j) (eat_lt CX L j) (bs r) (n':Int) HB.o (bs ((L.drop (64*j)).take 64)) (by rw[z_b,q_l,List.length_drop];omega);have HT:=Zz ht;have kC:=Zz eN;have U4:Hid (eat V L (j+1)=blkF (eat V L j) (bs ((L.drop (64*j)).take 64)).data.toList):=Zz rfl;have HZ:=Zz aj;clear ht;generalize bs (L.drop (64*j))=s at *;generalize bs ((L.drop (64*j)).take 64)=s0 at *;clear aj;have mu:s.size=L.length-64*j:=HZ.o;go_wp2_with fail;refine HT.o.mono ?_;rintro e w' ⟨rfl,Bb,QE⟩;have ak:=Zz Bb;have al:=Zz (HK.o.trans QE);clear Bb QE HB HK HT;go_wp2;go_roundw
   case rel=>exact ⟨j+1,by omega,by rw[<-kC.o],by rw[U4.o];exact ak,al⟩
   case measure=>unfold strLen;simp only;rw[z_b,List.length_drop,HZ.o];omega
  ·have U5:¬((64:Int)<=((L.length-64*j:Nat):Int)):=by omega
   have C8:L.length / 64=j:=by omega
   have uQ:=v_n hV L j;have sP:=z_l (eat V L j);rw[uQ] at sP;have f8:=HB.o.frozen 8
   have c8:wr.cell? ⟨p,8,none⟩=some (.string (bs r)):=by rw[HB.o.cell,q_p,q_u (by omega),sP];rfl
   have hb:=HB.o.set_ 8 (.string (bs (L.drop (64*j))));rw[q_A,List.set_append_right _ _ (by omega),sP] at hb;have C9:=Zz hb;have lq:=Zz (HK.o.setCell ⟨p,8,none⟩ (.string (bs (L.drop (64*j)))) (.inl rfl));have HJ:=Zz C8;clear uQ sP hb C8;generalize QG:bs (L.drop (64*j))=s at *;have gZ:=Zz QG;clear QG;go_wp2
   go_end0
   exact ⟨rfl,by rw[<-mt.o,HJ.o,gZ.o];exact C9.o,lq.o⟩
end Go.Proofs.YtdkheklakfbeeaaGreatDoor
section
open Go.Proofs.Tryz
namespace Go.Proofs
open Go.Shelf
def Tryz.lays169_ren:Go.Shelf.Ren:=⟨fun|169=>139|n=>n,fun|70=>230|9=>9|0=>0|72=>232|37=>105|127=>285|3=>3|5=>5|n=>n,fun|n=>n⟩
theorem Tryz.lays169:Go.Proofs.Lays.n169 prog Tryz.lays169_ren:={
 mixed:=by kernel_rfl
 f169:=func139.trans (congrArg some (by kernel_rfl))
 t0:=underlying0
 a0:=isAgg0
 z0:=sizeOf0
 v0:=zeroValue0
 t3:=underlying3
 a3:=isAgg3
 z3:=sizeOf3
 v3:=zeroValue3
 t9:=underlying9
 a9:=isAgg9
 z9:=sizeOf9
 v9:=zeroValue9
 t37:=underlying105
 a37:=isAgg105
 z37:=sizeOf105
 v37:=zeroValue105
 t70:=underlying230
 a70:=isAgg230
 z70:=sizeOf230
 v70:=zeroValue230
 t72:=underlying232
 a72:=isAgg232
 z72:=sizeOf232
 v72:=zeroValue232
 t127:=underlying285
 a127:=isAgg285
 z127:=sizeOf285
 v127:=zeroValue285 }
theorem Tryz.Builder_Extra_169:Builder.Extra prog Tryz.lays169_ren:={
 sizeBuilder:=by kernel_rfl
 liesBuilder:=by kernel_rfl
 t5:=underlying5
 a5:=isAgg5
 z5:=sizeOf5
 v5:=zeroValue5
 infoByte:=by kernel_rfl
 cellsByte:=by kernel_rfl
 sizeByte:=by kernel_rfl
 neB5:=by decide }
open Go.RowKit in
theorem Tryz.Builder_String_any (B b:Nat) (l:List UInt8) (w:World) (h:Lib.IsBuilder 232 5 B b (Lib.byteCells l) w) (hBw:B<=w.heap.size) :
  Calls prog 139 #[.pointer (some ⟨b,0,none⟩)] w fun e w'=>e=.returned (.string ⟨l.toArray⟩)/\Below B w w':=Any.Builder_String_any Tryz.lays169 Tryz.Builder_Extra_169 B b l w h hBw
open Go.RowKit in
theorem Tryz.Builder_String_f (B b:Nat) (l:List UInt8) (w:World) (h:Lib.IsBuilderF 232 5 B b (Lib.byteCells l) w) (h0:l≠[]) :
  Calls prog 139 #[.pointer (some ⟨b,0,none⟩)] w fun e w'=>e=.returned (.string ⟨l.toArray⟩)/\(Lib.IsBuilderF 232 5 B b (Lib.byteCells l) w'/\Below B w w'):=Any.Builder_String_f Tryz.lays169 Tryz.Builder_Extra_169 B b l w h h0
def Tryz.lays189_ren:Go.Shelf.Ren:=⟨fun|189=>97|125=>148|257=>147|128=>204|129=>205|294=>195|295=>196|296=>197|297=>198|298=>199|299=>200|216=>201|300=>202|301=>203|328=>235|329=>236|330=>237|331=>238|332=>239|215=>240|343=>259|n=>n,fun|28=>57|3=>3|46=>214|0=>0|51=>213|53=>29|4=>4|183=>288|182=>287|131=>293|5=>5|9=>9|218=>324|222=>277|228=>336|229=>337|n=>n,fun|n=>n⟩
theorem Tryz.lays189:Go.Proofs.Lays.n189 prog Tryz.lays189_ren:={
 mixed:=by kernel_rfl
 f125:=func148.trans (congrArg some (by kernel_rfl))
 f128:=func204.trans (congrArg some (by kernel_rfl))
 f129:=func205.trans (congrArg some (by kernel_rfl))
 f189:=func97.trans (congrArg some (by kernel_rfl))
 f215:=func240.trans (congrArg some (by kernel_rfl))
 f216:=func201.trans (congrArg some (by kernel_rfl))
 f257:=func147.trans (congrArg some (by kernel_rfl))
 f294:=func195.trans (congrArg some (by kernel_rfl))
 f295:=func196.trans (congrArg some (by kernel_rfl))
 f296:=func197.trans (congrArg some (by kernel_rfl))
 f297:=func198.trans (congrArg some (by kernel_rfl))
 f298:=func199.trans (congrArg some (by kernel_rfl))
 f299:=func200.trans (congrArg some (by kernel_rfl))
 f300:=func202.trans (congrArg some (by kernel_rfl))
 f301:=func203.trans (congrArg some (by kernel_rfl))
 f328:=func235.trans (congrArg some (by kernel_rfl))
 f329:=func236.trans (congrArg some (by kernel_rfl))
 f330:=func237.trans (congrArg some (by kernel_rfl))
 f331:=func238.trans (congrArg some (by kernel_rfl))
 f332:=func239.trans (congrArg some (by kernel_rfl))
 f343:=func259.trans (congrArg some (by kernel_rfl))
 t0:=underlying0
 a0:=isAgg0
 z0:=sizeOf0
 v0:=zeroValue0
 t3:=underlying3
 a3:=isAgg3
 z3:=sizeOf3
 v3:=zeroValue3
 t4:=underlying4
 a4:=isAgg4
 z4:=sizeOf4
 v4:=zeroValue4
 t5:=underlying5
 a5:=isAgg5
 z5:=sizeOf5
 v5:=zeroValue5
 t9:=underlying9
 a9:=isAgg9
 z9:=sizeOf9
 v9:=zeroValue9
 t28:=underlying57
 a28:=isAgg57
 z28:=sizeOf57
 v28:=zeroValue57
 t46:=underlying214
 a46:=isAgg214
 z46:=sizeOf214
 v46:=zeroValue214
 t51:=underlying213
 a51:=isAgg213
 z51:=sizeOf213
 v51:=zeroValue213
 t53:=underlying29
 a53:=isAgg29
 z53:=sizeOf29
 v53:=zeroValue29
 t131:=underlying293
 a131:=isAgg293
 z131:=sizeOf293
 v131:=zeroValue293
 t182:=underlying287
 a182:=isAgg287
 z182:=sizeOf287
 v182:=zeroValue287
 t183:=underlying288
 a183:=isAgg288
 z183:=sizeOf288
 v183:=zeroValue288
 t218:=underlying324
 a218:=isAgg324
 z218:=sizeOf324
 v218:=zeroValue324
 t222:=underlying277
 a222:=isAgg277
 z222:=sizeOf277
 v222:=zeroValue277
 t228:=underlying336
 a228:=isAgg336
 z228:=sizeOf336
 v228:=zeroValue336
 t229:=underlying337
 a229:=isAgg337
 z229:=sizeOf337
 v229:=zeroValue337 }
open Go.Sort Go.RowKit in
theorem Tryz.slices_Sort_int (blk off cap:Nat) (zs:List Int) (w:World) (hH:Holds (Value.int .i64) w blk off zs.toArray) (hblk:blk<w.heap.size) (hsz:zs.length<4611686018427387904) :
  Calls prog 97 #[.slice (some ⟨blk,off,none⟩) zs.length cap] w fun e w' =>
   e=.returned (.tuple #[])/\∃n os,w'=grow (putRow (Value.int .i64) (Sort.ahead w n) blk off (zs.mergeSort fun x y=>decide (x<=y)).toArray) os:=Any.slices_Sort_int Tryz.lays189 blk off cap zs w hH hblk hsz
def Tryz.lays212_ren:Go.Shelf.Ren:=⟨fun|212=>134|263=>186|264=>187|n=>n,fun|46=>214|51=>213|146=>281|53=>29|148=>283|n=>n,fun|n=>n⟩
theorem Tryz.lays212:Go.Proofs.Lays.n212 prog Tryz.lays212_ren:={
 mixed:=by kernel_rfl
 f212:=func134.trans (congrArg some (by kernel_rfl))
 f263:=func186.trans (congrArg some (by kernel_rfl))
 f264:=func187.trans (congrArg some (by kernel_rfl))
 t46:=underlying214
 a46:=isAgg214
 z46:=sizeOf214
 v46:=zeroValue214
 t51:=underlying213
 a51:=isAgg213
 z51:=sizeOf213
 v51:=zeroValue213
 t53:=underlying29
 a53:=isAgg29
 z53:=sizeOf29
 v53:=zeroValue29
 t146:=underlying281
 a146:=isAgg281
 z146:=sizeOf281
 v146:=zeroValue281
 t148:=underlying283
 a148:=isAgg283
 z148:=sizeOf283
 v148:=zeroValue283 }
open Go.RowKit Go.Lib in
theorem Tryz.bits_Mul (x y:Nat) (hx:x<18446744073709551616) (hy:y<18446744073709551616) (w:World) :
  Calls prog 134 #[.int .u64 x,.int .u64 y] w fun e w'=>e=.returned (.tuple #[.int .u64 (x*y / 18446744073709551616:Nat),.int .u64 (x*y % 18446744073709551616:Nat)])/\w'=w:=Any.bits_Mul Tryz.lays212 x y hx hy w
def Tryz.lays105_ren:Go.Shelf.Ren:=⟨fun|105=>92|212=>134|99=>135|165=>136|166=>137|170=>138|169=>139|263=>186|264=>187|206=>188|240=>189|241=>190|276=>232|277=>233|n=>n,fun|9=>9|3=>3|4=>4|20=>20|0=>0|46=>214|109=>227|5=>5|72=>232|76=>235|51=>213|146=>281|53=>29|148=>283|70=>230|37=>105|75=>234|127=>285|164=>321|80=>174|n=>n,fun|n=>n⟩
theorem Tryz.lays105:Go.Proofs.Lays.n105 prog Tryz.lays105_ren:={
 mixed:=by kernel_rfl
 f99:=func135.trans (congrArg some (by kernel_rfl))
 f105:=func92.trans (congrArg some (by kernel_rfl))
 f165:=func136.trans (congrArg some (by kernel_rfl))
 f166:=func137.trans (congrArg some (by kernel_rfl))
 f169:=func139.trans (congrArg some (by kernel_rfl))
 f170:=func138.trans (congrArg some (by kernel_rfl))
 f206:=func188.trans (congrArg some (by kernel_rfl))
 f212:=func134.trans (congrArg some (by kernel_rfl))
 f240:=func189.trans (congrArg some (by kernel_rfl))
 f241:=func190.trans (congrArg some (by kernel_rfl))
 f263:=func186.trans (congrArg some (by kernel_rfl))
 f264:=func187.trans (congrArg some (by kernel_rfl))
 f276:=func232.trans (congrArg some (by kernel_rfl))
 f277:=func233.trans (congrArg some (by kernel_rfl))
 t0:=underlying0
 a0:=isAgg0
 z0:=sizeOf0
 v0:=zeroValue0
 t3:=underlying3
 a3:=isAgg3
 z3:=sizeOf3
 v3:=zeroValue3
 t4:=underlying4
 a4:=isAgg4
 z4:=sizeOf4
 v4:=zeroValue4
 t5:=underlying5
 a5:=isAgg5
 z5:=sizeOf5
 v5:=zeroValue5
 t9:=underlying9
 a9:=isAgg9
 z9:=sizeOf9
 v9:=zeroValue9
 t20:=underlying20
 a20:=isAgg20
 z20:=sizeOf20
 v20:=zeroValue20
 t37:=underlying105
 a37:=isAgg105
 z37:=sizeOf105
 v37:=zeroValue105
 t46:=underlying214
 a46:=isAgg214
 z46:=sizeOf214
 v46:=zeroValue214
 t51:=underlying213
 a51:=isAgg213
 z51:=sizeOf213
 v51:=zeroValue213
 t53:=underlying29
 a53:=isAgg29
 z53:=sizeOf29
 v53:=zeroValue29
 t70:=underlying230
 a70:=isAgg230
 z70:=sizeOf230
 v70:=zeroValue230
 t72:=underlying232
 a72:=isAgg232
 z72:=sizeOf232
 v72:=zeroValue232
 t75:=underlying234
 a75:=isAgg234
 z75:=sizeOf234
 v75:=zeroValue234
 t76:=underlying235
 a76:=isAgg235
 z76:=sizeOf235
 v76:=zeroValue235
 t109:=underlying227
 a109:=isAgg227
 z109:=sizeOf227
 v109:=zeroValue227
 t127:=underlying285
 a127:=isAgg285
 z127:=sizeOf285
 v127:=zeroValue285
 t146:=underlying281
 a146:=isAgg281
 z146:=sizeOf281
 v146:=zeroValue281
 t148:=underlying283
 a148:=isAgg283
 z148:=sizeOf283
 v148:=zeroValue283
 t164:=underlying321
 a164:=isAgg321
 z164:=sizeOf321
 v164:=zeroValue321 }
theorem Tryz.Builder_Extra_105:Builder.Extra prog Tryz.lays105_ren:={
 sizeBuilder:=by kernel_rfl
 liesBuilder:=by kernel_rfl
 t5:=underlying5
 a5:=isAgg5
 z5:=sizeOf5
 v5:=zeroValue5
 infoByte:=by kernel_rfl
 cellsByte:=by kernel_rfl
 sizeByte:=by kernel_rfl
 neB5:=by decide }
open Go.RowKit Go.Lib in
theorem Tryz.strings_Repeat_main (s:ByteArray) (c:Nat) (w:World) (hc2:2<=c) (hc:c<=9223372036854775807) (hlen:s.size*c<=140737488355328) (h0:0<s.size) :
  Calls prog 92 #[.string s,.int .i64 c] w fun e w'=>e=.returned (.string ⟨(Lib.repeatL s.data.toList c).toArray⟩)/\Below w.heap.size w w':=Any.strings_Repeat_main Tryz.lays105 Tryz.Builder_Extra_105 s c w hc2 hc hlen h0
open Go.RowKit Go.Lib in
theorem Tryz.strings_Repeat_zero (s:ByteArray) (w:World) :
  Calls prog 92 #[.string s,.int .i64 0] w fun e w'=>e=.returned (.string ⟨#[]⟩)/\w'=w:=Any.strings_Repeat_zero Tryz.lays105 s w
open Go.RowKit Go.Lib in
theorem Tryz.strings_Repeat (s:ByteArray) (c:Nat) (w:World) (hc:c<=9223372036854775807) (hlen:s.size*c<=140737488355328) :
  Calls prog 92 #[.string s,.int .i64 c] w fun e w'=>e=.returned (.string ⟨(Lib.repeatL s.data.toList c).toArray⟩)/\Below w.heap.size w w':=Any.strings_Repeat Tryz.lays105 Tryz.Builder_Extra_105 s c w hc hlen
def Tryz.lays107_ren:Go.Shelf.Ren:=⟨fun|107=>99|108=>149|n=>n,fun|28=>57|3=>3|4=>4|0=>0|n=>n,fun|n=>n⟩
theorem Tryz.lays107:Go.Proofs.Lays.n107 prog Tryz.lays107_ren:={
 mixed:=by kernel_rfl
 f107:=func99.trans (congrArg some (by kernel_rfl))
 f108:=func149.trans (congrArg some (by kernel_rfl))
 t0:=underlying0
 a0:=isAgg0
 z0:=sizeOf0
 v0:=zeroValue0
 t3:=underlying3
 a3:=isAgg3
 z3:=sizeOf3
 v3:=zeroValue3
 t4:=underlying4
 a4:=isAgg4
 z4:=sizeOf4
 v4:=zeroValue4
 t28:=underlying57
 a28:=isAgg57
 z28:=sizeOf57
 v28:=zeroValue57 }
open Go.Lib in
theorem Tryz.slices_Contains_int (b off n c:Nat) (zs:List Int) (x:Int) (w:World) (hz:n<=zs.length) (hbig:n<=9223372036854775807) (hc:∀j,j<zs.length->w.cell? ⟨b,off+j,none⟩=some (.int .i64 (zs.getD j 0))) :
  Calls prog 99 #[.slice (some ⟨b,off,none⟩) n c,.int .i64 x] w fun e w'=>e=.returned (.bool ((zs.take n).contains x))/\w'=w:=Any.slices_Contains_int Tryz.lays107 b off n c zs x w hz hbig hc
open Go.Lib in
theorem Tryz.slices_Contains_int_empty (a:Option Addr) (c:Nat) (x:Int) (w:World) :
  Calls prog 99 #[.slice a 0 c,.int .i64 x] w fun e w'=>e=.returned (.bool false)/\w'=w:=Any.slices_Contains_int_empty Tryz.lays107 a c x w
def Tryz.lays112_ren:Go.Shelf.Ren:=⟨fun|112=>225|n=>n,fun|28=>57|3=>3|4=>4|0=>0|n=>n,fun|n=>n⟩
theorem Tryz.lays112:Go.Proofs.Lays.n112 prog Tryz.lays112_ren:={
 mixed:=by kernel_rfl
 f112:=func225.trans (congrArg some (by kernel_rfl))
 t0:=underlying0
 a0:=isAgg0
 z0:=sizeOf0
 v0:=zeroValue0
 t3:=underlying3
 a3:=isAgg3
 z3:=sizeOf3
 v3:=zeroValue3
 t4:=underlying4
 a4:=isAgg4
 z4:=sizeOf4
 v4:=zeroValue4
 t28:=underlying57
 a28:=isAgg57
 z28:=sizeOf57
 v28:=zeroValue57 }
open Go.RowKit Go.Lib Go.Sort in
theorem Tryz.slices_Reverse_int_cells (b off n c:Nat) (zs:List Int) (w:World) (hz:n<=zs.length) (hbig:n<=9223372036854775807) (hc:∀j,j<zs.length->w.cell? ⟨b,off+j,none⟩=some (.int .i64 (zs.getD j 0))) (hf:∀j,j<n->w.frozen? ⟨b,off+j,none⟩=false) :
  Calls prog 225 #[.slice (some ⟨b,off,none⟩) n c] w fun e w'=>e=.returned (.tuple #[])/\∃q,w'=(w.drewN q).setCells b off ((zs.take n).reverse.map (Value.int .i64)):=Any.slices_Reverse_int_cells Tryz.lays112 b off n c zs w hz hbig hc hf
open Go.RowKit Go.Sort in
theorem Tryz.slices_Sort_int_none (p:Option Addr) (cap:Nat) (w:World) :
  Calls prog 97 #[.slice p 0 cap] w fun e w'=>e=.returned (.tuple #[])/\w'=w:=Any.slices_Sort_int_none Tryz.lays189 p cap w
end Go.Proofs
end
section
open Go.Proofs.Tryz
namespace Go.Proofs
open Go.Shelf
theorem Tryz.lays166:Go.Proofs.Lays.n166 prog Tryz.lays105_ren:={
 mixed:=Tryz.lays105.mixed
 f166:=Tryz.lays105.f166
 f240:=Tryz.lays105.f240
 f276:=Tryz.lays105.f276
 t0:=Tryz.lays105.t0
 a0:=Tryz.lays105.a0
 z0:=Tryz.lays105.z0
 v0:=Tryz.lays105.v0
 t3:=Tryz.lays105.t3
 a3:=Tryz.lays105.a3
 z3:=Tryz.lays105.z3
 v3:=Tryz.lays105.v3
 t4:=Tryz.lays105.t4
 a4:=Tryz.lays105.a4
 z4:=Tryz.lays105.z4
 v4:=Tryz.lays105.v4
 t9:=Tryz.lays105.t9
 a9:=Tryz.lays105.a9
 z9:=Tryz.lays105.z9
 v9:=Tryz.lays105.v9
 t20:=Tryz.lays105.t20
 a20:=Tryz.lays105.a20
 z20:=Tryz.lays105.z20
 v20:=Tryz.lays105.v20
 t37:=Tryz.lays105.t37
 a37:=Tryz.lays105.a37
 z37:=Tryz.lays105.z37
 v37:=Tryz.lays105.v37
 t70:=Tryz.lays105.t70
 a70:=Tryz.lays105.a70
 z70:=Tryz.lays105.z70
 v70:=Tryz.lays105.v70
 t72:=Tryz.lays105.t72
 a72:=Tryz.lays105.a72
 z72:=Tryz.lays105.z72
 v72:=Tryz.lays105.v72
 t75:=Tryz.lays105.t75
 a75:=Tryz.lays105.a75
 z75:=Tryz.lays105.z75
 v75:=Tryz.lays105.v75
 t164:=Tryz.lays105.t164
 a164:=Tryz.lays105.a164
 z164:=Tryz.lays105.z164
 v164:=Tryz.lays105.v164
}
open Go.RowKit in
theorem Tryz.Builder_WriteString (B b:Nat) (bs:List Value) (s:ByteArray) (w:World) (h:Lib.IsBuilder 232 5 B b bs w) (hlen:bs.length+s.size<=140737488355328) (hBw:B<=w.heap.size) :
  Calls prog 137 #[.pointer (some ⟨b,0,none⟩),.string s] w fun e w'=>e=.returned (.tuple #[.int .i64 s.size,.nilIface])/\(Lib.BuilderAt 232 5 B b (.pointer (some ⟨b,0,none⟩)) (bs++Lib.strCells s) w'/\Below B w w'):=Any.Builder_WriteString Tryz.lays166 Tryz.Builder_Extra_105 B b bs s w h hlen hBw
open Go.RowKit in
theorem Tryz.Builder_WriteString_k (B b:Nat) (bs:List Value) (s:ByteArray) (w:World) (h:Lib.IsBuilderF 232 5 B b bs w) (hlen:bs.length+s.size<=140737488355328) (hBw:B<=w.heap.size) :
  Calls prog 137 #[.pointer (some ⟨b,0,none⟩),.string s] w fun e w'=>e=.returned (.tuple #[.int .i64 s.size,.nilIface])/\(Lib.BuilderAtF 232 5 B b (.pointer (some ⟨b,0,none⟩)) (bs++Lib.strCells s) w'/\Below B w w'/\Lib.OthersKept 5 (some b) w w'):=Any.Builder_WriteString_k Tryz.lays166 Tryz.Builder_Extra_105 B b bs s w h hlen hBw
end Go.Proofs
end
