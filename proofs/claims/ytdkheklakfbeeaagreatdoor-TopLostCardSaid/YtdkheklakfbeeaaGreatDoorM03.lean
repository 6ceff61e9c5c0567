/- Part 3 of the proof. -/
import Derived.Lib.EndianBits
import Derived.StillTailTactics
import Derived.Laws.CopyOwn
import Derived.Deep.MidRow
import Derived.Laws.Tables
import Derived.Test.YtdkheklakfbeeaaGreatDoorM02
set_option linter.all false
set_option maxRecDepth 100000
set_option maxHeartbeats 16000000
namespace Go.Proofs.YtdkheklakfbeeaaGreatDoor
open Go.RowKit Tryz
def rol (x n:Nat):Nat:=(x*2 ^ n % 4294967296) ||| (x / 2 ^ (32-n))
theorem z_8 {x n:Nat} (h:x<4294967296):rol x n<4294967296:=by
 unfold rol;refine Nat.or_lt_two_pow (n:=32) (q_z _ (by decide)) ?_;exact Nat.lt_of_le_of_lt (Nat.div_le_self _ _) h
def uv (L:List Nat):List Value:=L.map fun x:Nat=>Value.int .u32 x
theorem z_l (L:List Nat):(uv L).length=L.length:=by simp[uv]
theorem uv_at (L:List Nat) (i:Nat) (h:i<L.length):(uv L)[i]?=some (.int .u32 (L.getD i 0:Nat)):=by
 simp[uv,q_a,h]
theorem uv_set (L:List Nat) (i x:Nat):(uv L).set i (.int .u32 x)=uv (L.set i x):=by simp[uv,List.map_set]
def b8 (x:Nat):UInt8:=UInt8.ofNat (x % 256)
theorem b8_int (x:Nat):((b8 x).toNat:Int)=(x:Int) % 256:=by
 unfold b8;rw[UInt8.toNat_ofNat',Nat.mod_mod];omega
theorem w_5 (x:Nat):(b8 x).toNat=x % 256:=by
 unfold b8;rw[UInt8.toNat_ofNat',Nat.mod_mod]
def be4 (x:Nat):List UInt8:=[b8 (x / 16777216),b8 (x / 65536),b8 (x / 256),b8 x]
def le4 (x:Nat):List UInt8:=[b8 x,b8 (x / 256),b8 (x / 65536),b8 (x / 16777216)]
def beL (L:List Nat):List UInt8:=L.flatMap be4
def leL (L:List Nat):List UInt8:=L.flatMap le4
theorem x_v (L:List Nat):(beL L).length=4*L.length:=by
 induction L with
 | nil=>rfl
 | cons x L ih=>simp only[beL,List.flatMap_cons,q_b,List.length_cons] at ih ⊢;rw[ih];simp[be4];omega
theorem v_g (L:List Nat):(leL L).length=4*L.length:=by
 induction L with
 | nil=>rfl
 | cons x L ih=>simp only[leL,List.flatMap_cons,q_b,List.length_cons] at ih ⊢;rw[ih];simp[le4];omega
def beW (l:List UInt8) (i:Nat):Nat:=(l.getD (4*i) 0).toNat*16777216+(l.getD (4*i+1) 0).toNat*65536+(l.getD (4*i+2) 0).toNat*256+(l.getD (4*i+3) 0).toNat
def leW (l:List UInt8) (i:Nat):Nat:=(l.getD (4*i) 0).toNat+(l.getD (4*i+1) 0).toNat*256+(l.getD (4*i+2) 0).toNat*65536+(l.getD (4*i+3) 0).toNat*16777216
def y_V (l:List UInt8):List Nat:=(List.range (l.length / 4)).map (beW l)
def y_k (l:List UInt8):List Nat:=(List.range (l.length / 4)).map (leW l)
theorem y_C (u:UInt8):u.toNat<256:=u.toNat_lt
theorem beW_lt (l:List UInt8) (i:Nat):beW l i<4294967296:=by
 unfold beW;have:=y_C (l.getD (4*i) 0);have:=y_C (l.getD (4*i+1) 0);have:=y_C (l.getD (4*i+2) 0);have:=y_C (l.getD (4*i+3) 0);omega
theorem leW_lt (l:List UInt8) (i:Nat):leW l i<4294967296:=by
 unfold leW;have:=y_C (l.getD (4*i) 0);have:=y_C (l.getD (4*i+1) 0);have:=y_C (l.getD (4*i+2) 0);have:=y_C (l.getD (4*i+3) 0);omega
theorem or32 (a b:Nat) (ha:a<4294967296) (hb:b<4294967296):bits .or .u32 (a:Int) (b:Int)=((a ||| b:Nat):Int):=(bits_nat .u32 32 (by decide) wraps_u32 a b ha hb).2
theorem and32 (a b:Nat) (ha:a<4294967296) (hb:b<4294967296):bits .and .u32 (a:Int) (b:Int)=((a &&& b:Nat):Int):=(bits_nat .u32 32 (by decide) wraps_u32 a b ha hb).1
theorem x_k (a b:Nat) (ha:a<4294967296) (hb:b<4294967296):bits .xor .u32 (a:Int) (b:Int)=((a ^^^ b:Nat):Int):=w_x .u32 32 (by decide) wraps_u32 a b ha hb
theorem v_t (x n:Nat) (ni:Int) (Cn:ni=n) (hx:x<4294967296) (hn:n<32) (w:World) :
  Cl 254 #[.int .u32 x,.int .i64 ni] w fun e w'=>e=.returned (.int .u32 (rol x n:Nat))/\w=w':=by
 subst Cn
 have he:bits .or .u32 ((x:Int)*2 ^ (n % 32) % 4294967296) ((x:Int) / 2 ^ (32-n % 32))=((rol x n:Nat):Int):=by
  rw[Nat.mod_eq_of_lt hn]
  have e1:(x:Int)*2 ^ n % 4294967296=((x*2 ^ n % 4294967296:Nat):Int):=by rw[Int.natCast_emod,Int.natCast_mul,Int.natCast_pow];rfl
  have e2:(x:Int) / 2 ^ (32-n)=((x / 2 ^ (32-n):Nat):Int):=by rw[Int.natCast_ediv,Int.natCast_pow];rfl
  rw[e1,e2,or32 _ _ (q_z _ (by decide)) (Nat.lt_of_le_of_lt (Nat.div_le_self _ _) hx)];rfl
 have HE:=Zz he;clear he;go_enter func254,ntmps254;go_wp2;go_ret;exact ⟨by rw[<-HE.o];rfl,rfl⟩
theorem y_0 (x n:Nat) (ni:Int) (Cn:ni=n) (hx:x<4294967296) (Co:0<n) (hn:n<32) (w:World) :
  Cl 228 #[.int .u32 x,.int .i64 ni] w fun e w'=>e=.returned (.int .u32 (rol x (32-n):Nat))/\w=w':=by
 subst Cn;have hc:=fun k (hk:k=((32-n:Nat):Int))=>v_t x (32-n) k hk hx (by omega) w;have HC:=Zz hc;clear hc;go_enter func228,ntmps228;go_wp2_with fail;refine (HC.o _ (by omega)).mono ?_;rintro e w' ⟨rfl,rfl⟩;go_wp2;go_ret;exact ⟨rfl,rfl⟩
theorem big1_any (a b c d:UInt8) (w:World) :
  Cl 256 #[.int .u32 a.toNat,.int .u32 b.toNat,.int .u32 c.toNat,.int .u32 d.toNat] w fun e w'=>e=.returned (.int .u32 (a.toNat*16777216+b.toNat*65536+c.toNat*256+d.toNat:Nat))/\w=w':=by
 have ha:=y_C a;have hb:=y_C b;have hc:=y_C c;have hd:=y_C d
 have h1:bits .or .u32 ((a.toNat:Int)*16777216) ((b.toNat:Int)*65536)=(a.toNat:Int)*16777216+(b.toNat:Int)*65536:=by
  have:=bits_join .u32 32 (by decide) wraps_u32 24 ((a.toNat:Int)*16777216) ((b.toNat:Int)*65536) (by omega) (by omega) (by omega) (by omega) (by omega) (by omega);exact this
 have h2:bits .or .u32 ((a.toNat:Int)*16777216+(b.toNat:Int)*65536) ((c.toNat:Int)*256)=(a.toNat:Int)*16777216+(b.toNat:Int)*65536+(c.toNat:Int)*256 :=
  bits_join .u32 32 (by decide) wraps_u32 16 _ _ (by omega) (by omega) (by omega) (by omega) (by omega) (by omega)
 have h3:bits .or .u32 ((a.toNat:Int)*16777216+(b.toNat:Int)*65536+(c.toNat:Int)*256) (d.toNat:Int)=(a.toNat:Int)*16777216+(b.toNat:Int)*65536+(c.toNat:Int)*256+(d.toNat:Int) :=
  bits_join .u32 32 (by decide) wraps_u32 8 _ _ (by omega) (by omega) (by omega) (by omega) (by omega) (by omega)
 have HE:Hid (bits .or .u32 (bits .or .u32 (bits .or .u32 ((a.toNat:Int)*16777216) ((b.toNat:Int)*65536)) ((c.toNat:Int)*256)) (d.toNat:Int)=((a.toNat*16777216+b.toNat*65536+c.toNat*256+d.toNat:Nat):Int)):=Zz (by rw[h1,h2,h3];omega);clear h1 h2 h3;go_enter func256,ntmps256;go_wp2;go_ret;exact ⟨by rw[<-HE.o];rfl,rfl⟩
theorem little1_any (a b c d:UInt8) (w:World) :
  Cl 269 #[.int .u32 a.toNat,.int .u32 b.toNat,.int .u32 c.toNat,.int .u32 d.toNat] w fun e w'=>e=.returned (.int .u32 (a.toNat+b.toNat*256+c.toNat*65536+d.toNat*16777216:Nat))/\w=w':=by
 have ha:=y_C a;have hb:=y_C b;have hc:=y_C c;have hd:=y_C d;have h1:bits .or .u32 (a.toNat:Int) ((b.toNat:Int)*256)=(a.toNat:Int)+(b.toNat:Int)*256:=u32_or8 _ _ (by omega) (by omega) (by omega) (by omega) (by omega);have h2:bits .or .u32 ((a.toNat:Int)+(b.toNat:Int)*256) ((c.toNat:Int)*65536)=(a.toNat:Int)+(b.toNat:Int)*256+(c.toNat:Int)*65536:=u32_or16 _ _ (by omega) (by omega) (by omega) (by omega) (by omega);have h3:bits .or .u32 ((a.toNat:Int)+(b.toNat:Int)*256+(c.toNat:Int)*65536) ((d.toNat:Int)*16777216)=(a.toNat:Int)+(b.toNat:Int)*256+(c.toNat:Int)*65536+(d.toNat:Int)*16777216:=u32_or24 _ _ (by omega) (by omega) (by omega) (by omega) (by omega);have HE:Hid (bits .or .u32 (bits .or .u32 (bits .or .u32 (a.toNat:Int) ((b.toNat:Int)*256)) ((c.toNat:Int)*65536)) ((d.toNat:Int)*16777216)=((a.toNat+b.toNat*256+c.toNat*65536+d.toNat*16777216:Nat):Int)):=Zz (by rw[h1,h2,h3];omega);clear h1 h2 h3;go_enter func269,ntmps269;go_wp2;go_ret;exact ⟨by rw[<-HE.o];rfl,rfl⟩
theorem infoU:(prog.info? 213).map (fun i=>(i.zero,i.size,i.bytes))=some (some (.int .u32 0),1,4):=by kernel_rfl
theorem v_7 (m:Nat) (hm:m<=1000000):∀W:World,(Instr.makeSlice 215 (.int .i64 m) (.int .i64 m)).run prog W=.ok (.slice (some ⟨W.heap.size,0,none⟩) m m) (W.alloc (.cells (madeCells #[.int .u32 0] m) 213)):=by
 intro W;exact run_make_row' 215 213 (.int .u32 0) 4 underlying215 infoU rfl .i64 .i64 m (by omega) (by omega) W
theorem Own.made_words (W:World) (base n:Nat) (hb:base<=W.heap.size) (hn:n<=1000000):Own (W.alloc (.cells (madeCells #[.int .u32 0] n) 213)) base 213 (.slice (some ⟨W.heap.size,0,none⟩) n n) (uv (List.replicate n 0)):=by
 have h:=Own.lit_ W base 213 (madeCells #[.int .u32 0] n) hb (by simp[size_madeCells,maxLen];omega)
 have e1:(madeCells #[Value.int .u32 0] n).size=n:=by simp[size_madeCells]
 have e2:(madeCells #[Value.int .u32 0] n).toList=uv (List.replicate n 0):=by rw[toList_madeCells_one];simp only[uv,List.map_replicate];rfl
 rwa [e1,e2] at h
theorem own_uset {W:World} {base G k c:Nat} {L:List Nat} (h:Own W base 213 (.slice (some ⟨G,0,none⟩) k c) (uv L)) (hl:L.length=k) (j x:Nat):Own (W.setCell ⟨G,j,none⟩ (.int .u32 x)) base 213 (.slice (some ⟨G,0,none⟩) k c) (uv (L.set j x)):=by
 have h':Own W base 213 (.slice (some ⟨G,0,none⟩) (uv L).length c) (uv L):=by rw[z_l,hl];exact h
 have:=h'.set_ j (.int .u32 x);rw[uv_set,z_l,hl] at this;exact this
theorem x_K {W:World} {base G k c:Nat} {L:List Nat} (h:Own W base 213 (.slice (some ⟨G,0,none⟩) k c) (uv L)) (hl:L.length=k) (j:Nat) (hj:j<k):W.cell? ⟨G,j,none⟩=some (.int .u32 (L.getD j 0:Nat)):=by
 have h':Own W base 213 (.slice (some ⟨G,0,none⟩) (uv L).length c) (uv L):=by rw[z_l,hl];exact h
 rw[h'.cell j (by rw[z_l,hl];exact hj),uv_at L j (by rw[hl];exact hj)]
def wds (f:Nat->Nat) (n i:Nat):List Nat:=(List.range n).map fun j=>if j<i then f j else 0
theorem wds_len (f:Nat->Nat) (n i:Nat):(wds f n i).length=n:=by simp[wds]
theorem wds_zero (f:Nat->Nat) (n:Nat):wds f n 0=List.replicate n 0:=by
 unfold wds;apply q_m (by simp);intro j h1 h2;simp
theorem wds_all (f:Nat->Nat) (n:Nat):wds f n n=(List.range n).map f:=by
 unfold wds;apply List.map_congr_left;intro j hj;rw[if_pos (List.mem_range.1 hj)]
theorem wds_set (f:Nat->Nat) (n i:Nat) (h:i<n):(wds f n i).set i (f i)=wds f n (i+1):=by
 apply q_m (by simp[wds]);intro j h1 h2;rw[List.getElem_set];by_cases e:i=j
 ·subst e;rw[if_pos rfl];simp[wds]
 ·rw[if_neg e]
  have:(j<i)=(j<i+1):=by rw[eq_iff_iff];omega
  simp only[wds,List.getElem_map,List.getElem_range,this]
theorem eachBig (w:World) (s:ByteArray) (hs:s.size<=1000000) (h4:s.size % 4=0) :
  Cl 255 #[.string s,.func (.func 256) #[] #[]] w fun e w'=>∃v,e=.returned (.tuple #[v,.int .i64 0])/\Own w' w.heap.size 213 v (uv (y_V s.data.toList))/\Below w.heap.size w w':=by
 obtain ⟨n,hn⟩:∃n,s.size=4*n:=⟨s.size / 4,by omega⟩
 have hq:s.data.toList.length / 4=n:=by rw[z_n];omega
 have aO:wds (beW s.data.toList) n n=y_V s.data.toList:=by rw[wds_all];unfold y_V;rw[hq]
 rw[<-aO];have bK:=v_7 n (by omega) w;have cf:=Own.made_words w w.heap.size n (q_e _) (by omega);rw[<-wds_zero (beW s.data.toList) n] at cf;have bx:=(Below.refl w.heap.size w).alloc (q_e _) (.cells (madeCells #[.int .u32 0] n) 213);obtain ⟨w0,dX⟩:∃w0,w.alloc (.cells (madeCells #[.int .u32 0] n) 213)=w0:=⟨_,rfl⟩;rw[dX] at bK cf bx;obtain ⟨G,hG,AR⟩:∃G,G=w.heap.size/\w.heap.size<=G:=⟨_,rfl,q_e _⟩
 have iT:Own w0 w.heap.size 213 (.slice (some ⟨G,0,none⟩) n n) (uv (wds (beW s.data.toList) n 0)):=by rw[hG];exact cf
 have xp:(Instr.makeSlice 215 (.int .i64 n) (.int .i64 n)).run prog w=.ok (.slice (some ⟨G,0,none⟩) n n) w0:=by rw[hG];exact bK
 have HO:=Zz iT;clear iT cf bK hG hq aO
 have hr:((s.size:Int) % 4 != 0)=false:=by rw[bne_eq_false_iff_eq];omega
 have hd:(s.size:Int) / 4=(n:Int):=by omega
 have HN:=Zz hn;clear hn;have kY:=fun k h=>w_J s k h;have sF:=Zz kY;clear kY;have pH:∀i,beW s.data.toList i=(s.data.toList.getD (4*i) 0).toNat*16777216+(s.data.toList.getD (4*i+1) 0).toNat*65536+(s.data.toList.getD (4*i+2) 0).toNat*256+(s.data.toList.getD (4*i+3) 0).toNat:=fun i=>rfl;have ng:=Zz pH;clear pH;generalize beW s.data.toList=g at *;generalize s.data.toList=l at *;go_enter func255,ntmps255;go_wp2;clear xp dX hr hd
 go_loopw [7,18] (fun _ s18 wr=>∃i:Nat,i<=n/\s18=.int .i64 i/\Hid (Own wr w.heap.size 213 (.slice (some ⟨G,0,none⟩) n n) (uv (wds g n i)))/\Below w.heap.size w wr) (fun _ s18 _=>n-(intOf s18).toNat)
 case atStart=>exact ⟨0,by omega,rfl,HO,bx⟩
 case round =>
  clear HO bx;obtain ⟨i,hi,rfl,HO,hB⟩:=hrel;by_cases af:i<n
  ·have bV:(i:Int)<(n:Int):=by omega
   have sG:=x_K HO.o (wds_len _ _ _) i af;have nK:=HO.o.frozen i;have jJ:=own_uset HO.o (wds_len _ _ _) i (g i);rw[wds_set g n i af] at jJ;have eu:=Zz jJ;clear jJ;have hn:=HN.o
   have i0:4*i<s.size:=by omega
   have i1:4*i+1<s.size:=by omega
   have i2:4*i+2<s.size:=by omega
   have i3:4*i+3<s.size:=by omega
   have j0:4*(i:Int)<(s.size:Int):=by omega
   have j1:4*(i:Int)+1<(s.size:Int):=by omega
   have j2:4*(i:Int)+2<(s.size:Int):=by omega
   have j3:4*(i:Int)+3<(s.size:Int):=by omega
   have k0:0<=4*(i:Int):=by omega
   have k1:0<=4*(i:Int)+1:=by omega
   have k2:0<=4*(i:Int)+2:=by omega
   have k3:0<=4*(i:Int)+3:=by omega
   clear hn
   have e0:IntKind.i64.wrap (4*(i:Int))=4*(i:Int):=by rw[q_r];have:=HN.o;omega
   have e1:IntKind.i64.wrap (4*(i:Int)+1)=4*(i:Int)+1:=by rw[q_r];have:=HN.o;omega
   have e2:IntKind.i64.wrap (4*(i:Int)+2)=4*(i:Int)+2:=by rw[q_r];have:=HN.o;omega
   have e3:IntKind.i64.wrap (4*(i:Int)+3)=4*(i:Int)+3:=by rw[q_r];have:=HN.o;omega
   have y0:=sF.o (4*i) i0;have y1:=sF.o (4*i+1) i1;have y2:=sF.o (4*i+2) i2;have y3:=sF.o (4*i+3) i3;have dZ:=fun W=>big1_any (l.getD (4*i) 0) (l.getD (4*i+1) 0) (l.getD (4*i+2) 0) (l.getD (4*i+3) 0) W;rw[<-ng.o i] at dZ;replace dZ:=fun W=>(dZ W).mono fun _ _ ⟨h1,h2⟩=>(⟨h1,h2.symm⟩:_/\_);generalize l.getD (4*i) 0=a at *;generalize l.getD (4*i+1) 0=b at *;generalize l.getD (4*i+2) 0=c at *;generalize l.getD (4*i+3) 0=d at *;generalize g i=x at *;generalize (wds g n i).getD i 0=gW at *;have HC:=Zz dZ;clear dZ HO
   have m0:(4*(i:Int)).toNat=4*i:=by omega
   have m1:(4*(i:Int)+1).toNat=4*i+1:=by omega
   have m2:(4*(i:Int)+2).toNat=4*i+2:=by omega
   have m3:(4*(i:Int)+3).toNat=4*i+3:=by omega
   have q0:IntKind.u32.wrap (a.toNat:Int)=(a.toNat:Int):=u32_wrap_id _ (by omega) (by have:=y_C a;omega);have q1:IntKind.u32.wrap (b.toNat:Int)=(b.toNat:Int):=u32_wrap_id _ (by omega) (by have:=y_C b;omega);have q2:IntKind.u32.wrap (c.toNat:Int)=(c.toNat:Int):=u32_wrap_id _ (by omega) (by have:=y_C c;omega);have q3:IntKind.u32.wrap (d.toNat:Int)=(d.toNat:Int):=u32_wrap_id _ (by omega) (by have:=y_C d;omega);go_wp2
   go_still_tail 28,(by kernel_rfl)
   still_call (HC.o _)
   repeat still_step
   refine wpStill_nil ?_;go_wp2;go_roundw
   case rel=>exact ⟨i+1,by omega,by go_num,Zz eu.o.drew,(hB.setCell (p:=⟨G,i,none⟩) AR _).drew⟩
   case measure=>simp[intOf];omega
  ·obtain rfl:i=n:=by omega
   go_wp2;go_ret2;exact ⟨_,rfl,HO.o,hB⟩
theorem eachLittle (w:World) (s:ByteArray) (hs:s.size<=1000000) (h4:s.size % 4=0) :
  Cl 255 #[.string s,.func (.func 269) #[] #[]] w fun e w'=>∃v,e=.returned (.tuple #[v,.int .i64 0])/\Own w' w.heap.size 213 v (uv (y_k s.data.toList))/\Below w.heap.size w w':=by
 obtain ⟨n,hn⟩:∃n,s.size=4*n:=⟨s.size / 4,by omega⟩
 have hq:s.data.toList.length / 4=n:=by rw[z_n];omega
 have aO:wds (leW s.data.toList) n n=y_k s.data.toList:=by rw[wds_all];unfold y_k;rw[hq]
 rw[<-aO];have bK:=v_7 n (by omega) w;have cf:=Own.made_words w w.heap.size n (q_e _) (by omega);rw[<-wds_zero (leW s.data.toList) n] at cf;have bx:=(Below.refl w.heap.size w).alloc (q_e _) (.cells (madeCells #[.int .u32 0] n) 213);obtain ⟨w0,dX⟩:∃w0,w.alloc (.cells (madeCells #[.int .u32 0] n) 213)=w0:=⟨_,rfl⟩;rw[dX] at bK cf bx;obtain ⟨G,hG,AR⟩:∃G,G=w.heap.size/\w.heap.size<=G:=⟨_,rfl,q_e _⟩
 have iT:Own w0 w.heap.size 213 (.slice (some ⟨G,0,none⟩) n n) (uv (wds (leW s.data.toList) n 0)):=by rw[hG];exact cf
 have xp:(Instr.makeSlice 215 (.int .i64 n) (.int .i64 n)).run prog w=.ok (.slice (some ⟨G,0,none⟩) n n) w0:=by rw[hG];exact bK
 have HO:=Zz iT;clear iT cf bK hG hq aO
 have hr:((s.size:Int) % 4 != 0)=false:=by rw[bne_eq_false_iff_eq];omega
 have hd:(s.size:Int) / 4=(n:Int):=by omega
 have HN:=Zz hn;clear hn;have kY:=fun k h=>w_J s k h;have sF:=Zz kY;clear kY;have pH:∀i,leW s.data.toList i=(s.data.toList.getD (4*i) 0).toNat+(s.data.toList.getD (4*i+1) 0).toNat*256+(s.data.toList.getD (4*i+2) 0).toNat*65536+(s.data.toList.getD (4*i+3) 0).toNat*16777216:=fun i=>rfl;have ng:=Zz pH;clear pH;generalize leW s.data.toList=g at *;generalize s.data.toList=l at *;go_enter func255,ntmps255;go_wp2;clear xp dX hr hd
 go_loopw [7,18] (fun _ s18 wr=>∃i:Nat,i<=n/\s18=.int .i64 i/\Hid (Own wr w.heap.size 213 (.slice (some ⟨G,0,none⟩) n n) (uv (wds g n i)))/\Below w.heap.size w wr) (fun _ s18 _=>n-(intOf s18).toNat)
 case atStart=>exact ⟨0,by omega,rfl,HO,bx⟩
 case round =>
  clear HO bx;obtain ⟨i,hi,rfl,HO,hB⟩:=hrel;by_cases af:i<n
  ·have bV:(i:Int)<(n:Int):=by omega
   have sG:=x_K HO.o (wds_len _ _ _) i af;have nK:=HO.o.frozen i;have jJ:=own_uset HO.o (wds_len _ _ _) i (g i);rw[wds_set g n i af] at jJ;have eu:=Zz jJ;clear jJ;have hn:=HN.o
   have i0:4*i<s.size:=by omega
   have i1:4*i+1<s.size:=by omega
   have i2:4*i+2<s.size:=by omega
   have i3:4*i+3<s.size:=by omega
   have j0:4*(i:Int)<(s.size:Int):=by omega
   have j1:4*(i:Int)+1<(s.size:Int):=by omega
   have j2:4*(i:Int)+2<(s.size:Int):=by omega
   have j3:4*(i:Int)+3<(s.size:Int):=by omega
   have k0:0<=4*(i:Int):=by omega
   have k1:0<=4*(i:Int)+1:=by omega
   have k2:0<=4*(i:Int)+2:=by omega
   have k3:0<=4*(i:Int)+3:=by omega
   clear hn
   have e0:IntKind.i64.wrap (4*(i:Int))=4*(i:Int):=by rw[q_r];have:=HN.o;omega
   have e1:IntKind.i64.wrap (4*(i:Int)+1)=4*(i:Int)+1:=by rw[q_r];have:=HN.o;omega
   have e2:IntKind.i64.wrap (4*(i:Int)+2)=4*(i:Int)+2:=by rw[q_r];have:=HN.o;omega
   have e3:IntKind.i64.wrap (4*(i:Int)+3)=4*(i:Int)+3:=by rw[q_r];have:=HN.o;omega
   have y0:=sF.o (4*i) i0;have y1:=sF.o (4*i+1) i1;have y2:=sF.o (4*i+2) i2;have y3:=sF.o (4*i+3) i3;have dZ:=fun W=>little1_any (l.getD (4*i) 0) (l.getD (4*i+1) 0) (l.getD (4*i+2) 0) (l.getD (4*i+3) 0) W;rw[<-ng.o i] at dZ;replace dZ:=fun W=>(dZ W).mono fun _ _ ⟨h1,h2⟩=>(⟨h1,h2.symm⟩:_/\_);generalize l.getD (4*i) 0=a at *;generalize l.getD (4*i+1) 0=b at *;generalize l.getD (4*i+2) 0=c at *;generalize l.getD (4*i+3) 0=d at *;generalize g i=x at *;generalize (wds g n i).getD i 0=gW at *;have HC:=Zz dZ;clear dZ HO
   have m0:(4*(i:Int)).toNat=4*i:=by omega
   have m1:(4*(i:Int)+1).toNat=4*i+1:=by omega
   have m2:(4*(i:Int)+2).toNat=4*i+2:=by omega
   have m3:(4*(i:Int)+3).toNat=4*i+3:=by omega
   have q0:IntKind.u32.wrap (a.toNat:Int)=(a.toNat:Int):=u32_wrap_id _ (by omega) (by have:=y_C a;omega);have q1:IntKind.u32.wrap (b.toNat:Int)=(b.toNat:Int):=u32_wrap_id _ (by omega) (by have:=y_C b;omega);have q2:IntKind.u32.wrap (c.toNat:Int)=(c.toNat:Int):=u32_wrap_id _ (by omega) (by have:=y_C c;omega);have q3:IntKind.u32.wrap (d.toNat:Int)=(d.toNat:Int):=u32_wrap_id _ (by omega) (by have:=y_C d;omega);go_wp2
   go_still_tail 28,(by kernel_rfl)
   still_call (HC.o _)
   repeat still_step
   refine wpStill_nil ?_;go_wp2;go_roundw
   case rel=>exact ⟨i+1,by omega,by go_num,Zz eu.o.drew,(hB.setCell (p:=⟨G,i,none⟩) AR _).drew⟩
   case measure=>simp[intOf];omega
  ·obtain rfl:i=n:=by omega
   go_wp2;go_ret2;exact ⟨_,rfl,HO.o,hB⟩
theorem big_any (w:World) (s:ByteArray) (hs:s.size<=1000000) (h4:s.size % 4=0) :
  Cl 229 #[.string s] w fun e w'=>∃v,e=.returned (.tuple #[v,.int .i64 0])/\Own w' w.heap.size 213 v (uv (y_V s.data.toList))/\Below w.heap.size w w':=by
 have HE:=Zz (eachBig w s hs h4);clear h4 hs;go_enter func229,ntmps229;go_wp2_with fail;refine (HE.o).mono ?_;rintro e w1 ⟨v,rfl,hO,hB⟩;go_wp2;go_ret2;exact ⟨_,rfl,hO,hB⟩
theorem v_a (w:World) (s:ByteArray) (hs:s.size<=1000000) (h4:s.size % 4=0) :
  Cl 266 #[.string s] w fun e w'=>∃v,e=.returned (.tuple #[v,.int .i64 0])/\Own w' w.heap.size 213 v (uv (y_k s.data.toList))/\Below w.heap.size w w':=by
 have HE:=Zz (eachLittle w s hs h4);clear h4 hs;go_enter func266,ntmps266;go_wp2_with fail;refine (HE.o).mono ?_;rintro e w1 ⟨v,rfl,hO,hB⟩;go_wp2;go_ret2;exact ⟨_,rfl,hO,hB⟩
theorem bv_one' (l:List UInt8):∀u∈bv l,u.oneCell'=true:=by
 intro u hu;simp[bv] at hu;obtain ⟨x,_,rfl⟩:=hu;rfl
theorem make0 (m:Nat) (hm:m<=10000000):∀W:World,(Instr.makeSlice 105 (.int .i64 0) (.int .i64 m)).run prog W=.ok (.slice (some ⟨W.heap.size,0,none⟩) 0 m) (W.alloc (.cells (madeCells #[.int .u8 0] m) 5)):=by
 intro W;obtain ⟨i0,hi,dB,dv,cX⟩:=info_parts info5;have hr:=run_make (P:=prog) W 105 5 i0 (.int .u8 0) underlying105 hi dB .i64 .i64 0 (m:Int) (by omega) (by omega) (by rw[cX];omega) (by omega);simp only[Int.toNat_natCast,dv,Nat.mul_one] at hr;exact hr
theorem blit (W:World) (cs:Array Value) (e:TypeId) (hm:cs.size<=maxLen):z_g (W.alloc (.cells cs e)) (.slice (some ⟨W.heap.size,0,none⟩) cs.size cs.size) cs.toList :=
 (Own.lit_ W W.heap.size e cs (q_e _) hm).reads
theorem Own.made0 (W:World) (base n:Nat) (hb:base<=W.heap.size) (hn:n<=10000000):Own (W.alloc (.cells (madeCells #[.int .u8 0] n) 5)) base 5 (.slice (some ⟨W.heap.size,0,none⟩) 0 n) []:=by
 refine ⟨rfl,.inr ⟨W.heap.size,n,madeCells #[.int .u8 0] n,rfl,hb,heap_alloc_new W _,Nat.zero_le _,by simp only[maxLen];omega,by simp[size_madeCells],by simp⟩⟩
theorem beL_take (L:List Nat) (i:Nat) (h:i<L.length):beL (L.take (i+1))=beL (L.take i)++be4 (L.getD i 0):=by
 rw[q_h h];unfold beL;rw[List.flatMap_append];simp[q_a,h]
theorem w_S (w:World) (v:Value) (L:List Nat) (hv:z_g w v (uv L)) (hL:L.length<=1000000) :
  Cl 124 #[v] w fun e w'=>e=.returned (.string (bs (beL L)))/\Below w.heap.size w w':=by
 have oT:=hv;obtain ⟨A,c,rfl,aK,bf,aa⟩:=hv;rw[z_l] at aK aa ⊢;have HC:=Zz aa;clear aa oT;have HT:=Zz (beL_take L);have aD:L.take L.length=L:=List.take_length;have HA:=Zz aD;clear aD;have fG:=Zz (x_v)
 have fu:Hid (∀i,(L.take i).length<=i):=Zz fun i=>by rw[q_l];omega
 obtain ⟨n,hn⟩:∃n,L.length=n:=⟨_,rfl⟩;rw[hn] at aK HC HT HA hL ⊢;have dD:=Zz hn;clear hn
 have bK:(Instr.makeSlice 105 (.int .i64 0) (.int .i64 (4*(n:Int)))).run prog w=.ok (.slice (some ⟨w.heap.size,0,none⟩) 0 (4*n)) (w.alloc (.cells (madeCells #[.int .u8 0] (4*n)) 5)):=by
  have:=make0 (4*n) (by omega) w
  have e:((4*n:Nat):Int)=4*(n:Int):=by omega
  rw[e] at this;exact this
 have cf:=Own.made0 w w.heap.size (4*n) (q_e _) (by omega);have bx:=(Below.refl w.heap.size w).alloc (q_e _) (.cells (madeCells #[.int .u8 0] (4*n)) 5);obtain ⟨w0,dX⟩:∃w0,w.alloc (.cells (madeCells #[.int .u8 0] (4*n)) 5)=w0:=⟨_,rfl⟩;rw[dX] at bK cf bx;have iT:Own w0 w.heap.size 5 (.slice (some ⟨w.heap.size,0,none⟩) 0 (4*n)) (bv (beL (L.take 0))):=cf;have HO:=Zz iT;clear iT cf
 have xq:IntKind.i64.wrap (4*(n:Int))=4*(n:Int):=by rw[q_r];omega
 go_enter func124,ntmps124;go_wp2;clear bK dX xq
 go_loopw [3,5,12] (fun s3 _ s12 wr=>∃i:Nat,i<=n/\s12=.int .i64 i/\Hid (Own wr w.heap.size 5 s3 (bv (beL (L.take i))))/\Below w.heap.size w wr) (fun _ _ s12 _=>n-(intOf s12).toNat)
 case atStart=>exact ⟨0,by omega,rfl,HO,bx⟩
 case round =>
  clear HO bx;obtain ⟨i,hi,rfl,HO,hB⟩:=hrel;by_cases af:i<n
  ·obtain ⟨b,off,rfl,ae⟩:=HC.o (by omega)
   have hx:=ae i af;rw[uv_at L i (by rw[dD.o];exact af)] at hx;have hk:=(hB.cell (q_c w _ hx)).trans hx;have dw:=HT.o i af
   have kz:((bv (beL (L.take i))).length+(bv (be4 (L.getD i 0))).length)*1<=140737488355328:=by
    rw[z_D,z_D,fG.o];have:(be4 (L.getD i 0)).length=4:=rfl;have:=fu.o i;omega
   have fX:=Zz kz;clear kz;have aR:=Zz dw;clear dw;have bP:=bv_one' (be4 (L.getD i 0));have nL:=Zz bP;clear bP
   have bV:(i:Int)<(n:Int):=by omega
   generalize L.getD i 0=x at *
   have Cp:bv (be4 x)=[.int .u8 ((x:Int) / 16777216 % 256),.int .u8 ((x:Int) / 65536 % 256),.int .u8 ((x:Int) / 256 % 256),.int .u8 ((x:Int) % 256)]:=by
    simp only[bv,be4,List.map_cons,List.map_nil,b8_int];congr 1
   have Cq:=Zz Cp;clear Cp ae hx;rw[Cq.o] at fX nL;have cE:=fun p q r t:Value=>blit wr #[p,q,r,t] 5 (by simp[maxLen]);have dE:=Zz cE;clear cE;have cy:=Zz (fun o:Obj=>HO.o.alloc o);have gp:=Zz (fun o:Obj=>hB.alloc hB.size o)
   have aj:∀o:Obj,w.heap.size<=(wr.alloc o).heap.size:=fun o=>by have:=hB.size;simp;omega
   have b6:=Zz aj;clear aj
   go_wp2_with (at_builtin;refine y_t (w0:=w) w.heap.size rfl (.tmp 16) (.tmp 28) 105 5 (.int .u8 0) 1 rfl underlying105 info5 rfl (by decide) _ _ _ _ rfl rfl (dE.o _ _ _ _) nL.o (cy.o _) (gp.o _) (b6.o _) fX.o ?_;intro v1 w2 kZ dO bJ sH)
   rw[<-Cq.o,<-w_h,<-aR.o] at kZ;have kA:=Zz kZ;clear kZ;go_roundw
   case rel=>exact ⟨i+1,by omega,by go_num,kA,dO⟩
   case measure=>simp[intOf];omega
  ·obtain rfl:i=n:=by omega
   rw[HA.o] at HO;have eq:=y_b (P:=prog) (src:=105) (dst:=9) underlying105 underlying5 underlying9 HO.o.reads;generalize cE:beL L=l at *;have dE:=Zz cE;clear cE;go_wp2;go_ret;exact ⟨by rw[dE.o];rfl,hB⟩
theorem leL_take (L:List Nat) (i:Nat) (h:i<L.length):leL (L.take (i+1))=leL (L.take i)++le4 (L.getD i 0):=by
 rw[q_h h];unfold leL;rw[List.flatMap_append];simp[q_a,h]
theorem w_O (w:World) (v:Value) (L:List Nat) (hv:z_g w v (uv L)) (hL:L.length<=1000000) :
  Cl 265 #[v] w fun e w'=>e=.returned (.string (bs (leL L)))/\Below w.heap.size w w':=by
 have oT:=hv;obtain ⟨A,c,rfl,aK,bf,aa⟩:=hv;rw[z_l] at aK aa ⊢;have HC:=Zz aa;clear aa oT;have HT:=Zz (leL_take L);have aD:L.take L.length=L:=List.take_length;have HA:=Zz aD;clear aD;have fG:=Zz (v_g)
 have fu:Hid (∀i,(L.take i).length<=i):=Zz fun i=>by rw[q_l];omega
 obtain ⟨n,hn⟩:∃n,L.length=n:=⟨_,rfl⟩;rw[hn] at aK HC HT HA hL ⊢;have dD:=Zz hn;clear hn
 have bK:(Instr.makeSlice 105 (.int .i64 0) (.int .i64 (4*(n:Int)))).run prog w=.ok (.slice (some ⟨w.heap.size,0,none⟩) 0 (4*n)) (w.alloc (.cells (madeCells #[.int .u8 0] (4*n)) 5)):=by
  have:=make0 (4*n) (by omega) w
  have e:((4*n:Nat):Int)=4*(n:Int):=by omega
  rw[e] at this;exact this
 have cf:=Own.made0 w w.heap.size (4*n) (q_e _) (by omega);have bx:=(Below.refl w.heap.size w).alloc (q_e _) (.cells (madeCells #[.int .u8 0] (4*n)) 5);obtain ⟨w0,dX⟩:∃w0,w.alloc (.cells (madeCells #[.int .u8 0] (4*n)) 5)=w0:=⟨_,rfl⟩;rw[dX] at bK cf bx;have iT:Own w0 w.heap.size 5 (.slice (some ⟨w.heap.size,0,none⟩) 0 (4*n)) (bv (leL (L.take 0))):=cf;have HO:=Zz iT;clear iT cf
 have xq:IntKind.i64.wrap (4*(n:Int))=4*(n:Int):=by rw[q_r];omega
 go_enter func265,ntmps265;go_wp2;clear bK dX xq
 go_loopw [3,5,12] (fun s3 _ s12 wr=>∃i:Nat,i<=n/\s12=.int .i64 i/\Hid (Own wr w.heap.size 5 s3 (bv (leL (L.take i))))/\Below w.heap.size w wr) (fun _ _ s12 _=>n-(intOf s12).toNat)
 case atStart=>exact ⟨0,by omega,rfl,HO,bx⟩
 case round =>
  clear HO bx;obtain ⟨i,hi,rfl,HO,hB⟩:=hrel;by_cases af:i<n
  ·obtain ⟨b,off,rfl,ae⟩:=HC.o (by omega)
   have hx:=ae i af;rw[uv_at L i (by rw[dD.o];exact af)] at hx;have hk:=(hB.cell (q_c w _ hx)).trans hx;have dw:=HT.o i af
   have kz:((bv (leL (L.take i))).length+(bv (le4 (L.getD i 0))).length)*1<=140737488355328:=by
    rw[z_D,z_D,fG.o];have:(le4 (L.getD i 0)).length=4:=rfl;have:=fu.o i;omega
   have fX:=Zz kz;clear kz;have aR:=Zz dw;clear dw;have bP:=bv_one' (le4 (L.getD i 0));have nL:=Zz bP;clear bP
   have bV:(i:Int)<(n:Int):=by omega
   generalize L.getD i 0=x at *
   have Cp:bv (le4 x)=[.int .u8 ((x:Int) % 256),.int .u8 ((x:Int) / 256 % 256),.int .u8 ((x:Int) / 65536 % 256),.int .u8 ((x:Int) / 16777216 % 256)]:=by
    simp only[bv,le4,List.map_cons,List.map_nil,b8_int];congr 1
   have Cq:=Zz Cp;clear Cp ae hx;rw[Cq.o] at fX nL;have cE:=fun p q r t:Value=>blit wr #[p,q,r,t] 5 (by simp[maxLen]);have dE:=Zz cE;clear cE;have cy:=Zz (fun o:Obj=>HO.o.alloc o);have gp:=Zz (fun o:Obj=>hB.alloc hB.size o)
   have aj:∀o:Obj,w.heap.size<=(wr.alloc o).heap.size:=fun o=>by have:=hB.size;simp;omega
   have b6:=Zz aj;clear aj
   go_wp2_with (at_builtin;refine y_t (w0:=w) w.heap.size rfl (.tmp 16) (.tmp 28) 105 5 (.int .u8 0) 1 rfl underlying105 info5 rfl (by decide) _ _ _ _ rfl rfl (dE.o _ _ _ _) nL.o (cy.o _) (gp.o _) (b6.o _) fX.o ?_;intro v1 w2 kZ dO bJ sH)
   rw[<-Cq.o,<-w_h,<-aR.o] at kZ;have kA:=Zz kZ;clear kZ;go_roundw
   case rel=>exact ⟨i+1,by omega,by go_num,kA,dO⟩
   case measure=>simp[intOf];omega
  ·obtain rfl:i=n:=by omega
   rw[HA.o] at HO;have eq:=y_b (P:=prog) (src:=105) (dst:=9) underlying105 underlying5 underlying9 HO.o.reads;generalize cE:leL L=l at *;have dE:=Zz cE;clear cE;go_wp2;go_ret;exact ⟨by rw[dE.o];rfl,hB⟩
def W32 (L:List Nat):Prop:=∀i,L.getD i 0<4294967296
theorem W32.set {L:List Nat} (h:W32 L) (i x:Nat) (hx:x<4294967296):W32 (L.set i x):=by
 intro j;by_cases e:i=j
 ·subst e
  by_cases hl:i<L.length
  ·simpa[q_a,hl] using hx
  ·simp[q_a,hl]
 ·have:=h j
  simpa[q_a,q_C,e] using this
def sg0 (a:Nat):Nat:=rol a 25 ^^^ rol a 14 ^^^ a / 8
def sg1 (b:Nat):Nat:=rol b 15 ^^^ rol b 13 ^^^ b / 1024
theorem xlt {a b:Nat} (ha:a<4294967296) (hb:b<4294967296):a ^^^ b<4294967296:=Nat.xor_lt_two_pow (n:=32) ha hb
def scS (W:List Nat) (i:Nat):List Nat:=W.set i ((W.getD (i-16) 0+sg0 (W.getD (i-15) 0)+W.getD (i-7) 0+sg1 (W.getD (i-2) 0)) % 4294967296)
def scI (W:List Nat):Nat->List Nat
 | 0=>W
 | n+1=>scS (scI W n) (16+n)
theorem scI_len (W:List Nat) (n:Nat):(scI W n).length=W.length:=by
 induction n with
 | zero=>rfl
 | succ n ih=>simp[scI,scS,ih]
theorem scI_lt {W:List Nat} (h:W32 W) (n:Nat):W32 (scI W n):=by
 induction n with
 | zero=>exact h
 | succ n ih=>exact ih.set _ _ (q_z _ (by decide))
def x_a (l:List UInt8):List Nat:=scI (y_V l++List.replicate 48 0) 48
theorem z_E {w:World} {G t:Nat} {L:List Nat} (h:Blk w G t (uv L).toArray) (i:Nat) (hi:i<L.length):w.cell? ⟨G,i,none⟩=some (.int .u32 (L.getD i 0:Nat)):=by
 rw[h.cell,q_p,uv_at L i hi]
theorem x_I {w:World} {G t:Nat} {L:List Nat} (h:Blk w G t (uv L).toArray) (i x:Nat):Blk (w.setCell ⟨G,i,none⟩ (.int .u32 x)) G t (uv (L.set i x)).toArray:=by
 have:=h.set_ i (.int .u32 x)
 rwa [q_A,uv_set] at this
theorem w_A (a b q:Nat) (hq:(a+b) % 4294967296=q):IntKind.u32.wrap ((a:Int)+(b:Int))=(q:Int):=by rw[IntKind.wrap_u32];omega
theorem zeros64:(#[.int .u32 0,.int .u32 0,.int .u32 0,.int .u32 0,.int .u32 0,.int .u32 0,.int .u32 0,.int .u32 0,.int .u32 0,.int .u32 0,.int .u32 0,.int .u32 0,.int .u32 0,.int .u32 0,.int .u32 0,.int .u32 0,.int .u32 0,.int .u32 0,.int .u32 0,.int .u32 0,.int .u32 0,.int .u32 0,.int .u32 0,.int .u32 0,.int .u32 0,.int .u32 0,.int .u32 0,.int .u32 0,.int .u32 0,.int .u32 0,.int .u32 0,.int .u32 0,.int .u32 0,.int .u32 0,.int .u32 0,.int .u32 0,.int .u32 0,.int .u32 0,.int .u32 0,.int .u32 0,.int .u32 0,.int .u32 0,.int .u32 0,.int .u32 0,.int .u32 0,.int .u32 0,.int .u32 0,.int .u32 0,.int .u32 0,.int .u32 0,.int .u32 0,.int .u32 0,.int .u32 0,.int .u32 0,.int .u32 0,.int .u32 0,.int .u32 0,.int .u32 0,.int .u32 0,.int .u32 0,.int .u32 0,.int .u32 0,.int .u32 0,.int .u32 0]:Array Value)=(uv (List.replicate 64 0)).toArray:=by rfl
theorem w_u (L:List Nat):∀u∈uv L,u.oneCell'=true:=by
 intro u hu;simp[uv] at hu;obtain ⟨x,_,rfl⟩:=hu;rfl
theorem x_C:(prog.info? 313).map (·.size)=some 64:=by kernel_rfl
theorem sizeU:(prog.info? 213).map (·.size)=some 1:=by kernel_rfl
theorem schedule_any (w:World) (s:ByteArray) (hs:s.size=64) :
  Cl 227 #[.string s] w fun e w'=>e=.returned (.agg (uv (x_a s.data.toList)).toArray)/\Below w.heap.size w w':=by
 have iS:=fun W=>big_any W s (by omega) (by omega)
 have cE:(y_V s.data.toList).length=16:=by unfold y_V;rw[q_i,q_H,z_n,hs]
 have fo:W32 (y_V s.data.toList++List.replicate 48 0):=by
  intro i;by_cases h:i<16
  ·rw[q_a,q_F (by rw[cE];exact h)]
   unfold y_V;rw[q_j]
   cases e:(List.range (s.data.toList.length / 4))[i]? with
   | none=>simp
   | some j=>exact beW_lt _ _
  ·rw[q_a,q_u (by rw[cE];omega),List.getElem?_replicate]
   split<;>simp
 have pI:x_a s.data.toList=scI (y_V s.data.toList++List.replicate 48 0) 48:=rfl
 have hsp:splice (uv (List.replicate 64 0)) 0 (uv (y_V s.data.toList))=uv (y_V s.data.toList++List.replicate 48 0):=by
  unfold splice;rw[z_l,cE];simp[uv]
 have JW:=Zz iS;clear iS;generalize x_a s.data.toList=S at *;generalize y_V s.data.toList=W0 at *;have dE:=Zz cE;clear cE;have pJ:=Zz fo;clear fo;have JX:=Zz pI;clear pI;have ff:=Zz hsp;clear hsp;have HS:=Zz hs;clear hs;go_enter func227,ntmps227;go_wp2_with fail;generalize hZ:(#[.int .u32 0,.int .u32 0,.int .u32 0,.int .u32 0,.int .u32 0,.int .u32 0,.int .u32 0,.int .u32 0,.int .u32 0,.int .u32 0,.int .u32 0,.int .u32 0,.int .u32 0,.int .u32 0,.int .u32 0,.int .u32 0,.int .u32 0,.int .u32 0,.int .u32 0,.int .u32 0,.int .u32 0,.int .u32 0,.int .u32 0,.int .u32 0,.int .u32 0,.int .u32 0,.int .u32 0,.int .u32 0,.int .u32 0,.int .u32 0,.int .u32 0,.int .u32 0,.int .u32 0,.int .u32 0,.int .u32 0,.int .u32 0,.int .u32 0,.int .u32 0,.int .u32 0,.int .u32 0,.int .u32 0,.int .u32 0,.int .u32 0,.int .u32 0,.int .u32 0,.int .u32 0,.int .u32 0,.int .u32 0,.int .u32 0,.int .u32 0,.int .u32 0,.int .u32 0,.int .u32 0,.int .u32 0,.int .u32 0,.int .u32 0,.int .u32 0,.int .u32 0,.int .u32 0,.int .u32 0,.int .u32 0,.int .u32 0,.int .u32 0,.int .u32 0]:Array Value)=Z;rw[zeros64] at hZ;refine (JW.o _).mono ?_;rintro e w1 ⟨v,rfl,hO,ay⟩;have sI:=((Blk.new w 313 Z).alloc (.cells Z 313)).below ay (by simp;omega);have pK:=(Blk.new (w.alloc (.cells Z 313)) 313 Z).below ay (by simp);have bT:Below w.heap.size w w1:=z_G (((Below.refl w.heap.size w).alloc (q_e _) _).alloc (by simp) _) (by simp;omega) ay
 have aj:(w.alloc (.cells Z 313)).heap.size=w.heap.size+1:=by simp
 rw[aj] at pK;obtain ⟨R,Ir,Uu⟩:∃R,w.heap.size=R/\w.heap.size<=R:=⟨_,rfl,q_e _⟩;obtain ⟨G,hG,AR,Uv⟩:∃G,w.heap.size+1=G/\w.heap.size<=G/\G≠R:=⟨_,rfl,by omega,by omega⟩;obtain ⟨g,c,rfl,_,_,hc⟩:=hO.form (by rw[z_l,dE.o];omega)
 have JY:(uv W0).length=16:=by rw[z_l,dE.o]
 have co:=fun j v (h:(uv W0)[j]?=some v)=>by
  have hj:j<(uv W0).length:=by
   rcases Nat.lt_or_ge j (uv W0).length with h'|h'
   ·exact h'
   ·rw[q_q h'] at h;cases h
  exact (hO.cell j hj).trans h
 rw[JY] at hc ⊢;rw[<-hZ] at sI pK;rw[hG] at pK ⊢;rw[Ir] at sI;have Cr:=Zz sI;have sJ:=Zz pK;have kB:=Zz co;have nL:=Zz (w_u W0);have Uw:=Zz JY;clear sI pK co hO hZ JY ay aj;have hRg:R<w1.heap.size:=Cr.o.lt
 go_wp2_with (refine wpList_copy_splice rfl (.tmp 16) (.tmp 17) 215 215 rfl 213 underlying215 sizeU (some ⟨G,0,none⟩) (some ⟨g,0,none⟩) 64 64 16 c rfl rfl G 0 _ 313 sJ.o (uv W0) Uw.o (fun _=>⟨rfl,_,rfl,fun j v h=>by rw[y_M,q_D];exact kB.o j v h⟩) (by rw[z_l,z_l,dE.o];simp) nL.o G w1 (Below.refl _ _) (q_e _) ?_;intro w2 mp am)
 have dO:Below w.heap.size w w2:=bT.trans (am.mono AR)
 have Qj:Blk w2 G 313 (uv (scI (W0++List.replicate 48 0) (16-16))).toArray:=by
  have:=mp.o;rw[ff.o] at this;exact this
 have AS:=Zz Qj;clear Qj mp;have AU:Hid (Blk w2 R 313 (uv (List.replicate 64 0)).toArray):=Zz (Cr.o.below am (by omega))
 have Qk:∀n,(scI (W0++List.replicate 48 0) n).length=64:=fun n=>by rw[scI_len,q_b,dE.o];simp
 have jr:=Zz Qk;clear Qk;have HW:=Zz (scI_lt pJ.o);have aR:Hid (∀n,scI (W0++List.replicate 48 0) (n+1)=scS (scI (W0++List.replicate 48 0) n) (16+n)):=Zz fun n=>rfl;generalize scI (W0++List.replicate 48 0)=F at *
 have Ux:R<w2.heap.size:=by
  have:=dO.size;have h:=AS.o.lt;omega
 have bx:=dO
 go_loopw [6,7,8,9,10] (fun s6 _ _ _ _ wr=>∃i:Nat,16<=i/\i<=64/\s6=.int .i64 i/\Hid (Blk wr G 313 (uv (F (i-16))).toArray)/\Hid (∃Z,Blk wr R 313 Z/\Z.size=64)/\Below w.heap.size w wr) (fun s6 _ _ _ _ _=>64-(intOf s6).toNat)
 case atStart=>exact ⟨16,by omega,by omega,rfl,AS,Zz ⟨_,AU.o,by simp[uv]⟩,dO⟩
 case round =>
  clear AS dO bx;obtain ⟨i,Ql,sD,rfl,HF,HR,hB⟩:=hrel;by_cases af:i<64
  ·have hii:(i:Int)<64:=by omega
   have Uy:=z_E HF.o (i-15) (by rw[jr.o];omega);have a2:=z_E HF.o (i-2) (by rw[jr.o];omega);have Qm:=z_E HF.o (i-16) (by rw[jr.o];omega);have a7:=z_E HF.o (i-7) (by rw[jr.o];omega);have ai:=z_E HF.o i (by rw[jr.o];omega);have fz:=HF.o.frozen i;have nM:=HW.o (i-16) (i-15);have gY:=HW.o (i-16) (i-2);have aH:=aR.o (i-16);rw[show 16+(i-16)=i by omega,show i-16+1=i+1-16 by omega] at aH;have fh:Hid (F (i+1-16)=(F (i-16)).set i (((F (i-16)).getD (i-16) 0+sg0 ((F (i-16)).getD (i-15) 0)+(F (i-16)).getD (i-7) 0+sg1 ((F (i-16)).getD (i-2) 0)) % 4294967296)):=Zz aH;clear aH;have cL:=fun x=>x_I HF.o i x;have bl:=Zz cL;clear cL HF;generalize (F (i-16)).getD (i-15) 0=a at *;generalize (F (i-16)).getD (i-2) 0=b at *;generalize (F (i-16)).getD (i-16) 0=c0 at *;generalize (F (i-16)).getD (i-7) 0=d at *;generalize (F (i-16)).getD i 0=gW at *;have r1:=fun W=>y_0 a 7 7 rfl nM (by decide) (by decide) W;have r2:=fun W=>y_0 a 18 18 rfl nM (by decide) (by decide) W;have r3:=fun W=>y_0 b 17 17 rfl gY (by decide) (by decide) W;have r4:=fun W=>y_0 b 19 19 rfl gY (by decide) (by decide) W
   have x1:bits .xor .u32 (bits .xor .u32 ((rol a (32-7):Nat):Int) ((rol a (32-18):Nat):Int)) ((a:Int) / 8)=((sg0 a:Nat):Int):=by
    rw[x_k _ _ (z_8 nM) (z_8 nM),show (a:Int) / 8=((a / 8:Nat):Int) by omega,x_k _ _ (xlt (z_8 nM) (z_8 nM)) (by omega)];rfl
   have x2:bits .xor .u32 (bits .xor .u32 ((rol b (32-17):Nat):Int) ((rol b (32-19):Nat):Int)) ((b:Int) / 1024)=((sg1 b:Nat):Int):=by
    rw[x_k _ _ (z_8 gY) (z_8 gY),show (b:Int) / 1024=((b / 1024:Nat):Int) by omega,x_k _ _ (xlt (z_8 gY) (z_8 gY)) (by omega)];rfl
   generalize rol a (32-7)=p1 at *;generalize rol a (32-18)=p2 at *;generalize rol b (32-17)=p3 at *;generalize rol b (32-19)=p4 at *;generalize sg0 a=x at *;generalize sg1 b=y at *;have R1:=Zz r1;have R2:=Zz r2;have R3:=Zz r3;have R4:=Zz r4;clear r1 r2 r3 r4;obtain ⟨q1,js⟩:∃q,(c0+x) % 4294967296=q:=⟨_,rfl⟩;obtain ⟨q2,jt⟩:∃q,(q1+d) % 4294967296=q:=⟨_,rfl⟩;obtain ⟨q3,Cs⟩:∃q,(q2+y) % 4294967296=q:=⟨_,rfl⟩
   have hq:(c0+x+d+y) % 4294967296=q3:=by omega
   rw[hq] at fh
   have t15:((i:Int)-15).toNat=i-15:=by omega
   have t2:((i:Int)-2).toNat=i-2:=by omega
   have t16:((i:Int)-16).toNat=i-16:=by omega
   have t7:((i:Int)-7).toNat=i-7:=by omega
   have n15:15<=(i:Int):=by omega
   have n2:2<=(i:Int):=by omega
   have n16:16<=(i:Int):=by omega
   have n7:7<=(i:Int):=by omega
   have m15:(i:Int)-15<64:=by omega
   have m2:(i:Int)-2<64:=by omega
   have m16:(i:Int)-16<64:=by omega
   have m7:(i:Int)-7<64:=by omega
   have nN:IntKind.i64.wrap ((i:Int)-15)=(i:Int)-15:=by rw[q_r];omega
   have Qn:IntKind.i64.wrap ((i:Int)-2)=(i:Int)-2:=by rw[q_r];omega
   have Ct:IntKind.i64.wrap ((i:Int)-16)=(i:Int)-16:=by rw[q_r];omega
   have w7:IntKind.i64.wrap ((i:Int)-7)=(i:Int)-7:=by rw[q_r];omega
   have u1:=w_A c0 x q1 js;have u2:=w_A q1 d q2 jt;have u3:=w_A q2 y q3 Cs;clear js jt Cs hq;have b16:wr.drew.cell? ⟨G,i-16,none⟩=some (.int .u32 c0):=Qm;have b7:wr.drew.cell? ⟨G,i-7,none⟩=some (.int .u32 d):=a7;have bi:wr.drew.cell? ⟨G,i,none⟩=some (.int .u32 gW):=ai;have bz:wr.drew.frozen? ⟨G,i,none⟩=false:=fz;go_wp2
   go_still (by kernel_rfl)
   go_wp2_with fail;refine (R1.o _).mono ?_;rintro e w' ⟨rfl,rfl⟩;go_wp2_with fail;refine (R2.o _).mono ?_;rintro e w' ⟨rfl,rfl⟩;go_wp2_with fail;refine (R3.o _).mono ?_;rintro e w' ⟨rfl,rfl⟩;go_wp2_with fail;refine (R4.o _).mono ?_;rintro e w' ⟨rfl,rfl⟩;go_wp2;clear Uy a2 Qm a7 ai fz;have ng:Hid (∀x:Nat,Blk (wr.drew.drew.setCell ⟨G,i,none⟩ (.int .u32 x)) G 313 (uv ((F (i-16)).set i x)).toArray):=Zz bl.o;have pL:Hid (∃Z,Blk wr.drew.drew R 313 Z/\Z.size=64):=HR;have ak:Hid (Below w.heap.size w wr.drew.drew):=Zz hB.drew.drew;clear bl HR hB;generalize wr.drew=wd at *
   go_still_tail 15,(by kernel_rfl)
   go_wp2;go_roundw
   case rel =>
    refine ⟨i+1,by omega,by omega,by go_num,Zz ?_,Zz ?_,?_⟩
    ·rw[fh.o];exact ng.o q3
    ·obtain ⟨Z,z1,z2⟩:=pL.o
     exact ⟨Z,z1.far (p:=⟨G,i,none⟩) (fun e=>Uv e.symm) _,z2⟩
    ·exact ak.o.setCell (p:=⟨G,i,none⟩) AR _
   case measure=>simp[intOf];omega
  ·obtain rfl:i=64:=by omega
   obtain ⟨Z,z1,z2⟩:=HR.o
   have aj:(uv (F (64-16))).toArray.size=64:=by rw[q_y,z_l,jr.o]
   have aD:=all_oneCell_toArray (w_u (F (64-16)));have hS:S=F (64-16):=JX.o
   go_wp2_with (first
    | (refine wpList_load_row rfl 313 (.tmp 3) rfl G rfl 313 _ (0,0) _ HF.o underlying313 rfl (by rw[aj];exact x_C) ?_)
    | (refine wpList_store_row rfl 313 (.tmp 2) (.tmp 62) rfl R _ rfl rfl 313 Z z1 (by rw[aj];exact x_C) (by rw[aj];exact z2) aD ?_))
   have hg:=setRow_heap wr R Z (uv (F (64-16))).toArray _ _ z1;exact bodyPost_ret (v:=.agg (uv S).toArray) (by rw[hS];exact results_cell_row rfl _ _ R _ _ _ _ rfl hg underlying313 rfl (by rw[aj];exact x_C)) rfl ⟨rfl,below_setRow hB Uu _⟩
end Go.Proofs.YtdkheklakfbeeaaGreatDoor
