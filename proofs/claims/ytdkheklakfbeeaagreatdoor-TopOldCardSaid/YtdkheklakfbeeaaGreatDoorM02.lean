/- Part 2 of the proof. -/
import Derived.Lib.EndianBits
import Derived.StillTailTactics
import Derived.Laws.CopyOwn
import Derived.Deep.MidRow
import Derived.Laws.Tables
import Derived.OrdersHeld
import Derived.Test.YtdkheklakfbeeaaGreatDoorM01
set_option linter.all false
set_option maxRecDepth 100000
set_option maxHeartbeats 16000000
namespace Go.Proofs.YtdkheklakfbeeaaGreatDoor
open Go.RowKit Tryz
variable {G base d g i k n t:Nat}{L:List Nat}{P:Program}{a:Act}{ah:Array Oper}{cs:Array Value}{v:Value}{w:W_}{x:Operand}
def fo (x n:Nat):Nat:=(x*2 ^ n % 4294967296) ||| (x / 2 ^ (32-n))
def qj {x:Nat} (h:x<4294967296):fo x n<4294967296:=by
 unfold fo;refine Nat.or_lt_two_pow (n:=32) (gx _ d_) ?_;exact Nat.lt_of_le_of_lt (Nat.div_le_self _ _) h
def uv (L:List Nat):List Value:=L.map fun x:Nat=>Value.int .u32 x
def ft (L:List Nat):(uv L).length=L.length:=by simp[uv]
def r6 (L:List Nat) (i:Nat) (h:i<L.length):(uv L)[i]?=some (.int .u32 (L.getD i 0:Nat)):=by
 simp[uv,be,h]
def JH (L:List Nat) (i x:Nat):(uv L).set i (.int .u32 x)=uv (L.set i x):=by simp[uv,List.map_set]
def b8 (x:Nat):UInt8:=UInt8.ofNat (x % 256)
def TS (x:Nat):((b8 x).toNat:Int)=(x:Int) % 256:=by
 unfold b8;rw[UInt8.toNat_ofNat',Nat.mod_mod];omega
def Iu (x:Nat):(b8 x).toNat=x % 256:=by
 unfold b8;rw[UInt8.toNat_ofNat',Nat.mod_mod]
def be4 (x:Nat):List UInt8:=[b8 (x / 16777216),b8 (x / 65536),b8 (x / 256),b8 x]
def le4 (x:Nat):List UInt8:=[b8 x,b8 (x / 256),b8 (x / 65536),b8 (x / 16777216)]
def v8 (L:List Nat):List UInt8:=L.flatMap be4
def oO (L:List Nat):List UInt8:=L.flatMap le4
def x_J (L:List Nat):(v8 L).length=4*L.length:=by
 induction L with
 | nil=>rfl
 | cons x L e=>simp only[v8,List.flatMap_cons,cd,List.length_cons] at e ⊢;rw[e];simp[be4];omega
def v_x (L:List Nat):(oO L).length=4*L.length:=by
 induction L with
 | nil=>rfl
 | cons x L e=>simp only[oO,List.flatMap_cons,cd,List.length_cons] at e ⊢;rw[e];simp[le4];omega
def A5 (l:List UInt8) (i:Nat):Nat:=(l.getD (4*i) 0).toNat*16777216+(l.getD (4*i+1) 0).toNat*65536+(l.getD (4*i+2) 0).toNat*256+(l.getD (4*i+3) 0).toNat
def leW (l:List UInt8) (i:Nat):Nat:=(l.getD (4*i) 0).toNat+(l.getD (4*i+1) 0).toNat*256+(l.getD (4*i+2) 0).toNat*65536+(l.getD (4*i+3) 0).toNat*16777216
def qk (l:List UInt8):List Nat:=(List.range (l.length / 4)).map (A5 l)
def iU (l:List UInt8):List Nat:=(List.range (l.length / 4)).map (leW l)
def lR (u:UInt8):u.toNat<256:=u.toNat_lt
def mT (l:List UInt8) (i:Nat):A5 l i<4294967296:=by
 unfold A5;have:=lR (l.getD (4*i) 0);have:=lR (l.getD (4*i+1) 0);have:=lR (l.getD (4*i+2) 0);have:=lR (l.getD (4*i+3) 0);omega
def TB (l:List UInt8) (i:Nat):leW l i<4294967296:=by
 unfold leW;have:=lR (l.getD (4*i) 0);have:=lR (l.getD (4*i+1) 0);have:=lR (l.getD (4*i+2) 0);have:=lR (l.getD (4*i+3) 0);omega
def or32 (a b:Nat) (ha:a<4294967296) (hb:b<4294967296):bits .or .u32 (a:Int) (b:Int)=((a ||| b:Nat):Int):=(bits_nat .u32 32 d_ wraps_u32 a b ha hb).2
def DU (a b:Nat) (ha:a<4294967296) (hb:b<4294967296):bits .and .u32 (a:Int) (b:Int)=((a &&& b:Nat):Int):=(bits_nat .u32 32 d_ wraps_u32 a b ha hb).1
def FR (a b:Nat) (ha:a<4294967296) (hb:b<4294967296):bits .xor .u32 (a:Int) (b:Int)=((a ^^^ b:Nat):Int):=w_U .u32 32 d_ wraps_u32 a b ha hb
def v_V (x n:Nat) (h:Int) (m:h=n) (l:x<4294967296) (hn:n<32) (w:W_) :
  Cl 254 #[.int .u32 x,.int .i64 h] w fun e w'=>e=.returned (.int .u32 (fo x n:Nat))/\w=w':=by
 subst m
 have g:bits .or .u32 ((x:Int)*2 ^ (n % 32) % 4294967296) ((x:Int) / 2 ^ (32-n % 32))=((fo x n:Nat):Int):=by
  rw[Nat.mod_eq_of_lt hn]
  have j:(x:Int)*2 ^ n % 4294967296=((x*2 ^ n % 4294967296:Nat):Int):=by rw[Int.natCast_emod,Int.natCast_mul,Int.natCast_pow];rfl
  have k:(x:Int) / 2 ^ (32-n)=((x / 2 ^ (32-n):Nat):Int):=by rw[Int.natCast_ediv,Int.natCast_pow];rfl
  rw[j,k,or32 _ _ (gx _ d_) (Nat.lt_of_le_of_lt (Nat.div_le_self _ _) l)];rfl
 have i:=Zz g;clear g;go_enter func254,ntmps254;go_wp2;go_ret;exact ⟨by rw[<-i.o];rfl,rfl⟩
def Lk (x n:Nat) (h:Int) (l:h=n) (j:x<4294967296) (m:0<n) (hn:n<32) (w:W_) :
  Cl 228 #[.int .u32 x,.int .i64 h] w fun e w'=>e=.returned (.int .u32 (fo x (32-n):Nat))/\w=w':=by
 subst l;have g:=fun k (hk:k=((32-n:Nat):Int))=>v_V x (32-n) k hk j o_ w;have i:=Zz g;clear g;go_enter func228,ntmps228;go_wp2_with fail;refine (i.o _ o_).mono ?_;rintro e w' ⟨rfl,rfl⟩;go_wp2;go_ret;exact ⟨rfl,rfl⟩
def TO (a b c d:UInt8) (w:W_) :
  Cl 256 #[.int .u32 a.toNat,.int .u32 b.toNat,.int .u32 c.toNat,.int .u32 d.toNat] w fun e w'=>e=.returned (.int .u32 (a.toNat*16777216+b.toNat*65536+c.toNat*256+d.toNat:Nat))/\w=w':=by
 have ha:=lR a;have hb:=lR b;have k:=lR c;have l:=lR d
 have g:bits .or .u32 ((a.toNat:Int)*16777216) ((b.toNat:Int)*65536)=(a.toNat:Int)*16777216+(b.toNat:Int)*65536:=by
  have:=bits_join .u32 32 d_ wraps_u32 24 ((a.toNat:Int)*16777216) ((b.toNat:Int)*65536) o_ o_ o_ o_ o_ o_;exact this
 have h:bits .or .u32 ((a.toNat:Int)*16777216+(b.toNat:Int)*65536) ((c.toNat:Int)*256)=(a.toNat:Int)*16777216+(b.toNat:Int)*65536+(c.toNat:Int)*256 :=
  bits_join .u32 32 d_ wraps_u32 16 _ _ o_ o_ o_ o_ o_ o_
 have i:bits .or .u32 ((a.toNat:Int)*16777216+(b.toNat:Int)*65536+(c.toNat:Int)*256) (d.toNat:Int)=(a.toNat:Int)*16777216+(b.toNat:Int)*65536+(c.toNat:Int)*256+(d.toNat:Int) :=
  bits_join .u32 32 d_ wraps_u32 8 _ _ o_ o_ o_ o_ o_ o_
 have j:Hid (bits .or .u32 (bits .or .u32 (bits .or .u32 ((a.toNat:Int)*16777216) ((b.toNat:Int)*65536)) ((c.toNat:Int)*256)) (d.toNat:Int)=((a.toNat*16777216+b.toNat*65536+c.toNat*256+d.toNat:Nat):Int)):=Zz (by rw[g,h,i];omega);clear g h i;go_enter func256,ntmps256;go_wp2;go_ret;exact ⟨by rw[<-j.o];rfl,rfl⟩
def Da (a b c d:UInt8) (w:W_) :
  Cl 269 #[.int .u32 a.toNat,.int .u32 b.toNat,.int .u32 c.toNat,.int .u32 d.toNat] w fun e w'=>e=.returned (.int .u32 (a.toNat+b.toNat*256+c.toNat*65536+d.toNat*16777216:Nat))/\w=w':=by
 have ha:=lR a;have hb:=lR b;have k:=lR c;have l:=lR d;have g:bits .or .u32 (a.toNat:Int) ((b.toNat:Int)*256)=(a.toNat:Int)+(b.toNat:Int)*256:=u32_or8 _ _ o_ o_ o_ o_ o_;have h:bits .or .u32 ((a.toNat:Int)+(b.toNat:Int)*256) ((c.toNat:Int)*65536)=(a.toNat:Int)+(b.toNat:Int)*256+(c.toNat:Int)*65536:=u32_or16 _ _ o_ o_ o_ o_ o_;have i:bits .or .u32 ((a.toNat:Int)+(b.toNat:Int)*256+(c.toNat:Int)*65536) ((d.toNat:Int)*16777216)=(a.toNat:Int)+(b.toNat:Int)*256+(c.toNat:Int)*65536+(d.toNat:Int)*16777216:=u32_or24 _ _ o_ o_ o_ o_ o_;have j:Hid (bits .or .u32 (bits .or .u32 (bits .or .u32 (a.toNat:Int) ((b.toNat:Int)*256)) ((c.toNat:Int)*65536)) ((d.toNat:Int)*16777216)=((a.toNat+b.toNat*256+c.toNat*65536+d.toNat*16777216:Nat):Int)):=Zz (by rw[g,h,i];omega);clear g h i;go_enter func269,ntmps269;go_wp2;go_ret;exact ⟨by rw[<-j.o];rfl,rfl⟩
def LB:(prog.info? 213).map (fun i=>(i.zero,i.size,i.bytes))=some (some (.int .u32 0),1,4):=k_
def z_av (m:Nat) (hm:m<=1000000):∀W:W_,(Instr.makeSlice 215 (.int .i64 m) (.int .i64 m)).run prog W=.ok (.slice (some ⟨W.heap.size,0,none⟩) m m) (W.alloc (.cells (madeCells #[.int .u32 0] m) 213)):=by
 intro W;exact run_make_row' 215 213 (.int .u32 0) 4 underlying215 LB rfl .i64 .i64 m o_ o_ W
def aH.made_words (W:W_) (base n:Nat) (hb:base<=W.heap.size) (hn:n<=1000000):aH (W.alloc (.cells (madeCells #[.int .u32 0] n) 213)) base 213 (.slice (some ⟨W.heap.size,0,none⟩) n n) (uv (List.replicate n 0)):=by
 have h:=aH.lit_ W base 213 (madeCells #[.int .u32 0] n) hb (by simp[size_madeCells,maxLen];omega)
 have e:(madeCells #[Value.int .u32 0] n).size=n:=by simp[size_madeCells]
 have g:(madeCells #[Value.int .u32 0] n).toList=uv (List.replicate n 0):=by rw[toList_madeCells_one];simp only[uv,List.map_replicate];rfl
 rwa [e,g] at h
def tD {W:W_} {c:Nat} (h:aH W base 213 (.slice (some ⟨G,0,none⟩) k c) (uv L)) (hl:L.length=k) (j x:Nat):aH (W.setCell ⟨G,j,none⟩ (.int .u32 x)) base 213 (.slice (some ⟨G,0,none⟩) k c) (uv (L.set j x)):=by
 have e:aH W base 213 (.slice (some ⟨G,0,none⟩) (uv L).length c) (uv L):=by rw[ft,hl];exact h
 have:=e.set_ j (.int .u32 x);rw[JH,ft,hl] at this;exact this
def x_8 {W:W_} {c:Nat} (h:aH W base 213 (.slice (some ⟨G,0,none⟩) k c) (uv L)) (hl:L.length=k) (j:Nat) (e:j<k):W.cell? ⟨G,j,none⟩=some (.int .u32 (L.getD j 0:Nat)):=by
 have g:aH W base 213 (.slice (some ⟨G,0,none⟩) (uv L).length c) (uv L):=by rw[ft,hl];exact h
 rw[g.cell j (by rw[ft,hl];exact e),r6 L j (by rw[hl];exact e)]
def zj (f:Nat->Nat) (n i:Nat):List Nat:=(List.range n).map fun j=>if j<i then f j else 0
def ql (f:Nat->Nat) (n i:Nat):(zj f n i).length=n:=by simp[zj]
def EH (f:Nat->Nat) (n:Nat):zj f n 0=List.replicate n 0:=by
 unfold zj;apply i2 s_;intro j e g;simp
def MH (f:Nat->Nat) (n:Nat):zj f n n=(List.range n).map f:=by
 unfold zj;apply List.map_congr_left;intro j e;rw[if_pos (List.mem_range.1 e)]
def AW (f:Nat->Nat) (n i:Nat) (h:i<n):(zj f n i).set i (f i)=zj f n (i+1):=by
 apply i2 (by simp[zj]);intro j g k;rw[List.getElem_set];by_cases e:i=j
 ·subst e;rw[if_pos rfl];simp[zj]
 rw[if_neg e]
 have:(j<i)=(j<i+1):=by rw[eq_iff_iff];omega
 simp only[zj,List.getElem_map,List.getElem_range,this]
def RO (w:W_) (s:B_) (hs:s.size<=1000000) (h4:s.size % 4=0) :
  Cl 255 #[.string s,.func (.func 256) #[] #[]] w fun e w'=>∃v,e=.returned (.tuple #[v,.int .i64 0])/\aH w' w.heap.size 213 v (uv (qk s.data.toList))/\Below w.heap.size w w':=by
 obtain ⟨n,hn⟩:∃n,s.size=4*n:=⟨s.size / 4,o_⟩
 have M:s.data.toList.length / 4=n:=by rw[g5];omega
 have f:zj (A5 s.data.toList) n n=qk s.data.toList:=by rw[MH];unfold qk;rw[M]
 rw[<-f];have t:=z_av n o_ w;have q:=aH.made_words w w.heap.size n (bS _) o_;rw[<-EH (A5 s.data.toList) n] at q;have u:=(Below.refl w.heap.size w).alloc (bS _) (.cells (madeCells #[.int .u32 0] n) 213);obtain ⟨w0,I⟩:∃w0,w.alloc (.cells (madeCells #[.int .u32 0] n) 213)=w0:=⟨_,rfl⟩;rw[I] at t q u;obtain ⟨G,hG,Q⟩:∃G,G=w.heap.size/\w.heap.size<=G:=⟨_,rfl,bS _⟩
 have N:aH w0 w.heap.size 213 (.slice (some ⟨G,0,none⟩) n n) (uv (zj (A5 s.data.toList) n 0)):=by rw[hG];exact q
 have D:(Instr.makeSlice 215 (.int .i64 n) (.int .i64 n)).run prog w=.ok (.slice (some ⟨G,0,none⟩) n n) w0:=by rw[hG];exact t
 have j:=Zz N;clear N q t hG M f
 have X:((s.size:Int) % 4 != 0)=false:=by rw[bne_eq_false_iff_eq];omega
 have V:(s.size:Int) / 4=(n:Int):=o_;have m:=Zz hn;clear hn;have O:=fun k h=>v_c s k h;have r:=Zz O;clear O;have P:∀i,A5 s.data.toList i=(s.data.toList.getD (4*i) 0).toNat*16777216+(s.data.toList.getD (4*i+1) 0).toNat*65536+(s.data.toList.getD (4*i+2) 0).toNat*256+(s.data.toList.getD (4*i+3) 0).toNat:=fun i=>rfl;have C:=Zz P;clear P;generalize A5 s.data.toList=g at *;generalize s.data.toList=l at *;go_enter func255,ntmps255;go_wp2;clear D I X V
 go_loopw [7,18] (fun _ y wr=>∃i:Nat,i<=n/\y=.int .i64 i/\Hid (aH wr w.heap.size 213 (.slice (some ⟨G,0,none⟩) n n) (uv (zj g n i)))/\Below w.heap.size w wr) (fun _ y _=>n-(intOf y).toNat)
 case atStart=>exact ⟨0,o_,rfl,j,u⟩
 case round =>
  clear j u;obtain ⟨i,h1,rfl,j,J⟩:=hrel;by_cases E:i<n
  ·have F:(i:Int)<(n:Int):=o_
   have H8:=x_8 j.o (ql _ _ _) i E;have H4:=j.o.frozen i;have z:=tD j.o (ql _ _ _) i (g i);rw[AW g n i E] at z;have S:=Zz z;clear z;have hn:=m.o;have Y:4*i<s.size:=o_;have Z:4*i+1<s.size:=o_;have A:4*i+2<s.size:=o_;have B:4*i+3<s.size:=o_;have h3:4*(i:Int)<(s.size:Int):=o_;have h5:4*(i:Int)+1<(s.size:Int):=o_;have h6:4*(i:Int)+2<(s.size:Int):=o_;have h7:4*(i:Int)+3<(s.size:Int):=o_;have h8:0<=4*(i:Int):=o_;have h9:0<=4*(i:Int)+1:=o_;have H0:0<=4*(i:Int)+2:=o_;have H1:0<=4*(i:Int)+3:=o_;clear hn
   have H:IntKind.i64.wrap (4*(i:Int))=4*(i:Int):=by rw[eM];have:=m.o;omega
   have K:IntKind.i64.wrap (4*(i:Int)+1)=4*(i:Int)+1:=by rw[eM];have:=m.o;omega
   have L:IntKind.i64.wrap (4*(i:Int)+2)=4*(i:Int)+2:=by rw[eM];have:=m.o;omega
   have h0:IntKind.i64.wrap (4*(i:Int)+3)=4*(i:Int)+3:=by rw[eM];have:=m.o;omega
   have y0:=r.o (4*i) Y;have y1:=r.o (4*i+1) Z;have y2:=r.o (4*i+2) A;have y3:=r.o (4*i+3) B;have o:=fun W=>TO (l.getD (4*i) 0) (l.getD (4*i+1) 0) (l.getD (4*i+2) 0) (l.getD (4*i+3) 0) W;rw[<-C.o i] at o;replace o:=fun W=>(o W).mono fun _ _ ⟨T,U⟩=>(⟨T,U.symm⟩:_/\_);generalize l.getD (4*i) 0=a at *;generalize l.getD (4*i+1) 0=b at *;generalize l.getD (4*i+2) 0=c at *;generalize l.getD (4*i+3) 0=d at *;generalize g i=x at *;generalize (zj g n i).getD i 0=h2 at *;have R:=Zz o;clear o j;have H2:(4*(i:Int)).toNat=4*i:=o_;have m1:(4*(i:Int)+1).toNat=4*i+1:=o_;have m2:(4*(i:Int)+2).toNat=4*i+2:=o_;have H3:(4*(i:Int)+3).toNat=4*i+3:=o_;have q0:IntKind.u32.wrap (a.toNat:Int)=(a.toNat:Int):=u32_wrap_id _ o_ (by have:=lR a;omega);have H5:IntKind.u32.wrap (b.toNat:Int)=(b.toNat:Int):=u32_wrap_id _ o_ (by have:=lR b;omega);have H6:IntKind.u32.wrap (c.toNat:Int)=(c.toNat:Int):=u32_wrap_id _ o_ (by have:=lR c;omega);have H7:IntKind.u32.wrap (d.toNat:Int)=(d.toNat:Int):=u32_wrap_id _ o_ (by have:=lR d;omega);go_wp2
   go_still_tail 28,k_
   still_call (R.o _)
   repeat still_step
   refine wpStill_nil ?_;go_wp2;go_roundw
   case rel=>exact ⟨i+1,o_,by go_num,Zz S.o.drew,(J.setCell (p:=⟨G,i,none⟩) Q _).drew⟩
   case measure=>simp[intOf];omega
  obtain rfl:i=n:=o_;go_wp2;go_ret2;exact ⟨_,rfl,j.o,J⟩
def KK (w:W_) (s:B_) (hs:s.size<=1000000) (h4:s.size % 4=0) :
  Cl 255 #[.string s,.func (.func 269) #[] #[]] w fun e w'=>∃v,e=.returned (.tuple #[v,.int .i64 0])/\aH w' w.heap.size 213 v (uv (iU s.data.toList))/\Below w.heap.size w w':=by
 obtain ⟨n,hn⟩:∃n,s.size=4*n:=⟨s.size / 4,o_⟩
 have M:s.data.toList.length / 4=n:=by rw[g5];omega
 have f:zj (leW s.data.toList) n n=iU s.data.toList:=by rw[MH];unfold iU;rw[M]
 rw[<-f];have t:=z_av n o_ w;have q:=aH.made_words w w.heap.size n (bS _) o_;rw[<-EH (leW s.data.toList) n] at q;have u:=(Below.refl w.heap.size w).alloc (bS _) (.cells (madeCells #[.int .u32 0] n) 213);obtain ⟨w0,I⟩:∃w0,w.alloc (.cells (madeCells #[.int .u32 0] n) 213)=w0:=⟨_,rfl⟩;rw[I] at t q u;obtain ⟨G,hG,Q⟩:∃G,G=w.heap.size/\w.heap.size<=G:=⟨_,rfl,bS _⟩
 have N:aH w0 w.heap.size 213 (.slice (some ⟨G,0,none⟩) n n) (uv (zj (leW s.data.toList) n 0)):=by rw[hG];exact q
 have D:(Instr.makeSlice 215 (.int .i64 n) (.int .i64 n)).run prog w=.ok (.slice (some ⟨G,0,none⟩) n n) w0:=by rw[hG];exact t
 have j:=Zz N;clear N q t hG M f
 have X:((s.size:Int) % 4 != 0)=false:=by rw[bne_eq_false_iff_eq];omega
 have V:(s.size:Int) / 4=(n:Int):=o_;have m:=Zz hn;clear hn;have O:=fun k h=>v_c s k h;have r:=Zz O;clear O;have P:∀i,leW s.data.toList i=(s.data.toList.getD (4*i) 0).toNat+(s.data.toList.getD (4*i+1) 0).toNat*256+(s.data.toList.getD (4*i+2) 0).toNat*65536+(s.data.toList.getD (4*i+3) 0).toNat*16777216:=fun i=>rfl;have C:=Zz P;clear P;generalize leW s.data.toList=g at *;generalize s.data.toList=l at *;go_enter func255,ntmps255;go_wp2;clear D I X V
 go_loopw [7,18] (fun _ y wr=>∃i:Nat,i<=n/\y=.int .i64 i/\Hid (aH wr w.heap.size 213 (.slice (some ⟨G,0,none⟩) n n) (uv (zj g n i)))/\Below w.heap.size w wr) (fun _ y _=>n-(intOf y).toNat)
 case atStart=>exact ⟨0,o_,rfl,j,u⟩
 case round =>
  clear j u;obtain ⟨i,h1,rfl,j,J⟩:=hrel;by_cases E:i<n
  ·have F:(i:Int)<(n:Int):=o_
   have H8:=x_8 j.o (ql _ _ _) i E;have H4:=j.o.frozen i;have z:=tD j.o (ql _ _ _) i (g i);rw[AW g n i E] at z;have S:=Zz z;clear z;have hn:=m.o;have Y:4*i<s.size:=o_;have Z:4*i+1<s.size:=o_;have A:4*i+2<s.size:=o_;have B:4*i+3<s.size:=o_;have h3:4*(i:Int)<(s.size:Int):=o_;have h5:4*(i:Int)+1<(s.size:Int):=o_;have h6:4*(i:Int)+2<(s.size:Int):=o_;have h7:4*(i:Int)+3<(s.size:Int):=o_;have h8:0<=4*(i:Int):=o_;have h9:0<=4*(i:Int)+1:=o_;have H0:0<=4*(i:Int)+2:=o_;have H1:0<=4*(i:Int)+3:=o_;clear hn
   have H:IntKind.i64.wrap (4*(i:Int))=4*(i:Int):=by rw[eM];have:=m.o;omega
   have K:IntKind.i64.wrap (4*(i:Int)+1)=4*(i:Int)+1:=by rw[eM];have:=m.o;omega
   have L:IntKind.i64.wrap (4*(i:Int)+2)=4*(i:Int)+2:=by rw[eM];have:=m.o;omega
   have h0:IntKind.i64.wrap (4*(i:Int)+3)=4*(i:Int)+3:=by rw[eM];have:=m.o;omega
   have y0:=r.o (4*i) Y;have y1:=r.o (4*i+1) Z;have y2:=r.o (4*i+2) A;have y3:=r.o (4*i+3) B;have o:=fun W=>Da (l.getD (4*i) 0) (l.getD (4*i+1) 0) (l.getD (4*i+2) 0) (l.getD (4*i+3) 0) W;rw[<-C.o i] at o;replace o:=fun W=>(o W).mono fun _ _ ⟨T,U⟩=>(⟨T,U.symm⟩:_/\_);generalize l.getD (4*i) 0=a at *;generalize l.getD (4*i+1) 0=b at *;generalize l.getD (4*i+2) 0=c at *;generalize l.getD (4*i+3) 0=d at *;generalize g i=x at *;generalize (zj g n i).getD i 0=h2 at *;have R:=Zz o;clear o j;have H2:(4*(i:Int)).toNat=4*i:=o_;have m1:(4*(i:Int)+1).toNat=4*i+1:=o_;have m2:(4*(i:Int)+2).toNat=4*i+2:=o_;have H3:(4*(i:Int)+3).toNat=4*i+3:=o_;have q0:IntKind.u32.wrap (a.toNat:Int)=(a.toNat:Int):=u32_wrap_id _ o_ (by have:=lR a;omega);have H5:IntKind.u32.wrap (b.toNat:Int)=(b.toNat:Int):=u32_wrap_id _ o_ (by have:=lR b;omega);have H6:IntKind.u32.wrap (c.toNat:Int)=(c.toNat:Int):=u32_wrap_id _ o_ (by have:=lR c;omega);have H7:IntKind.u32.wrap (d.toNat:Int)=(d.toNat:Int):=u32_wrap_id _ o_ (by have:=lR d;omega);go_wp2
   go_still_tail 28,k_
   still_call (R.o _)
   repeat still_step
   refine wpStill_nil ?_;go_wp2;go_roundw
   case rel=>exact ⟨i+1,o_,by go_num,Zz S.o.drew,(J.setCell (p:=⟨G,i,none⟩) Q _).drew⟩
   case measure=>simp[intOf];omega
  obtain rfl:i=n:=o_;go_wp2;go_ret2;exact ⟨_,rfl,j.o,J⟩
def zC (w:W_) (s:B_) (hs:s.size<=1000000) (g:s.size % 4=0) :
  Cl 229 #[.string s] w fun e w'=>∃v,e=.returned (.tuple #[v,.int .i64 0])/\aH w' w.heap.size 213 v (uv (qk s.data.toList))/\Below w.heap.size w w':=by
 have h:=Zz (RO w s hs g);clear g hs;go_enter func229,ntmps229;go_wp2_with fail;refine (h.o).mono ?_;rintro e k ⟨v,rfl,j,i⟩;go_wp2;go_ret2;exact ⟨_,rfl,j,i⟩
def v_D (w:W_) (s:B_) (hs:s.size<=1000000) (g:s.size % 4=0) :
  Cl 266 #[.string s] w fun e w'=>∃v,e=.returned (.tuple #[v,.int .i64 0])/\aH w' w.heap.size 213 v (uv (iU s.data.toList))/\Below w.heap.size w w':=by
 have h:=Zz (KK w s hs g);clear g hs;go_enter func266,ntmps266;go_wp2_with fail;refine (h.o).mono ?_;rintro e k ⟨v,rfl,j,i⟩;go_wp2;go_ret2;exact ⟨_,rfl,j,i⟩
def LP (l:List UInt8):∀u∈bv l,u.oneCell'=true:=by
 intro u e;simp[bv] at e;obtain ⟨x,_,rfl⟩:=e;rfl
def UJ (m:Nat) (hm:m<=10000000):∀W:W_,(Instr.makeSlice 105 (.int .i64 0) (.int .i64 m)).run prog W=.ok (.slice (some ⟨W.heap.size,0,none⟩) 0 m) (W.alloc (.cells (madeCells #[.int .u8 0] m) 5)):=by
 intro W;obtain ⟨k,j,h,g,i⟩:=info_parts nM;have e:=run_make (P:=prog) W 105 5 k (.int .u8 0) underlying105 j h .i64 .i64 0 (m:Int) o_ o_ (by rw[i];omega) o_;simp only[Int.toNat_natCast,g,Nat.mul_one] at e;exact e
def Ab (W:W_) (cs:Array Value) (e:TypeId) (hm:cs.size<=maxLen):b_ (W.alloc (.cells cs e)) (.slice (some ⟨W.heap.size,0,none⟩) cs.size cs.size) cs.toList :=
 (aH.lit_ W W.heap.size e cs (bS _) hm).reads
def aH.made0 (W:W_) (base n:Nat) (hb:base<=W.heap.size) (hn:n<=10000000):aH (W.alloc (.cells (madeCells #[.int .u8 0] n) 5)) base 5 (.slice (some ⟨W.heap.size,0,none⟩) 0 n) []:=by
 refine ⟨rfl,.inr ⟨W.heap.size,n,madeCells #[.int .u8 0] n,rfl,hb,heap_alloc_new W _,Nat.zero_le _,by simp only[maxLen];omega,by simp[size_madeCells],s_⟩⟩
def T_ (L:List Nat) (i:Nat) (h:i<L.length):v8 (L.take (i+1))=v8 (L.take i)++be4 (L.getD i 0):=by
 rw[mx h];unfold v8;rw[List.flatMap_append];simp[be,h]
def v_d (w:W_) (v:Value) (L:List Nat) (hv:b_ w v (uv L)) (h1:L.length<=1000000) :
  Cl 124 #[v] w fun e w'=>e=.returned (.string (bs (v8 L)))/\Below w.heap.size w w':=by
 have h3:=hv;obtain ⟨A,c,rfl,N,h8,m⟩:=hv;rw[ft] at N m ⊢;have I:=Zz m;clear m h3;have J:=Zz (T_ L);have M:L.take L.length=L:=List.take_length;have G:=Zz M;clear M;have F:=Zz (x_J)
 have K:Hid (∀i,(L.take i).length<=i):=Zz fun i=>by rw[gC];omega
 obtain ⟨n,hn⟩:∃n,L.length=n:=⟨_,rfl⟩;rw[hn] at N I J G h1 ⊢;have D:=Zz hn;clear hn
 have R:(Instr.makeSlice 105 (.int .i64 0) (.int .i64 (4*(n:Int)))).run prog w=.ok (.slice (some ⟨w.heap.size,0,none⟩) 0 (4*n)) (w.alloc (.cells (madeCells #[.int .u8 0] (4*n)) 5)):=by
  have:=UJ (4*n) o_ w;have e:((4*n:Nat):Int)=4*(n:Int):=o_;rw[e] at this;exact this
 have y:=aH.made0 w w.heap.size (4*n) (bS _) o_;have u:=(Below.refl w.heap.size w).alloc (bS _) (.cells (madeCells #[.int .u8 0] (4*n)) 5);obtain ⟨w0,U⟩:∃w0,w.alloc (.cells (madeCells #[.int .u8 0] (4*n)) 5)=w0:=⟨_,rfl⟩;rw[U] at R y u;have W:aH w0 w.heap.size 5 (.slice (some ⟨w.heap.size,0,none⟩) 0 (4*n)) (bv (v8 (L.take 0))):=y;have g:=Zz W;clear W y
 have h5:IntKind.i64.wrap (4*(n:Int))=4*(n:Int):=by rw[eM];omega
 go_enter func124,ntmps124;go_wp2;clear R U h5
 go_loopw [3,5,12] (fun h4 _ a wr=>∃i:Nat,i<=n/\a=.int .i64 i/\Hid (aH wr w.heap.size 5 h4 (bv (v8 (L.take i))))/\Below w.heap.size w wr) (fun _ _ a _=>n-(intOf a).toNat)
 case atStart=>exact ⟨0,o_,rfl,g,u⟩
 case round =>
  clear g u;obtain ⟨i,H0,rfl,g,j⟩:=hrel;by_cases s:i<n
  ·obtain ⟨b,off,rfl,O⟩:=I.o o_
   have k:=O i s;rw[r6 L i (by rw[D.o];exact s)] at k;have hk:=(j.cell (fV w _ k)).trans k;have T:=J.o i s
   have X:((bv (v8 (L.take i))).length+(bv (be4 (L.getD i 0))).length)*1<=140737488355328:=by
    rw[og,og,F.o];have:(be4 (L.getD i 0)).length=4:=rfl;have:=K.o i;omega
   have V:=Zz X;clear X;have Z:=Zz T;clear T;have S:=LP (be4 (L.getD i 0));have Y:=Zz S;clear S;have h7:(i:Int)<(n:Int):=o_;generalize L.getD i 0=x at *
   have f:bv (be4 x)=[.int .u8 ((x:Int) / 16777216 % 256),.int .u8 ((x:Int) / 65536 % 256),.int .u8 ((x:Int) / 256 % 256),.int .u8 ((x:Int) % 256)]:=by
    simp only[bv,be4,List.map_cons,List.map_nil,TS];congr 1
   have E:=Zz f;clear f O k;rw[E.o] at V Y;have h:=fun p q r t:Value=>Ab wr #[p,q,r,t] 5 (by simp[maxLen]);have z:=Zz h;clear h;have C:=Zz (fun o:Obj=>g.o.alloc o);have h0:=Zz (fun o:Obj=>j.alloc j.size o)
   have Q:∀o:Obj,w.heap.size<=(wr.alloc o).heap.size:=fun o=>by have:=j.size;simp;omega
   have B:=Zz Q;clear Q
   go_wp2_with (at_builtin;refine LK (w0:=w) w.heap.size rfl (.tmp 16) (.tmp 28) 105 5 (.int .u8 0) 1 rfl underlying105 nM rfl d_ _ _ _ _ rfl rfl (z.o _ _ _ _) Y.o (C.o _) (h0.o _) (B.o _) V.o ?_;intro H2 H3 d H h6 H1)
   rw[<-E.o,<-w_E,<-Z.o] at d;have h2:=Zz d;clear d;go_roundw
   case rel=>exact ⟨i+1,o_,by go_num,h2,H⟩
   case measure=>simp[intOf];omega
  obtain rfl:i=n:=o_;rw[G.o] at g;have h9:=UG (P:=prog) (src:=105) (dst:=9) underlying105 underlying5 underlying9 g.o.reads;generalize h:v8 L=l at *;have z:=Zz h;clear h;go_wp2;go_ret;exact ⟨by rw[z.o];rfl,j⟩
def YB (L:List Nat) (i:Nat) (h:i<L.length):oO (L.take (i+1))=oO (L.take i)++le4 (L.getD i 0):=by
 rw[mx h];unfold oO;rw[List.flatMap_append];simp[be,h]
def w_2 (w:W_) (v:Value) (L:List Nat) (hv:b_ w v (uv L)) (h1:L.length<=1000000) :
  Cl 265 #[v] w fun e w'=>e=.returned (.string (bs (oO L)))/\Below w.heap.size w w':=by
 have h3:=hv;obtain ⟨A,c,rfl,N,h8,m⟩:=hv;rw[ft] at N m ⊢;have I:=Zz m;clear m h3;have J:=Zz (YB L);have M:L.take L.length=L:=List.take_length;have G:=Zz M;clear M;have F:=Zz (v_x)
 have K:Hid (∀i,(L.take i).length<=i):=Zz fun i=>by rw[gC];omega
 obtain ⟨n,hn⟩:∃n,L.length=n:=⟨_,rfl⟩;rw[hn] at N I J G h1 ⊢;have D:=Zz hn;clear hn
 have R:(Instr.makeSlice 105 (.int .i64 0) (.int .i64 (4*(n:Int)))).run prog w=.ok (.slice (some ⟨w.heap.size,0,none⟩) 0 (4*n)) (w.alloc (.cells (madeCells #[.int .u8 0] (4*n)) 5)):=by
  have:=UJ (4*n) o_ w;have e:((4*n:Nat):Int)=4*(n:Int):=o_;rw[e] at this;exact this
 have y:=aH.made0 w w.heap.size (4*n) (bS _) o_;have u:=(Below.refl w.heap.size w).alloc (bS _) (.cells (madeCells #[.int .u8 0] (4*n)) 5);obtain ⟨w0,U⟩:∃w0,w.alloc (.cells (madeCells #[.int .u8 0] (4*n)) 5)=w0:=⟨_,rfl⟩;rw[U] at R y u;have W:aH w0 w.heap.size 5 (.slice (some ⟨w.heap.size,0,none⟩) 0 (4*n)) (bv (oO (L.take 0))):=y;have g:=Zz W;clear W y
 have h5:IntKind.i64.wrap (4*(n:Int))=4*(n:Int):=by rw[eM];omega
 go_enter func265,ntmps265;go_wp2;clear R U h5
 go_loopw [3,5,12] (fun h4 _ a wr=>∃i:Nat,i<=n/\a=.int .i64 i/\Hid (aH wr w.heap.size 5 h4 (bv (oO (L.take i))))/\Below w.heap.size w wr) (fun _ _ a _=>n-(intOf a).toNat)
 case atStart=>exact ⟨0,o_,rfl,g,u⟩
 case round =>
  clear g u;obtain ⟨i,H0,rfl,g,j⟩:=hrel;by_cases s:i<n
  ·obtain ⟨b,off,rfl,O⟩:=I.o o_
   have k:=O i s;rw[r6 L i (by rw[D.o];exact s)] at k;have hk:=(j.cell (fV w _ k)).trans k;have T:=J.o i s
   have X:((bv (oO (L.take i))).length+(bv (le4 (L.getD i 0))).length)*1<=140737488355328:=by
    rw[og,og,F.o];have:(le4 (L.getD i 0)).length=4:=rfl;have:=K.o i;omega
   have V:=Zz X;clear X;have Z:=Zz T;clear T;have S:=LP (le4 (L.getD i 0));have Y:=Zz S;clear S;have h7:(i:Int)<(n:Int):=o_;generalize L.getD i 0=x at *
   have f:bv (le4 x)=[.int .u8 ((x:Int) % 256),.int .u8 ((x:Int) / 256 % 256),.int .u8 ((x:Int) / 65536 % 256),.int .u8 ((x:Int) / 16777216 % 256)]:=by
    simp only[bv,le4,List.map_cons,List.map_nil,TS];congr 1
   have E:=Zz f;clear f O k;rw[E.o] at V Y;have h:=fun p q r t:Value=>Ab wr #[p,q,r,t] 5 (by simp[maxLen]);have z:=Zz h;clear h;have C:=Zz (fun o:Obj=>g.o.alloc o);have h0:=Zz (fun o:Obj=>j.alloc j.size o)
   have Q:∀o:Obj,w.heap.size<=(wr.alloc o).heap.size:=fun o=>by have:=j.size;simp;omega
   have B:=Zz Q;clear Q
   go_wp2_with (at_builtin;refine LK (w0:=w) w.heap.size rfl (.tmp 16) (.tmp 28) 105 5 (.int .u8 0) 1 rfl underlying105 nM rfl d_ _ _ _ _ rfl rfl (z.o _ _ _ _) Y.o (C.o _) (h0.o _) (B.o _) V.o ?_;intro H2 H3 d H h6 H1)
   rw[<-E.o,<-w_E,<-Z.o] at d;have h2:=Zz d;clear d;go_roundw
   case rel=>exact ⟨i+1,o_,by go_num,h2,H⟩
   case measure=>simp[intOf];omega
  obtain rfl:i=n:=o_;rw[G.o] at g;have h9:=UG (P:=prog) (src:=105) (dst:=9) underlying105 underlying5 underlying9 g.o.reads;generalize h:oO L=l at *;have z:=Zz h;clear h;go_wp2;go_ret;exact ⟨by rw[z.o];rfl,j⟩
def gW (L:List Nat):Prop:=∀i,L.getD i 0<4294967296
def gW.set (h:gW L) (i x:Nat) (g:x<4294967296):gW (L.set i x):=by
 intro j;by_cases e:i=j
 ·subst e
  by_cases hl:i<L.length
  ·simpa[be,hl] using g
  simp[be,hl]
 have:=h j;simpa[be,BA,e] using this
def sg0 (a:Nat):Nat:=fo a 25 ^^^ fo a 14 ^^^ a / 8
def sg1 (b:Nat):Nat:=fo b 15 ^^^ fo b 13 ^^^ b / 1024
def xlt {a b:Nat} (ha:a<4294967296) (hb:b<4294967296):a ^^^ b<4294967296:=Nat.xor_lt_two_pow (n:=32) ha hb
def scS (W:List Nat) (i:Nat):List Nat:=W.set i ((W.getD (i-16) 0+sg0 (W.getD (i-15) 0)+W.getD (i-7) 0+sg1 (W.getD (i-2) 0)) % 4294967296)
def Zb (W:List Nat):Nat->List Nat
 | 0=>W
 | n+1=>scS (Zb W n) (16+n)
def Ly (W:List Nat) (n:Nat):(Zb W n).length=W.length:=by
 induction n with
 | zero=>rfl
 | succ n e=>simp[Zb,scS,e]
def WJ {W:List Nat} (h:gW W) (n:Nat):gW (Zb W n):=by
 induction n with
 | zero=>exact h
 | succ n e=>exact e.set _ _ (gx _ d_)
def Dw (l:List UInt8):List Nat:=Zb (qk l++List.replicate 48 0) 48
def pt (h:ab w G t (uv L).toArray) (i:Nat) (e:i<L.length):w.cell? ⟨G,i,none⟩=some (.int .u32 (L.getD i 0:Nat)):=by
 rw[h.cell,lP,r6 L i e]
def x_0 (h:ab w G t (uv L).toArray) (i x:Nat):ab (w.setCell ⟨G,i,none⟩ (.int .u32 x)) G t (uv (L.set i x)).toArray:=by
 have:=h.set_ i (.int .u32 x)
 rwa [F6,JH] at this
def w_R (a b q:Nat) (e:(a+b) % 4294967296=q):IntKind.u32.wrap ((a:Int)+(b:Int))=(q:Int):=by rw[IntKind.wrap_u32];omega
def MM:(#[.int .u32 0,.int .u32 0,.int .u32 0,.int .u32 0,.int .u32 0,.int .u32 0,.int .u32 0,.int .u32 0,.int .u32 0,.int .u32 0,.int .u32 0,.int .u32 0,.int .u32 0,.int .u32 0,.int .u32 0,.int .u32 0,.int .u32 0,.int .u32 0,.int .u32 0,.int .u32 0,.int .u32 0,.int .u32 0,.int .u32 0,.int .u32 0,.int .u32 0,.int .u32 0,.int .u32 0,.int .u32 0,.int .u32 0,.int .u32 0,.int .u32 0,.int .u32 0,.int .u32 0,.int .u32 0,.int .u32 0,.int .u32 0,.int .u32 0,.int .u32 0,.int .u32 0,.int .u32 0,.int .u32 0,.int .u32 0,.int .u32 0,.int .u32 0,.int .u32 0,.int .u32 0,.int .u32 0,.int .u32 0,.int .u32 0,.int .u32 0,.int .u32 0,.int .u32 0,.int .u32 0,.int .u32 0,.int .u32 0,.int .u32 0,.int .u32 0,.int .u32 0,.int .u32 0,.int .u32 0,.int .u32 0,.int .u32 0,.int .u32 0,.int .u32 0]:Array Value)=(uv (List.replicate 64 0)).toArray:=by rfl
def w_L (L:List Nat):∀u∈uv L,u.oneCell'=true:=by
 intro u e;simp[uv] at e;obtain ⟨x,_,rfl⟩:=e;rfl
def Kk:(prog.info? 313).map (·.size)=some 64:=k_
def M_:(prog.info? 213).map (·.size)=some 1:=k_
def yn (w:W_) (s:B_) (hs:s.size=64) :
  Cl 227 #[.string s] w fun e w'=>e=.returned (.agg (uv (Dw s.data.toList)).toArray)/\Below w.heap.size w w':=by
 have H6:=fun W=>zC W s o_ o_
 have u:(qk s.data.toList).length=16:=by unfold qk;rw[fW,zH,g5,hs]
 have H2:gW (qk s.data.toList++List.replicate 48 0):=by
  intro i;by_cases h:i<16
  ·rw[be,A3 (by rw[u];exact h)]
   unfold qk;rw[gq]
   cases e:(List.range (s.data.toList.length / 4))[i]? with
   | none=>simp
   | some j=>exact mT _ _
  rw[be,uS (by rw[u];omega),List.getElem?_replicate];split<;>simp
 have x5:Dw s.data.toList=Zb (qk s.data.toList++List.replicate 48 0) 48:=rfl
 have hsp:splice (uv (List.replicate 64 0)) 0 (uv (qk s.data.toList))=uv (qk s.data.toList++List.replicate 48 0):=by
  unfold splice;rw[ft,u];simp[uv]
 have x8:=Zz H6;clear H6;generalize Dw s.data.toList=S at *;generalize qk s.data.toList=k at *;have I:=Zz u;clear u;have rE:=Zz H2;clear H2;have x9:=Zz x5;clear x5;have fw:=Zz hsp;clear hsp;have HS:=Zz hs;clear hs;go_enter func227,ntmps227;go_wp2_with fail;generalize Y:(#[.int .u32 0,.int .u32 0,.int .u32 0,.int .u32 0,.int .u32 0,.int .u32 0,.int .u32 0,.int .u32 0,.int .u32 0,.int .u32 0,.int .u32 0,.int .u32 0,.int .u32 0,.int .u32 0,.int .u32 0,.int .u32 0,.int .u32 0,.int .u32 0,.int .u32 0,.int .u32 0,.int .u32 0,.int .u32 0,.int .u32 0,.int .u32 0,.int .u32 0,.int .u32 0,.int .u32 0,.int .u32 0,.int .u32 0,.int .u32 0,.int .u32 0,.int .u32 0,.int .u32 0,.int .u32 0,.int .u32 0,.int .u32 0,.int .u32 0,.int .u32 0,.int .u32 0,.int .u32 0,.int .u32 0,.int .u32 0,.int .u32 0,.int .u32 0,.int .u32 0,.int .u32 0,.int .u32 0,.int .u32 0,.int .u32 0,.int .u32 0,.int .u32 0,.int .u32 0,.int .u32 0,.int .u32 0,.int .u32 0,.int .u32 0,.int .u32 0,.int .u32 0,.int .u32 0,.int .u32 0,.int .u32 0,.int .u32 0,.int .u32 0,.int .u32 0]:Array Value)=Z;rw[MM] at Y;refine (x8.o _).mono ?_;rintro e H ⟨v,rfl,X,f⟩;have M:=((ab.new w 313 Z).alloc (.cells Z 313)).below f (by simp;omega);have z:=(ab.new (w.alloc (.cells Z 313)) 313 Z).below f s_;have ct:Below w.heap.size w H:=rz (((Below.refl w.heap.size w).alloc (bS _) _).alloc s_ _) (by simp;omega) f;have m:(w.alloc (.cells Z 313)).heap.size=w.heap.size+1:=s_;rw[m] at z;obtain ⟨R,x7,y0⟩:∃R,w.heap.size=R/\w.heap.size<=R:=⟨_,rfl,bS _⟩;obtain ⟨G,hG,L,y5⟩:∃G,w.heap.size+1=G/\w.heap.size<=G/\G≠R:=⟨_,rfl,o_,o_⟩;obtain ⟨g,c,rfl,_,_,hc⟩:=X.form (by rw[ft,I.o];omega)
 have Q:(uv k).length=16:=by rw[ft,I.o]
 have H0:=fun j v (h:(uv k)[j]?=some v)=>by
  have hj:j<(uv k).length:=by
   rcases Nat.lt_or_ge j (uv k).length with U|U
   ·exact U
   rw[pD U] at h;cases h
  exact (X.cell j hj).trans h
 rw[Q] at hc ⊢;rw[<-Y] at M z;rw[hG] at z ⊢;rw[x7] at M;have h0:=Zz M;have nG:=Zz z;have jQ:=Zz H0;have pK:=Zz (w_L k);have y6:=Zz Q;clear M z H0 X Y Q f m;have hRg:R<H.heap.size:=h0.o.lt
 go_wp2_with (refine wpList_copy_splice rfl (.tmp 16) (.tmp 17) 215 215 rfl 213 underlying215 M_ (some ⟨G,0,none⟩) (some ⟨g,0,none⟩) 64 64 16 c rfl rfl G 0 _ 313 nG.o (uv k) y6.o (fun _=>⟨rfl,_,rfl,fun j v h=>by rw[SN,jm];exact jQ.o j v h⟩) (by rw[ft,ft,I.o];simp) pK.o G H (Below.refl _ _) (bS _) ?_;intro N H7 h8)
 have J:Below w.heap.size w N:=ct.trans (h8.mono L)
 have h4:ab N G 313 (uv (Zb (k++List.replicate 48 0) (16-16))).toArray:=by
  have:=H7.o;rw[fw.o] at this;exact this
 have P:=Zz h4;clear h4 H7;have x6:Hid (ab N R 313 (uv (List.replicate 64 0)).toArray):=Zz (h0.o.below h8 o_)
 have h5:∀n,(Zb (k++List.replicate 48 0) n).length=64:=fun n=>by rw[Ly,cd,I.o];simp
 have o:=Zz h5;clear h5;have h2:=Zz (WJ rE.o);have aR:Hid (∀n,Zb (k++List.replicate 48 0) (n+1)=scS (Zb (k++List.replicate 48 0) n) (16+n)):=Zz fun n=>rfl;generalize Zb (k++List.replicate 48 0)=F at *
 have VR:R<N.heap.size:=by
  have:=J.size;have h:=P.o.lt;omega
 have bO:=J
 go_loopw [6,7,8,9,10] (fun D _ _ _ _ wr=>∃i:Nat,16<=i/\i<=64/\D=.int .i64 i/\Hid (ab wr G 313 (uv (F (i-16))).toArray)/\Hid (∃Z,ab wr R 313 Z/\Z.size=64)/\Below w.heap.size w wr) (fun D _ _ _ _ _=>64-(intOf D).toNat)
 case atStart=>exact ⟨16,o_,o_,rfl,P,Zz ⟨_,x6.o,by simp[uv]⟩,J⟩
 case round =>
  clear P J bO;obtain ⟨i,zi,lQ,rfl,l,HR,V⟩:=hrel;by_cases af:i<64
  ·have hii:(i:Int)<64:=o_
   have y7:=pt l.o (i-15) (by rw[o.o];omega);have y8:=pt l.o (i-2) (by rw[o.o];omega);have h3:=pt l.o (i-16) (by rw[o.o];omega);have h6:=pt l.o (i-7) (by rw[o.o];omega);have h7:=pt l.o i (by rw[o.o];omega);have fz:=l.o.frozen i;have t:=h2.o (i-16) (i-15);have r:=h2.o (i-16) (i-2);have T:=aR.o (i-16);rw[show 16+(i-16)=i by omega,show i-16+1=i+1-16 by omega] at T;have H3:Hid (F (i+1-16)=(F (i-16)).set i (((F (i-16)).getD (i-16) 0+sg0 ((F (i-16)).getD (i-15) 0)+(F (i-16)).getD (i-7) 0+sg1 ((F (i-16)).getD (i-2) 0)) % 4294967296)):=Zz T;clear T;have H1:=fun x=>x_0 l.o i x;have h9:=Zz H1;clear H1 l;generalize (F (i-16)).getD (i-15) 0=a at *;generalize (F (i-16)).getD (i-2) 0=b at *;generalize (F (i-16)).getD (i-16) 0=E at *;generalize (F (i-16)).getD (i-7) 0=d at *;generalize (F (i-16)).getD i 0=iT at *;have H9:=fun W=>Lk a 7 7 rfl t d_ d_ W;have x0:=fun W=>Lk a 18 18 rfl t d_ d_ W;have x3:=fun W=>Lk b 17 17 rfl r d_ d_ W;have x4:=fun W=>Lk b 19 19 rfl r d_ d_ W
   have x1:bits .xor .u32 (bits .xor .u32 ((fo a (32-7):Nat):Int) ((fo a (32-18):Nat):Int)) ((a:Int) / 8)=((sg0 a:Nat):Int):=by
    rw[FR _ _ (qj t) (qj t),show (a:Int) / 8=((a / 8:Nat):Int) by omega,FR _ _ (xlt (qj t) (qj t)) o_];rfl
   have x2:bits .xor .u32 (bits .xor .u32 ((fo b (32-17):Nat):Int) ((fo b (32-19):Nat):Int)) ((b:Int) / 1024)=((sg1 b:Nat):Int):=by
    rw[FR _ _ (qj r) (qj r),show (b:Int) / 1024=((b / 1024:Nat):Int) by omega,FR _ _ (xlt (qj r) (qj r)) o_];rfl
   generalize fo a (32-7)=p1 at *;generalize fo a (32-18)=p2 at *;generalize fo b (32-17)=p3 at *;generalize fo b (32-19)=p4 at *;generalize sg0 a=x at *;generalize sg1 b=y at *;have y1:=Zz H9;have y2:=Zz x0;have y3:=Zz x3;have y4:=Zz x4;clear H9 x0 x3 x4;obtain ⟨A,H8⟩:∃q,(E+x) % 4294967296=q:=⟨_,rfl⟩;obtain ⟨B,H4⟩:∃q,(A+d) % 4294967296=q:=⟨_,rfl⟩;obtain ⟨C,h1⟩:∃q,(B+y) % 4294967296=q:=⟨_,rfl⟩;have H5:(E+x+d+y) % 4294967296=C:=o_;rw[H5] at H3;have t15:((i:Int)-15).toNat=i-15:=o_;have t2:((i:Int)-2).toNat=i-2:=o_;have t16:((i:Int)-16).toNat=i-16:=o_;have t7:((i:Int)-7).toNat=i-7:=o_;have n15:15<=(i:Int):=o_;have n2:2<=(i:Int):=o_;have n16:16<=(i:Int):=o_;have n7:7<=(i:Int):=o_;have m15:(i:Int)-15<64:=o_;have m2:(i:Int)-2<64:=o_;have m16:(i:Int)-16<64:=o_;have m7:(i:Int)-7<64:=o_
   have pM:IntKind.i64.wrap ((i:Int)-15)=(i:Int)-15:=by rw[eM];omega
   have RB:IntKind.i64.wrap ((i:Int)-2)=(i:Int)-2:=by rw[eM];omega
   have Ed:IntKind.i64.wrap ((i:Int)-16)=(i:Int)-16:=by rw[eM];omega
   have w7:IntKind.i64.wrap ((i:Int)-7)=(i:Int)-7:=by rw[eM];omega
   have u1:=w_R E x A H8;have u2:=w_R A d B H4;have u3:=w_R B y C h1;clear H8 H4 h1 H5;have b16:wr.drew.cell? ⟨G,i-16,none⟩=some (.int .u32 E):=h3;have b7:wr.drew.cell? ⟨G,i-7,none⟩=some (.int .u32 d):=h6;have bi:wr.drew.cell? ⟨G,i,none⟩=some (.int .u32 iT):=h7;have bz:wr.drew.frozen? ⟨G,i,none⟩=false:=fz;go_wp2
   go_still k_
   go_wp2_with fail;refine (y1.o _).mono ?_;rintro e w' ⟨rfl,rfl⟩;go_wp2_with fail;refine (y2.o _).mono ?_;rintro e w' ⟨rfl,rfl⟩;go_wp2_with fail;refine (y3.o _).mono ?_;rintro e w' ⟨rfl,rfl⟩;go_wp2_with fail;refine (y4.o _).mono ?_;rintro e w' ⟨rfl,rfl⟩;go_wp2;clear y7 y8 h3 h6 h7 fz;have oT:Hid (∀x:Nat,ab (wr.drew.drew.setCell ⟨G,i,none⟩ (.int .u32 x)) G 313 (uv ((F (i-16)).set i x)).toArray):=Zz h9.o;have rG:Hid (∃Z,ab wr.drew.drew R 313 Z/\Z.size=64):=HR;have ak:Hid (Below w.heap.size w wr.drew.drew):=Zz V.drew.drew;clear h9 HR V;generalize wr.drew=wd at *
   go_still_tail 15,k_
   go_wp2;go_roundw
   case rel =>
    refine ⟨i+1,o_,o_,by go_num,Zz ?_,Zz ?_,?_⟩
    ·rw[H3.o];exact oT.o C
    ·obtain ⟨Z,O,K⟩:=rG.o
     exact ⟨Z,O.far (p:=⟨G,i,none⟩) (fun e=>y5 e.symm) _,K⟩
    exact ak.o.setCell (p:=⟨G,i,none⟩) L _
   case measure=>simp[intOf];omega
  obtain rfl:i=64:=o_;obtain ⟨Z,O,K⟩:=HR.o
  have m:(uv (F (64-16))).toArray.size=64:=by rw[tK,ft,o.o]
  have y9:=all_oneCell_toArray (w_L (F (64-16)));have hS:S=F (64-16):=x9.o
  go_wp2_with (first
   | (refine wpList_load_row rfl 313 (.tmp 3) rfl G rfl 313 _ (0,0) _ l.o underlying313 rfl (by rw[m];exact Kk) ?_)
   | (refine wpList_store_row rfl 313 (.tmp 2) (.tmp 62) rfl R _ rfl rfl 313 Z O (by rw[m];exact Kk) (by rw[m];exact K) y9 ?_))
  have hg:=setRow_heap wr R Z (uv (F (64-16))).toArray _ _ O;exact bodyPost_ret (v:=.agg (uv S).toArray) (by rw[hS];exact results_cell_row rfl _ _ R _ _ _ _ rfl hg underlying313 rfl (by rw[m];exact Kk)) rfl ⟨rfl,below_setRow V y0 _⟩
section
def cV (h:d<a.tmps.size):(a.put (some d) v).eval (.tmp d)=v:=by
 show (a.tmps.setIfInBounds d v).getD d undef=v;simp[Array.getD_eq_getD_getElem?,h]
def a6 (h:d≠t):(a.put (some d) v).eval (.tmp t)=a.eval (.tmp t):=by
 show (a.tmps.setIfInBounds d v).getD t undef=a.tmps.getD t undef;simp[Array.getD_eq_getD_getElem?,Array.getElem?_setIfInBounds,h]
def cY:(a.put (some d) v).tmps.size=a.tmps.size:=by
 show (a.tmps.setIfInBounds d v).size=a.tmps.size;simp
end
def dF (n:Nat):Code->Option (Array Oper)
 | .region id ah _=>if id=n then some ah else none
 | .seq a b=>(dF n a).or (dF n b)
 | .cond _ a b=>(dF n a).or (dF n b)
 | .block _ b=>dF n b
 | .loop b=>dF n b
 | .scope b=>dF n b
 | _=>none
def ce (ah:Array Oper) (i:Nat) (e:Op) (d:Option Nat):Prop:=(ah[i]?).map (fun o=>(o.op,o.dst,o.guard))=some (e,d,none)
def ce.get {g:Op} {d:Option Nat} (h:ce ah i g d):∃o,ah[i]?=some o/\o.op=g/\o.dst=d/\o.guard=none:=by
 unfold ce at h;rcases e:ah[i]? with _|o
 ·rw[e] at h;cases h
 rw[e] at h;injection h with h;injection h with j h;injection h with k l;exact ⟨o,rfl,j,k,l⟩
section
variable {Q:Exit->Act->W_->Prop} {md:Region.Mode} {S:W_->Prop} {fuel:Nat} {listed:Array Bool} 
def da (i:Nat) (g:Op) (d:Nat) (v:Value) (q:ce ah i g (some d)) (hs:Region.noSelect ah=true) (p:Region.free md ah listed i=true) (r:(Region.ready md ah listed).contains i=true)
  (n:∀c (a:Act) d v w,Q (.panic c) (a.put d v) w->Q (.panic c) a w) (s:∀(w:W_) (o:Oper),S w->o.op=g->(execOp a.eval o).run P w=.ok (.value v) w) (e:S w)
  (h:wpAnyH P md ah Q S fuel (listed.setIfInBounds i true) (a.put (some d) v) w):wpAnyH P md ah Q S (fuel+1) listed a w:=by
 obtain ⟨o,j,k,l,m⟩:=q.get;refine wpAnyH_take j hs p r (fun c a w=>n c a _ _ w) (.inl ⟨by unfold Region.wanted;rw[m],fun w e=>s w o e k⟩) e ?_;rw[l];exact h
def w_3 (i:Nat) (e:Op) (d:Nat) (v:Value) (w':W_) (q:ce ah i e (some d)) (r:Region.ready md ah listed=[i]) (s:∀o:Oper,o.op=e->(execOp a.eval o).run P w=.ok (.value v) w') (n:S w')
  (h:wpAnyH P md ah Q S fuel (listed.setIfInBounds i true) (a.put (some d) v) w'):wpAnyH P md ah Q S (fuel+1) listed a w:=by
 obtain ⟨o,g,k,l,m⟩:=q.get;refine wpAnyH_all r s_ fun j p=>?_
 obtain rfl:j=i:=by simpa using p
 unfold wpOp;simp only[g];rw[if_pos (by unfold Region.wanted;rw[m])];refine .inl ?_;unfold Oper.wp;rw[s o k];show _/\_;rw[l];exact ⟨n,h⟩
def rC (i:Nat) (e:Op) (w':W_) (q:ce ah i e none) (r:Region.ready md ah listed=[i]) (s:∀o:Oper,o.op=e->(execOp a.eval o).run P w=.ok .skip w') (n:S w')
  (h:wpAnyH P md ah Q S fuel (listed.setIfInBounds i true) a w'):wpAnyH P md ah Q S (fuel+1) listed a w:=by
 obtain ⟨o,g,k,l,m⟩:=q.get;refine wpAnyH_all r s_ fun j p=>?_
 obtain rfl:j=i:=by simpa using p
 unfold wpOp;simp only[g];rw[if_pos (by unfold Region.wanted;rw[m])];refine .inl ?_;unfold Oper.wp;rw[s o k];show _/\_;rw[l];exact ⟨n,h⟩
def qJ (i:Nat) (g:Op) (d:Nat) (f:FuncId) (args:Array Value) (s:ce ah i g (some d)) (t:Region.ready md ah listed=[i]) (u:∀o:Oper,o.op=g->(execOp a.eval o).run P w=.ok (.enter f args) w)
  (h:Calls P f args w fun e w'=>∃v,e=.returned v/\S w'/\wpAnyH P md ah Q S fuel (listed.setIfInBounds i true) (a.put (some d) v) w'):wpAnyH P md ah Q S (fuel+1) listed a w:=by
 obtain ⟨o,k,l,m,n⟩:=s.get;refine wpAnyH_all t s_ fun j r=>?_
 obtain rfl:j=i:=by simpa using r
 unfold wpOp;simp only[k];rw[if_pos (by unfold Region.wanted;rw[n])];refine .inl ?_;unfold Oper.wp;rw[u o l];refine Calls.mono h ?_;rintro e w' ⟨v,rfl,p,q⟩;show _/\_;rw[m];exact ⟨p,q⟩
def qc (i k:Nat) (g h:Op) (d1 d2:Nat) (l:Value) (f:FuncId) (args:Array Value) (O:ce ah i g (some d1)) (N:ce ah k h (some d2)) (z:Region.ready md ah listed=[i,k])
  (E:∀o:Oper,o.op=g->(execOp a.eval o).run P w=.ok (.value l) w) (m:∀o:Oper,o.op=h->(execOp a.eval o).run P w=.ok (.enter f args) w) (x:S w)
  (r:wpAnyH P md ah Q S fuel (listed.setIfInBounds i true) (a.put (some d1) l) w)
  (s:Calls P f args w fun e w'=>∃v,e=.returned v/\S w'/\wpAnyH P md ah Q S fuel (listed.setIfInBounds k true) (a.put (some d2) v) w'):wpAnyH P md ah Q S (fuel+1) listed a w:=by
 obtain ⟨c,n,g2,p,q⟩:=O.get;obtain ⟨d,G,I,J,M⟩:=N.get;refine wpAnyH_all z s_ fun j y=>?_
 have b:j=i\/j=k:=by simpa using y
 unfold wpOp;rcases b with rfl|rfl
 ·simp only[n]
  rw[if_pos (by unfold Region.wanted;rw[q])];refine .inl ?_;unfold Oper.wp;rw[E c g2];show _/\_;rw[p];exact ⟨x,r⟩
 simp only[G];rw[if_pos (by unfold Region.wanted;rw[M])];refine .inl ?_;unfold Oper.wp;rw[m d I];refine Calls.mono s ?_;rintro e w' ⟨v,rfl,t,u⟩;show _/\_;rw[J];exact ⟨t,u⟩
end
section
variable {ρ:Operand->Value} {o:Oper}
def A4 (h:o.op=.move x) (hv:ρ x=v):(execOp ρ o).run P w=.ok (.value v) w:=by
 subst hv;unfold execOp;rw[h];rfl
end
section
variable {Q:Exit->Act->W_->Prop} {md:Region.Mode} {S:W_->Prop} {fuel:Nat} {listed:Array Bool} 
def Nx (P:Program) (ah:Array Oper) (Q:Exit->Act->W_->Prop) (md:Region.Mode) (S:W_->Prop) (fuel:Nat) (listed:Array Bool) (a:Act) (w:W_) (i:Nat):Prop :=
 wpOp P ah Q i (fun e w'=>S w'/\wpAnyH P md ah Q S fuel (listed.setIfInBounds i true) e w') a w
def nC (e:Region.ready md ah listed=[]) (h:Q .normal a w):wpAnyH P md ah Q S fuel listed a w:=wpAnyH_done e h _
def Bh (g:Region.ready md ah listed=[i]) (h:Nx P ah Q md S fuel listed a w i):wpAnyH P md ah Q S (fuel+1) listed a w :=
 wpAnyH_all g s_ fun j e=>by
  obtain rfl:j=i:=by simpa using e
  exact h
def rg_2 (l:Region.ready md ah listed=[i,k]) (e:Nx P ah Q md S fuel listed a w i) (g:Nx P ah Q md S fuel listed a w k):wpAnyH P md ah Q S (fuel+1) listed a w :=
 wpAnyH_all l s_ fun j h=>by
  have m:j=i\/j=k:=by simpa using h
  rcases m with rfl|rfl
  ·exact e
  exact g
def rg_3 {m:Nat} (n:Region.ready md ah listed=[i,k,m]) (e:Nx P ah Q md S fuel listed a w i) (g:Nx P ah Q md S fuel listed a w k) (h:Nx P ah Q md S fuel listed a w m):wpAnyH P md ah Q S (fuel+1) listed a w :=
 wpAnyH_all n s_ fun j l=>by
  have o:j=i\/j=k\/j=m:=by simpa using l
  rcases o with rfl|rfl|rfl
  ·exact e
  ·exact g
  exact h
def JL {e:Op} (n:ce ah i e (some d)) (v:Value) (w':W_) (p:∀o:Oper,o.op=e->(execOp a.eval o).run P w=.ok (.value v) w') (m:S w')
  (h:wpAnyH P md ah Q S fuel (listed.setIfInBounds i true) (a.put (some d) v) w'):Nx P ah Q md S fuel listed a w i:=by
 obtain ⟨o,g,j,k,l⟩:=n.get;unfold Nx wpOp;simp only[g];rw[if_pos (by unfold Region.wanted;rw[l])];refine .inl ?_;unfold Oper.wp;rw[p o j];show _/\_;rw[k];exact ⟨m,h⟩
def SA {e:Op} (n:ce ah i e none) (w':W_) (p:∀o:Oper,o.op=e->(execOp a.eval o).run P w=.ok .skip w') (m:S w')
  (h:wpAnyH P md ah Q S fuel (listed.setIfInBounds i true) a w'):Nx P ah Q md S fuel listed a w i:=by
 obtain ⟨o,g,j,k,l⟩:=n.get;unfold Nx wpOp;simp only[g];rw[if_pos (by unfold Region.wanted;rw[l])];refine .inl ?_;unfold Oper.wp;rw[p o j];show _/\_;rw[k];exact ⟨m,h⟩
def kg {g:Op} {f:FuncId} {args:Array Value} (q:ce ah i g (some d)) (r:∀o:Oper,o.op=g->(execOp a.eval o).run P w=.ok (.enter f args) w)
  (h:Calls P f args w fun e w'=>∃v,e=.returned v/\S w'/\wpAnyH P md ah Q S fuel (listed.setIfInBounds i true) (a.put (some d) v) w'):Nx P ah Q md S fuel listed a w i:=by
 obtain ⟨o,j,k,l,m⟩:=q.get;unfold Nx wpOp;simp only[j];rw[if_pos (by unfold Region.wanted;rw[m])];refine .inl ?_;unfold Oper.wp;rw[r o k];refine Calls.mono h ?_;rintro e w' ⟨v,rfl,n,p⟩;show _/\_;rw[l];exact ⟨n,p⟩
end
def opsT_0:ce ((Tryz.f177.body.bind (dF 0)).getD #[]) 0 (.move (.tmp 1)) (some 16):=by unfold ce;kernel_rfl
def r_:ce ((Tryz.f177.body.bind (dF 0)).getD #[]) 1 (.call { callee:=.value (.func 227),args:=#[.tmp 16],argTypes:=#[9] }) (some 17):=by unfold ce;kernel_rfl
def opsT_2:ce ((Tryz.f177.body.bind (dF 0)).getD #[]) 2 (.move (.tmp 0)) (some 18):=by unfold ce;kernel_rfl
def opsT_3:ce ((Tryz.f177.body.bind (dF 0)).getD #[]) 3 (.nilCheck (.tmp 18)) (some 19):=by unfold ce;kernel_rfl
def opsT_4:ce ((Tryz.f177.body.bind (dF 0)).getD #[]) 4 (.fieldAddr 273 (.tmp 19) 0) (some 20):=by unfold ce;kernel_rfl
def opsT_5:ce ((Tryz.f177.body.bind (dF 0)).getD #[]) 5 (.load 271 (.tmp 20)) (some 21):=by unfold ce;kernel_rfl
def td:ce ((Tryz.f177.body.bind (dF 0)).getD #[]) 6 (.alloc 313) (some 4):=by unfold ce;kernel_rfl
def ti:ce ((Tryz.f177.body.bind (dF 0)).getD #[]) 7 (.alloc 271) (some 5):=by unfold ce;kernel_rfl
def l_:ce ((Tryz.f177.body.bind (dF 0)).getD #[]) 8 (.store 313 (.tmp 4) (.tmp 17)) none:=by unfold ce;kernel_rfl
def mE:ce ((Tryz.f177.body.bind (dF 0)).getD #[]) 9 (.store 271 (.tmp 5) (.tmp 21)) none:=by unfold ce;kernel_rfl
def w_J:(prog.info? 271).map (·.size)=some 8:=k_
def zerosU8:(#[.int .u32 0,.int .u32 0,.int .u32 0,.int .u32 0,.int .u32 0,.int .u32 0,.int .u32 0,.int .u32 0]:Array Value)=(uv (List.replicate 8 0)).toArray:=by rfl
def Yc (L:List Nat):(uv L).toArray.all (·.oneCell')=true:=all_oneCell_toArray (w_L L)
section
variable {ρ:Operand->Value} {o:Oper}
def S1 (h:o.op=.nilCheck x) {p:Addr} (e:ρ x=.pointer (some p)):(execOp ρ o).run prog w=.ok (.value (.pointer (some p))) w:=by
 unfold execOp;rw[h];simp only[e];go_simp
def QA (h:o.op=.fieldAddr 273 x 0) {p:Nat} (e:ρ x=.pointer (some ⟨p,0,none⟩)):(execOp ρ o).run prog w=.ok (.value (.pointer (some ⟨p,0,none⟩))) w:=by
 unfold execOp;rw[h];simp only[e];go_simp
def Sg (h:o.op=.load 271 x) {p:Nat} {V:List Nat} (e:V.length=8) (i:ρ x=.pointer (some ⟨p,0,none⟩)) (g:w.rangeAt p 0 (uv V)):(execOp ρ o).run prog w=.ok (.value (.agg (uv V).toArray)) w:=by
 unfold execOp;simp only[h,i,Instr.loadAt,Instr.sureAddr,Sem.run_bind,Sem.run_pure,Result.andThen_ok,run_loadVar_mid w p 0 271 (uv V) _ g underlying271 rfl (by rw[ft,e];exact w_J)]
def w_n (h:o.op=.alloc 313):(execOp ρ o).run prog w=.ok (.value (.pointer (some ⟨w.heap.size,0,none⟩))) (w.alloc (.cells (uv (List.replicate 64 0)).toArray 313)):=by
 rw[<-MM];unfold execOp;rw[h];go_simp
def w_W (h:o.op=.alloc 271):(execOp ρ o).run prog w=.ok (.value (.pointer (some ⟨w.heap.size,0,none⟩))) (w.alloc (.cells (uv (List.replicate 8 0)).toArray 271)):=by
 rw[<-zerosU8];unfold execOp;rw[h];go_simp
def SC {t:TypeId} (hn:(prog.info? t).map (·.size)=some n) {y:Operand} (h:o.op=.store t x y) {M:List Nat} (e:L.length=n) (hM:M.length=n) (i:ρ x=.pointer (some ⟨g,0,none⟩)) (j:ρ y=.agg (uv L).toArray) (hg:ab w g t (uv M).toArray) :
  (execOp ρ o).run prog w=.ok .skip (w.setRow g (uv L).toArray):=by
 unfold execOp;simp only[h,i,j,Instr.storeAt,Instr.sureAddr,Sem.run_bind,Sem.run_pure,Result.andThen_ok,run_storeVar_row w g t t (uv M).toArray (uv L).toArray hg (by rw[tK,ft,e];exact hn) (by rw[tK,tK,ft,ft,e,hM]) (Yc L)]
def v_R (h:o.op=.call { callee:=.value (.func 227),args:=#[x],argTypes:=#[9] }) (e:ρ (.func 227)=.func (.func 227) #[] #[]) (g:ρ x=v):(execOp ρ o).run prog w=.ok (.enter 227 #[v]) w:=by
 unfold execOp;rw[h];simp only[resolve,e];go_simp
end
def ab.setRow {cs':Array Value} (h:ab w g t cs):ab (w.setRow g cs') g t cs':=setRow_heap w g cs cs' t (0,0) h
def ab.farRow {cs':Array Value} (h:ab w k t cs) (e:k≠g):ab (w.setRow g cs') k t cs:=(setRow_other w g k cs' e).trans h
def xk (s:B_) (hs:s.size=64):(Dw s.data.toList).length=64:=by
 unfold Dw qk;rw[Ly,cd,fW,zH,g5,hs];simp
def pcT {u:Value} (x y:Nat) (h:x≠y):(a.put (some x) v).put (some y) u=(a.put (some y) u).put (some x) v:=Act.put_comm a v u (fun d e g=>h (by injection e with e;injection g with g;omega))
def frT (a:Act) (g h i e j LT k l:Value):Act:=((((((((a.put (some 16) g).put (some 18) h).put (some 19) i).put (some 20) e).put (some 21) j).put (some 17) LT).put (some 4) k).put (some 5) l)
def Dn (nH:ah=((Tryz.f177.body.bind (dF 0)).getD #[])) (Q:Exit->Act->W_->Prop) (U:∀c (a:Act) d v w,Q (.panic c) (a.put d v) w->Q (.panic c) a w) (a:Act) (W:W_) (l:a.tmps.size=115)
  (p:Nat) (V:List Nat) (hV:V.length=8) (tl:List Value) (s:B_) (hs:s.size=64) (h0:a.eval (.tmp 0)=.pointer (some ⟨p,0,none⟩)) (h1:a.eval (.tmp 1)=.string s)
  (y2:ab W p 273 (uv V++tl).toArray)
  (E:∀LO LQ LR h7 LS LT N O P,ab P p 273 (uv V++tl).toArray->ab P N 313 (uv (Dw s.data.toList)).toArray->ab P O 271 (uv V).toArray->N≠O->p<N->p<O->W.heap.size<=N->W.heap.size<=O->Below W.heap.size W P->Q .normal (frT a LO LQ LR h7 LS LT (.pointer (some ⟨N,0,none⟩)) (.pointer (some ⟨O,0,none⟩))) P) :
  (Code.region 0 ah true).wp prog Q a W:=by
 subst nH;have R:Region.noSelect ((Tryz.f177.body.bind (dF 0)).getD #[])=true:=k_;have gp:((Tryz.f177.body.bind (dF 0)).getD #[]).size=10:=k_;refine wp_region_held (S:=fun w'=>w'.rangeAt p 0 (uv V)) k_ ?_;rw[gp]
 have n:∀w':W_,ab w' p 273 (uv V++tl).toArray->w'.rangeAt p 0 (uv V):=fun w' h j v hj=>by
  have jO:j<(uv V).length:=(AP.1 hj).1;rw[jm,h.cell,lP,A3 jO];exact hj
 have hp:ab W.drew p 273 (uv V++tl).toArray:=y2.drew;have h4:Below W.heap.size W W.drew:=(Below.refl _ _).drew;have r:W.heap.size<=W.drew.heap.size:=bS _;have q:p<W.heap.size:=y2.lt;have T:=n _ hp;have Y:=fun u=>yn u s hs;have I:=xk s hs;have G:=hV;show wpAnyH _ _ _ _ _ _ _ _ W.drew;generalize W.drew=t at *;generalize Dw s.data.toList=S at *;refine da 0 _ _ (.string s) opsT_0 R k_ k_ U (fun w o X g=>A4 g h1) T ?_;refine da 2 _ _ (.pointer (some ⟨p,0,none⟩)) opsT_2 R k_ k_ U (fun w o X g=>A4 g ((a6 d_).trans h0)) T ?_;refine da 3 _ _ (.pointer (some ⟨p,0,none⟩)) opsT_3 R k_ k_ U (fun w o X g=>S1 g (cV (by simp only[cY,l];decide))) T ?_;refine da 4 _ _ (.pointer (some ⟨p,0,none⟩)) opsT_4 R k_ k_ U (fun w o X g=>QA g (cV (by simp only[cY,l];decide))) T ?_;refine da 5 _ _ (.agg (uv V).toArray) opsT_5 R k_ k_ U (fun w o X g=>Sg g hV (cV (by simp only[cY,l];decide)) X) T ?_;refine rg_3 (i:=1) (k:=6) (m:=7) k_ ?_ ?_ ?_
 ·skip
  refine kg r_ (fun o g=>v_R g rfl ((a6 d_).trans ((a6 d_).trans ((a6 d_).trans ((a6 d_).trans (cV (by simp only[cY,l];decide))))))) ?_;refine (Y _).mono ?_;rintro e u ⟨rfl,h3⟩;have h6:=hp.below h3 hp.lt;have ct:=rz h4 r h3;have x:=cL r h3.size;refine ⟨_,rfl,n _ h6,?_⟩;refine rg_2 (i:=6) (k:=7) k_ ?_ ?_
  ·skip
   have H8:=h6.alloc (.cells (uv (List.replicate 64 0)).toArray 313);have eK:=ct.alloc x (.cells (uv (List.replicate 64 0)).toArray 313);have g4x2:=ab.new u 313 (uv (List.replicate 64 0)).toArray;have M:W.heap.size<=(u.alloc (.cells (uv (List.replicate 64 0)).toArray 313)).heap.size:=cL x s_;refine JL td _ _ (fun o g=>w_n g) (n _ H8) ?_;refine Bh (i:=7) k_ ?_;have uO:=H8.alloc (.cells (uv (List.replicate 8 0)).toArray 271);have mD:=eK.alloc M (.cells (uv (List.replicate 8 0)).toArray 271);have g5x3:=ab.new (u.alloc (.cells (uv (List.replicate 64 0)).toArray 313)) 271 (uv (List.replicate 8 0)).toArray;have g4x3:=g4x2.alloc (.cells (uv (List.replicate 8 0)).toArray 271);have LU:=lI g4x2.lt;have hL3:W.heap.size<=((u.alloc (.cells (uv (List.replicate 64 0)).toArray 313)).alloc (.cells (uv (List.replicate 8 0)).toArray 271)).heap.size:=cL M s_;refine JL ti _ _ (fun o g=>w_W g) (n _ uO) ?_;have H:u.heap.size≠(u.alloc (.cells (uv (List.replicate 64 0)).toArray 313)).heap.size:=LU;have y4:=uO.farRow (cs':=(uv S).toArray) (lI (ea q x));have VT:=g4x3.setRow (cs':=(uv S).toArray);have y5:=g5x3.farRow (cs':=(uv S).toArray) H.symm;have VU:=below_setRow mD x (uv S).toArray;refine Bh (i:=8) k_ (SA l_ _ (fun o g=>SC Kk g I s_ ((a6 d_).trans (cV (by simp only[cY,l];decide))) ((a6 d_).trans ((a6 d_).trans (cV (by simp only[cY,l];decide)))) g4x3) (n _ y4) ?_);have y6:=y4.farRow (cs':=(uv V).toArray) (lI (ea q M));have VV:=VT.farRow (cs':=(uv V).toArray) H;have VW:=y5.setRow (cs':=(uv V).toArray);have VX:=below_setRow VU M (uv V).toArray;refine Bh (i:=9) k_ (SA mE _ (fun o g=>SC w_J g G s_ (cV (by simp only[cY,l];decide)) ((a6 d_).trans ((a6 d_).trans ((a6 d_).trans (cV (by simp only[cY,l];decide))))) y5) (n _ y6) ?_);exact nC k_ (E _ _ _ _ _ _ _ _ _ y6 VV VW H (ea q x) (ea q M) x M VX)
  skip
  have H9:=h6.alloc (.cells (uv (List.replicate 8 0)).toArray 271);have Ej:=ct.alloc x (.cells (uv (List.replicate 8 0)).toArray 271);have g5x5:=ab.new u 271 (uv (List.replicate 8 0)).toArray;have b:W.heap.size<=(u.alloc (.cells (uv (List.replicate 8 0)).toArray 271)).heap.size:=cL x s_;refine JL ti _ _ (fun o g=>w_W g) (n _ H9) ?_;refine Bh (i:=6) k_ ?_;have fy:=H9.alloc (.cells (uv (List.replicate 64 0)).toArray 313);have VY:=Ej.alloc b (.cells (uv (List.replicate 64 0)).toArray 313);have g4x6:=ab.new (u.alloc (.cells (uv (List.replicate 8 0)).toArray 271)) 313 (uv (List.replicate 64 0)).toArray;have g5x6:=g5x5.alloc (.cells (uv (List.replicate 64 0)).toArray 313);have LW:=lI g5x5.lt;have hL6:W.heap.size<=((u.alloc (.cells (uv (List.replicate 8 0)).toArray 271)).alloc (.cells (uv (List.replicate 64 0)).toArray 313)).heap.size:=cL b s_;refine JL td _ _ (fun o g=>w_n g) (n _ fy) ?_;have K:(u.alloc (.cells (uv (List.replicate 8 0)).toArray 271)).heap.size≠u.heap.size:=LW.symm;have y7:=fy.farRow (cs':=(uv S).toArray) (lI (ea q b));have VZ:=g4x6.setRow (cs':=(uv S).toArray);have y8:=g5x6.farRow (cs':=(uv S).toArray) K.symm;have V0:=below_setRow VY b (uv S).toArray;refine Bh (i:=8) k_ (SA l_ _ (fun o g=>SC Kk g I s_ (cV (by simp only[cY,l];decide)) ((a6 d_).trans ((a6 d_).trans (cV (by simp only[cY,l];decide)))) g4x6) (n _ y7) ?_);have y9:=y7.farRow (cs':=(uv V).toArray) (lI (ea q x));have V1:=VZ.farRow (cs':=(uv V).toArray) K;have V3:=y8.setRow (cs':=(uv V).toArray);have V4:=below_setRow V0 x (uv V).toArray;refine Bh (i:=9) k_ (SA mE _ (fun o g=>SC w_J g G s_ ((a6 d_).trans (cV (by simp only[cY,l];decide))) ((a6 d_).trans ((a6 d_).trans ((a6 d_).trans (cV (by simp only[cY,l];decide))))) y8) (n _ y9) ?_);rw[pcT 5 4 d_];exact nC k_ (E _ _ _ _ _ _ _ _ _ y9 V1 V3 K (ea q b) (ea q x) b x V4)
 ·skip
  have D:=hp.alloc (.cells (uv (List.replicate 64 0)).toArray 313);have y3:=h4.alloc r (.cells (uv (List.replicate 64 0)).toArray 313);have g4x8:=ab.new t 313 (uv (List.replicate 64 0)).toArray;have z:W.heap.size<=(t.alloc (.cells (uv (List.replicate 64 0)).toArray 313)).heap.size:=cL r s_;refine JL td _ _ (fun o g=>w_n g) (n _ D) ?_;refine rg_2 (i:=1) (k:=7) k_ ?_ ?_
  ·skip
   refine kg r_ (fun o g=>v_R g rfl ((a6 d_).trans ((a6 d_).trans ((a6 d_).trans ((a6 d_).trans ((a6 d_).trans (cV (by simp only[cY,l];decide)))))))) ?_;refine (Y _).mono ?_;rintro e h2 ⟨rfl,B⟩;have RI:=D.below B D.lt;have fF:=rz y3 z B;have f:=cL z B.size;have g4x9:=g4x8.below B g4x8.lt;refine ⟨_,rfl,n _ RI,?_⟩;refine Bh (i:=7) k_ ?_;have pO:=RI.alloc (.cells (uv (List.replicate 8 0)).toArray 271);have LY:=fF.alloc f (.cells (uv (List.replicate 8 0)).toArray 271);have g5x10:=ab.new h2 271 (uv (List.replicate 8 0)).toArray;have g4x10:=g4x9.alloc (.cells (uv (List.replicate 8 0)).toArray 271);have Ek:=lI g4x9.lt;have V5:W.heap.size<=(h2.alloc (.cells (uv (List.replicate 8 0)).toArray 271)).heap.size:=cL f s_;refine JL ti _ _ (fun o g=>w_W g) (n _ pO) ?_;have h8:t.heap.size≠h2.heap.size:=Ek;have x0:=pO.farRow (cs':=(uv S).toArray) (lI (ea q r));have LZ:=g4x10.setRow (cs':=(uv S).toArray);have x1:=g5x10.farRow (cs':=(uv S).toArray) h8.symm;have L1:=below_setRow LY r (uv S).toArray;refine Bh (i:=8) k_ (SA l_ _ (fun o g=>SC Kk g I s_ ((a6 d_).trans ((a6 d_).trans (cV (by simp only[cY,l];decide)))) ((a6 d_).trans (cV (by simp only[cY,l];decide))) g4x10) (n _ x0) ?_);have x2:=x0.farRow (cs':=(uv V).toArray) (lI (ea q f));have L2:=LZ.farRow (cs':=(uv V).toArray) h8;have L3:=x1.setRow (cs':=(uv V).toArray);have L4:=below_setRow L1 f (uv V).toArray;refine Bh (i:=9) k_ (SA mE _ (fun o g=>SC w_J g G s_ (cV (by simp only[cY,l];decide)) ((a6 d_).trans ((a6 d_).trans ((a6 d_).trans (cV (by simp only[cY,l];decide))))) x1) (n _ x2) ?_);rw[pcT 4 17 d_];exact nC k_ (E _ _ _ _ _ _ _ _ _ x2 L2 L3 h8 (ea q r) (ea q f) r f L4)
  skip
  have h5:=D.alloc (.cells (uv (List.replicate 8 0)).toArray 271);have L5:=y3.alloc z (.cells (uv (List.replicate 8 0)).toArray 271);have g5x12:=ab.new (t.alloc (.cells (uv (List.replicate 64 0)).toArray 313)) 271 (uv (List.replicate 8 0)).toArray;have g4x12:=g4x8.alloc (.cells (uv (List.replicate 8 0)).toArray 271);have Eo:=lI g4x8.lt;have x3:W.heap.size<=((t.alloc (.cells (uv (List.replicate 64 0)).toArray 313)).alloc (.cells (uv (List.replicate 8 0)).toArray 271)).heap.size:=cL z s_;refine JL ti _ _ (fun o g=>w_W g) (n _ h5) ?_;refine Bh (i:=1) k_ ?_;refine kg r_ (fun o g=>v_R g rfl ((a6 d_).trans ((a6 d_).trans ((a6 d_).trans ((a6 d_).trans ((a6 d_).trans ((a6 d_).trans (cV (by simp only[cY,l];decide))))))))) ?_;refine (Y _).mono ?_;rintro e W13 ⟨rfl,Z⟩;have x4:=h5.below Z h5.lt;have L6:=rz L5 x3 Z;have V6:=cL x3 Z.size;have g4x13:=g4x12.below Z g4x12.lt;have g5x13:=g5x12.below Z g5x12.lt;refine ⟨_,rfl,n _ x4,?_⟩;have h9:t.heap.size≠(t.alloc (.cells (uv (List.replicate 64 0)).toArray 313)).heap.size:=Eo;have x5:=x4.farRow (cs':=(uv S).toArray) (lI (ea q r));have L7:=g4x13.setRow (cs':=(uv S).toArray);have x6:=g5x13.farRow (cs':=(uv S).toArray) h9.symm;have L8:=below_setRow L6 r (uv S).toArray;refine Bh (i:=8) k_ (SA l_ _ (fun o g=>SC Kk g I s_ ((a6 d_).trans ((a6 d_).trans (cV (by simp only[cY,l];decide)))) (cV (by simp only[cY,l];decide)) g4x13) (n _ x5) ?_);have x7:=x5.farRow (cs':=(uv V).toArray) (lI (ea q z));have L9:=L7.farRow (cs':=(uv V).toArray) h9;have Ma:=x6.setRow (cs':=(uv V).toArray);have Mb:=below_setRow L8 z (uv V).toArray;refine Bh (i:=9) k_ (SA mE _ (fun o g=>SC w_J g G s_ ((a6 d_).trans (cV (by simp only[cY,l];decide))) ((a6 d_).trans ((a6 d_).trans ((a6 d_).trans (cV (by simp only[cY,l];decide))))) x6) (n _ x7) ?_);rw[pcT 5 17 d_];rw[pcT 4 17 d_];exact nC k_ (E _ _ _ _ _ _ _ _ _ x7 L9 Ma h9 (ea q r) (ea q z) r z Mb)
 skip
 have C:=hp.alloc (.cells (uv (List.replicate 8 0)).toArray 271);have x8:=h4.alloc r (.cells (uv (List.replicate 8 0)).toArray 271);have g5x15:=ab.new t 271 (uv (List.replicate 8 0)).toArray;have y:W.heap.size<=(t.alloc (.cells (uv (List.replicate 8 0)).toArray 271)).heap.size:=cL r s_;refine JL ti _ _ (fun o g=>w_W g) (n _ C) ?_;refine rg_2 (i:=1) (k:=6) k_ ?_ ?_
 ·skip
  refine kg r_ (fun o g=>v_R g rfl ((a6 d_).trans ((a6 d_).trans ((a6 d_).trans ((a6 d_).trans ((a6 d_).trans (cV (by simp only[cY,l];decide)))))))) ?_;refine (Y _).mono ?_;rintro e L ⟨rfl,F⟩;have x9:=C.below F C.lt;have Me:=rz x8 y F;have J:=cL y F.size;have g5x16:=g5x15.below F g5x15.lt;refine ⟨_,rfl,n _ x9,?_⟩;refine Bh (i:=6) k_ ?_;have rJ:=x9.alloc (.cells (uv (List.replicate 64 0)).toArray 313);have Mf:=Me.alloc J (.cells (uv (List.replicate 64 0)).toArray 313);have g4x17:=ab.new L 313 (uv (List.replicate 64 0)).toArray;have g5x17:=g5x16.alloc (.cells (uv (List.replicate 64 0)).toArray 313);have Ex:=lI g5x16.lt;have V7:W.heap.size<=(L.alloc (.cells (uv (List.replicate 64 0)).toArray 313)).heap.size:=cL J s_;refine JL td _ _ (fun o g=>w_n g) (n _ rJ) ?_;have H0:L.heap.size≠t.heap.size:=Ex.symm;have y0:=rJ.farRow (cs':=(uv S).toArray) (lI (ea q J));have Mg:=g4x17.setRow (cs':=(uv S).toArray);have y1:=g5x17.farRow (cs':=(uv S).toArray) H0.symm;have Mh:=below_setRow Mf J (uv S).toArray;refine Bh (i:=8) k_ (SA l_ _ (fun o g=>SC Kk g I s_ (cV (by simp only[cY,l];decide)) ((a6 d_).trans (cV (by simp only[cY,l];decide))) g4x17) (n _ y0) ?_);have H3:=y0.farRow (cs':=(uv V).toArray) (lI (ea q r));have Mi:=Mg.farRow (cs':=(uv V).toArray) H0;have Mj:=y1.setRow (cs':=(uv V).toArray);have Mk:=below_setRow Mh r (uv V).toArray;refine Bh (i:=9) k_ (SA mE _ (fun o g=>SC w_J g G s_ ((a6 d_).trans ((a6 d_).trans (cV (by simp only[cY,l];decide)))) ((a6 d_).trans ((a6 d_).trans ((a6 d_).trans (cV (by simp only[cY,l];decide))))) y1) (n _ H3) ?_);rw[pcT 5 17 d_];rw[pcT 5 4 d_];exact nC k_ (E _ _ _ _ _ _ _ _ _ H3 Mi Mj H0 (ea q J) (ea q r) J r Mk)
 skip
 have H1:=C.alloc (.cells (uv (List.replicate 64 0)).toArray 313);have Ml:=x8.alloc y (.cells (uv (List.replicate 64 0)).toArray 313);have g4x19:=ab.new (t.alloc (.cells (uv (List.replicate 8 0)).toArray 271)) 313 (uv (List.replicate 64 0)).toArray;have g5x19:=g5x15.alloc (.cells (uv (List.replicate 64 0)).toArray 313);have EB:=lI g5x15.lt;have H4:W.heap.size<=((t.alloc (.cells (uv (List.replicate 8 0)).toArray 271)).alloc (.cells (uv (List.replicate 64 0)).toArray 313)).heap.size:=cL y s_;refine JL td _ _ (fun o g=>w_n g) (n _ H1) ?_;refine Bh (i:=1) k_ ?_;refine kg r_ (fun o g=>v_R g rfl ((a6 d_).trans ((a6 d_).trans ((a6 d_).trans ((a6 d_).trans ((a6 d_).trans ((a6 d_).trans (cV (by simp only[cY,l];decide))))))))) ?_;refine (Y _).mono ?_;rintro e W20 ⟨rfl,A⟩;have gv:=H1.below A H1.lt;have Mm:=rz Ml H4 A;have V8:=cL H4 A.size;have g4x20:=g4x19.below A g4x19.lt;have g5x20:=g5x19.below A g5x19.lt;refine ⟨_,rfl,n _ gv,?_⟩;have H2:(t.alloc (.cells (uv (List.replicate 8 0)).toArray 271)).heap.size≠t.heap.size:=EB.symm;have H5:=gv.farRow (cs':=(uv S).toArray) (lI (ea q y));have Mn:=g4x20.setRow (cs':=(uv S).toArray);have H6:=g5x20.farRow (cs':=(uv S).toArray) H2.symm;have Mo:=below_setRow Mm y (uv S).toArray;refine Bh (i:=8) k_ (SA l_ _ (fun o g=>SC Kk g I s_ ((a6 d_).trans (cV (by simp only[cY,l];decide))) (cV (by simp only[cY,l];decide)) g4x20) (n _ H5) ?_);have H7:=H5.farRow (cs':=(uv V).toArray) (lI (ea q r));have Mp:=Mn.farRow (cs':=(uv V).toArray) H2;have Mq:=H6.setRow (cs':=(uv V).toArray);have Mr:=below_setRow Mo r (uv V).toArray;refine Bh (i:=9) k_ (SA mE _ (fun o g=>SC w_J g G s_ ((a6 d_).trans ((a6 d_).trans (cV (by simp only[cY,l];decide)))) ((a6 d_).trans ((a6 d_).trans ((a6 d_).trans (cV (by simp only[cY,l];decide))))) H6) (n _ H7) ?_);rw[pcT 5 4 d_];rw[pcT 5 17 d_];rw[pcT 4 17 d_];exact nC k_ (E _ _ _ _ _ _ _ _ _ H7 Mp Mq H2 (ea q y) (ea q r) y r Mr)
structure Kp (S:Nat->Prop) (w w':W_):Prop where
 os:w'.os=w.os
 tape:w'.tape=w.tape
 output:w'.output=w.output
 size:w.heap.size<=w'.heap.size
 block:∀k,k<w.heap.size->¬S k->w'.heap[k]?=w.heap[k]?
def ac:Nat->Prop:=fun _=>False
section
variable {S T:Nat->Prop} {w' w'':W_}
def Kp.refl (S:Nat->Prop) (w:W_):Kp S w w:=⟨rfl,rfl,rfl,bS _,fun _ _ _=>rfl⟩
def Kp.then (h:Kp S w w') (k:Kp T w' w'') (g:∀q,q<w.heap.size->T q->S q):Kp S w w'' :=
 ⟨k.os.trans h.os,k.tape.trans h.tape,k.output.trans h.output,cL h.size k.size,fun q e hs=>(k.block q (ea e h.size) fun i=>hs (g q e i)).trans (h.block q e hs)⟩
def Kp.trans (h:Kp S w w') (k:Kp S w' w''):Kp S w w'':=h.then k fun _ _ h=>h
def Kp.mono (h:Kp T w w') (e:∀q,q<w.heap.size->T q->S q):Kp S w w':=(Kp.refl S w).then h e
def Kp.drew (h:Kp S w w'):Kp S w w'.drew:=⟨h.os,h.tape,h.output,h.size,h.block⟩
def Kp.drewN (h:Kp S w w') (n:Nat):Kp S w (w'.drewN n):=⟨h.os,h.tape,h.output,h.size,h.block⟩
def Kp.alloc (h:Kp S w w') (o:Obj):Kp S w (w'.alloc o):=by
 have e:=(Below.refl w'.heap.size w').alloc (bS _) o;exact ⟨e.os.trans h.os,e.tape.trans h.tape,e.output.trans h.output,cL h.size e.size,fun q g hs=>(e.block q (ea g h.size)).trans (h.block q g hs)⟩
def Kp.setCell (h:Kp S w w') (p:Addr) (v:Value) (hp:S p.block\/w.heap.size<=p.block):Kp S w (w'.setCell p v) :=
 ⟨h.os,h.tape,h.output,by simpa[World.setCell] using h.size,fun q e hs=>(Below.heap_setCell w' p v q (by rintro rfl;rcases hp with hp|hp;exact hs hp;omega)).trans (h.block q e hs)⟩
def Kp.setRow (h:Kp S w w') (g:Nat) (cs:Array Value) (hp:S g\/w.heap.size<=g):Kp S w (w'.setRow g cs) :=
 ⟨h.os,h.tape,h.output,by simpa[World.setRow] using h.size,fun q e hs=>(setRow_other w' g q cs (by rintro rfl;rcases hp with hp|hp;exact hs hp;omega)).trans (h.block q e hs)⟩
def Kp.of_below (h:Below w.heap.size w w') (S:Nat->Prop):Kp S w w':=⟨h.os,h.tape,h.output,h.size,fun q e _=>h.block q e⟩
def Kp.below (h:Kp S w w') {B:Nat} (g:B<=w.heap.size) (i:∀q,q<B->¬S q):Below B w w':=⟨h.os,h.tape,h.output,h.size,fun q e=>h.block q (ea e g) (i q e)⟩
def Kp.below0 (h:Kp ac w w'):Below w.heap.size w w':=h.below (bS _) fun _ _ h=>h
def Kp.of_grown {row:Option Nat} (h:w.grownBy w' row) (g:∀q,some q=row->S q):Kp S w w':=⟨h.os,h.tape,h.output,h.size,fun q i hs=>h.block q i fun e=>hs (g q e)⟩
def ab.kp (h:ab w g t cs) (k:Kp S w w') (hg:¬S g):ab w' g t cs:=(k.block g h.lt hg).trans h
def dL {e size:Nat} {j:List Value} (h:w.ownsRow base e size v n j) (k:Kp S w w') (m:∀q,v.ownBlock=some q->¬S q):w'.ownsRow base e size v n j:=by
 refine ⟨h.1,?_⟩;rcases h.2 with hn|⟨g,l,o,rfl,hb,i,rest⟩
 ·exact .inl hn
 exact .inr ⟨g,l,o,rfl,hb,(k.block g (F4.1 i).1 (m g rfl)).trans i,rest⟩
def aH.kp {e:Nat} {g:List Value} (h:aH w base e v g) (k:Kp S w w') (i:∀q,v.ownBlock=some q->¬S q):aH w' base e v g:=dL h k i
end
def QU {R:List Value} (h:ab w G t (uv L++R).toArray) (i:Nat) (e:i<L.length):w.cell? ⟨G,i,none⟩=some (.int .u32 (L.getD i 0:Nat)):=by
 rw[h.cell,lP,A3 (by rw[ft];exact e),r6 L i e]
def YF {R:List Value} (h:ab w G t (uv L++R).toArray) (i x:Nat) (e:i<L.length):ab (w.setCell ⟨G,i,none⟩ (.int .u32 x)) G t (uv (L.set i x)++R).toArray:=by
 have:=h.set_ i (.int .u32 x)
 rwa [F6,List.set_append_left _ _ (by rw[ft];exact e),JH] at this
end Go.Proofs.YtdkheklakfbeeaaGreatDoor
