/- Part 11 of the proof. -/
import Derived.Test.YtdkheklakfbeeaaGreatDoorM10
set_option linter.all false
set_option maxRecDepth 100000
set_option maxHeartbeats 16000000
namespace Go.Proofs.YtdkheklakfbeeaaGreatDoor
open Go.RowKit Tryz
def z_h (c:ByteArray):ByteArray:=bs (leafF c.data.toList)
def z_X (c:ByteArray):ByteArray:=bs (nodeF c.data.toList)
theorem z_P (c:ByteArray):(z_h c).size=32:=by unfold z_h leafF;rw[z_b,w_W]
theorem y_X (c:ByteArray):(z_X c).size=32:=by unfold z_X nodeF;rw[z_b,w_W]
theorem nodeB_any (w:World) (hL:Lay w) (hw:10<=w.heap.size) (p:ByteArray) (hp:p.size<=100000) :
  Cl 192 #[.string p] w fun e w'=>e=.returned (.string (z_X p))/\Kp NoB w w':=by
 have:=node_any w hL hw p.data.toList (by rw[z_n];omega)
 rwa [x_D] at this
theorem leafB_any (w:World) (hL:Lay w) (hw:10<=w.heap.size) (p:ByteArray) (hp:p.size<=100000) :
  Cl 143 #[.string p] w fun e w'=>e=.returned (.string (z_h p))/\Kp NoB w w':=by
 have:=leaf_any w hL hw p.data.toList (by rw[z_n];omega)
 rwa [x_D] at this
theorem follow_any (w:World) (hL:Lay w) (hw:10<=w.heap.size) (s t:Nat) (hs:s=2\/s=4) (ht:t<s) (v:Value) (L:List ByteArray) (hv:z_g w v (sv L)) (hl:L.length=dep s) (tp:Nat->ByteArray)
  (iH:∀i,i<dep s->(tl L i).size=64/\z_X (tl L i)=tp i/\tp (i+1)=hlf (tl L i) (sec s t i)) :
  Cl 206 #[.string (tp 0),.int .i64 t,v] w fun e w'=>e=.returned (.tuple #[.string (tp (dep s)),.int .i64 0])/\Kp NoB w w':=by
 have iD:1<=dep s/\dep s<=2:=by rcases hs with rfl|rfl<;>decide
 obtain ⟨A,c,rfl,aK,bf,aa⟩:=hv;rw[z_c,hl] at aK aa ⊢;obtain ⟨b,off,rfl,ae⟩:=aa (by omega)
 have bA:Hid (∀i,i<dep s->w.cell? ⟨b,off+i,none⟩=some (.string (tl L i))):=Zz fun i hi=>by rw[ae i hi,y_y L i (by omega)]
 have iV:=Zz iH;have LH:=Zz (fun W (hW:Lay W)=>leaves_any W hW s hs);have mz:=Zz (fun W i hi=>second_any W s t i hs ht hi);have bj:=Zz hL
 have Wo:¬((s:Int)<=(t:Int)):=by omega
 have jO:¬((t:Int)<0):=by omega
 have am:decide ((t:Int)<0)=false:=q_v jO;have bW:decide (s<=t)=false:=q_v (by omega);clear hL iH ae aa hs;generalize dep s=n at *;go_enter func206,ntmps206;go_wp2_with fail;refine (LH.o _ bj.o).mono ?_;rintro e w1 ⟨rfl,rfl⟩;have HK:=Zz (Kp.refl NoB w1)
 go_upto_region 4 with fail
 go_loopw [0,8,9,21] (fun s0 _ _ s21 wr=>∃i:Nat,i<=n/\s21=.int .i64 i/\s0=.string (tp i)/\Hid (Kp NoB w1 wr)) (fun _ _ _ s21 _=>n-(intOf s21).toNat)
 case atStart=>exact ⟨0,by omega,rfl,rfl,HK⟩
 case round =>
  clear HK;obtain ⟨i,hi,rfl,rfl,HK⟩:=hrel;by_cases af:i<n
  ·have bt:(i:Int)<(n:Int):=by omega
   have hx:=bA.o i af;have hk:=(HK.o.below0.cell (q_c w1 _ hx)).trans hx;obtain ⟨q1,q2,q3⟩:=iV.o i af;have HN:=Zz (fun W (hW:Lay W) (bE:10<=W.heap.size)=>nodeB_any W hW bE (tl L i) (by omega));have HS:=Zz (fun W=>mz.o W i af);have HH:=Zz (fun W bb=>half_any W (tl L i) q1 bb);have od:=Zz q3;rw[q2] at HN;clear q2 q3 hx;generalize tl L i=p at *;generalize sec s t i=bb at *;generalize Du:tp i=tpi at *
   have fi:10<=wr.heap.size:=by have:=HK.o.size;omega
   go_wp2_with fail;refine (HN.o _ (bj.o.no HK.o) fi).mono ?_;rintro e w2 ⟨rfl,ag⟩;have al:=Zz (HK.o.trans ag);clear ag hk;go_wp2_with fail;refine (HS.o _).mono ?_;rintro e w3 ⟨rfl,rfl⟩;go_wp2_with fail;refine (HH.o _ _).mono ?_;rintro e w4 ⟨rfl,rfl⟩;rw[<-od.o];go_wp2;go_roundw
   case rel=>exact ⟨i+1,by omega,by go_num,rfl,al⟩
   case measure=>simp[intOf];omega
  ·obtain rfl:i=n:=by omega
   go_wp2;go_ret2;exact ⟨rfl,HK.o⟩
def ptI (o:Nat->ByteArray) (n i:Nat):List ByteArray:=(List.range n).map fun j=>if j<i then ByteArray.empty else o j
theorem ptI_len (o:Nat->ByteArray) (n i:Nat):(ptI o n i).length=n:=by simp[ptI]
theorem ptI_all (o:Nat->ByteArray) (n:Nat):ptI o n n=List.replicate n ByteArray.empty:=by
 apply q_m (by simp[ptI]);intro j h1 h2
 have:j<n:=by simpa[ptI] using h1
 simp[ptI,this]
theorem ptI_zero (o:Nat->ByteArray) (n:Nat):ptI o n 0=(List.range n).map o:=by
 apply q_m (by simp[ptI]);intro j h1 h2;simp[ptI]
theorem ptI_set (o:Nat->ByteArray) (n i:Nat) (h:i<n):(ptI o n (i+1)).set i (o i)=ptI o n i:=by
 apply q_m (by simp[ptI]);intro j h1 h2;rw[List.getElem_set];by_cases e:i=j
 ·subst e;rw[if_pos rfl];simp[ptI]
 ·rw[if_neg e]
  have:(j<i+1)=(j<i):=by rw[eq_iff_iff];omega
  simp only[ptI,List.getElem_map,List.getElem_range,this]
theorem Own.made_txts (W:World) (base n:Nat) (hb:base<=W.heap.size) (hn:n<=1000):Own (W.alloc (.cells (madeCells #[.string ⟨#[]⟩] n) 9)) base 9 (.slice (some ⟨W.heap.size,0,none⟩) n n) (sv (List.replicate n ByteArray.empty)):=by
 have h:=Own.lit_ W base 9 (madeCells #[.string ⟨#[]⟩] n) hb (by simp[size_madeCells,maxLen];omega)
 have e1:(madeCells #[Value.string ⟨#[]⟩] n).size=n:=by simp[size_madeCells]
 have e2:(madeCells #[Value.string ⟨#[]⟩] n).toList=sv (List.replicate n ByteArray.empty):=by rw[toList_madeCells_one];simp only[sv,List.map_replicate];rfl
 rwa [e1,e2] at h
theorem v_A {W:World} {base G k c:Nat} {L:List ByteArray} (h:Own W base 9 (.slice (some ⟨G,0,none⟩) k c) (sv L)) (hl:L.length=k) (j:Nat) (x:ByteArray):Own (W.setCell ⟨G,j,none⟩ (.string x)) base 9 (.slice (some ⟨G,0,none⟩) k c) (sv (L.set j x)):=by
 have h':Own W base 9 (.slice (some ⟨G,0,none⟩) (sv L).length c) (sv L):=by rw[z_c,hl];exact h
 have:=h'.set_ j (.string x);rw[v_q,z_c,hl] at this;exact this
theorem y_h {W:World} {base G k c:Nat} {L:List ByteArray} (h:Own W base 9 (.slice (some ⟨G,0,none⟩) k c) (sv L)) (hl:L.length=k) (j:Nat) (hj:j<k):W.cell? ⟨G,j,none⟩=some (.string (tl L j)):=by
 have h':Own W base 9 (.slice (some ⟨G,0,none⟩) (sv L).length c) (sv L):=by rw[z_c,hl];exact h
 rw[h'.cell j (by rw[z_c,hl];exact hj),y_y L j (by rw[hl];exact hj)]
theorem hlf_size (p:ByteArray) (hp:p.size=64) (b:Bool):(hlf p b).size=32:=by
 cases b
 ·show (p.extract 0 32).size=32
  rw[ByteArray.size_extract];omega
 ·show (p.extract 32 64).size=32
  rw[ByteArray.size_extract];omega
theorem tput_any (w:World) (hL:Lay w) (hw:10<=w.heap.size) (s t:Nat) (hs:s=2\/s=4) (ht:t<s) (v:Value) (L:List ByteArray) (hv:z_g w v (sv L)) (hl:L.length=dep s) (o g:Nat->ByteArray)
  (hg:(g (dep s)).size=32) (iH:∀i,i<dep s->(tl L i).size=64/\o i=(if sec s t i then hlf (tl L i) false++g (i+1) else g (i+1)++hlf (tl L i) true)/\g i=z_X (o i)) :
  Cl 170 #[.int .i64 t,v,.string (g (dep s))] w fun e w'=>∃u,e=.returned (.tuple #[u,.string (g 0),.int .i64 0])/\z_g w' u (sv ((List.range (dep s)).map o))/\Kp NoB w w':=by
 have iD:1<=dep s/\dep s<=2:=by rcases hs with rfl|rfl<;>decide
 obtain ⟨A,c,rfl,aK,bf,aa⟩:=hv;rw[z_c,hl] at aK aa ⊢;obtain ⟨b,off,rfl,ae⟩:=aa (by omega)
 have bA:Hid (∀i,i<dep s->w.cell? ⟨b,off+i,none⟩=some (.string (tl L i))):=Zz fun i hi=>by rw[ae i hi,y_y L i (by omega)]
 have iV:=Zz iH;have LH:=Zz (fun W (hW:Lay W)=>leaves_any W hW s hs);have mz:=Zz (fun W i hi=>second_any W s t i hs ht hi);have bj:=Zz hL
 have Wo:¬((s:Int)<=(t:Int)):=by omega
 have jO:¬((t:Int)<0):=by omega
 have am:decide ((t:Int)<0)=false:=q_v jO;have bW:decide (s<=t)=false:=q_v (by omega)
 have Dv:Hid (∀i,i<=dep s->(g i).size=32):=Zz fun i hi=>by
  rcases Nat.lt_or_ge i (dep s) with h|h
  ·rw[(iH i h).2.2];exact y_X _
  ·obtain rfl:i=dep s:=by omega
   exact hg
 clear hL iH ae aa hs;generalize dep s=n at *;have bK:=mk_txt n (by omega) w;have cf:=Own.made_txts w w.heap.size n (q_e _) (by omega);rw[<-ptI_all o n] at cf;have iI:=(Kp.refl NoB w).alloc (.cells (madeCells #[.string ⟨#[]⟩] n) 9);obtain ⟨w0,dX⟩:∃w0,w.alloc (.cells (madeCells #[.string ⟨#[]⟩] n) 9)=w0:=⟨_,rfl⟩;rw[dX] at bK cf iI;obtain ⟨G,hG⟩:∃G,w.heap.size=G:=⟨_,rfl⟩;rw[hG] at bK cf;have cR:=Zz hG;have HO:=Zz cf;have HK:=Zz iI
 have iJ:IntKind.i64.wrap ((n:Int)-1)=((n-1:Nat):Int):=by rw[q_r];omega
 clear hG cf iI dX;go_enter func170,ntmps170;go_wp2_with fail;refine (LH.o _ bj.o).mono ?_;rintro e w1 ⟨rfl,rfl⟩
 go_upto_region 7 with fail
 clear bK
 go_loopw [2,10] (fun s2 s10 wr=>∃i:Nat,i<=n/\s10=.int .i64 ((i:Int)-1)/\s2=.string (g i)/\Hid (Own wr G 9 (.slice (some ⟨G,0,none⟩) n n) (sv (ptI o n i)))/\Hid (Kp NoB w1 wr)) (fun _ s10 _=>(intOf s10+1).toNat)
 case atStart=>exact ⟨n,by omega,by congr 1;omega,rfl,HO,HK⟩
 case round =>
  clear HO HK;obtain ⟨i,hi,rfl,rfl,HO,HK⟩:=hrel;by_cases af:0<i
  ·obtain ⟨j,rfl⟩:∃j,i=j+1:=⟨i-1,by omega⟩
   have mw:((j+1:Nat):Int)-1=(j:Int):=by omega
   rw[mw]
   have ve:j<n:=by omega
   have cF:(j:Int)<(n:Int):=by omega
   have hx:=bA.o j ve;have hk:=(HK.o.below0.cell (q_c w1 _ hx)).trans hx;obtain ⟨q1,q2,q3⟩:=iV.o j ve;have HS:=Zz (fun W=>mz.o W j ve);have HH:=Zz (fun W bb=>half_any W (tl L j) q1 bb);have Q2:=Zz (hlf_size (tl L j) q1);have vf:=Dv.o (j+1) (by omega)
   have Q3:(o j).size<=100000:=by
    rw[q2];split
    ·rw[ByteArray.size_append,hlf_size _ q1,vf];decide
    ·rw[ByteArray.size_append,hlf_size _ q1,vf];decide
   have HN:=Zz (fun W (hW:Lay W) (bE:10<=W.heap.size)=>nodeB_any W hW bE (o j) Q3);rw[<-q3] at HN;have Dw:=y_h HO.o (ptI_len o n (j+1)) j ve;have Q5:=HO.o.frozen j;have bl:Hid (Own (wr.setCell ⟨G,j,none⟩ (.string (o j))) G 9 (.slice (some ⟨G,0,none⟩) n n) (sv (ptI o n j))):=Zz (by rw[<-ptI_set o n j ve];exact v_A HO.o (ptI_len o n (j+1)) j (o j));have eY:=Zz (HK.o.setCell ⟨G,j,none⟩ (.string (o j)) (.inr (Nat.le_of_eq cR.o)))
   have fi:10<=(wr.setCell ⟨G,j,none⟩ (.string (o j))).heap.size:=by have:=eY.o.size;omega
   have LI:G<wr.heap.size:=(HO.o.lt G rfl).2
   have Wq:b≠G:=by
    have:=q_c w1 _ hx;have:=cR.o;show b≠G
    have h1:b<w1.heap.size:=by assumption
    omega
   have et:(wr.setCell ⟨G,j,none⟩ (.string (o j))).cell? ⟨G,j,none⟩=some (.string (o j)):=by
    rw[y_h bl.o (ptI_len o n j) j ve];congr 2;simp[tl,ptI,ve]
   have jv:=Zz et;clear q3 hx Q3 et;generalize tl L j=p at *;generalize Q6:g (j+1)=gj at *;have HGJ:=Zz Q6;clear Q6
   cases lW:sec s t j with
   | true =>
    rw[lW] at HS q2
    have Dx:o j=hlf p false++gj:=by rw[q2];rfl
    have Dy:(hlf p false).size=32:=Q2.o false;rw[Dx] at bl eY fi HN jv;have lx:gj.size=32:=vf;clear q2 Dx iV bA;go_wp2_with fail;refine (HS.o _).mono ?_;rintro e w3 ⟨rfl,rfl⟩;go_wp2_with fail;refine (HH.o _ _).mono ?_;rintro e w4 ⟨rfl,rfl⟩
    go_upto_region 14 with fail
    have et:=jv.o;generalize fY:w4.setCell ⟨G,j,none⟩ (.string (hlf p false++gj))=w5 at *;clear fY;generalize hlf p false++gj=oj at *;go_wp2_with fail;refine (HN.o _ (bj.o.no eY.o) fi).mono ?_;rintro e w6 ⟨rfl,ap⟩;have dG:=Zz (bl.o.kp ap fun _ _ h=>h);have aB:=Zz (eY.o.trans ap);clear ap;go_wp2;go_roundw
    case rel=>exact ⟨j,by omega,by go_num,rfl,dG,aB⟩
    case measure=>simp[intOf]
   | false =>
    rw[lW] at HS q2
    have Dx:o j=gj++hlf p true:=by rw[q2];rfl
    have Dy:(hlf p true).size=32:=Q2.o true;rw[Dx] at bl eY fi HN jv;have lx:gj.size=32:=vf;clear q2 Dx iV bA;go_wp2_with fail;refine (HS.o _).mono ?_;rintro e w3 ⟨rfl,rfl⟩;go_wp2_with fail;refine (HH.o _ _).mono ?_;rintro e w4 ⟨rfl,rfl⟩
    go_upto_region 14 with fail
    have et:=jv.o;generalize fY:w4.setCell ⟨G,j,none⟩ (.string (gj++hlf p true))=w5 at *;clear fY;generalize gj++hlf p true=oj at *;go_wp2_with fail;refine (HN.o _ (bj.o.no eY.o) fi).mono ?_;rintro e w6 ⟨rfl,ap⟩;have dG:=Zz (bl.o.kp ap fun _ _ h=>h);have aB:=Zz (eY.o.trans ap);clear ap;go_wp2;go_roundw
    case rel=>exact ⟨j,by omega,by go_num,rfl,dG,aB⟩
    case measure=>simp[intOf]
  ·obtain rfl:i=0:=by omega
   have bH:=HO.o.reads;rw[ptI_zero] at bH;go_wp2
   go_ret3
   exact ⟨_,rfl,bH,HK.o⟩
def z_k (n:Nat):List UInt8:=beL [n / 4294967296,n % 4294967296]
theorem z_m (n:Nat):(z_k n).length=8:=by unfold z_k;rw[x_v];rfl
def z_v (l:List UInt8):List UInt8:=z_k l.length++l
theorem x_B (w:World) (n:Nat) (hn:n<18446744073709551616) :
  Cl 78 #[.int .u64 n] w fun e w'=>e=.returned (.string (bs (z_k n)))/\Kp NoB w w':=by
 have h1:(n:Int) / 4294967296=((n / 4294967296:Nat):Int):=by omega
 have h2:n / 4294967296<4294967296:=by omega
 have HN:Hid (z_k n=beL [n / 4294967296,n % 4294967296]):=Zz rfl
 have h3:IntKind.u32.wrap (n:Int)=((n % 4294967296:Nat):Int):=by rw[IntKind.wrap_u32];omega
 have h4:IntKind.u32.wrap ((n / 4294967296:Nat):Int)=((n / 4294967296:Nat):Int):=by rw[IntKind.wrap_u32];omega
 have aI:=Zz (fun W v h=>w_S W v [n / 4294967296,n % 4294967296] h (by simp));rw[<-HN.o] at aI;generalize z_k n=R at *;generalize n / 4294967296=a at *;generalize n % 4294967296=b at *;have HR:Hid (z_g (w.alloc (.cells #[.int .u32 a,.int .u32 b] 213)) (.slice (some ⟨w.heap.size,0,none⟩) 2 2) (uv [a,b])):=Zz (blit w #[.int .u32 a,.int .u32 b] 213 (by simp[maxLen]));have HK:=Zz ((Kp.refl NoB w).alloc (.cells #[.int .u32 a,.int .u32 b] 213));go_enter func78,ntmps78;go_wp2_with fail;refine (aI.o _ _ HR.o).mono ?_;rintro e w1 ⟨rfl,hb⟩;go_wp2;go_ret;exact ⟨rfl,HK.o.trans (Kp.of_below hb _)⟩
theorem text_any (w:World) (l:List UInt8) (hl:l.length<=1000000) :
  Cl 77 #[.string (bs l)] w fun e w'=>e=.returned (.string (bs (z_v l)))/\Kp NoB w w':=by
 have aj:(bs l).size=l.length:=z_b l
 have h3:IntKind.u64.wrap (l.length:Int)=(l.length:Int):=by rw[q_s];omega
 have HN:=Zz (x_B w l.length (by omega))
 have h0:¬(9223372036854775807<(bs (z_k l.length)).size+(bs l).size):=by rw[z_b,z_m,aj];omega
 have HA:Hid (bs (z_k l.length)++bs l=bs (z_v l)):=Zz (y_f _ _);generalize bs (z_v l)=R at *;generalize bs (z_k l.length)=N at *;go_enter func77,ntmps77;go_wp2_with fail;refine HN.o.mono ?_;rintro e w1 ⟨rfl,hk⟩;go_wp2;go_ret;exact ⟨by rw[<-HA.o];rfl,hk⟩
abbrev Rd:=List UInt8 × Nat
def Rd.cs (r:Rd):Array Value:=#[.string (bs r.1),.int .i64 r.2]
def Rd.bad (r:Rd) (n:Nat):Nat:=if r.2=0/\r.1.length<n then 3 else r.2
def Rd.took (r:Rd) (n:Nat):List UInt8:=if r.bad n=0 then r.1.take n else []
def Rd.left (r:Rd) (n:Nat):Rd:=if r.bad n=0 then (r.1.drop n,0) else (r.1,r.bad n)
theorem cnew_any (w:World) (l:List UInt8) :
  Cl 178 #[.string (bs l)] w fun e w'=>e=.returned (.pointer (some ⟨w.heap.size,0,none⟩))/\Blk w' w.heap.size 317 (Rd.cs (l,0))/\Kp NoB w w':=by
 have HB:Hid (Blk (w.alloc (.cells #[.string (bs l),.int .i64 0] 317)) w.heap.size 317 (Rd.cs (l,0))):=Zz (Blk.new w _ _);have HK:=Zz ((Kp.refl NoB w).alloc (.cells #[.string (bs l),.int .i64 0] 317));go_enter func178,ntmps178;go_wp2;go_ret;exact ⟨rfl,HB.o,HK.o⟩
theorem take_rd (w:World) (p:Nat) (r:Rd) (hr:r.1.length<=1000000) (n:Nat) (hn:n<18446744073709551616) (HP:Blk w p 317 r.cs) :
  Cl 230 #[.pointer (some ⟨p,0,none⟩),.int .u64 n] w fun e w'=>e=.returned (.string (bs (r.took n)))/\Blk w' p 317 (r.left n).cs/\Kp (·=p) w w':=by
 obtain ⟨l,b⟩:=r;have hr:l.length<=1000000:=hr;have c0:=HP.c0;have c1:=HP.c1;have f0:=HP.frozen 0;have f1:=HP.frozen 1;have aj:(bs l).size=l.length:=z_b l
 have hw:IntKind.u64.wrap (l.length:Int)=(l.length:Int):=by rw[q_s];omega
 have cM:=Zz HP;clear HP;by_cases hb:b=0
 ·subst hb
  by_cases af:l.length<n
  ·have e1:Rd.bad (l,0) n=3:=if_pos ⟨rfl,af⟩
   have e2:Rd.took (l,0) n=[]:=by unfold Rd.took;rw[e1];rfl
   have e3:Rd.left (l,0) n=(l,3):=by unfold Rd.left;rw[e1];rfl
   rw[e2,e3]
   have LJ:(l.length:Int)<(n:Int):=by omega
   have HS:Hid (Blk (w.setCell ⟨p,1,none⟩ (.int .i64 3)) p 317 (Rd.cs (l,3))):=Zz (cM.o.set_ 1 (.int .i64 3));have HK:=Zz ((Kp.refl (·=p) w).setCell ⟨p,1,none⟩ (.int .i64 3) (.inl rfl));clear e1 e2 e3;go_enter func230,ntmps230;go_wp2;go_ret;exact ⟨rfl,HS.o,HK.o⟩
  ·have e1:Rd.bad (l,0) n=0:=if_neg (fun h=>af h.2)
   have e2:Rd.took (l,0) n=l.take n:=by unfold Rd.took;rw[e1];rfl
   have e3:Rd.left (l,0) n=(l.drop n,0):=by unfold Rd.left;rw[e1];rfl
   rw[e2,e3]
   have LJ:¬(l.length:Int)<(n:Int):=by omega
   have cY:(n:Int)<=(l.length:Int):=by omega
   have Ws:n<=l.length:=by omega
   have LK:(bs l).extract 0 n=bs (l.take n):=by rw[z_0];simp
   have Q7:(bs l).extract n l.length=bs (l.drop n):=by rw[z_0,q_t (by rw[List.length_drop];omega)]
   have HS:Hid (Blk (w.setCell ⟨p,0,none⟩ (.string (bs (l.drop n)))) p 317 (Rd.cs (l.drop n,0))):=Zz (cM.o.set_ 0 (.string (bs (l.drop n))));have HK:=Zz ((Kp.refl (·=p) w).setCell ⟨p,0,none⟩ (.string (bs (l.drop n))) (.inl rfl));clear e1 e2 e3;go_enter func230,ntmps230;go_wp2;go_ret;exact ⟨rfl,HS.o,HK.o⟩
 ·have e1:Rd.bad (l,b) n=b:=if_neg (fun h=>hb h.1)
  have e2:Rd.took (l,b) n=[]:=by unfold Rd.took;rw[e1,if_neg hb]
  have e3:Rd.left (l,b) n=(l,b):=by unfold Rd.left;rw[e1,if_neg hb]
  rw[e2,e3]
  have hbI:¬(b:Int)=0:=by omega
  clear e1 e2 e3;go_enter func230,ntmps230;go_wp2;go_ret;exact ⟨rfl,cM.o,Kp.refl _ _⟩
def bigN (l:List UInt8):Nat:=beW l 0*4294967296+beW l 1
def Rd.num (r:Rd):Nat:=if r.bad 8=0 then bigN (r.1.take 8) else 0
theorem bigN_lt (l:List UInt8):bigN l<18446744073709551616:=by
 unfold bigN;have:=beW_lt l 0;have:=beW_lt l 1;omega
theorem Rd.num_lt (r:Rd):r.num<18446744073709551616:=by
 unfold Rd.num;split
 ·exact bigN_lt _
 ·decide
theorem Rd.bad_ok {r:Rd} {n:Nat} (h:r.bad n=0):r.2=0/\n<=r.1.length:=by
 unfold Rd.bad at h;split at h
 ·cases h
 ·rename_i hn
  exact ⟨h,by omega⟩
theorem Rd.left_len (r:Rd) (n:Nat):(r.left n).1.length<=r.1.length:=by
 unfold Rd.left;split
 ·simp
 ·exact q_e _
theorem Rd.left_bad (r:Rd) (n:Nat):(r.left n).2=r.bad n:=by
 unfold Rd.left;split
 ·rename_i h;exact h.symm
 ·rfl
theorem Rd.took_len (r:Rd) (n:Nat):(r.took n).length=if r.bad n=0 then n else 0:=by
 unfold Rd.took;split
 ·rename_i h
  rw[q_l];have:=(Rd.bad_ok h).2;omega
 ·rfl
theorem Rd.bad_lt {r:Rd} (h:r.2<100) (n:Nat):r.bad n<100:=by
 unfold Rd.bad;split
 ·decide
 ·exact h
theorem run_arr2 (P c:Nat) (W:World):(Instr.arrayAt 320 (.slice (some ⟨P,0,none⟩) 2 c)).run prog W=.ok (.pointer (some ⟨P,0,none⟩)) W:=by
 have h:prog.underlying 320=some (.array 2 213):=by kernel_rfl
 simp[Instr.arrayAt,run_underlying h]
theorem v_y (w:World) (p:Nat) (r:Rd) (hr:r.1.length<=1000000) (HP:Blk w p 317 r.cs) :
  Cl 183 #[.pointer (some ⟨p,0,none⟩)] w fun e w'=>e=.returned (.int .u64 r.num)/\Blk w' p 317 (r.left 8).cs/\Kp (·=p) w w':=by
 have HT:=Zz (take_rd w p r hr 8 (by decide) HP);have af:=HP.lt;by_cases hb:r.bad 8=0
 ·have jP:(r.took 8).length=8:=by rw[Rd.took_len,if_pos hb]
  have HN:Hid (r.num=beW (r.took 8) 0*4294967296+beW (r.took 8) 1):=Zz (by unfold Rd.num Rd.took;rw[if_pos hb,if_pos hb];rfl);have aI:=Zz (fun W=>big_any W (bs (r.took 8)) (by rw[z_b,jP];decide) (by rw[z_b,jP]))
  have AY:(y_V (r.took 8)).length=2:=by simp[y_V,jP]
  have g0:(y_V (r.took 8)).getD 0 0=beW (r.took 8) 0:=by simp[y_V,jP]
  have g1:(y_V (r.took 8)).getD 1 0=beW (r.took 8) 1:=by simp[y_V,jP]
  have l0:=beW_lt (r.took 8) 0;have l1:=beW_lt (r.took 8) 1;simp only[z_Y] at aI;generalize beW (r.took 8) 0=a at *;generalize beW (r.took 8) 1=b at *;generalize y_V (r.took 8)=L at *;generalize r.took 8=T at *;generalize (r.left 8).cs=cs at *;generalize r.num=R at *;go_enter func183,ntmps183;go_wp2_with fail;refine HT.o.mono ?_;rintro e w1 ⟨rfl,ay,aX⟩;have bh:=Zz ay;have aW:=Zz aX;have Dy:=aX.size;clear ay aX;go_wp2_with fail;refine (aI.o _).mono ?_;rintro e w2 ⟨v,rfl,ho,hb⟩;obtain ⟨P,c,rfl,Di,rT,Dz⟩:=ho.form (by rw[z_l,AY];decide);rw[z_l,AY] at ho;have ak:=Zz (bh.o.below hb bh.o.lt);have al:=Zz (aW.o.trans (Kp.of_below hb _));have c0:=x_K ho AY 0 (by decide);have c1:=x_K ho AY 1 (by decide);rw[g0] at c0;rw[g1] at c1;rw[z_l,AY];clear ho hb bh aW
  have hor:bits .or .u64 ((a:Int)*4294967296) (b:Int)=(R:Int):=by
   have:=bits_join .u64 64 (by decide) wraps_u64 32 ((a:Int)*4294967296) (b:Int) (by omega) (by omega) (by omega) (by omega) (by omega) (by omega);rw[this,HN.o];omega
  have Wt:IntKind.u64.wrap (a:Int)=(a:Int):=by rw[q_s];omega
  have Wu:IntKind.u64.wrap (b:Int)=(b:Int):=by rw[q_s];omega
  have br:=run_arr2 P c w2;have lj:=Zz (ak.o.alloc (.cells #[.int .u32 a,.int .u32 b] 320));have pZ:=Zz (al.o.alloc (.cells #[.int .u32 a,.int .u32 b] 320));go_wp2;go_ret;exact ⟨rfl,lj.o,pZ.o⟩
 ·have jP:r.took 8=[]:=by unfold Rd.took;rw[if_neg hb]
  have Co:r.num=0:=by unfold Rd.num;rw[if_neg hb]
  rw[Co];rw[jP] at HT;have aI:=Zz (fun W=>big_any W (bs []) (by decide) (by decide));generalize (r.left 8).cs=cs at *;go_enter func183,ntmps183;go_wp2_with fail;refine HT.o.mono ?_;rintro e w1 ⟨rfl,ay,aX⟩;have bh:=Zz ay;have aW:=Zz aX;clear ay aX;go_wp2_with fail;refine (aI.o _).mono ?_;rintro e w2 ⟨v,rfl,ho,hb⟩;obtain ⟨A,c,rfl⟩:=ho.shape;have ak:=Zz (bh.o.below hb bh.o.lt);have al:=Zz (aW.o.trans (Kp.of_below hb _));rw[show (uv (y_V (bs []).data.toList)).length=0 from rfl];go_wp2;go_ret;exact ⟨rfl,ak.o,al.o⟩
def Rd.below (r:Rd) (b:Nat):Nat:=if r.bad 8=0/\r.num<b then r.num else 0
def Rd.belowS (r:Rd) (b:Nat):Rd:=if r.bad 8=0/\¬r.num<b then (r.1.drop 8,4) else r.left 8
theorem w_2 (w:World) (p:Nat) (r:Rd) (hr:r.1.length<=1000000) (am:r.2<100) (b:Nat) (ay:1<=b) (hb:b<=1000000) (HP:Blk w p 317 r.cs) :
  Cl 179 #[.pointer (some ⟨p,0,none⟩),.int .i64 b] w fun e w'=>e=.returned (.int .i64 (r.below b:Int))/\Blk w' p 317 (r.belowS b).cs/\Kp (·=p) w w':=by
 have HN:=Zz (v_y w p r hr HP);have ky:=r.num_lt
 have Wu:IntKind.u64.wrap (b:Int)=(b:Int):=by rw[q_s];omega
 have Wv:¬((b:Int)<1):=by omega
 have cE:=Rd.bad_lt am 8;have rK:=Rd.left_bad r 8;by_cases h0:r.bad 8=0
 ·have cY:r.left 8=(r.1.drop 8,0):=by unfold Rd.left;rw[if_pos h0]
  rw[cY] at HN;by_cases af:r.num<b
  ·have e1:r.below b=r.num:=by unfold Rd.below;rw[if_pos ⟨h0,af⟩]
   have e2:r.belowS b=(r.1.drop 8,0):=by unfold Rd.belowS;rw[if_neg (fun h=>h.2 af),cY]
   rw[e1,e2];generalize r.num=n at *;generalize r.1.drop 8=l at *
   have m9:¬((b:Int)<=(n:Int)):=by omega
   have rP:IntKind.i64.wrap (n:Int)=(n:Int):=by rw[q_r];omega
   clear e1 e2 cY rK h0;go_enter func179,ntmps179;go_wp2_with fail;refine HN.o.mono ?_;rintro e w1 ⟨rfl,ay,aX⟩;have c1:=ay.c1;have bh:=Zz ay;clear ay;go_wp2;go_ret;exact ⟨rfl,bh.o,aX⟩
  ·have e1:r.below b=0:=by unfold Rd.below;rw[if_neg (fun h=>af h.2)]
   have e2:r.belowS b=(r.1.drop 8,4):=by unfold Rd.belowS;rw[if_pos ⟨h0,af⟩]
   rw[e1,e2];generalize r.num=n at *;generalize r.1.drop 8=l at *
   have m9:((b:Int)<=(n:Int)):=by omega
   clear e1 e2 cY rK h0;go_enter func179,ntmps179;go_wp2_with fail;refine HN.o.mono ?_;rintro e w1 ⟨rfl,ay,aX⟩;have c1:=ay.c1;have f1:=ay.frozen 1;have bh:Hid (Blk (w1.setCell ⟨p,1,none⟩ (.int .i64 4)) p 317 (Rd.cs (l,4))):=Zz (ay.set_ 1 (.int .i64 4));have aW:=Zz (aX.setCell ⟨p,1,none⟩ (.int .i64 4) (.inl rfl));clear ay aX;go_wp2;go_ret;exact ⟨rfl,bh.o,aW.o⟩
 ·have e1:r.below b=0:=by unfold Rd.below;rw[if_neg (fun h=>h0 h.1)]
  have e2:r.belowS b=r.left 8:=by unfold Rd.belowS;rw[if_neg (fun h=>h0 h.1)]
  rw[e1,e2]
  have cY:r.left 8=(r.1,r.bad 8):=by unfold Rd.left;rw[if_neg h0]
  rw[cY] at HN ⊢;generalize r.bad 8=q at *
  have hq:¬((q:Int)=0):=by omega
  generalize r.1=l at *;generalize r.num=n at *;clear e1 e2 cY rK;go_enter func179,ntmps179;go_wp2_with fail;refine HN.o.mono ?_;rintro e w1 ⟨rfl,ay,aX⟩;have c1:=ay.c1;have bh:=Zz ay;clear ay;go_wp2;go_ret;exact ⟨rfl,bh.o,aX⟩
def Rd.text (r:Rd):List UInt8:=(r.left 8).took r.num
def Rd.textS (r:Rd):Rd:=(r.left 8).left r.num
theorem rtext_any (w:World) (p:Nat) (r:Rd) (hr:r.1.length<=1000000) (HP:Blk w p 317 r.cs) :
  Cl 231 #[.pointer (some ⟨p,0,none⟩)] w fun e w'=>e=.returned (.string (bs r.text))/\Blk w' p 317 r.textS.cs/\Kp (·=p) w w':=by
 have HN:=Zz (v_y w p r hr HP);have HT:=Zz (fun W h=>take_rd W p (r.left 8) (q_g (Rd.left_len r 8) hr) r.num r.num_lt h);change Hid (∀W,_->Calls _ _ _ _ fun e w'=>e=.returned (.string (bs r.text))/\Blk w' p 317 r.textS.cs/\_) at HT;generalize r.textS=S at *;generalize r.text=T at *;generalize r.num=n at *;generalize (r.left 8).cs=cs at *;go_enter func231,ntmps231;go_wp2_with fail;refine HN.o.mono ?_;rintro e w1 ⟨rfl,ay,aX⟩;go_wp2_with fail;refine (HT.o _ ay).mono ?_;rintro e w2 ⟨rfl,am,ag⟩;go_wp2;go_ret;exact ⟨rfl,am,aX.trans ag⟩
def Rd.done (r:Rd):Nat:=if r.2=0 then (if r.1=[] then 0 else 5) else r.2
theorem done_any (w:World) (p:Nat) (r:Rd) (HP:Blk w p 317 r.cs) :
  Cl 180 #[.pointer (some ⟨p,0,none⟩)] w fun e w'=>e=.returned (.int .i64 r.done)/\w'=w:=by
 obtain ⟨l,b⟩:=r;have c0:=HP.c0;have c1:=HP.c1;clear HP;by_cases hb:b=0
 ·subst hb
  by_cases hl:l=[]
  ·subst hl
   have e1:Rd.done ([],0)=0:=rfl;rw[e1];have hq:bs []=(⟨#[]⟩:ByteArray):=rfl;go_enter func180,ntmps180;go_wp2;go_ret;exact ⟨rfl,rfl⟩
  ·have e1:Rd.done (l,0)=5:=by unfold Rd.done;rw[if_pos rfl,if_neg hl]
   rw[e1]
   have hq:(bs l).toList.isEmpty=false:=by
    rw[Lib.toList_data,z_Y]
    cases l with
    | nil=>exact absurd rfl hl
    | cons x l=>rfl
   generalize bs l=s at *;clear e1;go_enter func180,ntmps180;go_wp2;go_ret;exact ⟨rfl,rfl⟩
 ·have e1:Rd.done (l,b)=b:=by unfold Rd.done;rw[if_neg hb]
  rw[e1]
  have hq:¬((b:Int)=0):=by omega
  clear e1;go_enter func180,ntmps180;go_wp2;go_ret;exact ⟨rfl,rfl⟩
def z_Q (w:World) (v:Value) (size n:Nat) (xs:List Value):Prop :=
 ∃A c,v=.slice A n c/\n<=c/\c<=9223372036854775807/\xs.length=n*size/\(0<n->∃b off,A=some ⟨b,off,none⟩/\∀j,j<n*size->w.cell? ⟨b,off+j,none⟩=xs[j]?)
section
variable {w w':World} {v:Value} {size n:Nat} {xs:List Value}
theorem z_Q.keep (h:z_Q w v size n xs) (hk:∀p:Addr,p.block<w.heap.size->w'.cell? p=w.cell? p):z_Q w' v size n xs:=by
 obtain ⟨A,c,rfl,h1,h2,h3,h4⟩:=h;refine ⟨A,c,rfl,h1,h2,h3,fun hp=>?_⟩;obtain ⟨b,off,rfl,hc⟩:=h4 hp;refine ⟨b,off,rfl,fun j hj=>?_⟩;have jI:=hc j hj;rw[q_d (by omega)] at jI ⊢;exact (hk _ (q_c w _ jI)).trans jI
theorem z_Q.no (h:z_Q w v size n xs) (k:Kp NoB w w'):z_Q w' v size n xs:=h.keep fun _ hp=>k.below0.cell hp
theorem z_Q.drew (h:z_Q w v size n xs):z_Q w.drew v size n xs:=h
theorem readsN_nil (w:World) (size:Nat):z_Q w (.slice none 0 0) size 0 []:=⟨none,0,rfl,by omega,by omega,by simp,fun h=>absurd h (by omega)⟩
theorem y_x {base e:Nat} (h:w.ownsRow base e size v n xs):z_Q w v size n xs:=by
 rcases h.2 with ⟨rfl,rfl⟩|⟨g,av,aQ,rfl,hb,hh,hc,hm,hs,ht⟩
 ·exact ⟨none,0,rfl,by omega,by omega,h.1,fun h=>absurd h (by omega)⟩
 ·refine ⟨_,av,rfl,hc,hm,h.1,fun _=>⟨g,0,rfl,fun j hj=>?_⟩⟩
  rw[q_D,cell_of_row w g j aQ e (0,0) hh,<-ht,List.getElem?_take,if_pos hj];simp
end
structure Wr where
 at':Nat
 cell:ByteArray
def wrC (l:List Wr):List Value:=l.flatMap fun x=>[.int .i64 x.at',.string x.cell]
theorem wrC_length (l:List Wr):(wrC l).length=l.length*2:=by
 induction l with
 | nil=>rfl
 | cons x l ih=>simp only[wrC,List.flatMap_cons,q_b,List.length_cons] at ih ⊢;rw[ih];simp;omega
theorem v_j (l m:List Wr):wrC (l++m)=wrC l++wrC m:=by simp[wrC]
theorem wrC_at (l:List Wr) (i:Nat) (h:i<l.length):(wrC l)[i*2]?=some (.int .i64 ((l[i]'h).at':Int))/\(wrC l)[i*2+1]?=some (.string (l[i]'h).cell):=by
 induction l generalizing i with
 | nil=>simp at h
 | cons x l ih =>
  cases i with
  | zero=>exact ⟨rfl,rfl⟩
  | succ i =>
   have:=ih i (by simpa using h)
   have e1:(i+1)*2=i*2+2:=by omega
   have e2:(i+1)*2+1=(i*2+1)+2:=by omega
   rw[e2,e1];exact this
def Wr.ok (x:Wr):Prop:=100<=x.at'/\x.at'<140/\x.cell.size<=2032
theorem imay_any (w:World) (a:Nat) (s:ByteArray) (h1:100<=a) (h2:a<140) (h3:s.size<=2032) :
  Cl 173 #[.agg #[.int .i64 a,.string s]] w fun e w'=>e=.returned (.int .i64 0)/\Kp NoB w w':=by
 have HK:=Zz ((Kp.refl NoB w).alloc (.cells #[.int .i64 a,.string s] 240));have hb:=Blk.new w 240 #[.int .i64 a,.string s];have c0:=hb.cell 0;have c1:=hb.cell 1
 have i1:¬((a:Int)<100):=by omega
 have i2:¬((140:Int)<=(a:Int)):=by omega
 have i3:¬(2032<(s.size:Int)):=by omega
 have d1:decide ((a:Int)<100)=false:=q_v i1;have d2:decide ((140:Int)<=(a:Int))=false:=q_v i2;clear hb;go_enter func173,ntmps173
 go_upto_region 1 with fail
 generalize w.alloc (.cells #[.int .i64 a,.string s] 240)=w1 at *;go_wp2;go_ret;exact ⟨rfl,HK.o⟩
theorem v_O (w:World) (c:ByteArray) (hc:c.size<=1000000) :
  Cl 77 #[.string c] w fun e w'=>e=.returned (.string (bs (z_v c.data.toList)))/\Kp NoB w w':=by
 have:=text_any w c.data.toList (by rw[z_n];omega)
 rwa [x_D] at this
theorem topB_any (w:World) (hL:Lay w) (hw:10<=w.heap.size) (l:List UInt8) (hl:l.length<=90000000) (s:ByteArray) (hs:s=bs l) :
  Cl 176 #[.string s] w fun e w'=>e=.returned (.string (bs (z_Z l)))/\Kp NoB w w':=by subst hs;exact top_any w hL hw l hl
theorem strB (l:List UInt8):Lib.strCells (bs l)=bv l:=by simp[Lib.strCells,bs,bv]
def x_w (cells:List ByteArray):List UInt8:=cells.flatMap fun c=>z_v c.data.toList
def y_O (cells:List ByteArray):ByteArray:=bs (z_Z (x_w cells))
theorem v_P (cells:List ByteArray):(y_O cells).size=32:=by unfold y_O z_Z;rw[z_b,w_W]
theorem catB_take (T:List ByteArray) (i:Nat) (h:i<T.length):x_w (T.take (i+1))=x_w (T.take i)++z_v (tl T i).data.toList:=by
 rw[q_h h];unfold x_w;rw[List.flatMap_append];simp[tl,h]
theorem catB_len (T:List ByteArray) (h:∀i,i<T.length->(tl T i).size<=3000) (i:Nat) (hi:i<=T.length):(x_w (T.take i)).length<=i*3008:=by
 induction i with
 | zero=>simp[x_w]
 | succ i ih =>
  rw[catB_take T i (by omega),q_b];have:=ih (by omega);have h2:=h i (by omega)
  have:(z_v (tl T i).data.toList).length<=3008:=by
   unfold z_v;rw[q_b,z_m,z_n];omega
  omega
theorem builder_kp {S:Nat->Prop} {w w':World} {B b:Nat} {l:List Value} (h:Lib.IsBuilder 232 5 B b l w) (k:Kp S w w') (hS:∀q,B<=q->¬S q):Lib.IsBuilder 232 5 B b l w':=by
 have one:∀p,Lib.BuilderAt 232 5 B b p l w->Lib.BuilderAt 232 5 B b p l w':=fun p h=>by
  obtain ⟨hB,v,hb,bD,aA⟩:=h;exact ⟨hB,v,(k.block b (q_K.1 hb).1 (hS b hB)).trans hb,z_e bD k fun q hq=>hS q (z_u bD hq).1,aA⟩
 exact h.elim (fun h=>.inl (one _ h)) (fun h=>.inr (one _ h))
theorem builder_new (w:World):Lib.IsBuilder 232 5 w.heap.size w.heap.size [] (w.alloc (.cells #[.pointer none,.slice none 0 0] 232)) :=
 .inl ⟨q_e _,.slice none 0 0,heap_alloc_new w _,World.ownsRow_nil _ _ _ _,by simp[Value.ownBlock]⟩
theorem digest_any (w:World) (hL:Lay w) (hw:10<=w.heap.size) (v:Value) (T:List ByteArray) (hv:z_g w v (sv T)) (hT:T.length<=100) (hz:∀i,i<T.length->(tl T i).size<=3000) :
  Cl 174 #[v] w fun e w'=>e=.returned (.string (y_O T))/\Kp NoB w w':=by
 obtain ⟨A,c,rfl,aK,bf,aa⟩:=hv;rw[z_c] at aK aa ⊢;have HC:=Zz aa;have HT:=Zz (catB_take T);have eC:Hid (x_w (T.take T.length)=x_w T):=Zz (by rw[List.take_length]);have kB:=Zz (catB_len T hz);have sS:=Zz (y_y T);have HZ:=Zz hz;have bj:=Zz hL;have HF:Hid (y_O T=bs (z_Z (x_w T))):=Zz rfl;obtain ⟨n,hn⟩:∃n,T.length=n:=⟨_,rfl⟩;rw[hn] at aK HC HT eC hT sS kB HZ ⊢;have bx:=builder_new w;have iI:=(Below.refl w.heap.size w).alloc (q_e _) (.cells #[.pointer none,.slice none 0 0] 232);have HB:Hid (Lib.IsBuilder 232 5 w.heap.size w.heap.size (bv (x_w (T.take 0))) (w.alloc (.cells #[.pointer none,.slice none 0 0] 232))):=Zz bx;have HK:=Zz iI;clear aa hn hL hz bx iI;generalize y_O T=RES at *;go_enter func174,ntmps174
 go_upto_region 3 with fail
 generalize w.alloc (.cells #[.pointer none,.slice none 0 0] 232)=w0 at *;obtain ⟨B,hB⟩:∃B,w.heap.size=B:=⟨_,rfl⟩;rw[hB] at HB HK ⊢
 go_loopw [5,8] (fun _ s8 wr=>∃i:Nat,i<=n/\s8=.int .i64 i/\Hid (Lib.IsBuilder 232 5 B B (bv (x_w (T.take i))) wr)/\Hid (Below B w wr)) (fun _ s8 _=>n-(intOf s8).toNat)
 case atStart=>exact ⟨0,by omega,rfl,HB,HK⟩
 case round =>
  clear HB HK;obtain ⟨i,hi,rfl,HB,HK⟩:=hrel;by_cases af:i<n
  ·obtain ⟨b,off,rfl,ae⟩:=HC.o (by omega)
   have hx:=ae i af;rw[sS.o i af] at hx;have hk:=(HK.o.cell (by have:=q_c w _ hx;omega)).trans hx
   have bV:(i:Int)<(n:Int):=by omega
   have Q8:=HZ.o i af;have LL:=Zz (fun W=>v_O W (tl T i) (by omega));have aR:=Zz (HT.o i af);have sX:=kB.o (i+1) (by omega);rw[aR.o,q_b] at sX;have Ww:=Zz (fun W (h:Lib.IsBuilder 232 5 B B (bv (x_w (T.take i))) W) (hs:B<=W.heap.size)=>Tryz.Builder_WriteString B B (bv (x_w (T.take i))) (bs (z_v (tl T i).data.toList)) W h (by rw[z_D,z_b];omega) hs);clear ae hx sX
   have iW:B<=wr.heap.size:=by have:=HK.o.size;omega
   generalize hX:bs (z_v (tl T i).data.toList)=X at *;have HX:=Zz hX;clear hX;generalize tl T i=p at *;go_wp2_with fail;refine (LL.o _).mono ?_;rintro e w2 ⟨rfl,ag⟩;have ak:=Zz (builder_kp HB.o ag fun _ _ h=>h);have al:=Zz (HK.o.trans (ag.below0.mono iW))
   have lx:B<=w2.heap.size:=by have:=ag.size;omega
   clear ag;go_wp2_with fail;refine (Ww.o _ ak.o lx).mono ?_;rintro e w3 ⟨rfl,bW,au⟩;have aJ:Hid (Lib.IsBuilder 232 5 B B (bv (x_w (T.take (i+1)))) w3):=Zz (by rw[aR.o,w_h,<-strB (z_v p.data.toList),HX.o];exact .inr bW);have ar:=Zz (al.o.trans au);clear bW au;go_wp2;go_roundw
   case rel=>exact ⟨i+1,by omega,by go_num,aJ,ar⟩
   case measure=>simp[intOf];omega
  ·obtain rfl:i=n:=by omega
   rw[eC.o] at HB;have sX:=kB.o i (q_e _);rw[eC.o] at sX
   have iW:B<=wr.heap.size:=by have:=HK.o.size;omega
   have LM:=Zz (fun W (h:Lib.IsBuilder 232 5 B B (bv (x_w T)) W) (hs:B<=W.heap.size)=>Tryz.Builder_String_any B B (x_w T) W h hs);have IB:=Zz (fun W (hW:Lay W) (bE:10<=W.heap.size)=>topB_any W hW bE (x_w T) (by omega) ⟨(x_w T).toArray⟩ rfl);rw[<-HF.o] at IB;generalize (⟨(x_w T).toArray⟩:ByteArray)=X at *;go_wp2_with fail;refine (LM.o _ HB.o iW).mono ?_;rintro e w2 ⟨rfl,ag⟩;have al:=Zz (HK.o.trans ag);have LO:Hid (Kp NoB w w2):=Zz (Kp.of_below (by rw[hB];exact al.o) _);clear ag;go_wp2_with fail;refine (IB.o _ (bj.o.no LO.o) (by have:=LO.o.size;omega)).mono ?_;rintro e w3 ⟨rfl,au⟩;go_wp2;go_ret;exact ⟨rfl,LO.o.trans au⟩
end Go.Proofs.YtdkheklakfbeeaaGreatDoor
