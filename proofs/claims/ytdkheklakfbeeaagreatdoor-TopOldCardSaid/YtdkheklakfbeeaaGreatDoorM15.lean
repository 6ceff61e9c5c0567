/- Part 15 of the proof. -/
import Derived.Test.YtdkheklakfbeeaaGreatDoorM14
set_option linter.all false
set_option maxRecDepth 100000
set_option maxHeartbeats 16000000
namespace Go.Proofs.YtdkheklakfbeeaaGreatDoor
open Go.RowKit Go.Proofs.Tryz
variable {S:cj}{an b i n sp st t:Nat}{key:List UInt8}{vm vs:Value}{w:W_}
section
variable {P:Program} {ah:Array Oper} {R:Act->W_->Prop} {H:l7} {fuel:Nat} {listed:Array Bool} {a:Act} 
def x_1 (i:Nat) {o:Oper} (q:ah[i]?=some o) (hg:o.guard=none) (r:Region.ready .any ah listed=[i]) (j:TypeId) (x y:Operand) (k:o.op=.store j x y) (g:Nat) (cells:Array Value) (s:a.eval x=.pointer (some ⟨g,0,none⟩)) (u:a.eval y=.agg cells)
  (t:TypeId) (e:Array Value) (m:w.heap[g]?=some (.cells e t (0,0))) (p:(P.info? j).map (·.size)=some cells.size) (v:e.size=cells.size) (l:cells.all (·.oneCell')=true)
  (h:l0 .any ah H i w (w.setRow g cells)/\Fr P ah R H fuel (listed.setIfInBounds i true) (a.put o.dst undef) (w.setRow g cells)):Fr P ah R H (fuel+1) listed a w :=
 Md i q r fun K z n=>by
  rw[if_pos (by unfold Region.wanted;rw[hg])];exact wp_store_row j x y k g cells s u t e m p v l (n _ _ h.1 h.2)
end
section
variable {ep q s:Nat} {σ:Nat->ao} {F:Nat->Prop} 
def ma (h:ab w st 116 (gU b an key S vs vm sp)) :
  Cl 42 #[.pointer (some ⟨st,0,none⟩)] w fun e w'=>e=.returned (.bool false)/\w'=w:=by
 have g:=h.c13;clear h;go_enter func42,ntmps42;go_wp2;go_ret;exact ⟨rfl,rfl⟩
def tQ (h:ab w st 116 (gU b an key S vs vm sp)) :
  Cl 67 #[.pointer (some ⟨st,0,none⟩)] w fun e w'=>e=.returned (.int .i64 0)/\w'=w:=by
 have g:=h.c13;clear h;go_enter func67,ntmps67;go_wp2;go_ret;exact ⟨rfl,rfl⟩
def x_b (h:ab w st 116 (gU b an key S vs vm sp)) :
  Cl 34 #[.pointer (some ⟨st,0,none⟩)] w fun e w'=>e=.returned (.agg (iP S.data S.slots))/\Kp ac w w':=by
 have g:=Zz ((h.alloc (.cells #[.int .i64 0,.int .i64 0,.int .i64 0,.bool false] 84)).drew);have i:=Zz ((ab.new w 84 #[.int .i64 0,.int .i64 0,.int .i64 0,.bool false]).drew);have k:=Zz (((Kp.refl ac w).alloc (.cells #[.int .i64 0,.int .i64 0,.int .i64 0,.bool false] 84)).drew);clear h;go_enter func34,ntmps34
 go_upto_region 3 with fail
 generalize w.alloc (.cells #[.int .i64 0,.int .i64 0,.int .i64 0,.bool false] 84)=t at *;obtain ⟨G,hG⟩:∃G,w.heap.size=G:=⟨_,rfl⟩;rw[hG] at i ⊢;have r:=Zz hG;clear hG;refine fs ?_;generalize t.drew=u at *;have m:=g.o.c5;have n:=g.o.c6;have o:=g.o.c7;have p:=g.o.c9;have j:(prog.info? 84).map (·.size)=some 4:=k_
 have l:((iP S.data S.slots):Array Value).all (·.oneCell')=true:=by simp[iP,Value.oneCell']
 refine fp 0 ?_;refine fp 1 ?_;refine fp 2 ?_;refine fp 3 ?_;refine cw 4 m ?_;refine fp 5 ?_;refine fp 6 ?_;refine fp 7 ?_;refine fp 8 ?_;refine cw 9 n ?_;refine fp 10 ?_;refine fp 11 ?_;refine fp 12 ?_;refine fp 13 ?_;refine cw 14 o ?_;refine fp 15 ?_;refine fp 16 ?_;refine fp 17 ?_;refine fp 18 ?_;refine cw 19 p ?_;refine fp 20 ?_;refine x_1 21 rfl rfl k_ 84 (.tmp 2) (.tmp 26) rfl G (iP S.data S.slots) rfl rfl 84 _ i.o j rfl l ⟨oW (oW (oW (oW oN))),?_⟩;refine fe ?_;have s:=i.o.setRow (cs':=iP S.data S.slots);have hk:=(Kp.refl (fun q=>q=G) u).setRow G (iP S.data S.slots) (.inl rfl);go_wp2;refine bodyPost_ret (x_s rfl rfl s underlying84 rfl j) rfl ?_;exact ⟨rfl,k.o.then hk fun q v e=>(by have:=r.o;have e:q=G:=e;omega:False)⟩
def z_ao (h:ab w st 116 (gU b an key S vs vm sp)) (hR:ja w S vs vm) (m:a7 S) :
  Cl 18 #[.pointer (some ⟨st,0,none⟩)] w fun e w'=>∃r s,e=.returned (.agg (dK S r s))/\bg w' w.heap.size S r s/\Kp ac w w':=by
 have N:=m.n1;have O:=Zz (fun W (k:Kp ac w W)=>x_ (by have:=m.d8;omega) o_ (by have:=m.n12;omega) (hR.no k));obtain ⟨R,cs,Am,cm,I,d⟩:=hR.shape;subst I d;have t:Hid (∀vs vm,dK S vs vm=#[.int .u64 S.count,.int .u64 S.epoch,.int .i64 S.data,.int .i64 S.slots,.int .i64 0,.int .i64 0,.bool false,vs,vm]):=Zz fun _ _=>rfl;have g:=Zz (h.alloc (.cells #[.int .u64 0,.int .u64 0,.int .i64 0,.int .i64 0,.int .i64 0,.int .i64 0,.bool false,.slice none 0 0,.slice none 0 0] 60));have v:=Zz (ab.new w 60 #[.int .u64 0,.int .u64 0,.int .i64 0,.int .i64 0,.int .i64 0,.int .i64 0,.bool false,.slice none 0 0,.slice none 0 0]);have o:=Zz ((Kp.refl ac w).alloc (.cells #[.int .u64 0,.int .u64 0,.int .i64 0,.int .i64 0,.int .i64 0,.int .i64 0,.bool false,.slice none 0 0,.slice none 0 0] 60));clear h hR m N;go_enter func18,ntmps18
 go_upto_region 3 with fail
 generalize w.alloc (.cells #[.int .u64 0,.int .u64 0,.int .i64 0,.int .i64 0,.int .i64 0,.int .i64 0,.bool false,.slice none 0 0,.slice none 0 0] 60)=P at *;obtain ⟨G,hG⟩:∃G,w.heap.size=G:=⟨_,rfl⟩;rw[hG] at v ⊢;have J:=Zz hG;clear hG;have T:=g.o.c3;have U:=g.o.c4;have V:=g.o.c5;have X:=g.o.c6;have Y:=g.o.c7;have Z:=g.o.c8;have A:=g.o.c9;have f:=g.o.c10;have E:=g.o.c11;have u:=Zz (O.o P o.o);rw[t.o] at u
 go_wp2_with (first
 | (go_at_call 47;refine u.o.mono ?_;rintro e Q ⟨r,s,rfl,x,p⟩;have l:=Zz x;have c:=Zz p;have n:=Zz (v.o.kp p fun h=>h);clear x p;obtain ⟨j,cs',i,y,z,a⟩:=l.o.reads.shape;subst z a;rw[t.o])
 | (refine wpList_store_row rfl 60 (.tmp 2) (.tmp 10) rfl G _ rfl rfl 60 _ n.o k_ rfl (by simp[Value.oneCell']) ?_))
 have M:=n.o.setRow (cs':=#[.int .u64 S.count,.int .u64 S.epoch,.int .i64 S.data,.int .i64 S.slots,.int .i64 0,.int .i64 0,.bool false,.slice j (S.data+2) cs',.slice i S.mem.length y]);have hk:=(Kp.refl (fun q=>q=G) Q).setRow G #[.int .u64 S.count,.int .u64 S.epoch,.int .i64 S.data,.int .i64 S.slots,.int .i64 0,.int .i64 0,.bool false,.slice j (S.data+2) cs',.slice i S.mem.length y] (.inl rfl);refine bodyPost_ret (x_s rfl rfl M underlying60 rfl k_) rfl ?_;exact ⟨_,_,by rw[t.o],(l.o.kp hk (nI l.o.seats n.o d_) (nI l.o.mems n.o d_)).more (by have:=o.o.size;exact this),(o.o.trans c.o).then hk fun q B e=>(by have:=J.o;have e:q=G:=e;omega:False)⟩
def Q3 (o:a_ w) (hb:Bk w b n σ F) (f:10<=w.heap.size) (h:ab w st 116 (gU b an key S vs vm sp)) (hsp:ab w sp 226 #[.int .u64 ep,.int .u64 q]) (h4:10<=sp) (L:i<n) (hs:sl S.slots) (hk:key.length=32) (h1:t<S.slots) (D:ep<4294967296) (h0:q<4294967296) (p:List UInt8) (hp:p.length=32) :
  Cl 66 #[.pointer (some ⟨st,0,none⟩),.int .i64 i,.int .i64 t,.string (bs p)] w fun e w'=>e=.returned (.tuple #[.string (Ac key (lO ep q) i t p),.int .i64 0])/\ab w' sp 226 #[.int .u64 ep,.int .u64 (q+1:Nat)]/\Kp (·=sp) w w':=by
 have V:n<=12:=by obtain ⟨G,c,st,A,Φ,C,_⟩:=hb;exact C.n12
 have Y:=Zz (tQ h);have h6:=Zz (Xt w sp ep q D h0 hsp);have Z:=Zz (fun W=>x_4 W b an i S.slots key);have h3:=Zz (fun W E (hb:Bk W b n σ E) (o:a_ W) (P:10<=W.heap.size)=>G4 RX o hb P L V hs hk h1 (lO ep q) p (AY ep q) hp);have I:=Zz h;have B:=Zz hsp;have d:=Zz hb;have O:=Zz o;have X:=Zz f;have h7:=Zz h4;have r:=h.c12;have M:st≠sp:=ab.ne_ h hsp d_;clear h hsp hb o f hp;generalize h9:lO ep q=nn at *;go_enter func66,ntmps66;go_wp2_with fail;refine Y.o.mono ?_;rintro e H0 ⟨rfl,rfl⟩;go_wp2_with fail;refine h6.o.mono ?_;rintro e s ⟨rfl,u,j⟩;have h5:=Zz u.drew;have x:=Zz j.drew;have m:=Zz ((I.o.kp j M).drew)
 have N:=Zz ((d.o.kp j fun z hz H=>by
  have hz:z=sp:=hz;subst hz
  exact d.o.off B.o (by unfold ci;decide) H).no (Kp.refl ac s).drew)
 have h2:=Zz ((O.o.kp j fun g hg e=>by have e:g=sp:=e;have:=h7.o;omega).no (Kp.refl ac s).drew);clear u j r
 go_upto_region 7 with fail
 refine fs ?_;generalize s.drew=w3 at *;have Q:=m.o.c0;have R:=m.o.c1;have T:=m.o.c2;have U:=m.o.c6;refine fp 0 ?_;refine fp 1 ?_;refine fp 2 ?_;refine fq 3 (fun W=>W.cell? ⟨st,0,none⟩=some (.pointer (some ⟨b,0,none⟩))/\W.cell? ⟨st,1,none⟩=some (.pointer (some ⟨an,0,none⟩))/\W.cell? ⟨st,2,none⟩=some (.string (bs key))) ⟨Q,R,T⟩ ?_;refine fp 4 ?_;refine fp 5 ?_;refine fp 6 ?_;refine fp 7 ?_;refine fp 8 ?_;refine cw 9 U ?_;refine fp 11 ?_;refine fp 12 ?_;refine fp 13 ?_;refine fd 10 fun K J k=>?_;go_simp;refine (Z.o w3).mono ?_;rintro e h8 ⟨rfl,y⟩;have l:=Zz y;refine k _ _ (oW (oW oN)) ?_;clear k K y;refine fd 14 fun K J k=>?_;go_simp;refine (h3.o h8 F (N.o.no l.o) (h2.o.no l.o) (by have:=X.o;have:=x.o.size;have:=l.o.size;omega)).mono ?_;rintro e H1 ⟨rfl,v⟩;have a:=Zz (l.o.trans v);refine k _ _ (oW (oW oN)) ?_;clear k K v;refine fp 15 ?_;refine fp 16 ?_;refine fp 17 ?_;refine fp 18 ?_;refine fe ?_;go_wp2;go_ret2;exact ⟨rfl,h5.o.kp a.o fun h=>h,x.o.then a.o fun _ _ h=>h.elim⟩
end
section
open GfM
def r0 (w:W_) (k:Nat) (hk:2<=k/\k<=8):Cl 59 #[.int .i64 k] w fun e w'=>e=.returned (.bool true)/\w'=w:=by
 have g:decide (2<=k)=true:=by simp;omega
 have h:decide (k<=8)=true:=by simp;omega
 have i:(2:Int)<=(k:Int):=o_;have j:(k:Int)<=8:=o_;go_enter func59,ntmps59;go_wp2;go_ret;exact ⟨rfl,rfl⟩
def RL (w:W_) (s:B_) (hs:s.size=32):Cl 103 #[.string s] w fun e w'=>e=.returned (.bool false)/\w=w':=by
 have g:((32:Int) != 32)=false:=d_;go_enter func103,ntmps103;go_wp2;go_ret;exact ⟨rfl,rfl⟩
def J5 (w:W_) (v:Value) (g:List Value) (hv:b_ w v g)
  (hF:∀r,r<g.length->Cl 103 #[g.getD r undef] w fun e w'=>e=.returned (.bool false)/\w=w') :
  Cl 159 #[v,.func (.func 103) #[] #[]] w fun e w'=>e=.returned (.int .i64 (-1))/\w=w':=by
 obtain ⟨A,c,rfl,s,y,h⟩:=hv;have m:=Zz h;clear h;have o:=Zz hF;clear hF;obtain ⟨n,hn⟩:∃n,g.length=n:=⟨_,rfl⟩;rw[hn] at s ⊢;have p:=Zz hn;clear hn;go_enter func159,ntmps159;go_wp2
 go_loop [5,8] (fun _ l=>∃i:Nat,i<=n/\l=.int .i64 i) (fun _ l=>n-(intOf l).toNat)
 case atStart=>exact ⟨0,o_,rfl⟩
 case round =>
  obtain ⟨i,z,rfl⟩:=hrel;by_cases t:i<n
  ·have j:i<g.length:=by rw[p.o];exact t
   obtain ⟨b,off,rfl,h⟩:=m.o o_;have u:=h i j;rw[cr j] at u;have k:=o.o i j;rw[be,cr j] at k;simp only[Option.getD_some] at k;generalize g[i]=x at *;have q:=Zz k;clear k h;go_wp2_with fail;refine (q.o).mono ?_;rintro e w' ⟨rfl,rfl⟩;go_wp2
   go_round
   case rel=>exact ⟨i+1,o_,by go_num⟩
   case measure=>simp[intOf];omega
  obtain rfl:i=n:=o_;go_wp2;go_ret;exact ⟨rfl,rfl⟩
def u_ (w:W_) (v:Value) (g:List Value) (hv:b_ w v g)
  (hF:∀r,r<g.length->Cl 103 #[g.getD r undef] w fun e w'=>e=.returned (.bool false)/\w=w') :
  Cl 102 #[v,.func (.func 103) #[] #[]] w fun e w'=>e=.returned (.bool false)/\w=w':=by
 have h:=J5 w v g hv hF;have i:=Zz h;clear h hF hv;go_enter func102,ntmps102;go_wp2_with fail;refine (i.o).mono ?_;rintro e w' ⟨rfl,rfl⟩;go_wp2
 all_goals (go_ret;exact ⟨rfl,rfl⟩)
noncomputable def eg (C:List B_):List B_:=C++[bs (enP C),bs (enQ C)]
def kO (C:List B_):(eg C).length=C.length+2:=by unfold eg;rw[cd];rfl
def qV (T:List B_):∀u∈sv T,u.oneCell'=true:=by
 intro u e;simp[sv] at e;obtain ⟨_,_,rfl⟩:=e;rfl
def JM (W:W_) (T:List B_) (k:Nat) (hk:T.length=k) (hm:k<=1000):b_ (W.alloc (.cells (sv T).toArray 9)) (.slice (some ⟨W.heap.size,0,none⟩) k k) (sv T):=by
 have h:=aH.lit_ W W.heap.size 9 (sv T).toArray (bS _) (by simp[cN,maxLen];omega)
 have e:(sv T).toArray.size=k:=by simp[cN,hk]
 rw[e] at h;exact h.reads
def X_ (w:W_) (v:Value) (C:List B_) (hv:b_ w v (sv C)) (hk:2<=C.length/\C.length<=8) (hz:MU C 32) :
  Cl 65 #[v] w fun e w'=>∃u,e=.returned (.tuple #[u,.int .i64 0])/\aH w' w.heap.size 9 u (sv (eg C))/\Kp ac w w':=by
 have m:=Zz (fun W (hR:b_ W v (sv C))=>u_ W v (sv C) hR (fun r j=>by
  rw[cN] at j;have:=iQ C r j;rw[be,this]
  exact RL W _ (hz r j)))
 have i:=fun W u h=>JG W u C h;rw[hz.enE o_ o_ o_] at i;have d:=Zz i;clear i;have x:=Zz (fun W=>r0 W C.length hk);have HR:=Zz hv;have O:=Zz (show (([]:List Value).length+(sv C).length)*16<=140737488355328 by rw[cN];simp;omega);have U:=Zz (show (([]++sv C:List Value).length+(sv [bs (enP C),bs (enQ C)]).length)*16<=140737488355328 by rw[List.nil_append,cN,cN];simp;omega);have y:=Zz (qV C);have z:=Zz (qV [bs (enP C),bs (enQ C)]);have f:Hid (∀W:W_,b_ (W.alloc (.cells #[.string (bs (enP C)),.string (bs (enQ C))] 9)) (.slice (some ⟨W.heap.size,0,none⟩) 2 2) (sv [bs (enP C),bs (enQ C)])):=Zz (fun W=>JM W [bs (enP C),bs (enQ C)] 2 rfl d_);have t:Hid ([]++sv C++sv [bs (enP C),bs (enQ C)]=sv (eg C)):=Zz (by rw[List.nil_append,<-x_q];rfl);clear hz;generalize S:bs (enP C)=P at *;generalize T:bs (enQ C)=Q at *;generalize R:eg C=D at *;have b:=Zz (aH.nil_ w w.heap.size 9);have M:=Zz (Below.refl w.heap.size w);obtain ⟨A,c,rfl,J,Y,o⟩:=hv;rw[cN] at J o HR m ⊢;clear o;generalize C.length=k at *;go_enter func65,ntmps65;go_wp2_with fail;refine (x.o _).mono ?_;rintro e s ⟨rfl,rfl⟩;go_wp2_with fail;refine (m.o _ HR.o).mono ?_;rintro e K ⟨rfl,rfl⟩;go_wp2_with fail;refine (d.o _ _ HR.o).mono ?_;rintro e w3 ⟨rfl,g⟩;have a:=Zz (HR.o.below g);have V:=Zz (b.o.below g);have I:=Zz (M.o.trans g);have N:=Zz g.size
 go_upto_region 7 with (first
  | (at_builtin;refine LK s.heap.size rfl (.const (.slice none 0 0)) (.tmp 19) 38 9 (.string ⟨#[]⟩) 16 rfl underlying38 xT rfl d_ _ _ _ _ rfl rfl a.o y.o V.o I.o N.o O.o ?_;intro F w3 q p Z _;have E:=Zz (q.alloc (.cells #[.string P,.string Q] 9));have n:=Zz (p.alloc p.size (.cells #[.string P,.string Q] 9));have G:=Zz n.o.size;clear q)
  | (at_builtin;refine LK s.heap.size rfl (.tmp 20) (.tmp 23) 38 9 (.string ⟨#[]⟩) 16 rfl underlying38 xT rfl d_ _ _ _ _ rfl rfl (f.o _) z.o E.o n.o G.o U.o ?_;intro H L l X B _;rw[t.o] at l))
 all_goals (go_ret2;exact ⟨_,rfl,l,Kp.of_below X _⟩)
end
section
open GfM
structure Gp where
 disk:Nat
 top:B_
 use:Bool
def gb (b s:Nat) (key:List UInt8) (x:Gp):Array Value:=#[.pointer (some ⟨b,0,none⟩),.int .i64 x.disk,.int .i64 s,.string (bs key),.string x.top,.bool x.use]
def i5 (b s:Nat) (key:List UInt8) (l:List Gp):List Value:=l.flatMap fun x=>(gb b s key x).toList
def J8 (b s:Nat) (key:List UInt8) (l m:List Gp):i5 b s key (l++m)=i5 b s key l++i5 b s key m:=by simp[i5]
def I5 (b s:Nat) (key:List UInt8) (l:List Gp) (i:Nat) (h:i<l.length) (j:Nat) (g:j<6):(i5 b s key l)[i*6+j]?=(gb b s key (l[i]'h)).toList[j]?:=by
 induction l generalizing i with
 | nil=>simp at h
 | cons x l k =>
  have e:(gb b s key x).toList.length=6:=rfl;rw[show i5 b s key (x::l)=(gb b s key x).toList++i5 b s key l by simp[i5]]
  cases i with
  | zero=>rw[Nat.zero_mul,jm,A3 (by rw[e];exact g)];rfl
  | succ i =>
   rw[uS (by rw[e];omega),e,show (i+1)*6+j-6=i*6+j by omega,k i (by simpa using h)];rfl
def i4 (n:Nat) (A:Nat->B_) (E:Nat->Int) (i:Nat):List B_:=(List.range n).map fun j=>if j<i/\E j=0 then A j else ByteArray.empty
def hJ (n:Nat) (E:Nat->Int) (i:Nat):List Bool:=(List.range n).map fun j=>decide (j<i/\E j=0)
def Gh (E:Nat->Int):Nat->List Nat
 | 0=>[]
 | i+1=>if E i=0 then Gh E i else Gh E i++[i]
section
variable (n:Nat) (A:Nat->B_) (E:Nat->Int)
def za (i:Nat):(i4 n A E i).length=n:=by simp[i4]
def zn (i:Nat):(hJ n E i).length=n:=by simp[hJ]
def XO:i4 n A E 0=List.replicate n ByteArray.empty:=by
 unfold i4;apply i2 s_;intro k e g;simp
def UP:hJ n E 0=List.replicate n false:=by
 unfold hJ;apply i2 s_;intro k e g;simp
def v_z {k:Nat} (h:k≠i):(k<i+1)=(k<i):=by rw[eq_iff_iff];omega
def XA (i:Nat) (h:i<n) (g:E i=0):(i4 n A E i).set i (A i)=i4 n A E (i+1):=by
 apply i2 (by simp[i4]);intro k j l;rw[List.getElem_set];by_cases e:i=k
 ·subst e;rw[if_pos rfl];simp[i4,g]
 rw[if_neg e];simp only[i4,List.getElem_map,List.getElem_range,v_z (Ne.symm e)]
def Xq (i:Nat) (h:i<n) (g:E i=0):(hJ n E i).set i true=hJ n E (i+1):=by
 apply i2 (by simp[hJ]);intro k j l;rw[List.getElem_set];by_cases e:i=k
 ·subst e;rw[if_pos rfl];simp[hJ,g]
 rw[if_neg e];simp only[hJ,List.getElem_map,List.getElem_range,v_z (Ne.symm e)]
def ldC_no (i:Nat) (g:E i≠0):i4 n A E (i+1)=i4 n A E i:=by
 apply i2 (by simp[i4]);intro k h j;simp only[i4,List.getElem_map,List.getElem_range];by_cases e:k=i
 ·subst e;simp[g]
 simp only[v_z e]
def ldB_no (i:Nat) (g:E i≠0):hJ n E (i+1)=hJ n E i:=by
 apply i2 (by simp[hJ]);intro k h j;simp only[hJ,List.getElem_map,List.getElem_range];by_cases e:k=i
 ·subst e;simp[g]
 have:(k<i+1/\E k=0)=(k<i/\E k=0):=by rw[v_z e]
 rw[decide_eq_decide,this]
def Yv (i:Nat):(Gh E i).length<=i:=by
 induction i with
 | zero=>exact bS _
 | succ i e =>
  unfold Gh;split
  ·omega
  rw[cd,A_];omega
end
def v_6 {G:Nat} {e:List Value} (h:ab w G t e.toArray) (n:Nat) (hn:e.length=n) (hm:n<=100000):b_ w (.slice (some ⟨G,0,none⟩) n n) e:=by
 subst hn;refine ⟨_,_,rfl,bS _,o_,fun _=>⟨G,0,rfl,fun j g=>?_⟩⟩;rw[jm,h.cell];simp
def w_V {G:Nat} {e:List Value} (h:ab w G t e.toArray) (i:Nat) (v:Value):ab (w.setCell ⟨G,i,none⟩ v) G t (e.set i v).toArray:=by
 have:=h.set_ i v
 rwa [F6] at this
def WE (w:W_) (b s t:Nat) (key:List UInt8) (v:Value) (l:List Gp) (hv:iB w v 6 l.length (i5 b s key l)) (hk:4<=l.length/\l.length<=10) (A:Nat->B_) (E:Nat->Int) (hE:∀c,E c≠21)
  (hG:∀c (h:c<l.length),∀W,Kp ac w W->Cl 60 #[.agg (gb b s key (l[c]'h)),.int .i64 t] W fun e w'=>e=.returned (.tuple #[.string (A c),.int .i64 (E c)])/\Kp ac W w') :
  Cl 61 #[v,.int .i64 t] w fun e w'=>∃u vl T P,e=.returned (.tuple #[u,vl,.int .i64 P])/\DecR (i4 l.length A E l.length) (hJ l.length E l.length) T P/\(P=0->aH w' w.heap.size 9 u (sv T))/\Kp ac w w':=by
 obtain ⟨AA,cc,rfl,aP,bk,uX,r⟩:=hv;have gI:=Zz (I5 b s key l);have HG:=Zz hG;obtain ⟨n,hn⟩:∃n,l.length=n:=⟨_,rfl⟩;have HN:=Zz hn;rw[hn] at aP r hk ⊢;obtain ⟨Q,off,rfl,y8⟩:=r o_;have bM:=Zz y8
 have HM:Hid (∀W,Cl 59 #[.int .i64 ((n:Int)-2)] W fun e w'=>e=.returned (.bool true)/\w'=W):=Zz (fun W=>by
  have:=r0 W (n-2) o_
  rwa [show (((n-2:Nat):Int))=(n:Int)-2 by omega] at this)
 have eh:IntKind.i64.wrap ((n:Int)-2)=(n:Int)-2:=by rw[eM];omega
 have x6:=run_make_row' 38 9 (.string ⟨#[]⟩) 16 underlying38 xT rfl .i64 .i64 n o_ o_;have x7:=K3 n o_;have vJ:=Zz x6;have y3:=Zz x7;have Pf:=Zz (fun W vc vb I h2=>K2 W vc vb (i4 n A E n) (hJ n E n) I h2)
 have uZ:Hid (madeCells #[.string ⟨#[]⟩] n=(sv (i4 n A E 0)).toArray):=Zz (by
  apply Array.toList_inj.1
  rw[toList_madeCells_one,XO];simp only[sv,List.map_replicate];rfl)
 have iL:Hid (madeCells #[.bool false] n=(tv (hJ n E 0)).toArray):=Zz (by
  apply Array.toList_inj.1
  rw[toList_madeCells_one,UP];simp only[tv,List.map_replicate])
 clear x6 x7 hG y8 r uX hn;go_enter func61,ntmps61
 go_upto_region 3 with (first
 | (go_at_call 59;refine (HM.o _).mono ?_;rintro e a ⟨rfl,rfl⟩))
 go_cut [7,8] (fun s7 s8 h1=>∃g k:Nat,s7=.slice (some ⟨g,0,none⟩) n n/\s8=.slice (some ⟨k,0,none⟩) n n/\Hid (g≠k/\a.heap.size<=g/\a.heap.size<=k/\g<h1.heap.size/\k<h1.heap.size)/\Hid (ab h1 g 9 (sv (i4 n A E 0)).toArray)/\Hid (ab h1 k 4 (tv (hJ n E 0)).toArray)/\Hid (Kp ac a h1))
 case first =>
  have H8:=Zz (Kp.refl ac a).drew;refine fs ?_;generalize a.drew=m at *;have Y7:=vJ.o m;have eK:=y3.o m;have y4:=vJ.o (m.alloc (.cells (madeCells #[.bool false] n) 4));have mD:=y3.o (m.alloc (.cells (madeCells #[.string ⟨#[]⟩] n) 9));have y5:=Zz (ab.new m 9 (madeCells #[.string ⟨#[]⟩] n));have y6:=Zz (ab.new m 4 (madeCells #[.bool false] n));have Z:=Zz (ab.new (m.alloc (.cells (madeCells #[.bool false] n) 4)) 9 (madeCells #[.string ⟨#[]⟩] n));have B:=Zz (ab.new (m.alloc (.cells (madeCells #[.string ⟨#[]⟩] n) 9)) 4 (madeCells #[.bool false] n));rw[uZ.o] at Y7 mD y4 y5 B Z;rw[iL.o] at eK y4 mD y6 Z B;have dM:(m.alloc (.cells (sv (i4 n A E 0)).toArray 9)).heap.size=m.heap.size+1:=s_;have dv:(m.alloc (.cells (tv (hJ n E 0)).toArray 4)).heap.size=m.heap.size+1:=s_;have y7:=Zz (y5.o.alloc (.cells (tv (hJ n E 0)).toArray 4));have lS:=Zz (y6.o.alloc (.cells (sv (i4 n A E 0)).toArray 9));have AK:=Zz ((H8.o.alloc (.cells (sv (i4 n A E 0)).toArray 9)).alloc (.cells (tv (hJ n E 0)).toArray 4));have Pg:=Zz ((H8.o.alloc (.cells (tv (hJ n E 0)).toArray 4)).alloc (.cells (sv (i4 n A E 0)).toArray 9));have z:Hid (a.heap.size<=m.heap.size):=Zz H8.o.size;generalize (sv (i4 n A E 0)).toArray=TT at *;generalize (tv (hJ n E 0)).toArray=BB at *;refine fp 0 ?_;refine fp 1 ?_;refine fp 3 ?_;refine fp 4 ?_;refine v_p 2 5 k_ ?_ ?_
  ·refine C9 2 rfl (fun K H0 y=>?_)
   go_simp;refine y _ _ oN ?_;clear y K;refine fp 6 ?_;refine fd 5 fun K H0 y=>?_;go_simp;refine y _ _ oN ?_;clear y K;refine fp 7 ?_;refine fe ?_;go_wp2_with fail
   go_meet
   rw[dM] at B;exact ⟨_,_,rfl,rfl,Zz ⟨o_,z.o,by have:=z.o;omega,by have:=y7.o.lt;omega,B.o.lt⟩,y7,B,AK⟩
  refine C9 5 rfl (fun K H0 y=>?_);go_simp;refine y _ _ oN ?_;clear y K;refine fd 2 fun K H0 y=>?_;go_simp;refine y _ _ oN ?_;clear y K;refine fp 6 ?_;refine fp 7 ?_;refine fe ?_;go_wp2_with fail
  go_meet
  rw[dv] at Z;exact ⟨_,_,rfl,rfl,Zz ⟨o_,by have:=z.o;omega,z.o,Z.o.lt,by have:=lS.o.lt;omega⟩,Z,lS,Pg⟩
 case rest =>
  obtain ⟨g,k,rfl,rfl,G,S,U,d⟩:=hcut;have R:Hid (aH wc wc.heap.size 3 (.slice none 0 0) (zv (Gh E 0))):=Zz (aH.nil_ _ _ 3);have z:Hid (wc.heap.size<=wc.heap.size):=Zz (bS _);have bf:=Zz (Yv E);have Y8:Hid (a.heap.size<=wc.heap.size):=Zz d.o.size
  go_upto_region 6 with fail
  go_loopw [9,10,11,12,13,29] (fun s9 _ _ _ _ x3 wr=>∃i:Nat,i<=n/\x3=.int .i64 i/\Hid (aH wr wc.heap.size 3 s9 (zv (Gh E i)))/\Hid (ab wr g 9 (sv (i4 n A E i)).toArray)/\Hid (ab wr k 4 (tv (hJ n E i)).toArray)/\Hid (Kp ac a wr)/\Hid (wc.heap.size<=wr.heap.size)) (fun _ _ _ _ _ x3 _=>n-(intOf x3).toNat)
  case atStart=>exact ⟨0,o_,rfl,R,S,U,d,z⟩
  case round =>
   clear R S U d z;obtain ⟨i,hi,rfl,R,S,U,d,z⟩:=hrel;by_cases C:i<n
   ·have bB:(i:Int)<(n:Int):=o_
    have F:i<l.length:=by rw[HN.o];exact C
    have r:∀j,j<6->wr.cell? ⟨Q,off+i*6+j,none⟩=(gb b s key (l[i]'F)).toList[j]?:=fun j hj=>by
     have I:=(bM.o (i*6+j) o_).trans (gI.o i F j hj);rw[<-Nat.add_assoc] at I;have ku:j<(gb b s key (l[i]'F)).toList.length:=hj;rw[cr ku] at I ⊢;exact (d.o.below0.cell (fV a _ I)).trans I
    have h4:=r 0 d_;have h5:=r 1 d_;have h6:=r 2 d_;have h7:=r 3 d_;have h8:=r 4 d_;have h9:=r 5 d_;have uz:=Zz (HG.o i F);obtain ⟨⟨M,xt,N⟩,hx⟩:∃x,l[i]'F=x:=⟨_,rfl⟩;rw[hx] at h4 h5 h6 h7 h8 h9 uz;replace h4:wr.cell? ⟨Q,off+i*6,none⟩=some (.pointer (some ⟨b,0,none⟩)):=h4;replace h5:wr.cell? ⟨Q,off+i*6+1,none⟩=some (.int .i64 M):=h5;replace h6:wr.cell? ⟨Q,off+i*6+2,none⟩=some (.int .i64 s):=h6;replace h7:wr.cell? ⟨Q,off+i*6+3,none⟩=some (.string (bs key)):=h7;replace h8:wr.cell? ⟨Q,off+i*6+4,none⟩=some (.string xt):=h8;replace h9:wr.cell? ⟨Q,off+i*6+5,none⟩=some (.bool N):=h9;have Y9:=Zz (hE i);clear hx r;have O:=Zz (ab.new wr 141 #[.pointer (some ⟨b,0,none⟩),.int .i64 M,.int .i64 s,.string (bs key),.string xt,.bool N]);have H7:=Zz (d.o.alloc (.cells #[.pointer (some ⟨b,0,none⟩),.int .i64 M,.int .i64 s,.string (bs key),.string xt,.bool N] 141));have jX:=Zz (dL R.o ((Kp.refl ac wr).alloc (.cells #[.pointer (some ⟨b,0,none⟩),.int .i64 M,.int .i64 s,.string (bs key),.string xt,.bool N] 141)) fun _ _ h=>h);have x8:=Zz (S.o.alloc (.cells #[.pointer (some ⟨b,0,none⟩),.int .i64 M,.int .i64 s,.string (bs key),.string xt,.bool N] 141));have x9:=Zz (U.o.alloc (.cells #[.pointer (some ⟨b,0,none⟩),.int .i64 M,.int .i64 s,.string (bs key),.string xt,.bool N] 141));have iX:Hid (wc.heap.size<=(wr.alloc (.cells #[.pointer (some ⟨b,0,none⟩),.int .i64 M,.int .i64 s,.string (bs key),.string xt,.bool N] 141)).heap.size):=Zz (cL z.o ((Kp.refl ac wr).alloc _).size)
    go_upto_region 8 with fail
    clear h4 h5 h6 h7 h8 h9 R S U d z;generalize gZ:wr.alloc (.cells #[.pointer (some ⟨b,0,none⟩),.int .i64 M,.int .i64 s,.string (bs key),.string xt,.bool N] 141)=w5 at *;clear gZ;generalize wr.heap.size=D at *;have c0:=O.o.c0;have c1:=O.o.c1;have c2:=O.o.c2;have c3:=O.o.c3;have c4:=O.o.c4;have c5:=O.o.c5;go_wp2_with fail;refine (uz.o _ H7.o).mono ?_;rintro e f ⟨rfl,V⟩;have Y:=Zz (x8.o.kp V fun h=>h);have X:=Zz (x9.o.kp V fun h=>h);have H:=Zz (dL jX.o V fun _ _ h=>h);have H6:=Zz (H7.o.trans V);have h3:Hid (wc.heap.size<=f.heap.size):=Zz (cL iX.o V.size);clear V c0 c1 c2 c3 c4 c5 O H7 jX x8 x9 iX;by_cases J:E i=0
    ·have x0:=Zz (XA n A E i C J)
     have x1:=Zz (Xq n E i C J)
     have x2:Gh E (i+1)=Gh E i:=by rw[Gh,if_pos J]
     have eV:i<(sv (i4 n A E i)).length:=by rw[cN,za];exact C
     have pd:i<(tv (hJ n E i)).length:=by rw[show (tv (hJ n E i)).length=(hJ n E i).length from fW _,zn];exact C
     obtain ⟨y1,oU⟩:∃y1,f.cell? ⟨g,i,none⟩=some y1:=⟨_,by rw[Y.o.cell,lP];exact cr eV⟩;obtain ⟨y2,Eg⟩:∃y2,f.cell? ⟨k,i,none⟩=some y2:=⟨_,by rw[X.o.cell,lP];exact cr pd⟩;have Hl:=Y.o.frozen i;have Za:=X.o.frozen i;have aD:=G.o.1;have y0:=Zz ((w_V Y.o i (.string (A i))).far (p:=⟨k,i,none⟩) G.o.1 (.bool true));have sK:=Zz (w_V (X.o.far (p:=⟨g,i,none⟩) (Ne.symm G.o.1) (.string (A i))) i (.bool true));rw[w_M,x0.o] at y0;rw[tv_set,x1.o] at sK;have bH:=Zz ((H6.o.setCell ⟨g,i,none⟩ (.string (A i)) (.inr G.o.2.1)).setCell ⟨k,i,none⟩ (.bool true) (.inr G.o.2.2.1));have fA:=Zz (dL H.o (((Kp.refl (fun q=>q=g\/q=k) f).setCell ⟨g,i,none⟩ (.string (A i)) (.inl (.inl rfl))).setCell ⟨k,i,none⟩ (.bool true) (.inl (.inr rfl))) (fun q hq hh=>by have:=(iZ H.o hq).1;have:=G.o.2.2.2;rcases hh with rfl|rfl<;>omega));have jo:Hid (wc.heap.size<=((f.setCell ⟨g,i,none⟩ (.string (A i))).setCell ⟨k,i,none⟩ (.bool true)).heap.size):=Zz (cL h3.o (((Kp.refl (fun q=>q=g\/q=k) f).setCell ⟨g,i,none⟩ (.string (A i)) (.inl (.inl rfl))).setCell ⟨k,i,none⟩ (.bool true) (.inl (.inr rfl))).size);rw[<-x2] at fA;rw[J];clear Y X H6 H h3;generalize A i=ai at *
     go_upto_region 15 with fail
     clear Hl Za oU Eg;generalize (f.setCell ⟨g,i,none⟩ (.string ai)).setCell ⟨k,i,none⟩ (.bool true)=o at *;go_wp2;go_roundw
     case rel=>exact ⟨i+1,o_,by go_num,fA,y0,sK,bH,jo⟩
     case measure=>simp[intOf];omega
    have x0:=Zz (ldC_no n A E i J);have x1:=Zz (ldB_no n E i J)
    have x2:zv (Gh E (i+1))=zv (Gh E i)++[.int .i64 i]:=by rw[Gh,if_neg J];simp[zv]
    have BC:=Y9.o
    have jv:(E i==0)=false:=by rw[pN];exact J
    have Ph:(E i==21)=false:=by rw[pN];exact BC
    have Pi:(zv (Gh E i)).length<=10:=by rw[iF];have:=bf.o i;omega
    rw[<-x0.o] at Y;rw[<-x1.o] at X;generalize E i=ei at *;have cO:Hid (∀u∈([.int .i64 i]:List Value),u.oneCell'=true):=Zz (by intro u hu;simp at hu;subst hu;rfl);have Pj:=h3.o
    have bx:Hid (∀L o,World.ownsRow o wc.heap.size 3 1 L ((zv (Gh E i)).length+1) (zv (Gh E i)++[.int .i64 i])->f.grownBy o u9.ownBlock->aH o wc.heap.size 3 L (zv (Gh E (i+1)))/\ab o g 9 (sv (i4 n A E (i+1))).toArray/\ab o k 4 (tv (hJ n E (i+1))).toArray/\Kp ac a o/\wc.heap.size<=o.heap.size):=Zz fun L o I h2=>by
     have hk:Kp (fun q=>some q=u9.ownBlock) f o:=Kp.of_grown h2 (fun q h=>h);have H9:∀q,some q=u9.ownBlock->wc.heap.size<=q:=fun q h=>(iZ H.o h.symm).1;refine ⟨?_,Y.o.kp hk (fun h=>by have:=H9 _ h;have:=G.o.2.2.2.1;omega),X.o.kp hk (fun h=>by have:=H9 _ h;have:=G.o.2.2.2.2;omega),H6.o.then hk (fun q hq h=>(by have:=H9 _ h;have:=Y8.o;omega:False)),cL h3.o hk.size⟩;unfold aH;rw[x2,cd,A_];exact I
    go_upto_region 15 with (at_builtin;refine Y3 wc.heap.size rfl (.tmp 41) (.tmp 43) 57 3 (.int .i64 0) 1 8 rfl underlying57 rs rfl d_ d_ u9 _ _ [.int .i64 i] rfl rfl rfl cO.o H.o Pj o_ ?_;intro L o x4 q9 _;obtain ⟨H1,H2,H3,H4,H5⟩:=bx.o L o x4 q9;clear x4 q9)
    have H1:=Zz H1;have H2:=Zz H2;have H3:=Zz H3;have H4:=Zz H4;have H5:=Zz H5;go_wp2;go_roundw
    case rel=>exact ⟨i+1,o_,by go_num,H1,H2,H3,H4,H5⟩
    case measure=>simp[intOf];omega
   obtain rfl:i=n:=o_;have R1:=Zz (v_6 S.o i (by rw[cN,za]) o_);have R2:=Zz (v_6 U.o i (by rw[show (tv (hJ i E i)).length=(hJ i E i).length from fW _,zn]) o_);obtain ⟨A9,c9,rfl⟩:=lM R.o;go_wp2_with fail;refine (Pf.o _ _ _ R1.o R2.o).mono ?_;rintro e w8 ⟨u,T,P,rfl,hr,hd,hb⟩;have HR:=Zz (hr.more d.o.size);have x5:=Zz hd;have y9:=Zz (d.o.trans (Kp.of_below hb ac));clear hr hd hb;by_cases h0:P=0
   ·subst h0
    have hz:((0:Int) != 0)=false:=d_;obtain ⟨Au,cu,rfl,_⟩:=id HR.o.reads;go_wp2
    go_ret3
    exact ⟨_,_,T,0,rfl,x5.o,fun _=>HR.o,y9.o⟩
   have hz:(P != 0)=true:=by rw[bne_iff_ne];exact h0
   obtain ⟨Au,cu,rfl,_⟩:=id HR.o.reads;go_wp2
   go_ret3
   exact ⟨_,_,T,P,rfl,x5.o,fun h=>absurd h h0,y9.o⟩
end
section
open GfM
def sget_no (w:W_) (b s:Nat) (key:List UInt8) (x:Gp) (t:Nat) (j:x.use=false) :
  Cl 60 #[.agg (gb b s key x),.int .i64 t] w fun e w'=>e=.returned (.tuple #[.string ByteArray.empty,.int .i64 24])/\Kp ac w w':=by
 have h:=Zz (ab.new w 141 (gb b s key x));have i:=Zz ((Kp.refl ac w).alloc (.cells (gb b s key x) 141));obtain ⟨g,xt,n⟩:=x;subst j;change Cl 60 #[.agg #[.pointer (some ⟨b,0,none⟩),.int .i64 g,.int .i64 s,.string (bs key),.string xt,.bool false],.int .i64 t] w _;go_enter func60,ntmps60
 go_upto_region 1 with fail
 change Code.wp _ _ _ _ (w.alloc (.cells (gb b s key ⟨g,xt,false⟩) 141));generalize w.alloc (.cells (gb b s key ⟨g,xt,false⟩) 141)=m at *;generalize w.heap.size=G at *;have k:=h.o.c2;have l:=h.o.c5;go_wp2;go_ret2;exact ⟨rfl,i.o⟩
def YV (w:W_) (b s:Nat) (key:List UInt8) (x:Gp) (t:Nat) (n:x.use=true) (A:B_) (j:Int)
  (hG:∀W,Kp ac w W->Cl 100 #[.agg (di b x.disk s key),.string x.top,.int .i64 t] W fun e w'=>e=.returned (.tuple #[.string A,.int .i64 j])/\Kp ac W w') :
  Cl 60 #[.agg (gb b s key x),.int .i64 t] w fun e w'=>e=.returned (.tuple #[.string A,.int .i64 j])/\Kp ac w w':=by
 have g:=Zz (ab.new w 141 (gb b s key x));have i:=Zz ((Kp.refl ac w).alloc (.cells (gb b s key x) 141));have k:=Zz hG;clear hG;obtain ⟨h,xt,a⟩:=x;subst n;change Cl 60 #[.agg #[.pointer (some ⟨b,0,none⟩),.int .i64 h,.int .i64 s,.string (bs key),.string xt,.bool true],.int .i64 t] w _;go_enter func60,ntmps60
 go_upto_region 1 with fail
 change Code.wp _ _ _ _ (w.alloc (.cells (gb b s key ⟨h,xt,true⟩) 141));generalize w.alloc (.cells (gb b s key ⟨h,xt,true⟩) 141)=y at *;generalize m:w.heap.size=G at *;have o:=g.o.c0;have p:=g.o.c1;have q:=g.o.c2;have r:=g.o.c3;have u:=g.o.c4;have v:=g.o.c5;go_wp2_with fail;refine (k.o _ i.o).mono ?_;rintro e z ⟨rfl,l⟩;go_wp2;go_ret2;exact ⟨rfl,i.o.trans l⟩
section
variable (w:W_) (b s t:Nat) (key:List UInt8) (v:Value) (l:List Gp) (hv:iB w v 6 l.length (i5 b s key l)) (hk:4<=l.length/\l.length<=10) (A:Nat->B_) (E:Nat->Int) (hE:∀c,E c≠21)
  (hG:∀c (h:c<l.length),∀W,Kp ac w W->Cl 60 #[.agg (gb b s key (l[c]'h)),.int .i64 t] W fun e w'=>e=.returned (.tuple #[.string (A c),.int .i64 (E c)])/\Kp ac W w')
  (D:List B_) (e2:Int) (hD:∀T e0,DecR (i4 l.length A E l.length) (hJ l.length E l.length) T e0->e0=e2/\(e2=0->T=D))
include hv hk hE hG hD
def Cr :
  Cl 61 #[v,.int .i64 t] w fun e w'=>∃u g,e=.returned (.tuple #[u,g,.int .i64 e2])/\(e2=0->aH w' w.heap.size 9 u (sv D))/\Kp ac w w':=by
 refine (WE w b s t key v l hv hk A E hE hG).mono ?_;rintro e w' ⟨u,g,T,j,rfl,m,n,i⟩;obtain ⟨rfl,k⟩:=hD T j m;exact ⟨u,g,rfl,fun h=>by rw[<-k h];exact n h,i⟩
def one_any (Q:e2=0->D.length=l.length) (c:Nat) (p:c<l.length) :
  Cl 36 #[v,.int .i64 t,.int .i64 c] w fun e w'=>e=.returned (.tuple #[.string (if E c=0 then A c else if e2=0 then tl D c else ByteArray.empty),.int .i64 (if E c=0 then 0 else e2)])/\Kp ac w w':=by
 have F:=Zz (fun W (k:Kp ac w W)=>Cr W b s t key v l (hv.no k) hk A E hE (fun c h L h7=>hG c h L (k.trans h7)) D e2 hD);have h0:=Zz (hE c);obtain ⟨H4,x1,rfl,h3,x0,h8,I⟩:=hv;have Z:=Zz (I5 b s key l);have O:=Zz hG;have C:=Zz Q;obtain ⟨n,hn⟩:∃n,l.length=n:=⟨_,rfl⟩;have H6:=Zz hn;rw[hn] at h3 I hk C F ⊢;obtain ⟨i,off,rfl,U⟩:=I o_
 have g:∀j,j<6->w.cell? ⟨i,off+c*6+j,none⟩=(gb b s key (l[c]'p)).toList[j]?:=fun j h5=>by
  have h1:=(U (c*6+j) o_).trans (Z.o c p j h5)
  rwa [<-Nat.add_assoc] at h1
 have r:=g 0 d_;have y:=g 1 d_;have z:=g 2 d_;have a:=g 3 d_;have d:=g 4 d_;have f:=g 5 d_;have N:=Zz (O.o c p);obtain ⟨⟨H2,xt,H3⟩,B⟩:∃x,l[c]'p=x:=⟨_,rfl⟩;rw[B] at r y z a d f N;replace r:w.cell? ⟨i,off+c*6,none⟩=some (.pointer (some ⟨b,0,none⟩)):=r;replace y:w.cell? ⟨i,off+c*6+1,none⟩=some (.int .i64 H2):=y;replace z:w.cell? ⟨i,off+c*6+2,none⟩=some (.int .i64 s):=z;replace a:w.cell? ⟨i,off+c*6+3,none⟩=some (.string (bs key)):=a;replace d:w.cell? ⟨i,off+c*6+4,none⟩=some (.string xt):=d;replace f:w.cell? ⟨i,off+c*6+5,none⟩=some (.bool H3):=f
 have P:Hid (∀W,Cl 59 #[.int .i64 ((n:Int)-2)] W fun e w'=>e=.returned (.bool true)/\w'=W):=Zz (fun W=>by
  have:=r0 W (n-2) o_
  rwa [show (((n-2:Nat):Int))=(n:Int)-2 by omega] at this)
 have x3:IntKind.i64.wrap ((n:Int)-2)=(n:Int)-2:=by rw[eM];omega
 have h9:c<n:=o_;have h4:¬((c:Int)<0):=o_;have x4:¬((n:Int)<=(c:Int)):=o_;have x6:decide ((c:Int)<0)=false:=h_ h4;have x7:decide (n<=c)=false:=h_ o_;clear hG U I h8 hn g B Z O hD Q hE;generalize E c=J at *;generalize A c=H9 at *;by_cases q:J=0
 ·subst q
  rw[if_pos rfl,if_pos rfl];go_enter func36,ntmps36
  go_upto_region 3 with (first
  | (go_at_call 59;refine (P.o _).mono ?_;rintro e H0 ⟨rfl,rfl⟩))
  go_wp2_with fail;refine (N.o _ (Kp.refl _ _)).mono ?_;rintro e H1 ⟨rfl,o⟩;go_wp2;go_ret2;exact ⟨rfl,o⟩
 have H:=h0.o
 have x5:(J==0)=false:=by rw[pN];exact q
 have H8:(J==21)=false:=by rw[pN];exact H
 rw[if_neg q,if_neg q];generalize hR:(if e2=0 then tl D c else ByteArray.empty)=R at *;have HR:=Zz hR;clear hR;go_enter func36,ntmps36
 go_upto_region 3 with (first
 | (go_at_call 59;refine (P.o _).mono ?_;rintro e H0 ⟨rfl,rfl⟩))
 go_wp2_with fail;refine (N.o _ (Kp.refl _ _)).mono ?_;rintro e H1 ⟨rfl,o⟩;have V:=Zz o;clear o r y z a d f;go_wp2_with fail;refine (F.o _ V.o).mono ?_;rintro e w3 ⟨u,y0,rfl,h6,Y⟩;have X:=Zz (V.o.trans Y);clear Y;by_cases M:e2=0
 ·subst M
  have hz:((0:Int) != 0)=false:=d_;have S:=C.o rfl;obtain ⟨H5,x2,rfl,K,H7,G⟩:=(h6 rfl).reads;rw[cN,S] at K G;obtain ⟨x8,x9,rfl,T⟩:=G o_;have h2:=(T c h9).trans (iQ D c o_);clear T G;rw[cN,S];have m:=HR.o;rw[if_pos rfl] at m;rw[m] at h2;go_wp2;go_ret2;exact ⟨rfl,X.o⟩
 have hz:(e2 != 0)=true:=by rw[bne_iff_ne];exact M
 have m:=HR.o;rw[if_neg M] at m;subst m;go_wp2;go_ret2;exact ⟨rfl,X.o⟩
end
end
def Gl (S:cj) (i:Nat):B_:=(S.mem[i]?.map fv.top).getD ByteArray.empty
def AZ (h:i<S.mem.length):Gl S i=(S.mem[i]'h).top:=by simp[Gl,h]
def iV (S:cj) (t:Nat):List Gp:=(List.range (S.data+2)).map fun c=>⟨(c+t) % (S.data+2),Gl S ((c+t) % (S.data+2)),decide (dT S ((c+t) % (S.data+2))=1)⟩
def w_Z (S:cj) (t:Nat):(iV S t).length=S.data+2:=by simp[iV]
def zh (S:cj) (t c:Nat) (h:c<S.data+2):(iV S t)[c]'(by rw[w_Z];exact h)=⟨(c+t) % (S.data+2),Gl S ((c+t) % (S.data+2)),decide (dT S ((c+t) % (S.data+2))=1)⟩:=by simp[iV]
def Ya:(prog.info? 141).map (fun i=>(i.zero,i.size,i.bytes))=some (some (.agg #[.pointer none,.int .i64 0,.int .i64 0,.string ⟨#[]⟩,.string ⟨#[]⟩,.bool false]),6,64):=k_
def Mw (b s:Nat) (key:List UInt8) (x:Gp):∀u∈(gb b s key x).toList,u.oneCell'=true:=by
 intro u e;simp[gb] at e;rcases e with rfl|rfl|rfl|rfl|rfl|rfl<;>rfl
section
def z_ak (V:a_ w) (h:ab w st 116 (gU b an key S vs vm sp)) (hR:ja w S vs vm) (G:a7 S) (ht:t<S.slots) :
  Cl 37 #[.pointer (some ⟨st,0,none⟩),.int .i64 t] w fun e w'=>∃u,e=.returned u/\w'.ownsRow w.heap.size 141 6 u (S.data+2) (i5 b S.slots key (iV S t))/\Kp ac w w':=by
 have y6:pJ S.data S.slots:=⟨G.d2,by have:=G.d8;omega,G.sl⟩;have Pm:Hid (Cl 34 #[.pointer (some ⟨st,0,none⟩)] w fun e w'=>e=.returned (.agg #[.int .i64 S.data,.int .i64 S.slots,.int .i64 0,.bool false])/\Kp ac w w'):=Zz (x_b h);have Fv:=Zz (fun W (V:a_ W)=>z_ar W V S.data S.slots y6 t ht);have lX:=Zz (fun W (V:a_ W) c (h6:c<S.data+2)=>J0 W V S.data S.slots y6 t c ht h6);have fG:Hid (∀(W:W_) (i:Nat),Cl 64 #[.agg #[.pointer (some ⟨b,0,none⟩),.pointer (some ⟨an,0,none⟩),.string (bs key)],.int .i64 i,.int .i64 S.slots] W fun e w'=>e=.returned (.agg #[.pointer (some ⟨b,0,none⟩),.int .i64 i,.int .i64 S.slots,.string (bs key)])/\Kp ac W w'):=Zz (fun W i=>x_4 W b an i S.slots key);obtain ⟨As,cs,Am,cm,y5,x8⟩:=hR.shape;have jE:=G.n1;have BD:=G.d8;have cD:=G.d2;obtain ⟨rb,off,mM,_⟩:=hR.memAt (Kp.refl _ _) x8 o_;subst mM;obtain ⟨sb,so,zR,_⟩:=hR.seatAt (Kp.refl _ _) y5;subst zR;have gO:=Zz (fun w' (k:Kp ac w w')=>hR.memAt k x8 o_);have jU:=Zz (fun w' (k:Kp ac w w')=>hR.seatAt k y5);have yC:=Zz (fun i (O:i<S.mem.length) (hd:i<S.data+2)=>(G.mem i O).2.2.1 hd);subst y5 x8;have HS:=Zz h;have bf:=Zz V
 have nY:Hid (∀c (h6:c<S.data+2),i5 b S.slots key ((iV S t).take (c+1))=i5 b S.slots key ((iV S t).take c)++(gb b S.slots key ⟨(c+t) % (S.data+2),Gl S ((c+t) % (S.data+2)),decide (dT S ((c+t) % (S.data+2))=1)⟩).toList):=Zz fun c h6=>by
  rw[mx (by rw[w_Z];exact h6),J8,zh S t c h6];simp[i5]
 have dO:Hid ((iV S t).take (S.data+2)=iV S t):=Zz (kx (by rw[w_Z];exact bS _));have Zd:=Zz (fun i (O:i<S.mem.length)=>(⟨AZ O,SH O⟩:Gl S i=(S.mem[i]'O).top/\dT S i=(S.mem[i]'O).st));clear V h hR G y6;go_enter func37,ntmps37;go_wp2_with fail;refine Pm.o.mono ?_;rintro e x1 ⟨rfl,ae⟩;have am:=Zz ae;clear ae Pm;have H0:=Zz (ab.new x1 84 #[.int .i64 S.data,.int .i64 S.slots,.int .i64 0,.bool false]);have I:=Zz (am.o.alloc (.cells #[.int .i64 S.data,.int .i64 S.slots,.int .i64 0,.bool false] 84))
 go_upto_region 2 with fail
 change Code.wp _ _ _ _ (x1.alloc (.cells #[.int .i64 S.data,.int .i64 S.slots,.int .i64 0,.bool false] 84));generalize x1.alloc (.cells #[.int .i64 S.data,.int .i64 S.slots,.int .i64 0,.bool false] 84)=w3 at *;generalize x1.heap.size=Y at *;have E:=Zz (HS.o.kp I.o fun h=>h);have y0:=H0.o.c0;have y1:=H0.o.c1;have y2:=H0.o.c2;have y3:=H0.o.c3;go_wp2_with fail;refine (Fv.o _ (bf.o.no I.o)).mono ?_;rintro e w4 ⟨rfl,U⟩;have T2:=Zz (H0.o.kp U fun h=>h);have DH:=Zz (E.o.kp U fun h=>h);have ay:=Zz (I.o.trans U);have Hp:=U.size;have Ze:=Zz Hp;have hdz:¬((S.data:Int)=0):=o_
 have Zf:((S.data:Int)==0)=false:=by rw[pN];omega
 have lZ:Hid (w4.ownsRow w3.heap.size 141 6 (.slice none 0 0) 0 (i5 b S.slots key ((iV S t).take 0))):=Zz (World.ownsRow_nil _ _ _ _);have Hq:Hid (Kp ac w3 w4):=Zz U;clear U y0 y1 y2 y3 Hp
 go_upto_region 7 with fail
 go_loopw [7,8,9,10,11,12,13,23] (fun s7 _ _ _ _ _ _ zq wr=>∃i:Nat,i<=S.data+2/\zq=.int .i64 i/\Hid (wr.ownsRow w3.heap.size 141 6 s7 i (i5 b S.slots key ((iV S t).take i)))/\Hid (ab wr Y 84 (iP S.data S.slots))/\Hid (ab wr st 116 (gU b an key S (.slice (some ⟨sb,so,none⟩) (S.data+2) cs) (.slice (some ⟨rb,off,none⟩) S.mem.length cm) sp))/\Hid (Kp ac w3 wr)) (fun _ _ _ _ _ _ _ zq _=>S.data+2-(intOf zq).toNat)
 case atStart=>exact ⟨0,o_,rfl,lZ,T2,DH,Hq⟩
 case round =>
  clear lZ T2 DH Hq;obtain ⟨i,O,rfl,Z,M,y9,H4⟩:=hrel;by_cases af:i<S.data+2
  ·have bL:(i:Int)<(S.data:Int)+2:=o_
   have y0:=M.o.c0;have y1:=M.o.c1;have y2:=M.o.c2;have y3:=M.o.c3;have x2:=Zz (nY.o i af);have hr:(i+t) % (S.data+2)<S.data+2:=gx _ o_;have q:=Zz (lX.o wr (bf.o.no (I.o.trans H4.o)) i af);generalize Ge:(i+t) % (S.data+2)=r at *;clear Ge;go_wp2_with fail;refine q.o.mono ?_;rintro e s ⟨rfl,F⟩;have T:=Zz (H4.o.trans F);have H6:=Zz (dL Z.o F fun _ _ h=>h);have H5:=Zz (M.o.kp F fun h=>h);have E:=Zz (y9.o.kp F fun h=>h);have H3:r<S.mem.length:=o_;obtain ⟨nz,eO,y7,aa⟩:=gO.o s (I.o.trans T.o);cases y7;obtain ⟨H7,H8,H9⟩:=aa r H3;obtain ⟨XG,XH,y7,mZ⟩:=jU.o s (I.o.trans T.o);cases y7;have q0:=mZ r hr;have x3:=Zz (yC.o r H3 hr);have x0:=Zz (Zd.o r H3);have y:=E.o.cell 10;have a:=E.o.cell 11;have hrI:(r:Int)<(S.data:Int)+2:=o_;have Zg:(r:Int)<(S.mem.length:Int):=o_;clear aa mZ F Z M y9 H4 q y0 y1 y2 y3;obtain ⟨⟨lH,g,lg⟩,hx⟩:∃x,S.mem[r]'H3=x:=⟨_,rfl⟩;rw[hx] at H7 H8 H9 x3 x0
   dsimp only at H7 H8 H9 x3 x0
   clear hx;replace y:s.cell? ⟨st,10,none⟩=some (.slice (some ⟨sb,so,none⟩) (S.data+2) cs):=y;replace a:s.cell? ⟨st,11,none⟩=some (.slice (some ⟨rb,off,none⟩) S.mem.length cm):=a;rw[x0.o.1,x0.o.2] at x2;rcases x3.o with x6|x6
   ·subst x6
    have qG:Hid (i5 b S.slots key ((iV S t).take (i+1))=i5 b S.slots key ((iV S t).take i)++(gb b S.slots key ⟨r,g,true⟩).toList):=x2;have d:=Zz (ab.new s 108 #[.int .i64 1,.string g,.string lg]);have H:=Zz (T.o.alloc (.cells #[.int .i64 1,.string g,.string lg] 108));have q:=Zz (E.o.alloc (.cells #[.int .i64 1,.string g,.string lg] 108));have A:=Zz (H5.o.alloc (.cells #[.int .i64 1,.string g,.string lg] 108));have h7:=Zz (World.ownsRow.alloc H6.o (.cells #[.int .i64 1,.string g,.string lg] 108));have y4:=q.o.cell 8;have b1:((1:Int)==1)=true:=d_
    go_upto_region 12 with fail
    clear H7 H8 H9 y a q0 T E H5 H6;generalize s.alloc (.cells #[.int .i64 1,.string g,.string lg] 108)=H2 at *;obtain ⟨D,hD⟩:∃D,s.heap.size=D:=⟨_,rfl⟩;rw[hD] at d ⊢;clear hD;have d0:=d.o.c0
    go_upto_region 13 with fail
    clear d0 y4;have l:=Zz q.o.drew;have Q:=Zz d.o.drew;have B:=Zz A.o.drew;have C:=Zz H.o.drew;have h4:Hid (H2.drew.ownsRow w3.heap.size 141 6 u7 i (i5 b S.slots key ((iV S t).take i))):=h7;clear q d A H h7;refine fs ?_;generalize H2.drew=w6 at *;have h0:=l.o.c0;have h1:=l.o.c1;have h2:=l.o.c2;have h3:=l.o.c6;have d1:=Q.o.c1;refine fp 0 ?_;refine fp 1 ?_;refine fp 2 ?_;refine fp 3 ?_;refine fq 4 (fun W=>W.cell? ⟨st,0,none⟩=some (.pointer (some ⟨b,0,none⟩))/\W.cell? ⟨st,1,none⟩=some (.pointer (some ⟨an,0,none⟩))/\W.cell? ⟨st,2,none⟩=some (.string (bs key))) ⟨h0,h1,h2⟩ ?_;refine fp 5 ?_;refine fp 6 ?_;refine fp 7 ?_;refine fp 8 ?_;refine fp 9 ?_;refine cw 10 h3 ?_;refine fp 12 ?_;refine cw 13 d1 ?_;refine fp 14 ?_;refine fd 11 fun K x5 o=>?_;go_simp;refine (fG.o w6 r).mono ?_;rintro e p ⟨rfl,j⟩;have L:=Zz (C.o.trans j);have h5:=Zz (dL h4.o j fun _ _ h=>h);have X:=Zz (B.o.kp j fun h=>h);have h8:=Zz (l.o.kp j fun h=>h);have h9:=Zz (Q.o.kp j fun h=>h);refine o _ _ (oK (h9.o.cell 1) (oW (oW oN))) ?_;clear o K j h0 h1 h2 h3 d1 C h4 B l Q h9;refine fp 15 ?_;refine fd 16 fun K x5 o=>?_;go_simp;have f:=Zz (v_B p 141 6 (gb b S.slots key ⟨r,g,true⟩).toList rfl d_);have N:=Zz (L.o.alloc (.cells (gb b S.slots key ⟨r,g,true⟩) 141));have n:=Zz (World.ownsRow.alloc h5.o (.cells (gb b S.slots key ⟨r,g,true⟩) 141));have J:=Zz (X.o.alloc (.cells (gb b S.slots key ⟨r,g,true⟩) 141));have R:=Zz (h8.o.alloc (.cells (gb b S.slots key ⟨r,g,true⟩) 141));refine o _ _ (oW (oW (oW oN))) ?_;clear o K L h5 X h8;change Fr _ _ _ _ _ _ _ (p.alloc (.cells (gb b S.slots key ⟨r,g,true⟩) 141));have f:Hid (iB (p.alloc (.cells (gb b S.slots key ⟨r,g,true⟩) 141)) (.slice (some ⟨p.heap.size,0,none⟩) 1 1) 6 1 (gb b S.slots key ⟨r,g,true⟩).toList):=f;generalize p.alloc (.cells (gb b S.slots key ⟨r,g,true⟩) 141)=w8 at *;refine Dj 17 rfl rfl k_ ?_;refine v_v (m:=1) (k:=i) rfl underlying93 Ya rfl d_ d_ rfl rfl (Mw b S.slots key ⟨r,g,true⟩) n.o f.o d_ N.o.size o_ ?_;intro v1 w9 P hg;have v:Kp (fun z=>some z=u7.ownBlock) w8 w9:=Kp.of_grown hg fun _ h=>h;have H1:i5 b S.slots key ((iV S t).take i)++(gb b S.slots key ⟨r,g,true⟩).toList=i5 b S.slots key ((iV S t).take (i+1)):=qG.o.symm;rw[H1] at P;have x9:=Zz P;have x7:=Zz (N.o.then v fun z hz h=>(by have:=(iZ n.o h.symm).1;omega:False));have x4:=Zz (J.o.kp v (vR n.o J.o d_));have y8:=Zz (R.o.kp v (vR n.o R.o d_));refine ⟨oW (oW (oW oN)),?_⟩;clear P hg v H1 n f N J R;refine fp 18 ?_;refine fe ?_;go_wp2;go_roundw
    case rel=>exact ⟨i+1,o_,by go_num,x9,x4,y8,x7⟩
    case measure=>simp[intOf];omega
   subst x6;have qG:Hid (i5 b S.slots key ((iV S t).take (i+1))=i5 b S.slots key ((iV S t).take i)++(gb b S.slots key ⟨r,g,false⟩).toList):=x2;have d:=Zz (ab.new s 108 #[.int .i64 2,.string g,.string lg]);have H:=Zz (T.o.alloc (.cells #[.int .i64 2,.string g,.string lg] 108));have q:=Zz (E.o.alloc (.cells #[.int .i64 2,.string g,.string lg] 108));have A:=Zz (H5.o.alloc (.cells #[.int .i64 2,.string g,.string lg] 108));have h7:=Zz (World.ownsRow.alloc H6.o (.cells #[.int .i64 2,.string g,.string lg] 108));have y4:=q.o.cell 8;have b1:((2:Int)==1)=false:=d_
   go_upto_region 12 with fail
   clear H7 H8 H9 y a q0 T E H5 H6;generalize s.alloc (.cells #[.int .i64 2,.string g,.string lg] 108)=H2 at *;obtain ⟨D,hD⟩:∃D,s.heap.size=D:=⟨_,rfl⟩;rw[hD] at d ⊢;clear hD;have d0:=d.o.c0
   go_upto_region 13 with fail
   clear d0 y4;have l:=Zz q.o.drew;have Q:=Zz d.o.drew;have B:=Zz A.o.drew;have C:=Zz H.o.drew;have h4:Hid (H2.drew.ownsRow w3.heap.size 141 6 u7 i (i5 b S.slots key ((iV S t).take i))):=h7;clear q d A H h7;refine fs ?_;generalize H2.drew=w6 at *;have h0:=l.o.c0;have h1:=l.o.c1;have h2:=l.o.c2;have h3:=l.o.c6;have d1:=Q.o.c1;refine fp 0 ?_;refine fp 1 ?_;refine fp 2 ?_;refine fp 3 ?_;refine fq 4 (fun W=>W.cell? ⟨st,0,none⟩=some (.pointer (some ⟨b,0,none⟩))/\W.cell? ⟨st,1,none⟩=some (.pointer (some ⟨an,0,none⟩))/\W.cell? ⟨st,2,none⟩=some (.string (bs key))) ⟨h0,h1,h2⟩ ?_;refine fp 5 ?_;refine fp 6 ?_;refine fp 7 ?_;refine fp 8 ?_;refine fp 9 ?_;refine cw 10 h3 ?_;refine fp 12 ?_;refine cw 13 d1 ?_;refine fp 14 ?_;refine fd 11 fun K x5 o=>?_;go_simp;refine (fG.o w6 r).mono ?_;rintro e p ⟨rfl,j⟩;have L:=Zz (C.o.trans j);have h5:=Zz (dL h4.o j fun _ _ h=>h);have X:=Zz (B.o.kp j fun h=>h);have h8:=Zz (l.o.kp j fun h=>h);have h9:=Zz (Q.o.kp j fun h=>h);refine o _ _ (oK (h9.o.cell 1) (oW (oW oN))) ?_;clear o K j h0 h1 h2 h3 d1 C h4 B l Q h9;refine fp 15 ?_;refine fd 16 fun K x5 o=>?_;go_simp;have f:=Zz (v_B p 141 6 (gb b S.slots key ⟨r,g,false⟩).toList rfl d_);have N:=Zz (L.o.alloc (.cells (gb b S.slots key ⟨r,g,false⟩) 141));have n:=Zz (World.ownsRow.alloc h5.o (.cells (gb b S.slots key ⟨r,g,false⟩) 141));have J:=Zz (X.o.alloc (.cells (gb b S.slots key ⟨r,g,false⟩) 141));have R:=Zz (h8.o.alloc (.cells (gb b S.slots key ⟨r,g,false⟩) 141));refine o _ _ (oW (oW (oW oN))) ?_;clear o K L h5 X h8;change Fr _ _ _ _ _ _ _ (p.alloc (.cells (gb b S.slots key ⟨r,g,false⟩) 141));have f:Hid (iB (p.alloc (.cells (gb b S.slots key ⟨r,g,false⟩) 141)) (.slice (some ⟨p.heap.size,0,none⟩) 1 1) 6 1 (gb b S.slots key ⟨r,g,false⟩).toList):=f;generalize p.alloc (.cells (gb b S.slots key ⟨r,g,false⟩) 141)=w8 at *;refine Dj 17 rfl rfl k_ ?_;refine v_v (m:=1) (k:=i) rfl underlying93 Ya rfl d_ d_ rfl rfl (Mw b S.slots key ⟨r,g,false⟩) n.o f.o d_ N.o.size o_ ?_;intro v1 w9 P hg;have v:Kp (fun z=>some z=u7.ownBlock) w8 w9:=Kp.of_grown hg fun _ h=>h;have H1:i5 b S.slots key ((iV S t).take i)++(gb b S.slots key ⟨r,g,false⟩).toList=i5 b S.slots key ((iV S t).take (i+1)):=qG.o.symm;rw[H1] at P;have x9:=Zz P;have x7:=Zz (N.o.then v fun z hz h=>(by have:=(iZ n.o h.symm).1;omega:False));have x4:=Zz (J.o.kp v (vR n.o J.o d_));have y8:=Zz (R.o.kp v (vR n.o R.o d_));refine ⟨oW (oW (oW oN)),?_⟩;clear P hg v H1 n f N J R;refine fp 18 ?_;refine fe ?_;go_wp2;go_roundw
   case rel=>exact ⟨i+1,o_,by go_num,x9,x4,y8,x7⟩
   case measure=>simp[intOf];omega
  obtain rfl:i=S.data+2:=o_;rw[dO.o] at Z;have HR:=Zz (w_Q Z.o I.o.size);clear Z M y9;go_wp2;go_ret;exact ⟨_,rfl,HR.o,I.o.trans H4.o⟩
end
structure fu where
 disk:Nat
 slot:Nat
 cell:B_
def pS (l:List fu):List Value:=l.flatMap fun x=>[.int .i64 x.disk,.int .i64 x.slot,.string x.cell]
def Lu (l m:List fu):pS (l++m)=pS l++pS m:=by simp[pS]
def WD (l:List fu):∀(i:Nat) (h:i<l.length),(pS l)[i*3]?=some (.int .i64 ((l[i]'h).disk:Int))/\(pS l)[i*3+1]?=some (.int .i64 ((l[i]'h).slot:Int))/\(pS l)[i*3+2]?=some (.string (l[i]'h).cell):=by
 induction l with
 | nil=>intro i h;cases h
 | cons x l n =>
  intro i h
  cases i with
  | zero=>exact ⟨rfl,rfl,rfl⟩
  | succ i =>
   have m:i<l.length:=by simpa using h
   have e:pS (x::l)=.int .i64 x.disk::.int .i64 x.slot::.string x.cell::pS l:=rfl;obtain ⟨g,j,k⟩:=n i m;rw[e,show (i+1)*3=i*3+3 by omega,show i*3+3+1=(i*3+1)+3 by omega,show i*3+3+2=(i*3+2)+3 by omega];exact ⟨g,j,k⟩
def Af (S:cj) (vs vm:Value) (m1 m2:Nat):Array Value:=#[.int .u64 S.count,.int .u64 S.epoch,.int .i64 S.data,.int .i64 S.slots,.int .i64 0,.int .i64 0,.bool false,vs,vm,.map (some m1),.map (some m2)]
section
variable {Am:Option Addr} {cm m1 m2 T wk B9:Nat}
def Q6 (g:ab w T 155 #[.pointer (some ⟨wk,0,none⟩)]) (hk:ab w wk 163 (Af S vs (.slice Am n cm) m1 m2)) (d:Nat) (i:d<n) :
  Cl 107 #[.int .i64 d,.pointer (some ⟨T,0,none⟩)] w fun e w'=>e=.returned (.bool true)/\w'=w:=by
 have t0:=g.c0;have j:=hk.c8;have h:(d:Int)<(n:Int):=o_;have l:(0:Int)<=(d:Int):=o_;have k:decide ((d:Int)<(n:Int))=true:=decide_eq_true h;clear g hk;go_enter func107,ntmps107;go_wp2;go_ret;exact ⟨rfl,rfl⟩
def OP (o:ab w T 155 #[.pointer (some ⟨wk,0,none⟩)]) (hk:ab w wk 163 (Af S vs (.slice Am n cm) m1 m2)) (m:ab w B9 137 #[.func (.func 107) #[] #[.pointer (some ⟨T,0,none⟩)]]) (x:fu) (p:x.disk<n) :
  Cl 112 #[.agg #[.int .i64 x.disk,.int .i64 x.slot,.string x.cell],.pointer (some ⟨B9,0,none⟩)] w fun e w'=>e=.returned (.bool false)/\Kp ac w w':=by
 obtain ⟨i,k,j⟩:=x
 dsimp only at p ⊢
 have g:=Zz ((Kp.refl ac w).alloc (.cells #[.int .i64 i,.int .i64 k,.string j] 154));have s:=Zz (ab.new w 154 #[.int .i64 i,.int .i64 k,.string j]);have r:=Zz (Q6 (o.kp g.o fun h=>h) (hk.kp g.o fun h=>h) i p);have q:=Zz (m.kp g.o fun h=>h);clear o hk m;go_enter func112,ntmps112
 go_upto_region 1 with fail
 generalize w.alloc (.cells #[.int .i64 i,.int .i64 k,.string j] 154)=t at *;generalize w.heap.size=D at *;have d0:=s.o.c0;have l:=q.o.cell 0;replace l:t.cell? ⟨B9,0,none⟩=some (.func (.func 107) #[] #[.pointer (some ⟨T,0,none⟩)]):=l;go_wp2_with fail;refine r.o.mono ?_;rintro e u ⟨rfl,rfl⟩;go_wp2;go_ret;exact ⟨rfl,g.o⟩
def GV (y:ab w T 155 #[.pointer (some ⟨wk,0,none⟩)]) (hk:ab w wk 163 (Af S vs (.slice Am n cm) m1 m2)) (u:ab w B9 137 #[.func (.func 107) #[] #[.pointer (some ⟨T,0,none⟩)]]) (v:Value) (l:List fu) (hv:iB w v 3 l.length (pS l)) (hl:l.length<=1000) (z:∀x∈l,x.disk<n) :
  Cl 168 #[v,.func (.func 112) #[] #[.pointer (some ⟨B9,0,none⟩)]] w fun e w'=>e=.returned (.int .i64 (-1))/\Kp ac w w':=by
 have r:=Zz (fun W (k:Kp ac w W)=>hv.no k);have I:=Zz (fun W (k:Kp ac w W) x p=>OP (y.kp k fun h=>h) (hk.kp k fun h=>h) (u.kp k fun h=>h) x p);have E:=Zz (WD l);have G:=Zz (fun i (h:i<l.length)=>z (l[i]'h) (rY h));obtain ⟨V,cv,rfl,M,P,_,_⟩:=hv;obtain ⟨m,hm⟩:∃m,l.length=m:=⟨_,rfl⟩;rw[hm] at r hl ⊢;have Q:=Zz hm;have g:=Zz (Kp.refl ac w);clear y hk u z hm M P;go_enter func168,ntmps168
 go_upto_region 2 with fail
 go_loopw [5,8] (fun _ q wr=>∃i:Nat,i<=m/\q=.int .i64 i/\Hid (Kp ac w wr)) (fun _ q _=>m-(intOf q).toNat)
 case atStart=>exact ⟨0,o_,rfl,g⟩
 case round =>
  clear g;obtain ⟨i,Y,rfl,g⟩:=hrel;by_cases N:i<m
  ·have j:i<l.length:=by rw[Q.o];exact N
   have X:(i:Int)<(m:Int):=o_;obtain ⟨A,c,R,_,_,_,t⟩:=r.o wr g.o;cases R;obtain ⟨pb,off,rfl,o⟩:=t o_;obtain ⟨q0,d,f⟩:=E.o i j;have U:=(o (i*3) o_).trans q0;have a:=(o (i*3+1) o_).trans d;have b:=(o (i*3+2) o_).trans f;rw[<-Nat.add_assoc] at a b;have p:=I.o wr g.o (l[i]'j) (G.o i j);generalize (l[i]'j).disk=C at *;generalize (l[i]'j).slot=D at *;generalize (l[i]'j).cell=B at *;have J:=Zz p;clear p t o q0 d f;go_wp2_with fail;refine J.o.mono ?_;rintro e Z ⟨rfl,s⟩;have O:=Zz (g.o.trans s);clear s U a b;go_wp2;go_roundw
   case rel=>exact ⟨i+1,o_,by go_num,O⟩
   case measure=>simp[intOf];omega
  obtain rfl:i=m:=o_;go_wp2;go_ret;exact ⟨rfl,g.o⟩
def I7 (h:ab w T 155 #[.pointer (some ⟨wk,0,none⟩)]) (hk:ab w wk 163 (Af S vs (.slice Am n cm) m1 m2)) (g:ab w B9 137 #[.func (.func 107) #[] #[.pointer (some ⟨T,0,none⟩)]]) (v:Value) (l:List fu) (hv:iB w v 3 l.length (pS l)) (hl:l.length<=1000) (i:∀x∈l,x.disk<n) :
  Cl 111 #[v,.func (.func 112) #[] #[.pointer (some ⟨B9,0,none⟩)]] w fun e w'=>e=.returned (.bool false)/\Kp ac w w':=by
 have j:=Zz (GV h hk g v l hv hl i);clear h hk g hv i;go_enter func111,ntmps111;go_wp2_with fail;refine j.o.mono ?_;rintro e m ⟨rfl,k⟩;go_wp2
 all_goals (go_ret;exact ⟨rfl,k⟩)
def Pa (w:W_) (f:Value):Cl 167 #[.slice none 0 0,f] w fun e w'=>e=.returned (.int .i64 (-1))/\w'=w:=by
 go_enter func167,ntmps167;go_wp2
 go_loopw [5,8] (fun _ g wr=>g=.int .i64 0/\wr=w) (fun _ _ _=>0)
 case atStart=>exact ⟨rfl,rfl⟩
 case round =>
  obtain ⟨rfl,rfl⟩:=hrel;go_wp2;go_ret;exact ⟨rfl,rfl⟩
def Rs (w:W_) (f:Value):Cl 109 #[.slice none 0 0,f] w fun e w'=>e=.returned (.bool false)/\w'=w:=by
 have g:=Zz (Pa w f);go_enter func109,ntmps109;go_wp2_with fail;refine g.o.mono ?_;rintro e h ⟨rfl,rfl⟩;go_wp2
 all_goals (go_ret;exact ⟨rfl,rfl⟩)
end
def i_ (S:cj) (vs vm cv:Value):Array Value:=#[.int .u64 S.count,.int .u64 S.epoch,.int .i64 S.data,.int .i64 S.slots,.int .i64 0,.int .i64 0,.bool false,vs,vm,.slice none 0 0,cv]
def e7 (S:cj):cj:={ S with count:=S.count+1 }
def vX (L:List fv) (i:Nat) (h:i<L.length):(ds L).set (i*3+1) (.string (L[i]'h).top)=ds L:=by
 rw[Ew L i h];have:({ L[i]'h with top:=(L[i]'h).top }:fv)=L[i]'h:=rfl;rw[this,List.set_getElem_self]
def BL (L:List fv) (i:Nat) (h:i<L.length):(ds L).set (i*3+2) (.string (L[i]'h).log)=ds L:=by
 rw[w_4 L i h];have:({ L[i]'h with log:=(L[i]'h).log }:fv)=L[i]'h:=rfl;rw[this,List.set_getElem_self]
def M7:prog.underlying 161=some (.map 3 182):=underlying161
section
variable {pz pA cv:Value}
def SO (h:ab w st 116 (gU b an key S vs vm sp)) (hR:ja w S vs vm) (hP:ja w S pz pA) (h3:a7 S) (hc:S.count<1000) (l:List fu) (hv:iB w cv 3 l.length (pS l)) (hl:l.length<=1000) (hd:∀x∈l,x.disk<S.mem.length) :
  Cl 68 #[.pointer (some ⟨st,0,none⟩),.agg (i_ S pz pA cv)] w fun e w'=>∃wk m1 m2 J O,e=.returned (.tuple #[.pointer (some ⟨wk,0,none⟩),.int .i64 0])/\w.heap.size<=wk/\w.heap.size<=m1/\w.heap.size<=m2/\m1≠m2/\ab w' wk 163 (Af (e7 S) J O m1 m2)/\bg w' w.heap.size (e7 S) J O/\aS KI w' m1 (fun _=>none) []/\aS KI w' m2 (fun _=>none) []/\Kp ac w w':=by
 have jE:=h3.n1;have cE:=h3.n12;have BD:=h3.d8;have tW:=Zz (fun W (k:Kp ac w W)=>x_ o_ o_ o_ (hP.no k));have y0:=Zz (fun W vs vm (h:ja W S vs vm)=>hA h3 h);have Zh:=Zz (fun W T wk B9 vs Am cm m1 m2 hT hk hB (k:Kp ac w W)=>I7 (n:=S.mem.length) (w:=W) (T:=T) (wk:=wk) (B9:=B9) (S:=S) (vs:=vs) (Am:=Am) (cm:=cm) (m1:=m1) (m2:=m2) hT hk hB cv l (hv.no k) hl hd);have Zi:=Zz Rs;have GZ:=Zz (fun i x4=>(⟨vX S.mem i x4,BL S.mem i x4,Re S.mem i x4⟩:_/\_/\_));obtain ⟨As,cs,Am,cm,h1,N⟩:=hR.shape;obtain ⟨rb,off,mM,_⟩:=hR.memAt (Kp.refl _ _) N o_;subst mM;have gO:=Zz (fun w' (k:Kp ac w w')=>hR.memAt k N o_);subst h1 N;obtain ⟨c,H2,y,H3,h1,N⟩:=hP.shape;subst h1 N;obtain ⟨H0,x0,dw,_⟩:=hv;subst dw;have fK:Hid (∀vs vm,dK S vs vm=#[.int .u64 S.count,.int .u64 S.epoch,.int .i64 S.data,.int .i64 S.slots,.int .i64 0,.int .i64 0,.bool false,vs,vm]):=Zz fun _ _=>rfl;have qB:0<S.mem.length:=o_
 have lT:IntKind.u64.wrap ((S.count:Int)+1)=(S.count:Int)+1:=by rw[ie];omega
 have sm:=Zz lT;have s:=Zz (ab.new w 97 #[.int .u64 S.count,.int .u64 S.epoch,.int .i64 S.data,.int .i64 S.slots,.int .i64 0,.int .i64 0,.bool false,.slice c (S.data+2) H2,.slice y S.mem.length H3,.slice none 0 0,.slice H0 l.length x0]);have h7:=Zz ((Kp.refl ac w).alloc (.cells #[.int .u64 S.count,.int .u64 S.epoch,.int .i64 S.data,.int .i64 S.slots,.int .i64 0,.int .i64 0,.bool false,.slice c (S.data+2) H2,.slice y S.mem.length H3,.slice none 0 0,.slice H0 l.length x0] 97));have HS:=Zz (h.kp h7.o fun h=>h);have nB:=@run_makeMap prog;clear h hR hP h3 hd hc lT;change Cl 68 #[.pointer (some ⟨st,0,none⟩),.agg #[.int .u64 S.count,.int .u64 S.epoch,.int .i64 S.data,.int .i64 S.slots,.int .i64 0,.int .i64 0,.bool false,.slice c (S.data+2) H2,.slice y S.mem.length H3,.slice none 0 0,.slice H0 l.length x0]] w _;go_enter func68,ntmps68
 go_upto_region 1 with fail
 generalize w.alloc (.cells #[.int .u64 S.count,.int .u64 S.epoch,.int .i64 S.data,.int .i64 S.slots,.int .i64 0,.int .i64 0,.bool false,.slice c (S.data+2) H2,.slice y S.mem.length H3,.slice none 0 0,.slice H0 l.length x0] 97)=w1 at *;obtain ⟨P,sZ⟩:∃P,w.heap.size=P:=⟨_,rfl⟩;rw[sZ] at s ⊢;have iM:=Zz sZ;clear sZ;have p0:=s.o.c0;have p1:=s.o.c1;have p2:=s.o.c2;have p3:=s.o.c3;have p4:=s.o.c4;have p5:=s.o.c5;have p6:=s.o.c6;have p7:=s.o.c7;have p8:=s.o.c8;have vW:=Zz (tW.o w1 h7.o);rw[fK.o] at vW;go_wp2_with fail;refine vW.o.mono ?_;rintro e j ⟨J,O,rfl,h2,H9⟩;have am:=Zz (h7.o.trans H9);have eZ:=Zz (s.o.kp H9 fun h=>h);have fx:=Zz (HS.o.kp H9 fun h=>h);have y3:=Zz (h2.more h7.o.size);clear H9 h2 s h7 HS vW tW p0 p1 p2 p3 p4 p5 p6 p7 p8;obtain ⟨p,cs',Am',r,h1,N⟩:=y3.o.reads.shape;obtain ⟨g,cg,lE,br,bC⟩:=LF y3.o.mems qB;rw[lE] at N;cases N;subst h1 lE;have mR:Hid (w.heap.size<=g/\g<j.heap.size):=Zz ⟨br,bC⟩;rw[fK.o];clear br bC
 go_upto_region 2 with fail
 have hz:∀(W:W_) o,(W.alloc o).heap.size=W.heap.size+1:=fun W o=>s_;have dG:=Zz ((((aS.made (M:=KI) j).alloc (.map #[] 0)).alloc (.cells #[.int .u64 S.count,.int .u64 S.epoch,.int .i64 S.data,.int .i64 S.slots,.int .i64 0,.int .i64 0,.bool false,.slice p (S.data+2) cs',.slice (some ⟨g,0,none⟩) S.mem.length r,.map (some j.heap.size),.map (some (j.heap.size+1))] 163)).alloc (.cells #[.pointer (some ⟨j.heap.size+1+1,0,none⟩)] 155));have eP:=Zz (((aS.made (M:=KI) (j.alloc (.map #[] 0))).alloc (.cells #[.int .u64 S.count,.int .u64 S.epoch,.int .i64 S.data,.int .i64 S.slots,.int .i64 0,.int .i64 0,.bool false,.slice p (S.data+2) cs',.slice (some ⟨g,0,none⟩) S.mem.length r,.map (some j.heap.size),.map (some (j.heap.size+1))] 163)).alloc (.cells #[.pointer (some ⟨j.heap.size+1+1,0,none⟩)] 155));have h4:=Zz ((ab.new ((j.alloc (.map #[] 0)).alloc (.map #[] 0)) 163 #[.int .u64 S.count,.int .u64 S.epoch,.int .i64 S.data,.int .i64 S.slots,.int .i64 0,.int .i64 0,.bool false,.slice p (S.data+2) cs',.slice (some ⟨g,0,none⟩) S.mem.length r,.map (some j.heap.size),.map (some (j.heap.size+1))]).alloc (.cells #[.pointer (some ⟨j.heap.size+1+1,0,none⟩)] 155));have H1:=Zz (ab.new (((j.alloc (.map #[] 0)).alloc (.map #[] 0)).alloc (.cells #[.int .u64 S.count,.int .u64 S.epoch,.int .i64 S.data,.int .i64 S.slots,.int .i64 0,.int .i64 0,.bool false,.slice p (S.data+2) cs',.slice (some ⟨g,0,none⟩) S.mem.length r,.map (some j.heap.size),.map (some (j.heap.size+1))] 163)) 155 #[.pointer (some ⟨j.heap.size+1+1,0,none⟩)]);have d:=((((Kp.refl ac j).alloc (.map #[] 0)).alloc (.map #[] 0)).alloc (.cells #[.int .u64 S.count,.int .u64 S.epoch,.int .i64 S.data,.int .i64 S.slots,.int .i64 0,.int .i64 0,.bool false,.slice p (S.data+2) cs',.slice (some ⟨g,0,none⟩) S.mem.length r,.map (some j.heap.size),.map (some (j.heap.size+1))] 163)).alloc (.cells #[.pointer (some ⟨j.heap.size+1+1,0,none⟩)] 155);rw[hz] at eP;rw[hz,hz] at h4;rw[hz,hz,hz] at H1;have aB:=Zz (am.o.trans d);have mq:=Zz (eZ.o.kp d fun h=>h);have x1:=Zz (fx.o.kp d fun h=>h);have fP:=Zz (y3.o.no d);have L:Hid (w.heap.size<=j.heap.size):=Zz am.o.size;clear d hz am eZ fx y3;generalize (((j.alloc (.map #[] 0)).alloc (.map #[] 0)).alloc (.cells #[.int .u64 S.count,.int .u64 S.epoch,.int .i64 S.data,.int .i64 S.slots,.int .i64 0,.int .i64 0,.bool false,.slice p (S.data+2) cs',.slice (some ⟨g,0,none⟩) S.mem.length r,.map (some j.heap.size),.map (some (j.heap.size+1))] 163)).alloc (.cells #[.pointer (some ⟨j.heap.size+1+1,0,none⟩)] 155)=h8 at *;generalize j.heap.size=m1 at *;have k3:=h4.o.c3;have Y:=h4.o.c8;have t0:=H1.o.c0;have c6:=x1.o.c6;have X:=x1.o.c11
 go_quiet (fail)
 go_upto_region 4 with fail
 have f:Kp ac h8 (h8.drewN nq).drew:=((Kp.refl ac h8).drewN nq).drew;have Hv:=Zz (dG.o.no f);have Hw:=Zz (eP.o.no f);have v:=Zz (h4.o.kp f fun h=>h);have y1:=Zz (H1.o.kp f fun h=>h);have fM:=Zz (mq.o.kp f fun h=>h);have h5:=Zz (x1.o.kp f fun h=>h);have x2:=Zz (fP.o.no f);have bH:=Zz (aB.o.trans f);clear f dG eP h4 H1 mq x1 fP aB k3 Y t0 c6 X;refine v_K k_ ?_;change Fr _ _ _ _ _ _ _ (h8.drewN nq).drew;generalize (h8.drewN nq).drew=h9 at *;have Q:=v.o.c0;have R:=v.o.c1;have t0:=y1.o.c0;have c3:=h5.o.c3;have c4:=h5.o.c4;have f0:=v.o.frozen 0;have f1:=v.o.frozen 1;have aN:=(Kp.refl (fun z=>z=m1+1+1) h9).setCell ⟨m1+1+1,0,none⟩ (.int .u64 S.count) (.inl rfl);have I:=aN.setCell ⟨m1+1+1,1,none⟩ (.int .u64 S.epoch) (.inl rfl);have y4:Hid (ab (h9.setCell ⟨m1+1+1,0,none⟩ (.int .u64 S.count)) (m1+1+1) 163 #[.int .u64 S.count,.int .u64 S.epoch,.int .i64 S.data,.int .i64 S.slots,.int .i64 0,.int .i64 0,.bool false,.slice p (S.data+2) cs',.slice (some ⟨g,0,none⟩) S.mem.length r,.map (some m1),.map (some (m1+1))]):=Zz (v.o.set_ 0 (.int .u64 S.count));have y5:Hid (ab ((h9.setCell ⟨m1+1+1,0,none⟩ (.int .u64 S.count)).setCell ⟨m1+1+1,1,none⟩ (.int .u64 S.epoch)) (m1+1+1) 163 #[.int .u64 S.count,.int .u64 S.epoch,.int .i64 S.data,.int .i64 S.slots,.int .i64 0,.int .i64 0,.bool false,.slice p (S.data+2) cs',.slice (some ⟨g,0,none⟩) S.mem.length r,.map (some m1),.map (some (m1+1))]):=Zz (y4.o.set_ 1 (.int .u64 S.epoch));have T3:=Zz (y1.o.kp aN fun e=>(by have e:m1+1+1+1=m1+1+1:=e;omega:False));have m6:=Zz (Hv.o.kp I fun e=>(by have e:m1=m1+1+1:=e;omega:False));have kr:=Zz (Hw.o.kp I fun e=>(by have e:m1+1=m1+1+1:=e;omega:False));have x7:=Zz (y1.o.kp I fun e=>(by have e:m1+1+1+1=m1+1+1:=e;omega:False));have iw:=Zz (fM.o.kp I fun e=>ab.ne_ fM.o v.o d_ e);have jg:=Zz (h5.o.kp I fun e=>ab.ne_ h5.o v.o d_ e);have y2:=Zz (x2.o.kp I (nI x2.o.seats v.o d_) (nI x2.o.mems v.o d_));have aL:=Zz (bH.o.then I fun z hz e=>(by have e:z=m1+1+1:=e;have:=L.o;omega:False));clear aN I Hv Hw v y1 fM h5 x2 bH;refine cw 0 t0 ?_;refine cw 1 t0 ?_;refine fp 2 ?_;refine fp 3 ?_;refine fp 4 ?_;refine fp 5 ?_;refine cw 6 c3 ?_;refine fp 7 ?_;refine fp 8 ?_;refine fp 9 ?_;refine fp 10 ?_;refine cw 11 c4 ?_;refine fp 12 ?_;refine fp 13 ?_;refine fp 14 ?_;refine fd 15 fun K Qx t=>?_;go_simp;refine t _ _ (oW (oW (oK (T3.o.cell 0) (oW oN)))) ?_;clear t K t0 c3 c4 Q f0;have R:(h9.setCell ⟨m1+1+1,0,none⟩ (.int .u64 S.count)).cell? ⟨m1+1+1,1,none⟩=some (.int .u64 S.epoch):=y4.o.cell 1;have f1:=y4.o.frozen 1;refine fp 16 ?_;refine fp 17 ?_;refine fp 18 ?_;refine fd 19 fun K Qx t=>?_;go_simp;refine t _ _ (oW (oW (oW (oW oN)))) ?_;clear t K R f1;refine fe ?_;clear y4 T3;generalize (h9.setCell ⟨m1+1+1,0,none⟩ (.int .u64 S.count)).setCell ⟨m1+1+1,1,none⟩ (.int .u64 S.epoch)=y6 at *;have X:=jg.o.c11;have mf:Hid (y6.ownsRow w.heap.size 108 3 (.slice (some ⟨g,0,none⟩) S.mem.length r) S.mem.length (ds S.mem)):=Zz y2.o.mems;have me:=Zz (Kp.refl (fun z=>z=g) y6);have ul:Hid (∃yx,ab y6 g 108 yx):=Zz (fj mf.o (q:=g) rfl)
 have G:Hid (m1+1+1≠g/\m1+1+1+1≠g/\P≠g/\st≠g/\m1≠g/\m1+1≠g):=Zz (by
  obtain ⟨yx,B⟩:=ul.o
  exact ⟨ab.ne_ y5.o B d_,ab.ne_ x7.o B d_,ab.ne_ iw.o B d_,ab.ne_ jg.o B d_,m6.o.ne_blk B,kr.o.ne_blk B⟩)
 have BI:=Zz cE
 go_upto_region 6 with fail
 clear X
 go_loopw [7,8,67] (fun _ _ Po wr=>∃i:Nat,i<=S.mem.length/\Po=.int .i64 i/\Hid (wr.ownsRow w.heap.size 108 3 (.slice (some ⟨g,0,none⟩) S.mem.length r) S.mem.length (ds S.mem))/\Hid (Kp (fun z=>z=g) y6 wr)) (fun _ _ Po _=>S.mem.length-(intOf Po).toNat)
 case atStart=>exact ⟨0,o_,rfl,mf,me⟩
 case round =>
  clear mf me;obtain ⟨i,x4,rfl,H,HR⟩:=hrel;by_cases af:i<S.mem.length
  ·have bL:(i:Int)<(S.mem.length:Int):=o_
   obtain ⟨nz,eO,he,aa⟩:=gO.o wr (aL.o.then HR.o fun z hz e=>(by have e:z=g:=e;have:=mR.o.1;omega:False));cases he;obtain ⟨Q,R,h6⟩:=aa i af;obtain ⟨H4,H5,H6⟩:=GZ.o i af;clear aa;obtain ⟨⟨lH,A,lg⟩,hx⟩:∃x,S.mem[i]'af=x:=⟨_,rfl⟩;rw[hx] at Q R h6 H4 H5 H6
   dsimp only at Q R h6 H4 H5 H6
   have pT:=Zz H4;have jR:=Zz H5;have CN:=Zz H6;clear hx H4 H5 H6;have ef:=Zz (ab.new wr 108 #[.int .i64 lH,.string A,.string lg]);have d:=(Kp.refl ac wr).alloc (.cells #[.int .i64 lH,.string A,.string lg] 108);have kE:=Zz (dL H.o d fun _ _ h=>h);have x6:=Zz (HR.o.then d fun _ _ h=>h.elim);have mg:=(iZ H.o (q:=g) rfl).2;have y0:Hid (g≠wr.heap.size):=Zz o_;clear d mg
   go_upto_region 8 with fail
   clear Q R h6 H HR;generalize wr.alloc (.cells #[.int .i64 lH,.string A,.string lg] 108)=bY at *;obtain ⟨D,hD⟩:∃D,wr.heap.size=D:=⟨_,rfl⟩;rw[hD] at ef y0 ⊢;clear hD;have y7:=Zz (x7.o.kp x6.o G.o.2.1).drew;have tc:=Zz (y5.o.kp x6.o G.o.1).drew;have x8:=Zz ef.o.drew;have x3:Hid (bY.drew.ownsRow w.heap.size 108 3 (.slice (some ⟨g,0,none⟩) S.mem.length r) S.mem.length (ds S.mem)):=kE;have oG:=Zz x6.o.drew;clear ef kE x6;refine fs ?_;generalize bY.drew=fN at *;have t0:=y7.o.c0;have Y:=tc.o.c8;have d1:=x8.o.c1;have d2:=x8.o.c2
   have g1:fN.cell? ⟨g,i*3+1,none⟩=some (.string A):=by rw[Ho x3.o _ o_];exact CN.o.2.1
   have Pp:=y_e x3.o (i*3+1);have iz:=x_a x3.o (i*3+1) (.string A);rw[pT.o] at iz;have x5:=Zz iz;have y8:=x_a x5.o (i*3+2) (.string lg);rw[jR.o] at y8;have we:=Zz y8;have h0:=(Kp.refl (fun z=>z=g) fN).setCell ⟨g,i*3+1,none⟩ (.string A) (.inl rfl);have qH:=Zz (y7.o.kp h0 G.o.2.1);have yE:=Zz (tc.o.kp h0 G.o.1);have Hx:=Zz (x8.o.kp h0 fun e=>y0.o (Eq.symm e));have m9:=Zz ((oG.o.trans h0).setCell ⟨g,i*3+2,none⟩ (.string lg) (.inl rfl));clear iz y8 h0 oG;refine cw 0 t0 ?_;refine fp 1 ?_;refine fp 2 ?_;refine fp 3 ?_;refine cw 4 Y ?_;refine fp 5 ?_;refine cw 6 t0 ?_;refine fp 7 ?_;refine fp 8 ?_;refine fp 9 ?_;refine cw 10 Y ?_;refine fp 11 ?_;refine fp 12 ?_;refine cw 13 d1 ?_;refine fp 14 ?_;refine cw 15 d2 ?_;refine fp 16 ?_;refine fp 17 ?_;refine fd 18 fun K Qx t=>?_;go_simp;refine t _ _ (oK (Hx.o.cell 2) (oW (oK (yE.o.cell 8) (oK (qH.o.cell 0) (oW (oW oN)))))) ?_;clear t K t0 Y d1 d2 g1 Pp
   have g2:(fN.setCell ⟨g,i*3+1,none⟩ (.string A)).cell? ⟨g,i*3+2,none⟩=some (.string lg):=by rw[Ho x5.o _ o_];exact CN.o.2.2
   have Hy:=y_e x5.o (i*3+2);refine fp 19 ?_;refine fp 20 ?_;refine fd 21 fun K Qx t=>?_;go_simp;refine t _ _ (oW (oW (oW (oW (oW (oW oN)))))) ?_;clear t K g2 Hy;refine fe ?_;clear x3 x5 y7 tc x8 qH yE Hx;go_wp2;go_roundw
   case rel=>exact ⟨i+1,o_,by go_num,we,m9⟩
   case measure=>simp[intOf];omega
  obtain rfl:i=S.mem.length:=o_;have Hz:=Zz (y5.o.kp HR.o G.o.1);have T4:=Zz (x7.o.kp HR.o G.o.2.1);have wh:=Zz (iw.o.kp HR.o G.o.2.2.1);have H7:=Zz (m6.o.kp HR.o G.o.2.2.2.2.1);have H8:=Zz (kr.o.kp HR.o G.o.2.2.2.2.2);have aK:=Zz (aL.o.then HR.o fun z hz e=>(by have e:z=g:=e;have:=mR.o.1;omega:False))
  have qI:Hid (bg wr w.heap.size S (.slice p (S.data+2) cs') (.slice (some ⟨g,0,none⟩) S.mem.length r)):=Zz ⟨y2.o.seats.kp HR.o fun z hz e=>by
   obtain ⟨iR,az⟩:=fj y2.o.seats hz;obtain ⟨dj,aq⟩:=ul.o;have e:z=g:=e;subst e
   exact ab.ne_ az aq d_ rfl,H.o⟩
  have ew:=ab.new wr 137 #[.nilFunc];have Pq:(wr.alloc (.cells #[.nilFunc] 137)).cell? ⟨wr.heap.size,0,none⟩=some .nilFunc:=ew.cell 0;have Pr:=ew.frozen 0;have OE:∀(W:W_) (a:Addr) (m:Mode),(store a (.func (.func 107) #[] #[.pointer (some ⟨m1+1+1+1,0,none⟩)]) m).run prog W=stored prog W a (.func (.func 107) #[] #[.pointer (some ⟨m1+1+1+1,0,none⟩)]) m:=fun W a m=>run_store prog W a _ m rfl;have U:Kp ac wr (wr.alloc (.cells #[.func (.func 107) #[] #[.pointer (some ⟨m1+1+1+1,0,none⟩)]] 137)):=(Kp.refl ac wr).alloc _;have gL:=Zz (ab.new wr 137 #[.func (.func 107) #[] #[.pointer (some ⟨m1+1+1+1,0,none⟩)]]);have u:=Zz (Hz.o.kp U fun h=>h);have Ps:=Zz (T4.o.kp U fun h=>h);have T5:=Zz (wh.o.kp U fun h=>h);have Ia:=Zz (H7.o.no U);have Ib:=Zz (H8.o.no U);have KF:=Zz (aK.o.trans U);have y9:=Zz (qI.o.no U);clear U ew H HR Hz T4 wh H7 H8 aK qI y2 y5 x7 iw m6 kr aL jg
  go_upto_region 11 with fail
  clear Pq Pr OE;generalize wr.alloc (.cells #[.func (.func 107) #[] #[.pointer (some ⟨m1+1+1+1,0,none⟩)]] 137)=kJ at *;generalize wr.heap.size=B9 at *;have t0:=Ps.o.c0;have Q:=u.o.c0;have R:=u.o.c1;have h6:=u.o.c2;have k3:=u.o.c3;have k4:=u.o.c4;have k5:=u.o.c5;have k6:=u.o.c6;have k7:=u.o.c7;have Y:=u.o.c8;have iy:=Zz (y0.o kJ _ _ y9.o.reads);rw[fK.o] at iy;go_wp2_with fail;refine iy.o.mono ?_;rintro e rl ⟨rfl,E⟩;have BM:=Zz (u.o.kp E fun h=>h);have BO:=Zz (Ps.o.kp E fun h=>h);have BP:=Zz (T5.o.kp E fun h=>h);have Ic:=Zz (gL.o.kp E fun h=>h);have yG:=Zz (Ia.o.no E);have yH:=Zz (Ib.o.no E);have sQ:=Zz (KF.o.trans E);have yI:=Zz (y9.o.no E);clear E u Ps T5 gL Ia Ib KF y9 iy t0 Q R h6 k3 k4 k5 k6 k7 Y;have p9:=BP.o.c9;have rp:=BP.o.c10;have T6:=Zz (Zi.o rl);have T7:=Zz (Zh.o rl (m1+1+1+1) (m1+1+1) B9 _ _ _ m1 (m1+1) BO.o BM.o Ic.o sQ.o);go_wp2_with fail;refine (T6.o _).mono ?_;rintro e rl ⟨rfl,rfl⟩;go_wp2_with fail;refine T7.o.mono ?_;rintro e V ⟨rfl,Z⟩;have C:=BM.o.kp Z fun h=>h;have BR:=Zz (BO.o.kp Z fun h=>h);have yJ:=Zz (yG.o.no Z);have yK:=Zz (yH.o.no Z);have Ie:=Zz (sQ.o.trans Z);have x9:=Zz (yI.o.no Z);clear Z p9 rp BP Ic BO yG yH sQ yI T6 T7 BM;have t0:=BR.o.c0;have Q:=C.c0;have f0:=C.frozen 0;have lT:=sm.o;have F:=(Kp.refl (fun z=>z=m1+1+1) V).setCell ⟨m1+1+1,0,none⟩ (.int .u64 ((S.count:Int)+1)) (.inl rfl);have t0':(V.setCell ⟨m1+1+1,0,none⟩ (.int .u64 ((S.count:Int)+1))).cell? ⟨m1+1+1+1,0,none⟩=some (.pointer (some ⟨m1+1+1,0,none⟩)):=(BR.o.kp F fun e=>(by have e:m1+1+1+1=m1+1+1:=e;omega:False)).cell 0
  have dE:Hid (∃J O,w.heap.size<=m1+1+1/\w.heap.size<=m1/\w.heap.size<=m1+1/\m1≠m1+1/\ab (V.setCell ⟨m1+1+1,0,none⟩ (.int .u64 ((S.count:Int)+1))) (m1+1+1) 163 (Af (e7 S) J O m1 (m1+1))/\bg (V.setCell ⟨m1+1+1,0,none⟩ (.int .u64 ((S.count:Int)+1))) w.heap.size (e7 S) J O/\aS KI (V.setCell ⟨m1+1+1,0,none⟩ (.int .u64 ((S.count:Int)+1))) m1 (fun _=>none) []/\aS KI (V.setCell ⟨m1+1+1,0,none⟩ (.int .u64 ((S.count:Int)+1))) (m1+1) (fun _=>none) []/\Kp ac w (V.setCell ⟨m1+1+1,0,none⟩ (.int .u64 ((S.count:Int)+1)))):=Zz (by
   have h2:=x9.o.kp F (nI x9.o.seats C d_) (nI x9.o.mems C d_)
   refine ⟨_,_,by have:=L.o;omega,L.o,by have:=L.o;omega,o_,C.set_ 0 (.int .u64 ((S.count:Int)+1)),⟨h2.seats,h2.mems⟩,yJ.o.kp F fun e=>(by have e:m1=m1+1+1:=e;omega:False),yK.o.kp F fun e=>(by have e:m1+1=m1+1+1:=e;omega:False),Ie.o.then F fun z hz e=>(by have e:z=m1+1+1:=e;have:=L.o;omega:False)⟩)
  clear F C BR yJ yK Ie x9;go_wp2;go_ret2;obtain ⟨J,O,bw⟩:=dE.o;exact ⟨_,_,_,J,O,rfl,bw⟩
end
end Go.Proofs.YtdkheklakfbeeaaGreatDoor
